import Derived.Test.YtiegkabcgokhkaaGreatTy
import Derived.Test.YtiegkabcgokhkaaGreatK9
import Derived.KernelRfl
namespace Go.Proofs.YtiegkabcgokhkaaGreat
open Go.Pk Tryz
set_option maxRecDepth 100000
set_option linter.unusedSimpArgs false
set_option linter.unusedVariables false
theorem N3:(([37,81,35,48,190]:List Nat)).all (wX prog)=true:=by kernel_rfl
theorem aO:bF prog Ty:=M8 λ t ht=>iu.1 N3 t ht
theorem mixed:prog.follows .mixedOrders=true:=by kernel_rfl
def lA (c:UInt8):Bool:= !((decide ((c.toNat:Int)<97)||decide ((c.toNat:Int)>122))&&(decide ((c.toNat:Int)<48)||decide ((c.toNat:Int)>57))&&((c.toNat:Int) !=45))
def dF (s:ByteArray):Bool:=((List.range s.size).all λ j=>lA (s.data.getD j 0))&&(decide ((s.size:Int)≥1)&&decide ((s.size:Int)≤12))
theorem z0 (k:Int):ae prog 167 [.f (ai k)] (λ r o=>r=[rb (k==3||k==4||k==5)]/\o=[]):=by
 refine aR aO mixed (T:=Ty) (n:=13) func167 (c:=f167.body.getD .skip) rfl results167 ntmps167 call167 ?_;simp only[f167,Option.getD]
 repeat'(first|with_reducible refine aa _ _ ?_|rw[af]|simp only[zB,Nat.reduceSub,Nat.reduceEqDiff,Nat.reduceAdd,Nat.reduceMul,Nat.reduceLeDiff,Nat.reduceLT,Nat.reduceBEq,reduceCtorEq]|refine aj ?_|refine ag (λ hb=> ?_) (λ hb=> ?_)|(refine And.intro ?_ ?_;exact zI)|refine And.intro (λ hg=> ?_) (λ hg=> ?_)|exact zC|fail)
theorem qi (s:ByteArray) (hs:s.size<2^62):ae prog 43 [.f (mI s)] (λ r o=>r=[rb (dF s)]/\o=[]):=by
 refine aR aO mixed (T:=Ty) (n:=40) func43 (c:=f43.body.getD .skip) rfl results43 ntmps43 call43 ?_;simp only[f43,Option.getD]
 repeat(first|with_reducible refine aa _ _ ?_|with_reducible refine ax (aa _ _) ?_|with_reducible refine ax (ax (aa _ _)) ?_|with_reducible refine ax (ax (ax (aa _ _))) ?_|rw[af]|simp only[zB,Nat.reduceSub,Nat.reduceEqDiff,Nat.reduceAdd,Nat.reduceMul,Nat.reduceLeDiff,Nat.reduceLT,Nat.reduceBEq,reduceCtorEq])
 refine fJ Ty prog (τ:=Nat) (λ i=>⟨[mI s,dd,ab false,dd,dd,mI s,ai s.size,ai i,dd,dd,dd,dd,dd,dd,dd,dd,dd,dd,dd,dd,dd,dd,dd,dd,dd,dd,dd,dd,dd,dd,dd,dd,dd,dd,dd,dd,dd,dd,dd,dd],[]⟩) (λ i=>i≤s.size/\∀j,j<i->lA (s.data.getD j 0)=true) (λ i=>s.size - i) 0 ?_ ⟨dA _,λ j hj=>absurd hj (Nat.not_lt_zero j)⟩ ?_
 .refine Gh.fH ?_;simp only[ov,oA,oH,bK]
 intro i ⟨h1,h2⟩ K hK
 repeat(first|with_reducible refine aa _ _ ?_|with_reducible refine ax (aa _ _) ?_|with_reducible refine ax (ax (aa _ _)) ?_|with_reducible refine ax (ax (ax (aa _ _))) ?_|rw[af]|simp only[zB,Nat.reduceSub,Nat.reduceEqDiff,Nat.reduceAdd,Nat.reduceMul,Nat.reduceLeDiff,Nat.reduceLT,Nat.reduceBEq,reduceCtorEq])
 rw[ur];refine⟨trivial,λ hlt=> ?_,λ hge=> ?_⟩
 .repeat(first|with_reducible refine aa _ _ ?_|with_reducible refine ax (aa _ _) ?_|with_reducible refine ax (ax (aa _ _)) ?_|with_reducible refine ax (ax (ax (aa _ _))) ?_|rw[af]|simp only[zB,Nat.reduceSub,Nat.reduceEqDiff,Nat.reduceAdd,Nat.reduceMul,Nat.reduceLeDiff,Nat.reduceLT,Nat.reduceBEq,reduceCtorEq])
  have hi:i<s.size:=by simpa using hlt
  refine⟨⟨Int.natCast_nonneg i,by omega⟩,sM (λ a b=>by rw[a,b];rfl), ?_⟩;have hok:lA (s.data.getD i 0)= !((decide (((s.data.getD i 0).toNat:Int)<97)||decide (((s.data.getD i 0).toNat:Int)>122))&&(decide (((s.data.getD i 0).toNat:Int)<48)||decide (((s.data.getD i 0).toNat:Int)>57))&&(((s.data.getD i 0).toNat:Int) !=45)):=rfl;rw[ur];refine⟨trivial,λ hb=> ?_,λ hb=> ?_⟩
  .rw[hb]at hok
   repeat(first|with_reducible refine aa _ _ ?_|with_reducible refine ax (aa _ _) ?_|with_reducible refine ax (ax (aa _ _)) ?_|with_reducible refine ax (ax (ax (aa _ _))) ?_|rw[af]|simp only[zB,Nat.reduceSub,Nat.reduceEqDiff,Nat.reduceAdd,Nat.reduceMul,Nat.reduceLeDiff,Nat.reduceLT,Nat.reduceBEq,reduceCtorEq])
   have hn:dF s=false:=by unfold dF;rw[show((List.range s.size).all λ j=>lA (s.data.getD j 0))=false from List.all_eq_false.2 ⟨i,qv.2 hi,by rw[hok];simp⟩,ko]
   rw[hn]
  .rw[hb]at hok
   repeat(first|with_reducible refine aa _ _ ?_|with_reducible refine ax (aa _ _) ?_|with_reducible refine ax (ax (aa _ _)) ?_|with_reducible refine ax (ax (ax (aa _ _))) ?_|rw[af]|simp only[zB,Nat.reduceSub,Nat.reduceEqDiff,Nat.reduceAdd,Nat.reduceMul,Nat.reduceLeDiff,Nat.reduceLT,Nat.reduceBEq,reduceCtorEq])
   refine hK _ (i+1) (Gh.fH ?_) ⟨hi,λ j hj=> ?_⟩ (by omega)
   .have hw:IntKind.i64.wrap ((i:Int)+1)=((i+1:Nat):Int):=by rw[wrap64 (by omega) (by omega)];rfl
    simp only[hw,ov,oA,oH]
   .rcases gW j i with h|h
    .exact h2 j h
    .rw[show j=i from by omega,hok];rfl
 .repeat(first|with_reducible refine aa _ _ ?_|with_reducible refine ax (aa _ _) ?_|with_reducible refine ax (ax (aa _ _)) ?_|with_reducible refine ax (ax (ax (aa _ _))) ?_|rw[af]|simp only[zB,Nat.reduceSub,Nat.reduceEqDiff,Nat.reduceAdd,Nat.reduceMul,Nat.reduceLeDiff,Nat.reduceLT,Nat.reduceBEq,reduceCtorEq])
  have hi:i=s.size:=by
   have:¬(i:Int)<s.size:=by simpa using hge
   omega
  have hn:dF s=(decide ((s.size:Int)≥1)&&decide ((s.size:Int)≤12)):=by unfold dF;rw[show((List.range s.size).all λ j=>lA (s.data.getD j 0))=true from iu.2 λ j hj=>h2 j (by rw[hi];exact qv.1 hj),kh]
  rw[hn]
def ej (k n:Int) (s:ByteArray):Bool:=
 if(decide (k<1)||decide (k>6))=true then false else
 if((k==3||k==4||k==5)&& !dF s|| !(k==3||k==4||k==5)&& !s.toList==(⟨#[]⟩:ByteArray).toList)=true then false else
 if(k==1)=true then n==0 else decide (n≥1)&&decide (n≤2305843009213693952)
theorem sT (k n:Int) (s:ByteArray) (hs:s.size<2^62):ae prog 131 [.f (.agg [di k,di n,dS s])] (λ r o=>r=[rb (ej k n s)]/\o=[]):=by
 refine aR aO mixed (T:=Ty) (n:=48) func131 (c:=f131.body.getD .skip) rfl results131 ntmps131 call131 ?_;simp only[f131,Option.getD]
 repeat'(first|with_reducible refine aa _ _ ?_|rw[af]|simp only[zB,Nat.reduceSub,Nat.reduceEqDiff,Nat.reduceAdd,Nat.reduceMul,Nat.reduceLeDiff,Nat.reduceLT,Nat.reduceBEq,reduceCtorEq]|((first|((try refine aD ?_);apply aE)|(apply aG;intro _));(solve|exact(z0 _)|exact(qi _ hs)|(refine ae.le (z0 _) ?_;exact zM)|(refine ae.le (qi _ hs) ?_;exact zM)|fail);try case hn=>rfl)|refine aj ?_|refine ag (λ hb=> ?_) (λ hb=> ?_)|(refine And.intro ?_ ?_;exact zI)|refine And.intro (λ hg=> ?_) (λ hg=> ?_)|exact zC|fail)
 .rw[ej,ay (by assumption)]
 .rw[ej,ar (by simp_all),ay (by assumption)]
 .rw[ej,ar (by simp_all),ar (by simp_all),ay (by assumption)]
 .rw[ej,ar (by simp_all),ar (by simp_all),ar (by simp_all)]
def br.may (r:br):Bool:=(decide (r.bh≥0)&&decide (r.bh<8)&&decide (r.seq≥1)&&decide (r.seq≤ep))&&ej r.kind r.aF r.name
theorem uT (r:br) (hr:r.ok):ae prog 90 [.f (.agg (r.enc.map C.d))] (λ x o=>x=[rb (br.may r)]/\o=[]):=by
 refine aR aO mixed (T:=Ty) (n:=26) func90 (c:=f90.body.getD .skip) rfl results90 ntmps90 call90 ?_;simp only[f90,Option.getD]
 repeat'(first|with_reducible refine aa _ _ ?_|rw[af]|simp only[zB,Nat.reduceSub,Nat.reduceEqDiff,Nat.reduceAdd,Nat.reduceMul,Nat.reduceLeDiff,Nat.reduceLT,Nat.reduceBEq,reduceCtorEq]|((first|((try refine aD ?_);apply aE)|(apply aG;intro _));(solve|exact(sT _ _ _ hr.2.2.2.2)|(refine ae.le (sT _ _ _ hr.2.2.2.2) ?_;exact zM)|fail);try case hn=>rfl)|refine aj ?_|refine ag (λ hb=> ?_) (λ hb=> ?_)|(refine And.intro ?_ ?_;exact zI)|refine And.intro (λ hg=> ?_) (λ hg=> ?_)|exact zC|fail)
 rfl
def BZ:Value->Value
 | .iface _ (.agg ⟨[c]⟩)=>c
 |_=>undef
abbrev mb (t:Nat) (n:Int):Value:= .iface t (.agg #[.int .i64 n])
def vF (t:Nat) (x:Value):Prop:=∃n,x=mb t n
def re (z:Value) (x:Value) (k:Nat):List Value:=if k=4 then [z]else if k=5 then [.int .i64 0]else [BZ x]
def tS (x:Value) (k:Nat):List Value:=if k=6 then [.string .empty]else if k=7 then [.int .i64 0]else [BZ x]
def tQ (_:Nat):Nat:=1
theorem wu {l:List Value} (h:l.length=1):∃a,l=[a]:=by
 match l,h with
 |[a],_=>exact⟨a,rfl⟩
theorem vG {ks:List Nat} {ls:List (List Value)} (hk:ks.length=3) (h:ls.length=ks.length) (hs:∀(i k:Nat) (l:List Value),ks[i]? =some k->ls[i]? =some l->l.length=tQ k):∃a b c,ls=[[a],[b],[c]]:=by
 rw[hk]at h
 match ls,h with
 |[x,y,z],_=>
  obtain⟨a,rfl⟩:=wu (hs 0 ks[0] x (eC (by omega)) rfl);obtain⟨b,rfl⟩:=wu (hs 1 ks[1] y (eC (by omega)) rfl);obtain⟨c,rfl⟩:=wu (hs 2 ks[2] z (eC (by omega)) rfl);exact⟨a,b,c,rfl⟩
theorem sB {P:Program} {t:Nat} {z:Value} (h:(P.info? t).bind (·.zero)=some z) (w:World):(zeroValue t).run P w= .ok z w:=by
 cases hi:P.info? t with
 |none=>rw[hi]at h;cases h
 |some i=>rw[hi]at h;simp[zeroValue,typeInfo,hi,show i.zero=some z from h]
theorem rC:(prog.info? 177).bind (·.zero)=some (.agg #[.int .i64 0]):=by kernel_rfl
theorem xG:oJ prog 127 [4,5,6] tQ (re (.int .i64 0)) (vF 177):=by
 refine uM aO mixed (T:=Ty) func127 rfl rfl ntmps127 rfl rfl rfl rfl rfl rfl rfl (by decide) (by decide) (by decide) ?_
 rintro x ⟨n,rfl⟩ ls hl hs
 obtain⟨a,b,c,rfl⟩:=vG rfl hl hs;refine⟨.tuple #[.agg #[.int .i64 n], .bool true], .eY [.agg [di n],ab true], ?_, ?_,rfl, ?_⟩
 .intro w;simp[Instr.typeAssert,Tryz.underlying177]
 .intro cx w r β;simp[aA,aZ,aw,aC,Rd,flat]
 .simp only[fZ,fO,cJ,ff];simp only[zB,Nat.reduceSub,Nat.reduceEqDiff,Nat.reduceAdd,Nat.reduceMul,Nat.reduceLeDiff,Nat.reduceLT,Nat.reduceBEq,reduceCtorEq]
  repeat'(first|(with_reducible first|refine aa _ _ ?_|refine ak ?_|refine ao ?_)|rw[af]|simp only[zY,Int.reduceEq,Int.reduceBEq,Int.reduceBNe,Nat.reduceSub,Nat.reduceEqDiff,Nat.reduceAdd,Nat.reduceMul,Nat.reduceLeDiff,Nat.reduceLT,Nat.reduceBEq,reduceCtorEq]|refine aj ?_|refine ag (λ hb=> ?_) (λ hb=> ?_)|(refine And.intro ?_ ?_;exact zI)|refine And.intro (λ hg=> ?_) (λ hg=> ?_)|exact zC|fail)
  rfl
theorem yz:oQ prog 127 3:=by
 refine ru aO mixed (T:=Ty) func127 rfl rfl ntmps127 rfl rfl rfl rfl rfl rfl rfl (by decide) (y7:= .tuple #[.agg #[.int .i64 0], .bool false]) (V7:= .eY [.agg [di 0],ab false]) ?_ ?_ (by decide) rfl ?_
 .intro w;simp[Instr.typeAssert,Tryz.underlying177,sB (rC) w]
 .intro cx w r β;simp[aA,aZ,aw,aC,Rd,flat]
 .simp only[List.replicate];simp only[zB,Nat.reduceSub,Nat.reduceEqDiff,Nat.reduceAdd,Nat.reduceMul,Nat.reduceLeDiff,Nat.reduceLT,Nat.reduceBEq,reduceCtorEq]
  repeat'(first|(with_reducible first|refine aa _ _ ?_|refine ak ?_|refine ao ?_)|rw[af]|simp only[zY,Int.reduceEq,Int.reduceBEq,Int.reduceBNe,Nat.reduceSub,Nat.reduceEqDiff,Nat.reduceAdd,Nat.reduceMul,Nat.reduceLeDiff,Nat.reduceLT,Nat.reduceBEq,reduceCtorEq]|refine aj ?_|refine ag (λ hb=> ?_) (λ hb=> ?_)|(refine And.intro ?_ ?_;exact zI)|refine And.intro (λ hg=> ?_) (λ hg=> ?_)|exact zC|fail)
theorem yI:oJ prog 129 [4,5,6] tQ (re (.int .i64 0)) (vF 177):=by
 refine uM aO mixed (T:=Ty) func129 rfl rfl ntmps129 rfl rfl rfl rfl rfl rfl rfl (by decide) (by decide) (by decide) ?_
 rintro x ⟨n,rfl⟩ ls hl hs
 obtain⟨a,b,c,rfl⟩:=vG rfl hl hs;refine⟨.tuple #[.agg #[.int .i64 n], .bool true], .eY [.agg [di n],ab true], ?_, ?_,rfl, ?_⟩
 .intro w;simp[Instr.typeAssert,Tryz.underlying177]
 .intro cx w r β;simp[aA,aZ,aw,aC,Rd,flat]
 .simp only[fZ,fO,cJ,ff];simp only[zB,Nat.reduceSub,Nat.reduceEqDiff,Nat.reduceAdd,Nat.reduceMul,Nat.reduceLeDiff,Nat.reduceLT,Nat.reduceBEq,reduceCtorEq]
  repeat'(first|(with_reducible first|refine aa _ _ ?_|refine ak ?_|refine ao ?_)|rw[af]|simp only[zY,Int.reduceEq,Int.reduceBEq,Int.reduceBNe,Nat.reduceSub,Nat.reduceEqDiff,Nat.reduceAdd,Nat.reduceMul,Nat.reduceLeDiff,Nat.reduceLT,Nat.reduceBEq,reduceCtorEq]|refine aj ?_|refine ag (λ hb=> ?_) (λ hb=> ?_)|(refine And.intro ?_ ?_;exact zI)|refine And.intro (λ hg=> ?_) (λ hg=> ?_)|exact zC|fail)
  rfl
theorem zL:oQ prog 129 3:=by
 refine ru aO mixed (T:=Ty) func129 rfl rfl ntmps129 rfl rfl rfl rfl rfl rfl rfl (by decide) (y7:= .tuple #[.agg #[.int .i64 0], .bool false]) (V7:= .eY [.agg [di 0],ab false]) ?_ ?_ (by decide) rfl ?_
 .intro w;simp[Instr.typeAssert,Tryz.underlying177,sB (rC) w]
 .intro cx w r β;simp[aA,aZ,aw,aC,Rd,flat]
 .simp only[List.replicate];simp only[zB,Nat.reduceSub,Nat.reduceEqDiff,Nat.reduceAdd,Nat.reduceMul,Nat.reduceLeDiff,Nat.reduceLT,Nat.reduceBEq,reduceCtorEq]
  repeat'(first|(with_reducible first|refine aa _ _ ?_|refine ak ?_|refine ao ?_)|rw[af]|simp only[zY,Int.reduceEq,Int.reduceBEq,Int.reduceBNe,Nat.reduceSub,Nat.reduceEqDiff,Nat.reduceAdd,Nat.reduceMul,Nat.reduceLeDiff,Nat.reduceLT,Nat.reduceBEq,reduceCtorEq]|refine aj ?_|refine ag (λ hb=> ?_) (λ hb=> ?_)|(refine And.intro ?_ ?_;exact zI)|refine And.intro (λ hg=> ?_) (λ hg=> ?_)|exact zC|fail)
theorem rm:oJ prog 166 [6,7,8] tQ (tS) (vF 177):=by
 refine uM aO mixed (T:=Ty) func166 rfl rfl ntmps166 rfl rfl rfl rfl rfl rfl rfl (by decide) (by decide) (by decide) ?_
 rintro x ⟨n,rfl⟩ ls hl hs
 obtain⟨a,b,c,rfl⟩:=vG rfl hl hs;refine⟨.tuple #[.agg #[.int .i64 n], .bool true], .eY [.agg [di n],ab true], ?_, ?_,rfl, ?_⟩
 .intro w;simp[Instr.typeAssert,Tryz.underlying177]
 .intro cx w r β;simp[aA,aZ,aw,aC,Rd,flat]
 .simp only[fZ,fO,cJ,ff];simp only[zB,Nat.reduceSub,Nat.reduceEqDiff,Nat.reduceAdd,Nat.reduceMul,Nat.reduceLeDiff,Nat.reduceLT,Nat.reduceBEq,reduceCtorEq]
  repeat'(first|(with_reducible first|refine aa _ _ ?_|refine ak ?_|refine ao ?_)|rw[af]|simp only[zY,Int.reduceEq,Int.reduceBEq,Int.reduceBNe,Nat.reduceSub,Nat.reduceEqDiff,Nat.reduceAdd,Nat.reduceMul,Nat.reduceLeDiff,Nat.reduceLT,Nat.reduceBEq,reduceCtorEq]|refine aj ?_|refine ag (λ hb=> ?_) (λ hb=> ?_)|(refine And.intro ?_ ?_;exact zI)|refine And.intro (λ hg=> ?_) (λ hg=> ?_)|exact zC|fail)
  rfl
theorem rI:oQ prog 166 3:=by
 refine ru aO mixed (T:=Ty) func166 rfl rfl ntmps166 rfl rfl rfl rfl rfl rfl rfl (by decide) (y7:= .tuple #[.agg #[.int .i64 0], .bool false]) (V7:= .eY [.agg [di 0],ab false]) ?_ ?_ (by decide) rfl ?_
 .intro w;simp[Instr.typeAssert,Tryz.underlying177,sB (rC) w]
 .intro cx w r β;simp[aA,aZ,aw,aC,Rd,flat]
 .simp only[List.replicate];simp only[zB,Nat.reduceSub,Nat.reduceEqDiff,Nat.reduceAdd,Nat.reduceMul,Nat.reduceLeDiff,Nat.reduceLT,Nat.reduceBEq,reduceCtorEq]
  repeat'(first|(with_reducible first|refine aa _ _ ?_|refine ak ?_|refine ao ?_)|rw[af]|simp only[zY,Int.reduceEq,Int.reduceBEq,Int.reduceBNe,Nat.reduceSub,Nat.reduceEqDiff,Nat.reduceAdd,Nat.reduceMul,Nat.reduceLeDiff,Nat.reduceLT,Nat.reduceBEq,reduceCtorEq]|refine aj ?_|refine ag (λ hb=> ?_) (λ hb=> ?_)|(refine And.intro ?_ ?_;exact zI)|refine And.intro (λ hg=> ?_) (λ hg=> ?_)|exact zC|fail)
abbrev bE (n:Nat) (ds:List D):AV:= .one (.d (.sl n ds))
abbrev jo (n:Nat) (ds:List D) (p:Int):List RO:=[.d (.sl n ds), .d (iD p)]
theorem oF (n:Nat) (ds:List D) (p k:Nat) (hl:ds.length=n) (hn:n<2^62) (h:p+k≤n):
  ae prog 128 [.obj (jo n ds p), .f (ai k)] (λ r o=>r=[.one (.d (.sl k ((ds.drop p).take k)))]/\o=[jo n ds ((p+k:Nat):Int)]):=by
 refine aR aO mixed (T:=Ty) (n:=63) func128 (c:=f128.body.getD .skip) rfl results128 ntmps128 call128 ?_;simp only[f128,Option.getD];have h1:decide ((p:Int)<0)=false:=by simp
 have h2:decide ((p:Int)>(n:Int))=false:=by simp;omega
 have h3:IntKind.i64.wrap ((n:Int) - (p:Int))=(n:Int) - p:=wrap64 (by omega) (by omega);have h4:decide ((n:Int) - (p:Int)<(k:Int))=false:=by simp;omega
 have h5:IntKind.i64.wrap ((p:Int)+(k:Int))=((p+k:Nat):Int):=by rw[wrap64 (by omega) (by omega)];omega
 have h6:p+k - p=k:=by omega
 repeat'(first|(with_reducible first|refine aa _ _ ?_|refine ak ?_|refine ao ?_)|rw[af]|simp only[h1,h2,h3,h4,h5,h6,gQ,hl,zY,Int.reduceEq,Int.reduceBEq,Int.reduceBNe,Nat.reduceSub,Nat.reduceEqDiff,Nat.reduceAdd,Nat.reduceMul,Nat.reduceLeDiff,Nat.reduceLT,Nat.reduceBEq,reduceCtorEq]|refine aj ?_|refine ag (λ hb=> ?_) (λ hb=> ?_)|(refine And.intro ?_ ?_;exact zI)|refine And.intro (λ hg=> ?_) (λ hg=> ?_)|exact zC|fail)
def eS (n:Nat) (p k:Int):Bool:=decide (p<0)||decide (p>(n:Int))||decide ((n:Int) - p<k)
theorem sa (n:Nat) (ds:List D) (p k:Int) (hl:ds.length=n) (hn:n<2^62) (hp:i64 p) (h:eS n p k=true):
  ni prog 128 [.obj (jo n ds p), .f (ai k)] (mb 177 2):=by
 refine JL aO mixed (T:=Ty) (n:=63) func128 (c:=f128.body.getD .skip) rfl ntmps128 call128 ?_;simp only[f128,Option.getD];unfold eS at h;cases h1:decide (p<0)
 .cases h2:decide (p>(n:Int))
  .have h4:decide ((n:Int) - p<k)=true:=by rw[h1,h2]at h;simpa using h
   have h3:IntKind.i64.wrap ((n:Int) - p)=(n:Int) - p:=by simp at h1 h2;exact wrap64 (by omega) (by omega)
   repeat'(first|(with_reducible first|refine aa _ _ ?_|refine ak ?_|refine ao ?_)|rw[af]|simp only[h1,h2,h3,h4,uo,hl,zY,Int.reduceEq,Int.reduceBEq,Int.reduceBNe,Nat.reduceSub,Nat.reduceEqDiff,Nat.reduceAdd,Nat.reduceMul,Nat.reduceLeDiff,Nat.reduceLT,Nat.reduceBEq,reduceCtorEq]|refine aj ?_|refine ag (λ hb=> ?_) (λ hb=> ?_)|(refine And.intro ?_ ?_;exact zI)|refine And.intro (λ hg=> ?_) (λ hg=> ?_)|exact zC|fail)
  .repeat'(first|(with_reducible first|refine aa _ _ ?_|refine ak ?_|refine ao ?_)|rw[af]|simp only[h1,h2,uo,hl,zY,Int.reduceEq,Int.reduceBEq,Int.reduceBNe,Nat.reduceSub,Nat.reduceEqDiff,Nat.reduceAdd,Nat.reduceMul,Nat.reduceLeDiff,Nat.reduceLT,Nat.reduceBEq,reduceCtorEq]|refine aj ?_|refine ag (λ hb=> ?_) (λ hb=> ?_)|(refine And.intro ?_ ?_;exact zI)|refine And.intro (λ hg=> ?_) (λ hg=> ?_)|exact zC|fail)
 .repeat'(first|(with_reducible first|refine aa _ _ ?_|refine ak ?_|refine ao ?_)|rw[af]|simp only[h1,uo,hl,zY,Int.reduceEq,Int.reduceBEq,Int.reduceBNe,Nat.reduceSub,Nat.reduceEqDiff,Nat.reduceAdd,Nat.reduceMul,Nat.reduceLeDiff,Nat.reduceLT,Nat.reduceBEq,reduceCtorEq]|refine aj ?_|refine ag (λ hb=> ?_) (λ hb=> ?_)|(refine And.intro ?_ ?_;exact zI)|refine And.intro (λ hg=> ?_) (λ hg=> ?_)|exact zC|fail)
def bp (n:Int):Prop:=0≤n/\n≤255
abbrev aI (l:List Int):List D:=l.map uD
def j7 (v:Int) (k:Nat):Int:=IntKind.u8.wrap (v.fdiv (2^(8*(7 - k))))
def b7 (v:Int):List Int:=(List.range 8).map (j7 v)
abbrev qZ (v:Int) (i:Nat):List D:=(List.range 8).map λ k=>uD (if k<i then j7 v k else 0)
theorem fv {i n:Nat} (h:i<n) (hn:n<2^62):IntKind.i64.wrap ((i:Int)+1)=((i+1:Nat):Int):=by rw[wrap64 (by omega) (by omega)];rfl
theorem hC {v:Int} (h0:0≤v) (h1:v≤255):IntKind.u8.wrap v=v:=by
 have e:IntKind.u8.wrap v=v % 256:=by unfold IntKind.wrap;simp[IntKind.bits,IntKind.signed]
 rw[e];omega
theorem KU (v:Int) (i:Nat) (hi:i<8):(qZ v i).set i (uD (j7 v i))=qZ v (i+1):=by
 apply List.ext_getElem
 .simp
 .intro k h1 h2;simp only[List.length_set,cF,qu]at h1;rw[List.getElem_set];simp only[List.getElem_map,List.getElem_range];split
  .rename_i e;subst e;rw[ay (by omega)]
  .rename_i e;by_cases h:k<i
   .rw[ay h,ay (by omega)]
   .rw[ar h,ar (by omega)]
theorem yr (v:Int) (h:0≤v/\v≤255):ae prog 102 [.f (ai v)] (λ r o=>r=[.one (.own 1 1 (aI [v]) false),ri 0]/\o=[]):=by
 refine aR aO mixed (T:=Ty) (n:=13) func102 (c:=f102.body.getD .skip) rfl results102 ntmps102 call102 ?_;simp only[f102,Option.getD];have h1:decide (v<0)=false:=by simp;omega
 have h2:decide (v>255)=false:=by simp;omega
 have hw:IntKind.u8.wrap v=v:=hC h.1 h.2
 repeat'(first|(with_reducible first|refine aa _ _ ?_|refine ak ?_|refine ao ?_)|rw[af]|simp only[h1,h2,hw,zY,Int.reduceEq,Int.reduceBEq,Int.reduceBNe,Nat.reduceSub,Nat.reduceEqDiff,Nat.reduceAdd,Nat.reduceMul,Nat.reduceLeDiff,Nat.reduceLT,Nat.reduceBEq,reduceCtorEq]|refine aj ?_|refine ag (λ hb=> ?_) (λ hb=> ?_)|(refine And.intro ?_ ?_;exact zI)|refine And.intro (λ hg=> ?_) (λ hg=> ?_)|exact zC|fail)
theorem pJ (v:Int) (h:0≤v/\v<4611686018427387904):ae prog 103 [.f (ai v)] (λ r o=>r=[.one (.own 1 8 (aI (b7 v)) false),ri 0]/\o=[]):=by
 refine aR aO mixed (T:=Ty) (n:=29) func103 (c:=f103.body.getD .skip) rfl results103 ntmps103 call103 ?_;simp only[f103,Option.getD];have h1:decide (v<0)=false:=by simp;omega
 have h2:decide (v≥4611686018427387904)=false:=by simp;omega
 repeat'(first|(with_reducible first|refine aa _ _ ?_|refine ak ?_|refine ao ?_)|rw[af]|simp only[h1,h2,zY,Int.reduceEq,Int.reduceBEq,Int.reduceBNe,Nat.reduceSub,Nat.reduceEqDiff,Nat.reduceAdd,Nat.reduceMul,Nat.reduceLeDiff,Nat.reduceLT,Nat.reduceBEq,reduceCtorEq]|refine aj ?_|refine ag (λ hb=> ?_) (λ hb=> ?_)|(refine And.intro ?_ ?_;exact zI)|refine And.intro (λ hg=> ?_) (λ hg=> ?_)|exact zC|fail)
 refine gr (τ:=Nat) (λ i=>⟨[ai v,dd,dd,dd, .one (.own ⟨4,1,1⟩ 0 8),dd,dd,dd,dd,dd,dd,dd,dd,dd,ai 8,ai i,dd,dd,dd,dd,dd,dd,dd,dd,dd,dd,dd,dd,dd],[(12,⟨2,[]⟩),(4,{next:=2,l:=[none,some {e:=1,var:=false,fz:=false,sz:=1,cells:=(qZ v i).map C.d}]})]⟩)
  (λ i=>i≤8) (λ _=>()) (λ i=>8 - i) 0
  (Gh.canon [4] [] [] zK rfl rfl) (dA _) ?_
 intro i hi0 hF K hK
 repeat(first|with_reducible refine aa _ _ ?_|with_reducible refine ax (aa _ _) ?_|with_reducible refine ax (ax (aa _ _)) ?_|with_reducible refine ax (ax (ax (aa _ _))) ?_|rw[af]|simp only[zB,Nat.reduceSub,Nat.reduceEqDiff,Nat.reduceAdd,Nat.reduceMul,Nat.reduceLeDiff,Nat.reduceLT,Nat.reduceBEq,reduceCtorEq])
 refine ag (λ hlt=> ?_) (λ hge=> ?_)
 .have hi:i<8:=by simp at hlt;omega
  have w1:IntKind.i64.wrap (7 - (i:Int))=7 - i:=wrap64 (by omega) (by omega);have w2:IntKind.i64.wrap (8*(7 - (i:Int)))=((8*(7 - i):Nat):Int):=by rw[wrap64 (by omega) (by omega)];omega
  have w3:¬(((8*(7 - i):Nat):Int)<0):=by omega
  have w4:min (8*(7 - i)) IntKind.i64.bits=8*(7 - i):=by have:IntKind.i64.bits=64:=rfl;omega
  have hw:IntKind.i64.wrap ((i:Int)+1)=((i+1:Nat):Int):=by rw[wrap64 (by omega) (by omega)];omega
  have hset:((qZ v i).map C.d).set i (C.d (D.v (Value.int IntKind.u8 (IntKind.u8.wrap (v.fdiv (2^(8*(7 - i))))))))=(qZ v (i+1)).map C.d:=by have:=KU v i hi;rw[←this,List.map_set];rfl
  have hle:(i+1≤8)=True:=eN (by omega)
  repeat'(first|(with_reducible first|refine aa _ _ ?_|refine ak ?_|refine ao ?_)|rw[af]|simp only[w1,w2,ar w3,gQ,w4,hset,qu,hle,zY,Int.reduceEq,Int.reduceBEq,Int.reduceBNe,Nat.reduceSub,Nat.reduceEqDiff,Nat.reduceAdd,Nat.reduceMul,Nat.reduceLeDiff,Nat.reduceLT,Nat.reduceBEq,reduceCtorEq]|refine aj ?_|refine ag (λ hb=> ?_) (λ hb=> ?_)|(refine And.intro ?_ ?_;exact zI)|refine And.intro (λ hg=> ?_) (λ hg=> ?_)|exact zC|fail)
  exact hK _ (i+1) (Gh.canon [4] [] [] (by simp only[hw,bN,bS,bW,bR,bT,bU,bV,bM,bO,bL,bH,bK,bX,D.v.injEq,bY];try(repeat'(first|rfl|omega|with_reducible apply And.intro))) rfl rfl) hi rfl (by omega)
 .have hi:i=8:=by
   have:¬(i:Int)<8:=by simpa using hge
   omega
  subst hi
  repeat'(first|(with_reducible first|refine aa _ _ ?_|refine ak ?_|refine ao ?_)|rw[af]|simp only[zY,Int.reduceEq,Int.reduceBEq,Int.reduceBNe,Nat.reduceSub,Nat.reduceEqDiff,Nat.reduceAdd,Nat.reduceMul,Nat.reduceLeDiff,Nat.reduceLT,Nat.reduceBEq,reduceCtorEq]|refine aj ?_|refine ag (λ hb=> ?_) (λ hb=> ?_)|(refine And.intro ?_ ?_;exact zI)|refine And.intro (λ hg=> ?_) (λ hg=> ?_)|exact zC|fail)
  rfl
theorem oE (s:ByteArray):s.data.toList.length=s.size:=by rw[iM];rfl
abbrev s7 (s:ByteArray):List D:=s.data.toList.map λ b=>uD b.toNat
def im (s:ByteArray):List D:=uD s.size::s7 s
theorem mS (s:ByteArray):(im s).length=1+s.size:=by simp[im,oE,iz]
theorem yj (s:ByteArray) (h:s.size≤255):ae prog 146 [.f (mI s)] (λ r o=>r=[.one (.own 1 (1+s.size) (im s) false),ri 0]/\o=[]):=by
 refine aR aO mixed (T:=Ty) (n:=13) func146 (c:=f146.body.getD .skip) rfl results146 ntmps146 call146 ?_;simp only[f146,Option.getD];have h1:decide ((s.size:Int)>255)=false:=by simp;omega
 have hw:IntKind.u8.wrap (s.size:Int)=s.size:=hC (by omega) (by omega);have hle:(1+s.size≤2^47)=True:=eN (by omega)
 repeat'(first|(with_reducible first|refine aa _ _ ?_|refine ak ?_|refine ao ?_)|rw[af]|simp only[h1,hw,oE,hle,zY,Int.reduceEq,Int.reduceBEq,Int.reduceBNe,Nat.reduceSub,Nat.reduceEqDiff,Nat.reduceAdd,Nat.reduceMul,Nat.reduceLeDiff,Nat.reduceLT,Nat.reduceBEq,reduceCtorEq]|refine aj ?_|refine ag (λ hb=> ?_) (λ hb=> ?_)|(refine And.intro ?_ ?_;exact zI)|refine And.intro (λ hg=> ?_) (λ hg=> ?_)|exact zC|fail)
 rfl
theorem L1 (n:Nat) (h:n<2^40):ae prog 147 [.f (.one (.d (.v (.slice none 0 0)))), .f (ai n)] (λ r o=>r=[.one (.own 1 0 (gv [.int .u8 0] n) false)]/\o=[]):=by
 refine yf aO mixed (T:=Ty) (n:=27) func147 (c:=f147.body.getD .skip) rfl results147 ntmps147 call147
  (λ _=>⟨(cR 27 [.f (.one (.d (.v (.slice none 0 0)))), .f (ai n)]).v.set 0 (.one (.cZ ⟨0,1,0⟩ 0 0 0)),[(0,⟨1,[none,some {e:=0,var:=false,fz:=false,sz:=1,cells:=[]}]⟩)]⟩)
  (λ _=>True) (λ cx a w hh=>⟨0,trivial,Gh.N1 (i:=0) (s:=0) (sz:=1) rfl cx a w hh⟩) ?_
 intro k _;simp only[f147,Option.getD];have h1:decide ((n:Int)<0)=false:=by simp
 have hw:IntKind.i64.wrap ((n:Int) - IntKind.i64.wrap (((0:Nat):Int) - ((0:Nat):Int)))=n:=by rw[show IntKind.i64.wrap (((0:Nat):Int) - ((0:Nat):Int))=0 from by decide,Int.sub_zero,wrap64 (by omega) (by omega)]
 cases h2:decide ((n:Int)>0)
 .have:n=0:=by simp at h2;omega
  subst this
  repeat'(first|(with_reducible first|refine aa _ _ ?_|refine ak ?_|refine ao ?_)|rw[af]|simp only[h1,hw,h2,zY,Int.reduceEq,Int.reduceBEq,Int.reduceBNe,Nat.reduceSub,Nat.reduceEqDiff,Nat.reduceAdd,Nat.reduceMul,Nat.reduceLeDiff,Nat.reduceLT,Nat.reduceBEq,reduceCtorEq]|refine aj ?_|refine ag (λ hb=> ?_) (λ hb=> ?_)|(refine And.intro ?_ ?_;exact zI)|refine And.intro (λ hg=> ?_) (λ hg=> ?_)|exact zC|fail)
  rfl
 .have h3:0<n:=by simp at h2;omega
  have hc1:(0≤(n:Int)/\(n:Int)<2^62/\0<n/\n≤2^47)=True:=eN (by omega)
  repeat'(first|(with_reducible first|refine aa _ _ ?_|refine ak ?_|refine ao ?_)|rw[af]|simp only[h1,hw,h2,hc1,gQ,zY,Int.reduceEq,Int.reduceBEq,Int.reduceBNe,Nat.reduceSub,Nat.reduceEqDiff,Nat.reduceAdd,Nat.reduceMul,Nat.reduceLeDiff,Nat.reduceLT,Nat.reduceBEq,reduceCtorEq]|refine aj ?_|refine ag (λ hb=> ?_) (λ hb=> ?_)|(refine And.intro ?_ ?_;exact zI)|refine And.intro (λ hg=> ?_) (λ hg=> ?_)|exact zC|fail)
def nV (ls:List (List D)) (i:Nat):List D:=if i=0 then gv [.int .u8 0] ls.flatten.length else(ls.take i).flatten
theorem JU (ls:List (List D)) (i:Nat):(nV ls i).take (ls.take i).flatten.length=(ls.take i).flatten:=by
 unfold nV;split
 .rename_i h;subst h;simp
 .rw[ml]
theorem rO {ls:List (List D)} {i:Nat} (hi:i<ls.length):(ls.take (i+1)).flatten=(ls.take i).flatten++ls[i]:=by rw[List.take_succ_eq_append_getElem hi,List.flatten_append];simp
theorem vt {ls:List (List D)} {m:Nat} (hs:∀l∈ls,l.length≤m):∀i,(ls.take i).flatten.length≤i*m
 |0=>by simp
 |i+1=>by
  by_cases hi:i<ls.length
  .rw[rO hi,b6];have:=vt hs i;have:=hs _ (ix hi);rw[cQ];omega
  .have h1:ls.take (i+1)=ls:=dX (by omega);have h2:ls.take i=ls:=dX (by omega);rw[h1,←h2];have:=vt hs i;rw[cQ];omega
theorem JQ {ls:List (List D)} {i:Nat} (hi:i<ls.length):nV ls (i+1)=(ls.take i).flatten++ls[i]:=by unfold nV;rw[ar (by omega),rO hi]
theorem Le (ls:List (List D)):nV ls ls.length=ls.flatten:=by
 unfold nV;cases ls with
 |nil=>rfl
 |cons a l=>rw[ar (by simp),ml]
abbrev my (ls:List (List D)):List D:=ls.map λ l=> .sl l.length l
theorem Cc {ls:List (List D)} {i:Nat} (hi:i<ls.length):(my ls).drop i= .sl ls[i].length ls[i]::my (ls.drop (i+1)):=by rw[←lF,kn hi];rfl
theorem Bj {ls:List (List D)}:(my ls).length=ls.length:=by simp
theorem rL (ls:List (List D)) (hl:ls.length<2^10) (hs:∀l∈ls,l.length≤2^12):
  ae prog 105 [.f (al ls.length (my ls))] (λ r o=>r=[.one (.own 1 ls.flatten.length ls.flatten false)]/\o=[]):=by
 refine aR aO mixed (T:=Ty) (n:=36) func105 (c:=f105.body.getD .skip) rfl results105 ntmps105 call105 ?_;simp only[f105,Option.getD];have hfl:=vt hs
 repeat'(first|(with_reducible first|refine aa _ _ ?_|refine ak ?_|refine ao ?_)|rw[af]|simp only[zY,Int.reduceEq,Int.reduceBEq,Int.reduceBNe,Nat.reduceSub,Nat.reduceEqDiff,Nat.reduceAdd,Nat.reduceMul,Nat.reduceLeDiff,Nat.reduceLT,Nat.reduceBEq,reduceCtorEq]|refine aj ?_|refine ag (λ hb=> ?_) (λ hb=> ?_)|(refine And.intro ?_ ?_;exact zI)|refine And.intro (λ hg=> ?_) (λ hg=> ?_)|exact zC|fail)
 refine gr (τ:=Nat) (λ i=>⟨[al ls.length (my ls),dd,dd,ai (ls.take i).flatten.length,dd,dd,dd,dd,dd,al ls.length (my ls),ai ls.length,ai i,dd,dd,dd,dd,dd,dd,dd,dd,dd,dd,dd,dd,dd,dd,dd,dd,dd,dd,dd,dd,dd,dd,dd,dd],[(5,⟨2,[]⟩)]⟩)
  (λ i=>i≤ls.length) (λ _=>()) (λ i=>ls.length - i) 0
  (Gh.canon [] [5] [] (by simp only[List.take_zero,List.flatten_nil,iq,bN,bS,bW,bR,bT,bU,bV,bM,bO,bL,bH,bK,bX,D.v.injEq,bY];try(repeat'(first|rfl|omega|with_reducible apply And.intro))) rfl rfl) (dA _) ?_
 intro i hi0 hF K hK
 repeat(first|with_reducible refine aa _ _ ?_|with_reducible refine ax (aa _ _) ?_|with_reducible refine ax (ax (aa _ _)) ?_|with_reducible refine ax (ax (ax (aa _ _))) ?_|rw[af]|simp only[zB,Nat.reduceSub,Nat.reduceEqDiff,Nat.reduceAdd,Nat.reduceMul,Nat.reduceLeDiff,Nat.reduceLT,Nat.reduceBEq,reduceCtorEq])
 refine ag (λ hlt=> ?_) (λ hge=> ?_)
 .have hi:i<ls.length:=by simpa using hlt
  have hat:=Cc hi;have hw:=fv hi (by omega);have hb:=hfl i;have hb2:=hfl (i+1);have hil:i*2^12≤2^10*2^12:=fe _ (by omega);have hil2:(i+1)*2^12≤2^10*2^12:=fe _ (by omega);have hfs:(ls.take (i+1)).flatten.length=(ls.take i).flatten.length+ls[i].length:=by rw[rO hi,b6]
  have hws:IntKind.i64.wrap (((ls.take i).flatten.length:Int)+(ls[i].length:Int))=((ls.take (i+1)).flatten.length:Int):=by rw[wrap64 (by omega) (by omega),hfs];omega
  have hn:decide (((ls.take (i+1)).flatten.length:Int)<0)=false:=by simp
  repeat'(first|(with_reducible first|refine aa _ _ ?_|refine ak ?_|refine ao ?_)|rw[af]|simp only[hat,hws,hn,Bj,zY,Int.reduceEq,Int.reduceBEq,Int.reduceBNe,Nat.reduceSub,Nat.reduceEqDiff,Nat.reduceAdd,Nat.reduceMul,Nat.reduceLeDiff,Nat.reduceLT,Nat.reduceBEq,reduceCtorEq]|refine aj ?_|refine ag (λ hb=> ?_) (λ hb=> ?_)|(refine And.intro ?_ ?_;exact zI)|refine And.intro (λ hg=> ?_) (λ hg=> ?_)|exact zC|fail)
  exact hK _ (i+1) (Gh.canon [] [] [] (by simp only[hw,bN,bS,bW,bR,bT,bU,bV,bM,bO,bL,bH,bK,bX,D.v.injEq,bY];try(repeat'(first|rfl|omega|with_reducible apply And.intro))) rfl rfl) hi rfl (by omega)
 .have hi:i=ls.length:=by
   have:¬(i:Int)<ls.length:=by simpa using hge
   omega
  subst hi;have hb:=hfl ls.length;have hil:ls.length*2^12≤2^10*2^12:=fe _ (by omega);rw[ml]at*;have hgr:=L1 ls.flatten.length (by omega);clear hK
  repeat'(first|(with_reducible first|refine aa _ _ ?_|refine ak ?_|refine ao ?_)|rw[af]|simp only[zY,Int.reduceEq,Int.reduceBEq,Int.reduceBNe,Nat.reduceSub,Nat.reduceEqDiff,Nat.reduceAdd,Nat.reduceMul,Nat.reduceLeDiff,Nat.reduceLT,Nat.reduceBEq,reduceCtorEq]|((first|((try refine aD ?_);apply aE)|(apply aG;intro _));(solve|exact(hgr)|(refine ae.le (hgr) ?_;exact zM)|fail);try case hn=>rfl)|refine aj ?_|refine ag (λ hb=> ?_) (λ hb=> ?_)|(refine And.intro ?_ ?_;exact zI)|refine And.intro (λ hg=> ?_) (λ hg=> ?_)|exact zC|fail)
  refine gr (τ:=Nat) (λ i=>⟨[dd,dd,dd,dd,dd,dd, .one (.own ⟨6,1,1⟩ 0 (ls.take i).flatten.length),dd,dd,dd,dd,dd,dd,dd,dd,dd,dd,dd,dd,dd,dd,dd,dd,dd,dd,al ls.length (my ls),ai ls.length,ai i,dd,dd,dd,dd,dd,dd,dd,dd],[(5,⟨2,[]⟩),(24,⟨2,[]⟩),(6,{next:=2,l:=[none,some {e:=1,var:=false,fz:=false,sz:=1,cells:=(nV ls i).map C.d}]}),(8,⟨2,[]⟩),(33,⟨2,[]⟩)]⟩)
   (λ i=>i≤ls.length) (λ _=>()) (λ i=>ls.length - i) 0
   (Gh.canon [6] [8,33] [] (by simp only[List.take_zero,List.flatten_nil,iq,bN,bS,bW,bR,bT,bU,bV,bM,bO,bL,bH,bK,bX,D.v.injEq,bY];try(repeat'(first|rfl|omega|with_reducible apply And.intro))) rfl rfl) (dA _) ?_
  intro i hi0 hF K hK
  repeat(first|with_reducible refine aa _ _ ?_|with_reducible refine ax (aa _ _) ?_|with_reducible refine ax (ax (aa _ _)) ?_|with_reducible refine ax (ax (ax (aa _ _))) ?_|rw[af]|simp only[zB,Nat.reduceSub,Nat.reduceEqDiff,Nat.reduceAdd,Nat.reduceMul,Nat.reduceLeDiff,Nat.reduceLT,Nat.reduceBEq,reduceCtorEq])
  refine ag (λ hlt=> ?_) (λ hge=> ?_)
  .have hi:i<ls.length:=by simpa using hlt
   have hat:=Cc hi;have hw:=fv hi (by omega);have hb:=hfl i;have hb2:=hfl (i+1);have hil:i*2^12≤2^10*2^12:=fe _ (by omega);have hil2:(i+1)*2^12≤2^10*2^12:=fe _ (by omega);have hfs:(ls.take (i+1)).flatten.length=(ls.take i).flatten.length+ls[i].length:=by rw[rO hi,b6]
   have hle:((ls.take i).flatten.length+ls[i].length≤2^47)=True:=eN (by omega)
   repeat'(first|(with_reducible first|refine aa _ _ ?_|refine ak ?_|refine ao ?_)|rw[af]|simp only[hat,Bj,←nL,JU,hle,du,zY,Int.reduceEq,Int.reduceBEq,Int.reduceBNe,Nat.reduceSub,Nat.reduceEqDiff,Nat.reduceAdd,Nat.reduceMul,Nat.reduceLeDiff,Nat.reduceLT,Nat.reduceBEq,reduceCtorEq]|refine aj ?_|refine ag (λ hb=> ?_) (λ hb=> ?_)|(refine And.intro ?_ ?_;exact zI)|refine And.intro (λ hg=> ?_) (λ hg=> ?_)|exact zC|fail)
   exact hK _ (i+1) (Gh.canon [6] [] [] (by simp only[hw,hfs,bN,bS,bW,bR,bT,bU,bV,bM,bO,bL,bH,bK,bX,D.v.injEq,bY];try(repeat'(first|rfl|omega|with_reducible apply And.intro))) rfl (by rw[JQ hi];rfl)) hi rfl (by omega)
  .have hi:i=ls.length:=by
    have:¬(i:Int)<ls.length:=by simpa using hge
    omega
   subst hi
   repeat'(first|(with_reducible first|refine aa _ _ ?_|refine ak ?_|refine ao ?_)|rw[af]|simp only[zY,Int.reduceEq,Int.reduceBEq,Int.reduceBNe,Nat.reduceSub,Nat.reduceEqDiff,Nat.reduceAdd,Nat.reduceMul,Nat.reduceLeDiff,Nat.reduceLT,Nat.reduceBEq,reduceCtorEq]|refine aj ?_|refine ag (λ hb=> ?_) (λ hb=> ?_)|(refine And.intro ?_ ?_;exact zI)|refine And.intro (λ hg=> ?_) (λ hg=> ?_)|exact zC|fail)
   rw[ml,Le]
def gH (k n:Int) (s:ByteArray):List D:=aI [k]++(aI (b7 n)++im s)
theorem iI (n:Int):(aI (b7 n)).length=8:=rfl
theorem Ah (k n:Int) (s:ByteArray):(gH k n s).length=10+s.size:=by unfold gH;rw[b6,b6,iI,mS];simp;omega
theorem mN {k n:Int} {s:ByteArray} (h:ej k n s=true):1≤k/\k≤6/\0≤n/\n≤2305843009213693952/\s.size≤12:=by
 unfold ej at h;split at h
 .cases h
 .rename_i h1;split at h
  .cases h
  .rename_i h2;have hk:1≤k/\k≤6:=by simp at h1;omega
   have hn:0≤n/\n≤2305843009213693952:=by
    split at h
    .simp at h;omega
    .simp at h;omega
   refine⟨hk.1,hk.2,hn.1,hn.2, ?_⟩;cases hc:(k==3||k==4||k==5)
   .simp only[hc,ko,nJ,Bool.not_false,kh]at h2;have:s.toList=(⟨#[]⟩:ByteArray).toList:=by simpa only[Bool.not_eq_true,Bool.not_eq_false',kN]using h2
    have:s.size=0:=by have:=congrArg List.length this;rw[xp,xp,iM]at this;exact this
    omega
   .simp only[hc,kh,oS,ko,Bool.or_false]at h2;have hn:dF s=true:=by simpa using h2
    unfold dF at hn;simp only[cu,eo]at hn;omega
theorem KG (k n:Int) (s:ByteArray) (h:ej k n s=true):ae prog 104 [.f (.agg [di k,di n,dS s])] (λ r o=>r=[.one (.own 1 (gH k n s).length (gH k n s) false),ri 0]/\o=[]):=by
 refine aR aO mixed (T:=Ty) (n:=36) func104 (c:=f104.body.getD .skip) rfl results104 ntmps104 call104 ?_;simp only[f104,Option.getD];obtain⟨f1,f2,f3,f4,f5⟩:=mN h;have hmy:=sT k n s (by omega);rw[h]at hmy;have hpb:=yr k (by omega);have hpn:=pJ n (by omega);have hpt:=yj s (by omega);have hcc:ae prog 105 [.f (al 3 [.sl 1 (aI [k]), .sl 8 (aI (b7 n)), .sl (1+s.size) (im s)])] (λ r o=>r=[.one (.own 1 (gH k n s).length (gH k n s) false)]/\o=[]):=by
  have hc:=rL [aI [k],aI (b7 n),im s] (by simp) (λ l hl=>by
   simp only[cL,kY,kS]at hl;rcases hl with rfl|rfl|rfl
   .simp
   .rw[iI];decide
   .rw[mS];omega)
  rw[show [aI [k],aI (b7 n),im s].flatten=gH k n s from by simp[gH]]at hc;rw[←mS s];exact hc
 have t1:(aI (b7 n)).take 8=aI (b7 n):=dX (by rw[iI];decide);have t2:(im s).take (1+s.size)=im s:=dX (by rw[mS];exact Nat.le_refl _)
 repeat'(first|(with_reducible first|refine aa _ _ ?_|refine ak ?_|refine ao ?_)|rw[af]|simp only[t1,t2,zY,Int.reduceEq,Int.reduceBEq,Int.reduceBNe,Nat.reduceSub,Nat.reduceEqDiff,Nat.reduceAdd,Nat.reduceMul,Nat.reduceLeDiff,Nat.reduceLT,Nat.reduceBEq,reduceCtorEq]|((first|((try refine aD ?_);apply aE)|(apply aG;intro _));(solve|exact(hmy)|exact(hpb)|exact(hpn)|exact(hpt)|exact(hcc)|(refine ae.le (hmy) ?_;exact zM)|(refine ae.le (hpb) ?_;exact zM)|(refine ae.le (hpn) ?_;exact zM)|(refine ae.le (hpt) ?_;exact zM)|(refine ae.le (hcc) ?_;exact zM)|fail);try case hn=>rfl)|refine aj ?_|refine ag (λ hb=> ?_) (λ hb=> ?_)|(refine And.intro ?_ ?_;exact zI)|refine And.intro (λ hg=> ?_) (λ hg=> ?_)|exact zC|fail)
def jJ (r:br):List D:=aI [r.bh]++(aI (b7 r.seq)++gH r.kind r.aF r.name)
theorem Kn (r:br) (hr:r.ok) (h:br.may r=true):ae prog 69 [.f (.agg (r.enc.map C.d))] (λ x o=>x=[.one (.own 1 (jJ r).length (jJ r) false),ri 0]/\o=[]):=by
 refine aR aO mixed (T:=Ty) (n:=36) func69 (c:=f69.body.getD .skip) rfl results69 ntmps69 call69 ?_;simp only[f69,Option.getD];have hmy:=uT r hr;rw[h]at hmy;have hf:0≤r.bh/\r.bh<8/\1≤r.seq/\r.seq≤2305843009213693952/\ej r.kind r.aF r.name=true:=by unfold br.may at h;have hH:ep=2305843009213693952:=rfl;simp only[cu,eo]at h;exact⟨h.1.1.1.1,h.1.1.1.2,h.1.1.2,by omega,h.2⟩
 obtain⟨e1,e2,e3,e4,e5⟩:=hf;obtain⟨f1,f2,f3,f4,f5⟩:=mN e5;have hcl:=Ah r.kind r.aF r.name;have hpb:=yr r.bh (by omega);have hpn:=pJ r.seq (by omega);have hpt:=KG r.kind r.aF r.name e5;have hcc:ae prog 105 [.f (al 3 [.sl 1 (aI [r.bh]), .sl 8 (aI (b7 r.seq)), .sl (gH r.kind r.aF r.name).length (gH r.kind r.aF r.name)])] (λ x o=>x=[.one (.own 1 (jJ r).length (jJ r) false)]/\o=[]):=by
  have hc:=rL [aI [r.bh],aI (b7 r.seq),gH r.kind r.aF r.name] (by simp) (λ l hl=>by
   simp only[cL,kY,kS]at hl;rcases hl with rfl|rfl|rfl
   .simp
   .rw[iI];decide
   .omega)
  rw[show [aI [r.bh],aI (b7 r.seq),gH r.kind r.aF r.name].flatten=jJ r from by simp[jJ]]at hc;exact hc
 have t1:(aI (b7 r.seq)).take 8=aI (b7 r.seq):=dX (by rw[iI];decide);have t2:(gH r.kind r.aF r.name).take (gH r.kind r.aF r.name).length=gH r.kind r.aF r.name:=ml
 repeat'(first|(with_reducible first|refine aa _ _ ?_|refine ak ?_|refine ao ?_)|rw[af]|simp only[t1,t2,zY,Int.reduceEq,Int.reduceBEq,Int.reduceBNe,Nat.reduceSub,Nat.reduceEqDiff,Nat.reduceAdd,Nat.reduceMul,Nat.reduceLeDiff,Nat.reduceLT,Nat.reduceBEq,reduceCtorEq]|((first|((try refine aD ?_);apply aE)|(apply aG;intro _));(solve|exact(hmy)|exact(hpb)|exact(hpn)|exact(hpt)|exact(hcc)|(refine ae.le (hmy) ?_;exact zM)|(refine ae.le (hpb) ?_;exact zM)|(refine ae.le (hpn) ?_;exact zM)|(refine ae.le (hpt) ?_;exact zM)|(refine ae.le (hcc) ?_;exact zM)|fail);try case hn=>rfl)|refine aj ?_|refine ag (λ hb=> ?_) (λ hb=> ?_)|(refine And.intro ?_ ?_;exact zI)|refine And.intro (λ hg=> ?_) (λ hg=> ?_)|exact zC|fail)
def jf (n:Int):Bool:=decide (n≥1)&&decide (n≤1000000)
theorem LO (n:Int):ae prog 59 [.f (ai n)] (λ r o=>r=[rb (jf n)]/\o=[]):=by
 refine aR aO mixed (T:=Ty) (n:=9) func59 (c:=f59.body.getD .skip) rfl results59 ntmps59 call59 ?_;simp only[f59,Option.getD]
 repeat'(first|(with_reducible first|refine aa _ _ ?_|refine ak ?_|refine ao ?_)|rw[af]|simp only[zY,Int.reduceEq,Int.reduceBEq,Int.reduceBNe,Nat.reduceSub,Nat.reduceEqDiff,Nat.reduceAdd,Nat.reduceMul,Nat.reduceLeDiff,Nat.reduceLT,Nat.reduceBEq,reduceCtorEq]|refine aj ?_|refine ag (λ hb=> ?_) (λ hb=> ?_)|(refine And.intro ?_ ?_;exact zI)|refine And.intro (λ hg=> ?_) (λ hg=> ?_)|exact zC|fail)
 rfl
theorem vy (k:Int):ae prog 46 [.f (ai k)] (λ r o=>r=[rb (k==5||k==6)]/\o=[]):=by
 refine aR aO mixed (T:=Ty) (n:=9) func46 (c:=f46.body.getD .skip) rfl results46 ntmps46 call46 ?_;simp only[f46,Option.getD]
 repeat'(first|(with_reducible first|refine aa _ _ ?_|refine ak ?_|refine ao ?_)|rw[af]|simp only[zY,Int.reduceEq,Int.reduceBEq,Int.reduceBNe,Nat.reduceSub,Nat.reduceEqDiff,Nat.reduceAdd,Nat.reduceMul,Nat.reduceLeDiff,Nat.reduceLT,Nat.reduceBEq,reduceCtorEq]|refine aj ?_|refine ag (λ hb=> ?_) (λ hb=> ?_)|(refine And.intro ?_ ?_;exact zI)|refine And.intro (λ hg=> ?_) (λ hg=> ?_)|exact zC|fail)
theorem fy (n:Int) (h:0≤n/\n≤2305843009213693952):ae prog 36 [.f (ai n)] (λ r o=>r=[ri n]/\o=[]):=by
 refine aR aO mixed (T:=Ty) (n:=6) func36 (c:=f36.body.getD .skip) rfl results36 ntmps36 call36 ?_;simp only[f36,Option.getD];have h1:max n 0=n:=by omega
 have h2:min n 2305843009213693952=n:=by omega
 repeat'(first|(with_reducible first|refine aa _ _ ?_|refine ak ?_|refine ao ?_)|rw[af]|simp only[h1,h2,zY,Int.reduceEq,Int.reduceBEq,Int.reduceBNe,Nat.reduceSub,Nat.reduceEqDiff,Nat.reduceAdd,Nat.reduceMul,Nat.reduceLeDiff,Nat.reduceLT,Nat.reduceBEq,reduceCtorEq]|refine aj ?_|refine ag (λ hb=> ?_) (λ hb=> ?_)|(refine And.intro ?_ ?_;exact zI)|refine And.intro (λ hg=> ?_) (λ hg=> ?_)|exact zC|fail)
theorem vT {k:Nat}:cX (sub 0 0 k [])=some []:=by unfold sub;simp[cX]
theorem vU {a b:RO}:iA [.one a] [.one b]=(aN a b/\True):=rfl
theorem rj (n:Nat) (L:List D) (hL:L.length=n*3) (hn:n<2^40):ae prog 52 [.f (al n L)] (λ r o=>r=[.one (.own 3 n L false)]/\o=[]):=by
 refine ae.nil ?_;refine aR aO mixed (T:=Ty) (n:=8) func52 (c:=f52.body.getD .skip) rfl results52 ntmps52 call52 ?_;simp only[f52,Option.getD];rcases Nat.eq_zero_or_pos n with rfl|hp
 .obtain rfl:L=[]:=gT (by omega)
  repeat(first|with_reducible refine aa _ _ ?_|with_reducible refine ax (aa _ _) ?_|with_reducible refine ax (ax (aa _ _)) ?_|with_reducible refine ax (ax (ax (aa _ _))) ?_|rw[af]|simp only[zB,fE,vc,vT,oZ,Nat.reduceSub,Nat.reduceEqDiff,Nat.reduceAdd,Nat.reduceMul,Nat.reduceLeDiff,Nat.reduceLT,Nat.reduceBEq,reduceCtorEq])
  refine⟨?_, ?_, ?_⟩
  .repeat(first|with_reducible refine aa _ _ ?_|with_reducible refine ax (aa _ _) ?_|with_reducible refine ax (ax (aa _ _)) ?_|with_reducible refine ax (ax (ax (aa _ _))) ?_|rw[af]|simp only[zB,ff,Nat.reduceSub,Nat.reduceEqDiff,Nat.reduceAdd,Nat.reduceMul,Nat.reduceLeDiff,Nat.reduceLT,Nat.reduceBEq,reduceCtorEq])
   simp[vU,aN]
  .simp
  .repeat(first|with_reducible refine aa _ _ ?_|with_reducible refine ax (aa _ _) ?_|with_reducible refine ax (ax (aa _ _)) ?_|with_reducible refine ax (ax (ax (aa _ _))) ?_|rw[af]|simp only[zB,ff,Nat.reduceSub,Nat.reduceEqDiff,Nat.reduceAdd,Nat.reduceMul,Nat.reduceLeDiff,Nat.reduceLT,Nat.reduceBEq,reduceCtorEq])
   simp[vU,aN]
 .have h0:n≠0:=by omega
  have h1:L≠[]:=λ h=>by rw[h]at hL;simp at hL;omega
  repeat(first|with_reducible refine aa _ _ ?_|with_reducible refine ax (aa _ _) ?_|with_reducible refine ax (ax (aa _ _)) ?_|with_reducible refine ax (ax (ax (aa _ _))) ?_|rw[af]|simp only[zB,fE,vc,vT,h0,h1,oZ,Nat.reduceSub,Nat.reduceEqDiff,Nat.reduceAdd,Nat.reduceMul,Nat.reduceLeDiff,Nat.reduceLT,Nat.reduceBEq,reduceCtorEq])
  refine⟨trivial,λ hb=>by simp at hb,λ hb=> ?_⟩
  repeat(first|with_reducible refine aa _ _ ?_|with_reducible refine ax (aa _ _) ?_|with_reducible refine ax (ax (aa _ _)) ?_|with_reducible refine ax (ax (ax (aa _ _))) ?_|rw[af]|simp only[zB,fE,vc,vT,h0,h1,ff,eJ,du,oZ,Nat.reduceSub,Nat.reduceEqDiff,Nat.reduceAdd,Nat.reduceMul,Nat.reduceLeDiff,Nat.reduceLT,Nat.reduceBEq,reduceCtorEq])
  refine⟨by simp,⟨hL,by omega⟩, ?_⟩;simp[vU,aN]
structure cU where
 bw:Int
 ey:Int
 aV:Int
 aT:Int
 base:Int
 cap:Int
 fh:Int
 wait:Int
 fg:Int
 eg:Int
 b8:Int
abbrev cU.enc (c:cU):List D:=[iD c.bw,iD c.ey,iD c.aV,iD c.aT,iD c.base,iD c.cap,iD c.fh,iD c.wait,iD c.fg,iD c.eg,iD c.b8]
structure nm (c:cU):Prop where
 r:1≤c.bw/\c.bw≤7/\c.bw % 2=1
 cl:1≤c.ey/\c.ey≤8
 aV:jf c.aV=true
 base:jf c.base=true
 cap:jf c.cap=true
 fh:jf c.fh=true
 fg:jf c.fg=true
 eg:jf c.eg=true
 b8:jf c.b8=true
 wait:0≤c.wait/\c.wait≤1000000
 bc:c.base≤c.cap
 aT:0≤c.aT/\c.aT≤200
theorem l6 (c:cU) (h:nm c):ae prog 35 [.f (.agg (c.enc.map C.d))] (λ x o=>x=[rb true]/\o=[]):=by
 refine aR aO mixed (T:=Ty) (n:=76) func35 (c:=f35.body.getD .skip) rfl results35 ntmps35 call35 ?_;simp only[f35,Option.getD];obtain⟨⟨r1,r2,r3⟩,⟨c1,c2⟩,hl,hb,hc,hbe,hs,hr,hk,⟨w1,w2⟩,hbc,⟨o1,o2⟩⟩:=h;have t1:decide (c.bw<1)=false:=by simp;omega
 have t2:decide (c.bw>7)=false:=by simp;omega
 have t3:(c.bw.tmod 2==0)=false:=by rw[nC (by omega)];simp;omega
 have t4:decide (c.ey<1)=false:=by simp;omega
 have t5:decide (c.ey>8)=false:=by simp;omega
 have t6:decide (c.wait≥0)=true:=by simp;omega
 have t7:decide (c.wait≤1000000)=true:=by simp;omega
 have t8:decide (c.base≤c.cap)=true:=by simp;omega
 have t9:decide (c.aT≥0)=true:=by simp;omega
 have t10:decide (c.aT≤200)=true:=by simp;omega
 have hagg:∀(Z:List Nat) (r:Rs) (xs ys:List AV),eb Z r (AV.agg [di c.aV,di c.base,di c.cap,di c.fh,di c.fg,di c.eg,di c.b8]::xs) (AV.agg [di c.aV,di c.base,di c.cap,di c.fh,di c.fg,di c.eg,di c.b8]::ys)=eb Z r xs ys:=λ Z r xs ys=>u9 rfl rfl
 repeat'(first|(with_reducible first|refine aa _ _ ?_|refine ak ?_|refine ao ?_)|rw[af]|simp only[t1,t2,t3,t4,t5,zY,Int.reduceEq,Int.reduceBEq,Int.reduceBNe,Nat.reduceSub,Nat.reduceEqDiff,Nat.reduceAdd,Nat.reduceMul,Nat.reduceLeDiff,Nat.reduceLT,Nat.reduceBEq,reduceCtorEq]|refine aj ?_|refine ag (λ hb=> ?_) (λ hb=> ?_)|(refine And.intro ?_ ?_;exact zI)|refine And.intro (λ hg=> ?_) (λ hg=> ?_)|exact zC|fail)
 refine gr (τ:=Nat) (λ i=>⟨[dd, .one (.ptr ⟨1,0,1⟩ 0),dd,dd,dd,dd,dd,dd,dd,dd,dd,dd,dd,dd,dd,dd,dd,dd,dd,dd,dd,dd,dd,dd,dd,dd,dd,dd,dd,dd,dd,dd,dd,dd,dd,dd,dd,dd,dd,dd,dd,dd,dd, .agg [di c.aV,di c.base,di c.cap,di c.fh,di c.fg,di c.eg,di c.b8],ai i,dd,dd,dd,dd,dd,dd,dd,dd,dd,dd,dd,dd,dd,dd,dd,dd,dd,dd,dd,dd,dd,dd,dd,dd,dd,dd,dd,dd,dd,dd,dd],[(1,{next:=2,l:=[some {e:=1,var:=true,fz:=false,sz:=0,cells:=[di c.bw,di c.ey,di c.aV,di c.aT,di c.base,di c.cap,di c.fh,di c.wait,di c.fg,di c.eg,di c.b8]},none,none,none,none,none,none,none,none,none,none,none]})]⟩)
  (λ i=>i≤7) (λ _=>()) (λ i=>7 - i) 0
  (Gh.canon [1] [] [] (by simp only[hagg,bN,bS,bW,bR,bT,bU,bV,bM,bO,bL,bH,bK,bX,D.v.injEq,bY];try(repeat'(first|rfl|omega|with_reducible apply And.intro))) rfl rfl) (dA _) ?_
 intro i hi0 hF K hK
 repeat(first|with_reducible refine aa _ _ ?_|with_reducible refine ax (aa _ _) ?_|with_reducible refine ax (ax (aa _ _)) ?_|with_reducible refine ax (ax (ax (aa _ _))) ?_|rw[af]|simp only[zB,Nat.reduceSub,Nat.reduceEqDiff,Nat.reduceAdd,Nat.reduceMul,Nat.reduceLeDiff,Nat.reduceLT,Nat.reduceBEq,reduceCtorEq])
 refine ag (λ hlt=> ?_) (λ hge=> ?_)
 .have hi:i<7:=by simp at hlt;omega
  have hw:IntKind.i64.wrap ((i:Int)+1)=((i+1:Nat):Int):=fv hi (by omega);have tk:∀n,jf n=true->ae prog 59 [.f (ai n)] (λ r o=>r=[rb true]/\o=[]):=λ n hn=>by have:=LO n;rw[hn]at this;exact this
  have k1:=tk _ hl;have k2:=tk _ hb;have k3:=tk _ hc;have k4:=tk _ hbe;have k5:=tk _ hs;have k6:=tk _ hr;have k7:=tk _ hk;rcases(show i=0∨i=1∨i=2∨i=3∨i=4∨i=5∨i=6 by omega)with rfl|rfl|rfl|rfl|rfl|rfl|rfl
  .repeat'(first|(with_reducible first|refine aa _ _ ?_|refine ak ?_|refine ao ?_)|rw[af]|simp only[zY,Int.reduceEq,Int.reduceBEq,Int.reduceBNe,Nat.reduceSub,Nat.reduceEqDiff,Nat.reduceAdd,Nat.reduceMul,Nat.reduceLeDiff,Nat.reduceLT,Nat.reduceBEq,reduceCtorEq]|((first|((try refine aD ?_);apply aE)|(apply aG;intro _));(solve|exact(k1)|(refine ae.le (k1) ?_;exact zM)|fail);try case hn=>rfl)|refine aj ?_|refine ag (λ hb=> ?_) (λ hb=> ?_)|(refine And.intro ?_ ?_;exact zI)|refine And.intro (λ hg=> ?_) (λ hg=> ?_)|exact zC|fail)
   exact hK _ 1 (Gh.canon [1] [] [] (by simp only[hw,hagg,bN,bS,bW,bR,bT,bU,bV,bM,bO,bL,bH,bK,bX,D.v.injEq,bY];try(repeat'(first|rfl|omega|with_reducible apply And.intro))) rfl rfl) (by omega) rfl (by omega)
  .repeat'(first|(with_reducible first|refine aa _ _ ?_|refine ak ?_|refine ao ?_)|rw[af]|simp only[zY,Int.reduceEq,Int.reduceBEq,Int.reduceBNe,Nat.reduceSub,Nat.reduceEqDiff,Nat.reduceAdd,Nat.reduceMul,Nat.reduceLeDiff,Nat.reduceLT,Nat.reduceBEq,reduceCtorEq]|((first|((try refine aD ?_);apply aE)|(apply aG;intro _));(solve|exact(k2)|(refine ae.le (k2) ?_;exact zM)|fail);try case hn=>rfl)|refine aj ?_|refine ag (λ hb=> ?_) (λ hb=> ?_)|(refine And.intro ?_ ?_;exact zI)|refine And.intro (λ hg=> ?_) (λ hg=> ?_)|exact zC|fail)
   exact hK _ 2 (Gh.canon [1] [] [] (by simp only[hw,hagg,bN,bS,bW,bR,bT,bU,bV,bM,bO,bL,bH,bK,bX,D.v.injEq,bY];try(repeat'(first|rfl|omega|with_reducible apply And.intro))) rfl rfl) (by omega) rfl (by omega)
  .repeat'(first|(with_reducible first|refine aa _ _ ?_|refine ak ?_|refine ao ?_)|rw[af]|simp only[zY,Int.reduceEq,Int.reduceBEq,Int.reduceBNe,Nat.reduceSub,Nat.reduceEqDiff,Nat.reduceAdd,Nat.reduceMul,Nat.reduceLeDiff,Nat.reduceLT,Nat.reduceBEq,reduceCtorEq]|((first|((try refine aD ?_);apply aE)|(apply aG;intro _));(solve|exact(k3)|(refine ae.le (k3) ?_;exact zM)|fail);try case hn=>rfl)|refine aj ?_|refine ag (λ hb=> ?_) (λ hb=> ?_)|(refine And.intro ?_ ?_;exact zI)|refine And.intro (λ hg=> ?_) (λ hg=> ?_)|exact zC|fail)
   exact hK _ 3 (Gh.canon [1] [] [] (by simp only[hw,hagg,bN,bS,bW,bR,bT,bU,bV,bM,bO,bL,bH,bK,bX,D.v.injEq,bY];try(repeat'(first|rfl|omega|with_reducible apply And.intro))) rfl rfl) (by omega) rfl (by omega)
  .repeat'(first|(with_reducible first|refine aa _ _ ?_|refine ak ?_|refine ao ?_)|rw[af]|simp only[zY,Int.reduceEq,Int.reduceBEq,Int.reduceBNe,Nat.reduceSub,Nat.reduceEqDiff,Nat.reduceAdd,Nat.reduceMul,Nat.reduceLeDiff,Nat.reduceLT,Nat.reduceBEq,reduceCtorEq]|((first|((try refine aD ?_);apply aE)|(apply aG;intro _));(solve|exact(k4)|(refine ae.le (k4) ?_;exact zM)|fail);try case hn=>rfl)|refine aj ?_|refine ag (λ hb=> ?_) (λ hb=> ?_)|(refine And.intro ?_ ?_;exact zI)|refine And.intro (λ hg=> ?_) (λ hg=> ?_)|exact zC|fail)
   exact hK _ 4 (Gh.canon [1] [] [] (by simp only[hw,hagg,bN,bS,bW,bR,bT,bU,bV,bM,bO,bL,bH,bK,bX,D.v.injEq,bY];try(repeat'(first|rfl|omega|with_reducible apply And.intro))) rfl rfl) (by omega) rfl (by omega)
  .repeat'(first|(with_reducible first|refine aa _ _ ?_|refine ak ?_|refine ao ?_)|rw[af]|simp only[zY,Int.reduceEq,Int.reduceBEq,Int.reduceBNe,Nat.reduceSub,Nat.reduceEqDiff,Nat.reduceAdd,Nat.reduceMul,Nat.reduceLeDiff,Nat.reduceLT,Nat.reduceBEq,reduceCtorEq]|((first|((try refine aD ?_);apply aE)|(apply aG;intro _));(solve|exact(k5)|(refine ae.le (k5) ?_;exact zM)|fail);try case hn=>rfl)|refine aj ?_|refine ag (λ hb=> ?_) (λ hb=> ?_)|(refine And.intro ?_ ?_;exact zI)|refine And.intro (λ hg=> ?_) (λ hg=> ?_)|exact zC|fail)
   exact hK _ 5 (Gh.canon [1] [] [] (by simp only[hw,hagg,bN,bS,bW,bR,bT,bU,bV,bM,bO,bL,bH,bK,bX,D.v.injEq,bY];try(repeat'(first|rfl|omega|with_reducible apply And.intro))) rfl rfl) (by omega) rfl (by omega)
  .repeat'(first|(with_reducible first|refine aa _ _ ?_|refine ak ?_|refine ao ?_)|rw[af]|simp only[zY,Int.reduceEq,Int.reduceBEq,Int.reduceBNe,Nat.reduceSub,Nat.reduceEqDiff,Nat.reduceAdd,Nat.reduceMul,Nat.reduceLeDiff,Nat.reduceLT,Nat.reduceBEq,reduceCtorEq]|((first|((try refine aD ?_);apply aE)|(apply aG;intro _));(solve|exact(k6)|(refine ae.le (k6) ?_;exact zM)|fail);try case hn=>rfl)|refine aj ?_|refine ag (λ hb=> ?_) (λ hb=> ?_)|(refine And.intro ?_ ?_;exact zI)|refine And.intro (λ hg=> ?_) (λ hg=> ?_)|exact zC|fail)
   exact hK _ 6 (Gh.canon [1] [] [] (by simp only[hw,hagg,bN,bS,bW,bR,bT,bU,bV,bM,bO,bL,bH,bK,bX,D.v.injEq,bY];try(repeat'(first|rfl|omega|with_reducible apply And.intro))) rfl rfl) (by omega) rfl (by omega)
  .repeat'(first|(with_reducible first|refine aa _ _ ?_|refine ak ?_|refine ao ?_)|rw[af]|simp only[zY,Int.reduceEq,Int.reduceBEq,Int.reduceBNe,Nat.reduceSub,Nat.reduceEqDiff,Nat.reduceAdd,Nat.reduceMul,Nat.reduceLeDiff,Nat.reduceLT,Nat.reduceBEq,reduceCtorEq]|((first|((try refine aD ?_);apply aE)|(apply aG;intro _));(solve|exact(k7)|(refine ae.le (k7) ?_;exact zM)|fail);try case hn=>rfl)|refine aj ?_|refine ag (λ hb=> ?_) (λ hb=> ?_)|(refine And.intro ?_ ?_;exact zI)|refine And.intro (λ hg=> ?_) (λ hg=> ?_)|exact zC|fail)
   exact hK _ 7 (Gh.canon [1] [] [] (by simp only[hw,hagg,bN,bS,bW,bR,bT,bU,bV,bM,bO,bL,bH,bK,bX,D.v.injEq,bY];try(repeat'(first|rfl|omega|with_reducible apply And.intro))) rfl rfl) (by omega) rfl (by omega)
 .have hi:i=7:=by
   have:¬(i:Int)<7:=by simpa using hge
   omega
  subst hi
  repeat'(first|(with_reducible first|refine aa _ _ ?_|refine ak ?_|refine ao ?_)|rw[af]|simp only[t6,t7,t8,t9,t10,zY,Int.reduceEq,Int.reduceBEq,Int.reduceBNe,Nat.reduceSub,Nat.reduceEqDiff,Nat.reduceAdd,Nat.reduceMul,Nat.reduceLeDiff,Nat.reduceLT,Nat.reduceBEq,reduceCtorEq]|refine aj ?_|refine ag (λ hb=> ?_) (λ hb=> ?_)|(refine And.intro ?_ ?_;exact zI)|refine And.intro (λ hg=> ?_) (λ hg=> ?_)|exact zC|fail)
def dK:cU:=⟨3,3,60,100,10,40,3,1,5,6,8⟩
def nW:List Int:=[3,1,5,3,7,3]
def ga (c:cU) (i:Nat) (n:Int):cU:=
 match i with
 |0=>{c with bw:=nW.getD (n % 6).toNat 0}
 |1=>{c with ey:=1+n % 5}
 |2=>{c with base:=1+n % 20}
 |3=>{c with cap:=c.base+n % 60}
 |4=>{c with fh:=1+n % 6}
 |5=>{c with wait:=n % 4}
 |6=>{c with fg:=1+n % 9}
 |7=>{c with eg:=1+n % 9}
 |8=>{c with b8:=1+n % 12}
 |9=>{c with aV:=1+n}
 |_=>{c with aT:=n % 201}
def eW (ns:List Int):Nat->cU
 |0=>dK
 |i+1=>ga (eW ns i) i (ns.getD i 0)
def tE (ns:List Int):cU:=eW ns (min ns.length 11)
theorem mM {n:Int}:jf n=true↔1≤n/\n≤1000000:=by unfold jf;simp
structure sU (c:cU):Prop where
 r:c.bw=1∨c.bw=3∨c.bw=5∨c.bw=7
 cl:1≤c.ey/\c.ey≤5
 aV:1≤c.aV/\c.aV≤256
 aT:0≤c.aT/\c.aT≤200
 base:1≤c.base/\c.base≤20
 cap:1≤c.cap/\c.cap≤79
 fh:1≤c.fh/\c.fh≤6
 wait:0≤c.wait/\c.wait≤3
 fg:1≤c.fg/\c.fg≤9
 eg:1≤c.eg/\c.eg≤9
 b8:1≤c.b8/\c.b8≤12
theorem L9 (n:Int):nW.getD (n % 6).toNat 0=1∨nW.getD (n % 6).toNat 0=3∨nW.getD (n % 6).toNat 0=5∨nW.getD (n % 6).toNat 0=7:=by rcases(show n % 6=0∨n % 6=1∨n % 6=2∨n % 6=3∨n % 6=4∨n % 6=5 by omega)with h|h|h|h|h|h<;>rw[h]<;>decide
theorem I0 {c:cU} (h:sU c) {i:Nat} {n:Int} (hn:bp n):sU (ga c i n):=by
 unfold bp at hn;obtain⟨h1,h2,h3,h4,h5,h6,h7,h8,h9,h10,h11⟩:=h;unfold ga;split
 .exact⟨L9 n,h2,h3,h4,h5,h6,h7,h8,h9,h10,h11⟩
 .exact⟨h1,by simp only;omega,h3,h4,h5,h6,h7,h8,h9,h10,h11⟩
 .exact⟨h1,h2,h3,h4,by simp only;omega,h6,h7,h8,h9,h10,h11⟩
 .exact⟨h1,h2,h3,h4,h5,by simp only;omega,h7,h8,h9,h10,h11⟩
 .exact⟨h1,h2,h3,h4,h5,h6,by simp only;omega,h8,h9,h10,h11⟩
 .exact⟨h1,h2,h3,h4,h5,h6,h7,by simp only;omega,h9,h10,h11⟩
 .exact⟨h1,h2,h3,h4,h5,h6,h7,h8,by simp only;omega,h10,h11⟩
 .exact⟨h1,h2,h3,h4,h5,h6,h7,h8,h9,by simp only;omega,h11⟩
 .exact⟨h1,h2,h3,h4,h5,h6,h7,h8,h9,h10,by simp only;omega⟩
 .exact⟨h1,h2,by simp only;omega,h4,h5,h6,h7,h8,h9,h10,h11⟩
 .exact⟨h1,h2,h3,by simp only;omega,h5,h6,h7,h8,h9,h10,h11⟩
theorem LC:sU dK:=⟨.inr (.inl rfl),by decide,by decide,by decide,by decide,by decide,by decide,by decide,by decide,by decide,by decide⟩
theorem sj {ns:List Int} (hn:∀n∈ns,bp n):∀i,sU (eW ns i)
 |0=>LC
 |i+1=>I0 (sj hn i) (by
   rw[fC];cases h:ns[i]? with
   |none=>exact⟨by decide,by decide⟩
   |some x=>exact hn _ (lH h))
theorem JJ {ns:List Int} (i:Nat) (h:i≤3):(eW ns i).cap=40:=by rcases(show i=0∨i=1∨i=2∨i=3 by omega)with rfl|rfl|rfl|rfl<;>rfl
theorem I8 {c:cU} {i:Nat} {n:Int} (hi:3≤i) (hn:bp n) (h:c.base≤c.cap):(ga c i n).base≤(ga c i n).cap:=by unfold bp at hn;unfold ga;split<;>simp only<;>omega
theorem Al {ns:List Int} (hn:∀n∈ns,bp n):∀i,(eW ns i).base≤(eW ns i).cap
 |0=>(by decide:dK.base≤dK.cap)
 |i+1=>by
  by_cases h:i+1≤3
  .have hb:=(sj hn (i+1)).base;rw[JJ (i+1) h];omega
  .refine I8 (by omega) ?_ (Al hn i);rw[fC];cases h:ns[i]? with
   |none=>exact⟨by decide,by decide⟩
   |some x=>exact hn _ (lH h)
theorem LL {ns:List Int} (hn:∀n∈ns,bp n):nm (tE ns):=by have h:=sj hn (min ns.length 11);have hb:=Al hn (min ns.length 11);unfold tE;obtain⟨h1,h2,h3,h4,h5,h6,h7,h8,h9,h10,h11⟩:=h;exact⟨by omega,by omega,mM.2 (by omega),mM.2 (by omega),mM.2 (by omega),mM.2 (by omega),mM.2 (by omega),mM.2 (by omega),mM.2 (by omega),by omega,hb,by omega⟩
end Go.Proofs.YtiegkabcgokhkaaGreat
