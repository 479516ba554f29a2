import Derived.Test.YtiegkabcgokhkaaGreatSG
set_option maxHeartbeats 8000000
namespace Go.Proofs.YtiegkabcgokhkaaGreat
open Go.Pk Tryz
set_option maxRecDepth 100000
set_option linter.unusedSimpArgs false
set_option linter.unusedVariables false
theorem uR {α:Type} {q:Nat->α->Bool}:∀{l:List α} {j:Nat},(∀(i:Nat) (hi:i<l.length),q (j+i) l[i]=true)->fN q j l=true
 |[],_,_=>rfl
 |a::l,j,h=>by
  have h0:=h 0 (by simp);rw[eV,List.getElem_cons_zero]at h0;rw[fN,ay h0];exact uR λ i hi=>by have:=h (i+1) (by simpa using hi);rw[show j+(i+1)=j+1+i from by omega]at this;exact this
def lW (k:Nat):ByteArray:=if k=0 then⟨#[97]⟩else if k=1 then⟨#[98]⟩else if k=2 then⟨#[107,101,121,45,49]⟩else if k=3 then⟨#[108,111,99,107]⟩else⟨#[120]⟩
theorem NN {k:Nat} (hk:k<5):∃rest,List.drop k [C.d (sD ⟨#[97]⟩),C.d (sD ⟨#[98]⟩),C.d (sD ⟨#[107,101,121,45,49]⟩),C.d (sD ⟨#[108,111,99,107]⟩),C.d (sD ⟨#[120]⟩)]=C.d (sD (lW k))::rest:=by rcases(show k=0∨k=1∨k=2∨k=3∨k=4 by omega)with rfl|rfl|rfl|rfl|rfl<;>exact⟨_,rfl⟩
theorem Nv {p:Nat} (h:p<5):dF (lW p)=true:=by rcases(show p=0∨p=1∨p=2∨p=3∨p=4 by omega)with rfl|rfl|rfl|rfl|rfl<;>kernel_rfl
theorem Ld {p q:Nat} (h:p<q) (hq:q<5):lC (lW p) (lW q)=true:=by
 rcases(show q=1∨q=2∨q=3∨q=4 by omega)with rfl|rfl|rfl|rfl<;>
  rcases(show p=0∨p=1∨p=2∨p=3 by omega)with rfl|rfl|rfl|rfl<;>first|(exfalso;omega)|kernel_rfl
def g5 (ns:List Int) (ses:Int):List Nat->List bt->List bt
 |[],acc=>acc
 |i::l,acc=>if(decide (i<ns.length)&&decide (ses>0)&&decide (acc.length<4))=true then(if(ns.getD i 0 % 2==1)=true then g5 ns ses l (acc++[⟨lW (i - 3),1+ns.getD i 0⟩])else g5 ns ses l acc)else acc
structure G5 (ns:List Int) (i:Nat) (acc:List bt):Prop where
 m:∀g∈acc,∃p,p+3<i/\p<5/\g.name=lW p/\1≤g.token/\g.token≤256
 s:acc.Pairwise λ a b=>lC a.name b.name=true
 l:acc.length≤4
theorem G5.next {ns:List Int} {i:Nat} {acc:List bt} (h:G5 ns i acc):G5 ns (i+1) acc:=⟨λ g hg=>by obtain⟨p,h1,h2⟩:=h.m g hg;exact⟨p,by omega,h2⟩,h.s,h.l⟩
theorem G5.add {ns:List Int} {i:Nat} {acc:List bt} (h:G5 ns i acc) (h3:3≤i) (h8:i<8) (h4:acc.length<4) (hb:bp (ns.getD i 0)):G5 ns (i+1) (acc++[⟨lW (i - 3),1+ns.getD i 0⟩]):=by
 unfold bp at hb;refine⟨λ g hg=> ?_, ?_,by rw[b6,gD];omega⟩
 .rcases eE.1 hg with hg|hg
  .exact h.next.m g hg
  .rw[ji.1 hg];exact⟨i - 3,by omega,by omega,rfl,by simp only;omega,by simp only;omega⟩
 .rw[List.pairwise_append];refine⟨h.s,by simp,λ a ha b hb=> ?_⟩;rw[ji.1 hb];obtain⟨p,h1,h2,h5,_⟩:=h.m a ha;rw[h5];exact Ld (by omega) (by omega)
theorem G5.fin {ns:List Int} {ses:Int} (hb:∀x∈ns,bp x):∀{k i:Nat} {acc:List bt},G5 ns i acc->3≤i->i+k=8->G5 ns 8 (g5 ns ses (List.range' i k) acc)
 |0,i,acc,h,h3,h8=>by
  have:i=8:=by omega
  subst this;exact h
 |k+1,i,acc,h,h3,h8=>by
  rw[qx,g5];split
  .rename_i hc;simp only[cu,eo]at hc;split
   .exact G5.fin hb (h.add h3 (by omega) hc.2 (kC hc.1.1 hb)) (by omega) (by omega)
   .exact G5.fin hb h.next (by omega) (by omega)
  .exact⟨λ g hg=>by obtain⟨p,h1,h2⟩:=h.m g hg;exact⟨p,by omega,h2⟩,h.s,h.l⟩
theorem G5.may {ns:List Int} {acc:List bt} (h:G5 ns 8 acc):fN (gP acc) 0 acc=true:=by
 refine uR λ i hi=> ?_
 obtain⟨p,h1,h2,h3,h4,h5⟩:=h.m _ (ix hi);rw[bC];unfold gP;have hH:ep=2305843009213693952:=rfl;have e1:decide (acc[i].token<1)=false:=by simp;omega
 have e2:decide (acc[i].token>ep)=false:=by rw[hH];simp;omega
 rw[h3,Nv h2,e1,e2];cases h0:decide (i>0)
 .rfl
 .have hi0:0<i:=by simpa using h0
  have hp:nH acc i=(acc[i - 1]'(by omega)).name:=by unfold nH;rw[eC (by omega)];rfl
  have:=List.pairwise_iff_getElem.1 h.s (i - 1) i (by omega) hi (by omega);rw[hp,←h3,this];rfl
def tt (ns:List Int):Int:=ns.getD 0 0 % 13
def kZ (ns:List Int):Int:=ns.getD 1 0 % 5
def sX (ns:List Int):Int:=ns.getD 2 0 % 4
def fA (ns:List Int):cB:=if ns.length>2 then⟨tt ns,kZ ns,sX ns,g5 ns (kZ ns) (List.range' 3 5) []⟩else gG
theorem Bc {ns:List Int} {ses:Int} {l:List Nat} (h:¬ses>0):g5 ns ses l []=[]:=by
 cases l with
 |nil=>rfl
 |cons i l=>
  rw[g5,ar];rw[show decide (ses>0)=false from by simpa using h,oY,ko];simp
theorem N5 {ns:List Int} (hb:∀x∈ns,bp x):G5 ns 8 (g5 ns (kZ ns) (List.range' 3 5) []):=
 G5.fin hb ⟨λ g hg=>(by cases hg),List.Pairwise.nil,dA _⟩ (Nat.le_refl _) rfl
theorem Jl (ns:List Int) (hb:∀x∈ns,bp x):dR (fA ns)=true:=by
 unfold fA;split
 .rename_i hl;have hG:=N5 hb;have h1:=kC (show 0<ns.length by omega) hb;have h2:=kC (show 1<ns.length by omega) hb;have h3:=kC (show 2<ns.length by omega) hb;unfold bp at h1 h2 h3;unfold dR;have hH:ep=2305843009213693952:=rfl;have c1:0≤tt ns/\tt ns≤12:=by unfold tt;omega
  have c2:0≤kZ ns/\kZ ns≤4:=by unfold kZ;omega
  have c3:0≤sX ns/\sX ns≤3:=by unfold sX;omega
  simp only[hG.may,iQ,cu,jF,kU,iP,hH];refine⟨by omega,by have:=hG.l;omega, ?_⟩;cases h0:(kZ ns==0)
  .rfl
  .have hz:kZ ns=0:=by simpa using h0
   rw[hz,Bc (by decide)];rfl
 .rfl
theorem Mr {ns:List Int} {ses:Int} {i:Nat} {acc:List bt} (h:(decide (i<ns.length)&&decide (i<8)&&decide (ses>0)&&decide (acc.length<4))=false):g5 ns ses (List.range' i (8 - i)) acc=acc:=by
 by_cases h8:i<8
 .rw[show 8 - i=(8 - (i+1))+1 from by omega,qx,g5,ar];rw[show decide (i<8)=true from by simpa using h8,iQ]at h;rw[h];simp
 .rw[show 8 - i=0 from by omega];rfl
theorem Mx {ns:List Int} {ses:Int} {i:Nat} {acc:List bt} (h1:i<ns.length) (h8:i<8) (h2:ses>0) (h4:acc.length<4):
  g5 ns ses (List.range' i (8 - i)) acc=if(ns.getD i 0 % 2==1)=true then g5 ns ses (List.range' (i+1) (8 - (i+1))) (acc++[⟨lW (i - 3),1+ns.getD i 0⟩])else g5 ns ses (List.range' (i+1) (8 - (i+1))) acc:=by
 rw[show 8 - i=(8 - (i+1))+1 from by omega,qx,g5,ay];simp only[cu,eo];exact⟨⟨h1,h2⟩,h4⟩
theorem ot {ns:List Int} (h:∀x∈ns,bp x) (k:Nat):bp (ns.getD k 0):=by
 rcases gW k ns.length with hk|hk
 .exact kC hk h
 .rw[fC,tf hk];exact⟨by decide,by decide⟩
theorem ta {n m:Int} (h:bp n) (hm:0<m):n.tmod m=n % m:=nC h.1
theorem pw {l:List bt}:(ch l).take (l.length*2)=ch l:=lq bt.enc 2 (λ _=>rfl) l
theorem ze (ns:List Int) (hl:ns.length<2^60) (hb:∀x∈ns,bp x) (c s a:Int) (L:List bt) (hL:L=g5 ns s (List.range' 3 5) []) (x:Code)
  (hc:kK 6 (f49.body.getD .skip)=some x):
  bQ Ty prog x ⟨[bE ns.length (aI ns),dd, .one (.ptr ⟨2,0,1⟩ 0), .one (.ptr ⟨3,0,1⟩ 0),dd,dd,dd,dd,dd,dd,dd,dd,dd,dd,dd,dd,dd,dd,dd,dd,dd,dd,dd,dd,dd,dd,dd,dd,dd,dd,dd,dd,dd,dd,dd,dd,dd,dd,dd,dd,dd,dd,dd,dd,dd,dd,dd,dd,dd,dd,dd,dd,dd,dd,dd,dd,dd,dd,dd,dd,dd,dd,dd,dd,dd,dd,dd,dd,dd,dd,dd,dd,dd],[(2,{next:=2,l:=[some {e:=1,var:=true,fz:=false,sz:=0,cells:=[di 0,di 0,di 0, .d (.v (.slice none 0 0))]},none,none,none,none]}),(3,{next:=2,l:=[some {e:=1,var:=true,fz:=false,sz:=0,cells:=[di c,di s,di a, .d (.v (.slice none 0 0))]},none,none,none,none]})]⟩ (kp Ty [.cell 2 44] [] (λ q o=>iA q [sF ⟨c,s,a,L⟩]/\o=[])):=by
 simp only[f49,Option.getD,kK,Nat.reduceBEq,fB,eB,np,Option.none_or,Option.some_or,aQ]at hc;subst hc
 repeat'(first|(with_reducible first|refine aa _ _ ?_|refine ak ?_|refine ao ?_)|rw[af]|simp only[zY,Int.reduceEq,Int.reduceBEq,Int.reduceBNe,Nat.reduceSub,Nat.reduceEqDiff,Nat.reduceAdd,Nat.reduceMul,Nat.reduceLeDiff,Nat.reduceLT,Nat.reduceBEq,reduceCtorEq]|refine aj ?_|refine ag (λ hb=> ?_) (λ hb=> ?_)|(refine And.intro ?_ ?_;exact zI)|refine And.intro (λ hg=> ?_) (λ hg=> ?_)|exact zC|fail)
 refine gr (τ:=Nat×List bt) (λ t=>⟨[bE ns.length (aI ns),dd, .one (.ptr ⟨2,0,1⟩ 0), .one (.ptr ⟨3,0,1⟩ 0), .one (.own ⟨4,1,1⟩ 0 5),ai t.1,dd,dd,dd,dd,dd,dd,dd,dd,dd,dd,dd,dd,dd,dd,dd,dd,dd,dd,dd,dd,dd,dd,dd,dd,dd,dd,dd,dd,dd,dd,dd,dd,dd,dd,dd,dd,dd,dd,dd,dd,dd,dd,dd,dd,dd,dd,dd,dd,dd,dd,dd,dd,dd,dd,dd,dd,dd,dd,dd,dd,dd,dd,dd,dd,dd,dd,dd],[(2,{next:=2,l:=[some {e:=1,var:=true,fz:=false,sz:=0,cells:=[di 0,di 0,di 0, .d (.v (.slice none 0 0))]},none,none,none,none]}),(3,{next:=2,l:=[some {e:=1,var:=true,fz:=false,sz:=0,cells:=[di c,di s,di a, .own ⟨3,4,1⟩ 0 t.2.length]},none,none,none,some {e:=1,var:=false,fz:=false,sz:=2,cells:=(ch t.2).map C.d}]}),(27,⟨2,[]⟩),(4,{next:=2,l:=[none,some {e:=1,var:=false,fz:=false,sz:=1,cells:=([sD ⟨#[97]⟩,sD ⟨#[98]⟩,sD ⟨#[107,101,121,45,49]⟩,sD ⟨#[108,111,99,107]⟩,sD ⟨#[120]⟩]).map C.d}]}),(69,⟨2,[]⟩),(70,⟨2,[]⟩)]⟩)
  (λ t=>3≤t.1/\t.1≤8/\t.2.length≤4) (λ t=>g5 ns s (List.range' t.1 (8 - t.1)) t.2) (λ t=>8 - t.1) (3,[])
  ((Gh.N6 3 3 2 rfl).trans (Gh.canon [2,3,4] [69,70] [] zK rfl rfl)) ⟨Nat.le_refl _,by decide,by simp⟩ ?_
 intro⟨i,acc⟩ ⟨j1,j2,j3⟩ hF K hK;simp only at j1 j2 j3 hF hK⊢;cases hq:(((decide ((i:Int)<ns.length)&&decide ((i:Int)<8))&&decide (s>0))&&decide ((acc.length:Int)<4))
 .have hz:L=acc:=by rw[hL];refine hF.symm.trans (Mr ?_);simp only[Bool.and_eq_false_iff,iP]at hq⊢;omega
  rw[hz]
  repeat'(first|(with_reducible first|refine aa _ _ ?_|refine ak ?_|refine ao ?_)|rw[af]|simp only[hq,pw,zY,Int.reduceEq,Int.reduceBEq,Int.reduceBNe,Nat.reduceSub,Nat.reduceEqDiff,Nat.reduceAdd,Nat.reduceMul,Nat.reduceLeDiff,Nat.reduceLT,Nat.reduceBEq,reduceCtorEq]|refine aj ?_|refine ag (λ hb=> ?_) (λ hb=> ?_)|(refine And.intro ?_ ?_;exact zI)|refine And.intro (λ hg=> ?_) (λ hg=> ?_)|exact zC|fail)
  simp[iA,mA,gj,aN, -List.length_flatMap,en]
 .have hq2:=hq;simp only[cu,eo]at hq2;obtain⟨⟨⟨q1,q2⟩,q3⟩,q4⟩:=hq2;have hi:i<ns.length:=by omega
  have hat:=l8 hi;have hv:=ot hb i;have hm:=ta (m:=2) hv (by decide);have hw:IntKind.i64.wrap ((i:Int)+1)=((i+1:Nat):Int):=fv hi (by omega);have hw3:IntKind.i64.wrap ((i:Int) - 3)=((i - 3:Nat):Int):=by rw[wrap64 (by omega) (by omega)];omega
  have hw1:IntKind.i64.wrap (1+ns.getD i 0)=1+ns.getD i 0:=wrap64 (by have:=hv.1;omega) (by have:=hv.2;omega);have hw0:IntKind.i64.wrap (ns.getD i 0)=ns.getD i 0:=wrap64 (by have:=hv.1;omega) (by have:=hv.2;omega);obtain⟨rest,hnm⟩:=NN (k:=i - 3) (by omega);have hcl:(acc.length+1≤2^47)=True:=eN (by omega);have hst:=Mx (ses:=s) (acc:=acc) hi (by omega) q3 (by omega);rw[hst]at hF;cases hod:(ns.getD i 0 % 2==1)
  .rw[ar (by rw[hod];simp)]at hF
   repeat'(first|(with_reducible first|refine aa _ _ ?_|refine ak ?_|refine ao ?_)|rw[af]|simp only[hq,hat,eG,hm,hod,zY,Int.reduceEq,Int.reduceBEq,Int.reduceBNe,Nat.reduceSub,Nat.reduceEqDiff,Nat.reduceAdd,Nat.reduceMul,Nat.reduceLeDiff,Nat.reduceLT,Nat.reduceBEq,reduceCtorEq]|refine aj ?_|refine ag (λ hb=> ?_) (λ hb=> ?_)|(refine And.intro ?_ ?_;exact zI)|refine And.intro (λ hg=> ?_) (λ hg=> ?_)|exact zC|fail)
   exact hK _ (i+1,acc) (Gh.canon [2,3,4] [] [] (by simp only[hw,bN,bS,bW,bR,bT,bU,bV,bM,bO,bL,bH,bK,bX,D.v.injEq,bY];try(repeat'(first|rfl|omega|with_reducible apply And.intro))) rfl rfl) ⟨by simp only;omega,by simp only;omega,j3⟩ (by simp only;rw[hst,ar (by rw[hod];simp)]) (by simp only;omega)
  .repeat'(first|(with_reducible first|refine aa _ _ ?_|refine ak ?_|refine ao ?_)|rw[af]|simp only[hq,hat,eG,hm,hod,hw3,hw1,hw0,hnm,pw,en,hcl,zY,Int.reduceEq,Int.reduceBEq,Int.reduceBNe,Nat.reduceSub,Nat.reduceEqDiff,Nat.reduceAdd,Nat.reduceMul,Nat.reduceLeDiff,Nat.reduceLT,Nat.reduceBEq,reduceCtorEq]|refine aj ?_|refine ag (λ hb=> ?_) (λ hb=> ?_)|(refine And.intro ?_ ?_;exact zI)|refine And.intro (λ hg=> ?_) (λ hg=> ?_)|exact zC|fail)
   exact hK _ (i+1,acc++[⟨lW (i - 3),1+ns.getD i 0⟩]) (Gh.canon [2,3,4] [] [] (by simp only[hw,b6,gD,bN,bS,bW,bR,bT,bU,bV,bM,bO,bL,bH,bK,bX,D.v.injEq,bY];try(repeat'(first|rfl|omega|with_reducible apply And.intro))) rfl (by simp only[b6,gD];rw[ue];rfl)) ⟨by simp only;omega,by simp only;omega,by simp;omega⟩ (by simp only;rw[hst,ay (by rw[hod])]) (by simp only;omega)
theorem J1 (ns:List Int) (hl:ns.length<2^60) (hbs:∀x∈ns,bp x):ae prog 49 [.f (bE ns.length (aI ns))] (λ r o=>r=[sF (fA ns)]/\o=[]):=by
 refine ae.nil ?_;refine aR aO mixed (T:=Ty) (n:=73) func49 (c:=f49.body.getD .skip) rfl results49 ntmps49 call49 ?_;simp only[f49,Option.getD];have w0:∀k,IntKind.i64.wrap (ns.getD k 0)=ns.getD k 0:=λ k=>wrap64 (by have:=(ot hbs k).1;omega) (by have:=(ot hbs k).2;omega)
 have m0:=ta (m:=13) (ot hbs 0) (by decide);have m1:=ta (m:=5) (ot hbs 1) (by decide);have m2:=ta (m:=4) (ot hbs 2) (by decide);cases h2:decide ((ns.length:Int)>2)
 .have hz:fA ns=⟨0,0,0,[]⟩:=by rw[fA,ar (by simp at h2;omega)]
  rw[hz]
  repeat'(first|(with_reducible first|refine nf 6 ?_|refine mW 6 ?_|refine mX 6 ?_)|(with_reducible first|refine aa _ _ ?_|refine ak ?_|refine ao ?_)|rw[af]|simp only[h2,zY,Int.reduceEq,Int.reduceBEq,Int.reduceBNe,Nat.reduceSub,Nat.reduceEqDiff,Nat.reduceAdd,Nat.reduceMul,Nat.reduceLeDiff,Nat.reduceLT,Nat.reduceBEq,reduceCtorEq]|refine aj ?_|refine ag (λ hb=> ?_) (λ hb=> ?_)|(refine And.intro ?_ ?_;exact zI)|refine And.intro (λ hg=> ?_) (λ hg=> ?_)|exact zC|fail)
  exact BK (Gh.canon [2,3] [] [] zK rfl rfl) (ze ns hl hbs 0 0 0 [] (Bc (by decide)).symm _ rfl)
 .have h3:3≤ns.length:=by simp at h2;omega
  have a0:=l8 (l:=ns) (i:=0) (by omega);have a1:=l8 (l:=ns) (i:=1) (by omega);have a2:=l8 (l:=ns) (i:=2) (by omega);have l1:(1:Int)<ns.length:=by omega
  have l2:(2:Int)<ns.length:=by omega
  have hz:fA ns=⟨ns.getD 0 0 % 13,ns.getD 1 0 % 5,ns.getD 2 0 % 4,g5 ns (ns.getD 1 0 % 5) (List.range' 3 5) []⟩:=by rw[fA,ay (by omega)];rfl
  rw[hz];have t1:Int.toNat 1=1:=rfl;have t2:Int.toNat 2=2:=rfl
  repeat'(first|(with_reducible first|refine nf 6 ?_|refine mW 6 ?_|refine mX 6 ?_)|(with_reducible first|refine aa _ _ ?_|refine ak ?_|refine ao ?_)|rw[af]|simp only[h2,a0,a1,a2,t1,t2,eG,w0,m0,m1,m2,zY,Int.reduceEq,Int.reduceBEq,Int.reduceBNe,Nat.reduceSub,Nat.reduceEqDiff,Nat.reduceAdd,Nat.reduceMul,Nat.reduceLeDiff,Nat.reduceLT,Nat.reduceBEq,reduceCtorEq]|refine aj ?_|refine ag (λ hb=> ?_) (λ hb=> ?_)|(refine And.intro ?_ ?_;exact zJ)|refine And.intro (λ hg=> ?_) (λ hg=> ?_)|exact zC|fail)
  exact BK (Gh.canon [2,3] [] [] zK rfl rfl) (ze ns hl hbs _ _ _ _ rfl _ rfl)
structure hU where
 todo:Int
 time:Int
 kind:Int
 name:Int
 ns:List Int
 n:Int
 s:ByteArray
 raw:List Int
abbrev hU.enc (a:hU):List D:=[uD a.todo,uD a.time,uD a.kind,uD a.name, .sl a.ns.length (aI a.ns),iD a.n,sD a.s, .sl a.raw.length (aI a.raw)]
abbrev hU.aJ (a:hU):List C:=[.d (uD a.todo), .d (uD a.time), .d (uD a.kind), .d (uD a.name), .d (.sl a.ns.length (aI a.ns)),di a.n,dS a.s, .d (.sl a.raw.length (aI a.raw))]
structure oN (a:hU):Prop where
 d:bp a.todo
 t:bp a.time
 k:bp a.kind
 m:bp a.name
 l:a.ns.length<2^60
 b:∀x∈a.ns,bp x
 n:i64 a.n
 s:a.s.size<2^60
 rl:a.raw.length<2^60
 r:∀x∈a.raw,bp x
abbrev ie (l:List hU):List D:=l.flatMap hU.enc
theorem mT {l:List hU}:(ie l).length=l.length*8:=oG _ 8 (λ _=>rfl) l
theorem Au {l:List hU} {i:Nat} (hi:i<l.length):(ie l).drop (i*8)=l[i].enc++(ie (l.drop (i+1))):=sn _ 8 l i hi λ _=>rfl
def fP (k ses:Int) (a:hU):cB:=
 if a.kind % 4=0 then fA a.ns
 else if k=1 then⟨0,1+a.name % 5,0,[]⟩
 else if a.kind % 16=1 then⟨9,0,0,[]⟩
 else⟨([0,0,10,8]:List Int).getD (a.name % 4).toNat 0,max ses 1,(fA a.ns).ahead,if(fA a.ns).held=[]/\a.kind % 3=0 then [⟨fL a.name,1+a.time⟩]else(fA a.ns).held⟩
theorem zv {r:cB} (h1:0≤r.code/\r.code≤12) (h2:0≤r.aF/\r.aF≤2305843009213693952) (h3:0≤r.ahead/\r.ahead≤3) (h4:r.held.length≤4) (h5:r.aF=0->r.held=[]) (h6:fN (gP r.held) 0 r.held=true):dR r=true:=by
 unfold dR;have hH:ep=2305843009213693952:=rfl;simp only[h6,iQ,cu,jF,kU,iP,hH];refine⟨by omega,by omega, ?_⟩;cases h0:(r.aF==0)
 .rfl
 .rw[h5 (by simpa using h0)];rfl
theorem MV {s:ByteArray} {n:Int} (h:dF s=true) (hn:1≤n/\n≤2305843009213693952):fN (gP [⟨s,n⟩]) 0 [⟨s,n⟩]=true:=by
 refine uR λ i hi=> ?_
 have hi0:i=0:=by simpa using hi
 subst hi0;have hH:ep=2305843009213693952:=rfl;have e1:decide (n<1)=false:=by simp;omega
 have e2:decide (n>ep)=false:=by rw[hH];simp;omega
 simp only[List.getElem_cons_zero,gP];rw[h,e1,e2];rfl
theorem JD (ns:List Int) (hb:∀x∈ns,bp x):(fA ns).aF≤4:=by
 unfold fA;split
 .show kZ ns≤4;unfold kZ;omega
 .decide
theorem zn {k ses:Int} {a:hU} (ha:oN a) (hs:0≤ses/\ses≤7):dR (fP k ses a)=true/\0≤(fP k ses a).aF/\(fP k ses a).aF≤7:=by
 have h5:=Jl a.ns ha.b;obtain⟨f1,f2,f3,f4,f5⟩:=iY h5;have fs:=JD a.ns ha.b;have hm:=ha.m;have ht:=ha.t;unfold bp at hm ht;unfold fP;split
 .exact⟨h5,f2.1,by omega⟩
 .split
  .exact⟨zv (by simp) (by simp only;omega) (by simp) (by simp) (λ _=>rfl) rfl,by simp only;omega,by simp only;omega⟩
  .split
   .exact⟨rfl,by decide,by decide⟩
   .have hc:0≤([0,0,10,8]:List Int).getD (a.name % 4).toNat 0/\([0,0,10,8]:List Int).getD (a.name % 4).toNat 0≤12:=by rcases(show a.name % 4=0∨a.name % 4=1∨a.name % 4=2∨a.name % 4=3 by omega)with h|h|h|h<;>rw[h]<;>decide
    refine⟨zv hc (by simp only;omega) f3 ?_ (λ h=>by simp only at h;omega) ?_,by simp only;omega,by simp only;omega⟩
    .simp only;split
     .simp
     .exact f4
    .simp only;split
     .exact MV (rY _) (by omega)
     .exact f5
structure CI (K:Cl) (now:Int):Prop where
 c:m9 K.c
 r:1≤K.c.bw/\K.c.bw≤7
 i:0≤K.id/\K.id<8
 s:0≤K.aF/\K.aF≤7
 n:K.asks.length≤4
 a:∀a∈K.asks,mD a
 q:0≤K.seq/\K.seq≤1000
 t:0≤K.turn/\K.turn<K.c.bw
 l:0≤K.last/\K.last≤now
 f:0≤K.first/\K.first≤now
 w:now≤100000
 o:K.busy=true->br.may K.out=true/\K.out.ok/\K.out.bh=K.id/\K.out.seq=K.seq
 k:K.busy=true->(K.out.kind==1)=false->(K.out.kind==2)=false->K.asks≠[]
 h:K.has.length≤4
theorem CI.s6 {K:Cl} {now t:Int} (h:CI K now) (h1:now≤t) (h2:t≤100000):CI K t:=
 ⟨h.c,h.r,h.i,h.s,h.n,h.a,h.q,h.t,⟨h.l.1,by have:=h.l.2;omega⟩,⟨h.f.1,by have:=h.f.2;omega⟩,h2,h.o,h.k,h.h⟩
theorem BM (c:cU) (id:Int) (hc:m9 c) (hr:1≤c.bw/\c.bw≤7) (hi:0≤id/\id<8):CI (nQ c id) 0:=
 ⟨hc,hr,hi,(by decide:(0:Int)≤0/\(0:Int)≤7),dA _,λ a ha=>(by cases ha),(by decide:(0:Int)≤0/\(0:Int)≤1000),⟨qJ _ (by omega),qH _ (by omega)⟩,(by decide:(0:Int)≤0/\(0:Int)≤0),(by decide:(0:Int)≤0/\(0:Int)≤0),by decide,λ h=>(by cases h),λ h=>(by cases h),dA _⟩
theorem vr {K:Cl} {now k:Int} {s:ByteArray} (h:CI K now) (ha:mD ⟨k,0,s⟩):CI (dB K k s).1 now/\(dB K k s).1={K with asks:=(dB K k s).1.asks}:=by
 unfold dB;split
 .exact⟨h,rfl⟩
 .split
  .exact⟨h,rfl⟩
  .rename_i hl;refine⟨⟨h.c,h.r,h.i,h.s,by simp only[b6,gD];omega,λ a hm=> ?_,h.q,h.t,h.l,h.f,h.w,h.o,λ _ _ _=>by simp,h.h⟩,rfl⟩;rcases eE.1 hm with hm|hm
   .exact h.a a hm
   .rw[ji.1 hm];exact ha
theorem NU {l:List Cm} (h:∀a∈l,mD a):∀a∈ew l,mD a:=λ a ha=>h a (vx ha)
theorem vS {K:Cl} {now k n:Int} {s:ByteArray} (h:CI K now) (hq:K.seq<1000) (hm:ej k n s=true) (hk:(k==1)=false->(k==2)=false->K.asks≠[]):CI (iW K now k n s) now:=by
 obtain⟨h1,h2⟩:=tw K k n s ⟨h.q.1,by have:=h.q.2;omega⟩ h.i hm;have hn:0≤now:=by have:=h.l;omega
 exact⟨h.c,h.r,h.i,h.s,h.n,h.a,⟨by show 0≤K.seq+1;have:=h.q.1;omega,by show K.seq+1≤1000;omega⟩,h.t,⟨hn,Int.le_refl _⟩,⟨hn,Int.le_refl _⟩,h.w,λ _=>⟨h1,h2,rfl,rfl⟩,λ _=>hk,h.h⟩
structure kv (K K':Cl) (now:Int) (b:Bool):Prop where
 ci:CI K' now
 out:K.busy=true->K'.busy=true/\K'.out=K.out/\K'.seq=K.seq/\K'.first=K.first
 go:K.busy=false->K'.busy=b/\(b=true->K'.seq=K.seq+1/\K'.first=now)/\(b=false->K'.seq=K.seq)
 has:K'.has=K.has/\K'.cW=K.cW/\K'.aF=K.aF/\K'.id=K.id/\K'.c=K.c
 asks:∀a∈K'.asks,a∈K.asks
 kd:K.busy=false->b=true->(K'.out.kind=1↔K.aF=0)
theorem Lg {n:Int} (h1:1≤n) (h2:n≤7):ej 2 n .empty=true:=by
 have e1:decide (n≥1)=true:=by simp;omega
 have e2:decide (n≤2305843009213693952)=true:=by simp;omega
 have e3:(ByteArray.empty.toList==(⟨#[]⟩:ByteArray).toList)=true:=by kernel_rfl
 unfold ej;rw[e1,e2,e3];rfl
theorem kv.idle {K K':Cl} {now:Int} (hb:K.busy=false) (hb':K'.busy=false) (hc:CI K' now) (hs:K'.seq=K.seq) (hh:K'.has=K.has/\K'.cW=K.cW/\K'.aF=K.aF/\K'.id=K.id/\K'.c=K.c) (ha:∀a∈K'.asks,a∈K.asks):kv K K' now false:=
 ⟨hc,λ h1=>by(rw[hb]at h1;cases h1),λ _=>⟨hb',λ h=>by(cases h),λ _=>hs⟩,hh,ha,λ _ h=>by(cases h)⟩
theorem kv.lQ {K:Cl} {now k n:Int} {s:ByteArray} {as1:List Cm} (hb:K.busy=false) (hc:CI (iW {K with asks:=as1} now k n s) now) (ha:∀a∈as1,a∈K.asks) (hk:k=1↔K.aF=0):kv K (iW {K with asks:=as1} now k n s) now true:=
 ⟨hc,λ h1=>by(rw[hb]at h1;cases h1),λ _=>⟨rfl,λ _=>⟨rfl,rfl⟩,λ h=>by(cases h)⟩,⟨rfl,rfl,rfl,rfl,rfl⟩,ha,λ _ _=>hk⟩
theorem AD (K:Cl) (now:Int) (h:CI K now) (hq:K.seq<1000):∃K' b,kv K K' now b/\
  ae prog 13 [.obj K.ro, .f (ai now)] (λ r o=>r=(if b=true then [.one (.own 2 1 (oM K') false)]else [.one (.d (.v (.slice none 0 0)))])/\o=[K'.ro]):=by
 have hn:0≤now/\now≤2305843009213693952:=by have:=h.l;have:=h.w;omega
 have hl:0≤K.last/\K.last≤2305843009213693952:=by have:=h.l;have:=h.w;omega
 have hs60:0≤K.seq/\K.seq<2^60:=by have:=h.q;omega
 cases hb:K.busy
 .cases hs:(K.aF==0)
  .have hs1:K.aF≠0:=by simpa using hs
   have hs7:1≤K.aF/\K.aF≤7:=by have:=h.s;omega
   cases ha:K.asks with
   |nil=>
    have hm:ej 2 K.aF .empty=true:=Lg hs7.1 hs7.2;have hst:=LQ K now hn hs ha hb hs60 h.i hl hm;cases hk:mw K now
    .rw[hk]at hst;exact⟨K,false,kv.idle hb hb h rfl ⟨rfl,rfl,rfl,rfl,rfl⟩ (λ _ h=>h),hst⟩
    .rw[hk]at hst;exact⟨iW K now 2 K.aF .empty,true,kv.lQ hb (vS h hq hm (λ _ h=>by cases h)) (λ _ h=>h) ⟨λ h=>absurd h (by decide:¬(2:Int)=1),λ h=>absurd h hs1⟩,hst⟩
   |cons a l=>
    have haN:=h.a a (by rw[ha];simp);have hm:ej a.kind K.aF a.name=true:=NJ haN _ hs7;have hst:=Lt K now a l hn hs ha h.n hb hs60 h.i hm;have hk1:a.kind=1↔K.aF=0:=⟨λ h1=>by(have:=haN.k;omega),λ h1=>absurd h1 hs1⟩;exact⟨iW K now a.kind K.aF a.name,true,kv.lQ hb (vS h hq hm (λ _ _=>by rw[ha];simp)) (λ _ h=>h) hk1,hst⟩
  .have hs0:K.aF=0:=by simpa using hs
   have hst:=KN K now hn hs0 h.n hb hs60 h.i;have hd:CI {K with asks:=ew K.asks} now:=⟨h.c,h.r,h.i,h.s,by have:=Mc (l:=K.asks);have:=h.n;simp only;omega,NU h.a,h.q,h.t,h.l,h.f,h.w,λ h1=>by(have h1:K.busy=true:=h1;rw[hb]at h1;cases h1),λ h1=>by(have h1:K.busy=true:=h1;rw[hb]at h1;cases h1),h.h⟩;by_cases hg:(ew K.asks).length>0
   .rw[ay hg,ay hg]at hst;exact⟨iW {K with asks:=ew K.asks} now 1 0 .empty,true,kv.lQ hb (vS hd hq (by kernel_rfl) (λ h=>by cases h)) (λ _ h=>vx h) ⟨λ _=>hs0,λ _=>rfl⟩,hst⟩
   .rw[ar hg,ar hg]at hst;exact⟨{K with asks:=ew K.asks},false,kv.idle hb hb hd rfl ⟨rfl,rfl,rfl,rfl,rfl⟩ (λ _ h=>vx h),hst⟩
 .obtain⟨o1,o2,o3,o4⟩:=h.o hb;by_cases hw:now - K.last<K.c.eg
  .exact⟨K,false,⟨h,λ _=>⟨hb,rfl,rfl,rfl⟩,λ h1=>by(rw[hb]at h1;cases h1),⟨rfl,rfl,rfl,rfl,rfl⟩,λ _ h=>h,λ h1=>by(rw[hb]at h1;cases h1)⟩,LX K now hn hl hb hw⟩
  .refine⟨sL K now,true,⟨⟨h.c,h.r,h.i,h.s,h.n,h.a,h.q,⟨qJ _ (by have:=h.r;omega),qH _ (by have:=h.r;omega)⟩,⟨hn.1,Int.le_refl _⟩,h.f,h.w,h.o,h.k,h.h⟩,λ _=>⟨hb,rfl,rfl,rfl⟩,λ h1=>by(rw[hb]at h1;cases h1),⟨rfl,rfl,rfl,rfl,rfl⟩,λ _ h=>h,λ h1=>by(rw[hb]at h1;cases h1)⟩,JK K now hn hl hb hw o2 o1 h.r h.t⟩
theorem vo {K:Cl} {now:Int} {r:cB} (h:CI K now) (hb:K.busy=true) (hr:r.held.length≤4) (hs:0≤r.aF/\r.aF≤7):
  CI (gY K r) now/\(gY K r).busy=false/\(gY K r).seq=K.seq/\(gY K r).id=K.id/\(gY K r).c=K.c:=by
 have hno:∀b:Bool,CI (jY {K with busy:=false}) now:=λ _=>⟨h.c,h.r,h.i,(by decide:(0:Int)≤0/\(0:Int)≤7),h.n,h.a,h.q,h.t,h.l,h.f,h.w,λ h=>(by cases h),λ h=>(by cases h),dA _⟩
 have hta:K.asks.tail.length≤4:=by rw[List.length_tail];have:=h.n;omega
 have htm:∀a∈K.asks.tail,mD a:=λ a ha=>h.a a (List.mem_of_mem_tail ha)
 unfold gY;split
 .unfold m8;split
  .exact⟨⟨h.c,h.r,h.i,hs,h.n,h.a,h.q,h.t,h.l,h.f,h.w,λ h=>(by cases h),λ h=>(by cases h),hr⟩,rfl,rfl,rfl,rfl⟩
  .split
   .exact⟨⟨h.c,h.r,h.i,hs,h.n,h.a,h.q,h.t,h.l,h.f,h.w,λ h=>(by cases h),λ h=>(by cases h),hr⟩,rfl,rfl,rfl,rfl⟩
   .exact⟨⟨h.c,h.r,h.i,h.s,h.n,h.a,h.q,h.t,h.l,h.f,h.w,λ h=>(by cases h),λ h=>(by cases h),h.h⟩,rfl,rfl,rfl,rfl⟩
 .split
  .split
   .exact⟨⟨h.c,h.r,h.i,(by decide:(0:Int)≤0/\(0:Int)≤7),hta,htm,h.q,h.t,h.l,h.f,h.w,λ h=>(by cases h),λ h=>(by cases h),dA _⟩,rfl,rfl,rfl,rfl⟩
   .exact⟨hno true,rfl,rfl,rfl,rfl⟩
  .split
   .exact⟨⟨h.c,h.r,h.i,h.s,h.n,h.a,h.q,h.t,h.l,h.f,h.w,λ h=>(by cases h),λ h=>(by cases h),hr⟩,rfl,rfl,rfl,rfl⟩
   .split
    .exact⟨⟨h.c,h.r,h.i,(by decide:(0:Int)≤0/\(0:Int)≤7),hta,htm,h.q,h.t,h.l,h.f,h.w,λ h=>(by cases h),λ h=>(by cases h),dA _⟩,rfl,rfl,rfl,rfl⟩
    .exact⟨⟨h.c,h.r,h.i,h.s,hta,htm,h.q,h.t,h.l,h.f,h.w,λ h=>(by cases h),λ h=>(by cases h),hr⟩,rfl,rfl,rfl,rfl⟩
structure HI (K:Cl) (now fs0 sure:Int) (has:List bt):Prop where
 ci:CI K now
 fs:K.busy=true->K.first=fs0
 f:0≤fs0/\fs0≤now
 su: -1≤sure/\sure≤now
 cW:K.cW≤0∨(0≤sure/\K.cW≤sure+fQ K.c.aV K.c.aT)
 s0:K.aF=0->K.has=[]
 o1:K.busy=true->(K.out.kind=1↔K.aF=0)
 hs:K.has=[]∨K.has=has
theorem HI.s6 {K:Cl} {now t fs0 sure:Int} {has:List bt} (h:HI K now fs0 sure has) (h1:now≤t) (h2:t≤100000):HI K t fs0 sure has:=
 ⟨h.ci.s6 h1 h2,h.fs,⟨h.f.1,by have:=h.f.2;omega⟩,⟨h.su.1,by have:=h.su.2;omega⟩,h.cW,h.s0,h.o1,h.hs⟩
theorem Mf (c:cU) (id:Int) (hc:m9 c) (hr:1≤c.bw/\c.bw≤7) (hi:0≤id/\id<8):HI (nQ c id) 0 0 (-1) []:=
 ⟨BM c id hc hr hi,λ h=>(by cases h),by decide,by decide, .inl (Int.le_refl _),λ _=>rfl,λ h=>(by cases h), .inl rfl⟩
theorem HI.ask {K:Cl} {now fs0 sure k:Int} {has:List bt} {s:ByteArray} (h:HI K now fs0 sure has) (ha:mD ⟨k,0,s⟩):HI (dB K k s).1 now fs0 sure has:=by obtain⟨h1,h2⟩:=vr h.ci ha;obtain⟨l,hl⟩:∃l,l=(dB K k s).1.asks:=⟨_,rfl⟩;rw[←hl]at h2;rw[h2]at h1⊢;exact⟨h1,h.fs,h.f,h.su,h.cW,h.s0,h.o1,h.hs⟩
theorem HI.step {K K':Cl} {now fs0 sure:Int} {has:List bt} {b:Bool} (h:HI K now fs0 sure has) (hs:kv K K' now b):HI K' now (if K.busy=true then fs0 else now) sure has:=by
 obtain⟨e1,e2,e3,e4,e5⟩:=hs.has;have hn:0≤now:=by have:=h.f;omega
 cases hb:K.busy
 .obtain⟨g1,g2,g3⟩:=hs.go hb;rw[ar (by simp)];refine⟨hs.ci,λ h1=>(g2 (by rw[←g1];exact h1)).2,⟨hn,Int.le_refl _⟩,h.su, ?_, ?_,λ h1=> ?_, ?_⟩
  .rw[e2,e5];exact h.cW
  .rw[e3,e1];exact h.s0
  .rw[e3];exact hs.kd hb (by rw[←g1];exact h1)
  .rw[e1];exact h.hs
 .obtain⟨g1,g2,g3,g4⟩:=hs.out hb;rw[ay rfl];refine⟨hs.ci,λ _=>by rw[g4];exact h.fs hb,h.f,h.su, ?_, ?_,λ _=> ?_, ?_⟩
  .rw[e2,e5];exact h.cW
  .rw[e3,e1];exact h.s0
  .rw[e3,g2];exact h.o1 hb
  .rw[e1];exact h.hs
theorem HI.take {K:Cl} {now fs0 sure:Int} {has:List bt} {r:cB} (h:HI K now fs0 sure has) (hb:K.busy=true) (hr:dR r=true) (hs:r.aF≤7):
  HI (gY K r) now fs0 (max sure fs0) r.held:=by
 obtain⟨f1,f2,f3,f4,f5⟩:=iY hr;have hz:r.aF=0->r.held=[]:=by
  intro h0;unfold dR at hr;rw[h0]at hr;cases hl:r.held with
  |nil=>rfl
  |cons a l=>rw[hl]at hr;simp at hr
 obtain⟨t1,t2,t3,t4,t5⟩:=vo h.ci hb f4 ⟨f2.1,hs⟩;have hfs:=h.fs hb;have hsu: -1≤max sure fs0/\max sure fs0≤now:=by have:=h.su;have:=h.f;omega
 have h0:0≤max sure fs0:=by have:=h.f;omega
 have hti:K.cW≤0∨(0≤max sure fs0/\K.cW≤max sure fs0+fQ K.c.aV K.c.aT):=by
  rcases h.cW with h1|⟨h1,h2⟩
  .exact .inl h1
  .exact .inr ⟨h0,by omega⟩
 have hsq:kV K≤max sure fs0+fQ K.c.aV K.c.aT:=by unfold kV;rw[hfs];omega
 have hnb:(gY K r).busy=true->False:=λ h1=>by rw[t2]at h1;cases h1
 refine⟨t1,λ h1=>(hnb h1).elim,h.f,hsu, ?_, ?_,λ h1=>(hnb h1).elim, ?_⟩
 .rw[t5];unfold gY m8 jY;split
  .split
   .exact .inr ⟨h0,hsq⟩
   .split
    .exact .inl (Int.le_refl _)
    .exact hti
  .split
   .split
    .exact .inl (Int.le_refl _)
    .exact .inl (Int.le_refl _)
   .split
    .refine .inr ⟨h0, ?_⟩;have hsp:=(n8 h.ci.c.1 h.ci.c.2).1;show max K.cW (kV K)≤_;rcases hti with h1|h1<;>omega
    .split
     .exact .inl (Int.le_refl _)
     .refine .inr ⟨h0, ?_⟩;have hsp:=(n8 h.ci.c.1 h.ci.c.2).1;show max K.cW (kV K)≤_;rcases hti with h1|h1<;>omega
 .unfold gY m8 jY;split
  .split
   .exact hz
   .split
    .exact hz
    .exact h.s0
  .rename_i hk;have hk1:K.aF≠0:=λ h1=>hk (by simpa using(h.o1 hb).2 h1)
   split
   .split
    .exact λ _=>rfl
    .exact λ _=>rfl
   .split
    .exact λ h1=>absurd h1 hk1
    .split
     .exact λ _=>rfl
     .exact λ h1=>absurd h1 hk1
 .unfold gY m8 jY;split
  .rename_i hk;have hk1:K.has=[]:=h.s0 ((h.o1 hb).1 (by simpa using hk));split
   .exact .inr rfl
   .split
    .exact .inr rfl
    .exact .inl hk1
  .split
   .split
    .exact .inl rfl
    .exact .inl rfl
   .split
    .exact .inr rfl
    .split
     .exact .inl rfl
     .exact .inr rfl
theorem HI.held {K:Cl} {now fs0 sure:Int} {has:List bt} (h:HI K now fs0 sure has):
  (∀g∈jH K now,g∈has/\∀a∈K.asks,lL g a=false)/\(jH K now≠[]->0≤sure/\now - sure<fQ K.c.aV K.c.aT)/\jH K (now+fQ K.c.aV K.c.aT)=[]:=by
 have hsp:=(n8 h.ci.c.1 h.ci.c.2).1;have hn:0≤now:=by have:=h.f;omega
 refine⟨λ g hg=> ?_,λ hne=> ?_, ?_⟩
 .unfold jH at hg;split at hg
  .cases hg
  .unfold kW at hg;rw[List.mem_filter]at hg;refine⟨?_,λ a ha=> ?_⟩
   .rcases h.hs with h1|h1
    .rw[h1]at hg;cases hg.1
    .rw[←h1];exact hg.1
   .have:=hg.2;simp only[jF,List.any_eq_false]at this;simpa using this a ha
 .unfold jH at hne;split at hne
  .exact absurd rfl hne
  .rename_i hlt;rcases h.cW with h1|⟨h1,h2⟩
   .omega
   .exact⟨h1,by omega⟩
 .unfold jH;rw[ay];have:=h.su;rcases h.cW with h1|⟨h1,h2⟩<;>omega
def qm (n:Int):Int:=([0,0,10,8]:List Int).getD (n % 4).toNat 0
theorem J8 (n:Int):∃rest,List.drop (n % 4).toNat [C.d (iD 0),C.d (iD 0),C.d (iD 10),C.d (iD 8)]=C.d (iD (qm n))::rest:=by unfold qm;rcases(show n % 4=0∨n % 4=1∨n % 4=2∨n % 4=3 by omega)with h|h|h|h<;>rw[h]<;>exact⟨_,rfl⟩
theorem tm {n k:Int} (h:bp n):n.tmod k=n % k:=mZ h.1 k
theorem Bd (q:br) (ses:Int) (a:hU) (ha:oN a) (hs:0≤ses/\ses≤7):
  ae prog 19 [.f (.agg (q.enc.map C.d)), .f (ai ses), .f (.agg a.aJ)] (λ r o=>r=[sF (fP q.kind ses a)]/\o=[]):=by
 refine ae.nil ?_;refine aR aO mixed (T:=Ty) (n:=62) func19 (c:=f19.body.getD .skip) rfl results19 ntmps19 call19 ?_;simp only[f19,Option.getD];have h5:=J1 a.ns ha.l ha.b;have h4:=uQ a.name ha.m;have hk4:=tm (k:=4) ha.k;have hk16:=tm (k:=16) ha.k;have hk3:=tm (k:=3) ha.k;have hm5:=tm (k:=5) ha.m;have hm4:=tm (k:=4) ha.m;have hm:=ha.m;have ht:=ha.t;have hk:=ha.k;unfold bp at hm ht hk;have w1:IntKind.i64.wrap a.name=a.name:=wrap64 (by omega) (by omega);have w2:IntKind.i64.wrap (a.name % 5)=a.name % 5:=wrap64 (by omega) (by omega);have w3:IntKind.i64.wrap (1+a.name % 5)=1+a.name % 5:=wrap64 (by omega) (by omega);have w4:IntKind.i64.wrap a.time=a.time:=wrap64 (by omega) (by omega);have w5:IntKind.i64.wrap (1+a.time)=1+a.time:=wrap64 (by omega) (by omega);obtain⟨rest,hcd⟩:=J8 a.name;have hne:∀{x y:Int},(x==y)=false->¬x=y:=λ h=>by simpa using h
 have hpe:∀{x y:Int},(x==y)=true->x=y:=λ h=>by simpa using h
 cases c4:(a.kind % 4==0)
 .cases c1:(q.kind==1)
  .cases c16:(a.kind % 16==1)
   .cases c0:(((fA a.ns).held.length:Int)==0)
    .have hz:fP q.kind ses a=⟨qm a.name,max ses 1,(fA a.ns).ahead,(fA a.ns).held⟩:=by unfold fP;rw[ar (hne c4),ar (hne c1),ar (hne c16),ar (λ h=>by rw[h.1]at c0;cases c0)];rfl
     rw[hz]
     repeat'(first|(with_reducible first|refine aa _ _ ?_|refine ak ?_|refine ao ?_)|rw[af]|simp only[hk4,hk16,hk3,hm5,hm4,w1,w2,w3,w4,w5,c4,c1,c16,c0,hcd,zY,Int.reduceEq,Int.reduceBEq,Int.reduceBNe,Nat.reduceSub,Nat.reduceEqDiff,Nat.reduceAdd,Nat.reduceMul,Nat.reduceLeDiff,Nat.reduceLT,Nat.reduceBEq,reduceCtorEq]|((first|((try refine aD ?_);apply aE)|(apply aG;intro _));(solve|exact(h5)|(refine ae.le (h5) ?_;exact zM)|fail);try case hn=>rfl)|refine aj ?_|refine ag (λ hb=> ?_) (λ hb=> ?_)|(refine And.intro ?_ ?_;exact zI)|refine And.intro (λ hg=> ?_) (λ hg=> ?_)|exact zC|fail)
     simp[iA,mA,gj,aN, -List.length_flatMap]
    .have hn0:(fA a.ns).held=[]:=gT (by have:=hpe c0;omega);cases c3:(a.kind % 3==0)
     .have hz:fP q.kind ses a=⟨qm a.name,max ses 1,(fA a.ns).ahead,[]⟩:=by unfold fP;rw[ar (hne c4),ar (hne c1),ar (hne c16),ar (λ h=>(hne c3) h.2),hn0];rfl
      rw[hz]
      repeat'(first|(with_reducible first|refine aa _ _ ?_|refine ak ?_|refine ao ?_)|rw[af]|simp only[hk4,hk16,hk3,hm5,hm4,w1,w2,w3,w4,w5,c4,c1,c16,c0,c3,hcd,zY,Int.reduceEq,Int.reduceBEq,Int.reduceBNe,Nat.reduceSub,Nat.reduceEqDiff,Nat.reduceAdd,Nat.reduceMul,Nat.reduceLeDiff,Nat.reduceLT,Nat.reduceBEq,reduceCtorEq]|((first|((try refine aD ?_);apply aE)|(apply aG;intro _));(solve|exact(h5)|(refine ae.le (h5) ?_;exact zM)|fail);try case hn=>rfl)|refine aj ?_|refine ag (λ hb=> ?_) (λ hb=> ?_)|(refine And.intro ?_ ?_;exact zI)|refine And.intro (λ hg=> ?_) (λ hg=> ?_)|exact zC|fail)
      rw[hn0];simp[iA,mA,gj,aN, -List.length_flatMap]
     .have hz:fP q.kind ses a=⟨qm a.name,max ses 1,(fA a.ns).ahead,[⟨fL a.name,1+a.time⟩]⟩:=by unfold fP;rw[ar (hne c4),ar (hne c1),ar (hne c16),ay ⟨hn0,hpe c3⟩];rfl
      rw[hz]
      repeat'(first|(with_reducible first|refine aa _ _ ?_|refine ak ?_|refine ao ?_)|rw[af]|simp only[hk4,hk16,hk3,hm5,hm4,w1,w2,w3,w4,w5,c4,c1,c16,c0,c3,hcd,zY,Int.reduceEq,Int.reduceBEq,Int.reduceBNe,Nat.reduceSub,Nat.reduceEqDiff,Nat.reduceAdd,Nat.reduceMul,Nat.reduceLeDiff,Nat.reduceLT,Nat.reduceBEq,reduceCtorEq]|((first|((try refine aD ?_);apply aE)|(apply aG;intro _));(solve|exact(h5)|exact(h4)|(refine ae.le (h5) ?_;exact zM)|(refine ae.le (h4) ?_;exact zM)|fail);try case hn=>rfl)|refine aj ?_|refine ag (λ hb=> ?_) (λ hb=> ?_)|(refine And.intro ?_ ?_;exact zI)|refine And.intro (λ hg=> ?_) (λ hg=> ?_)|exact zC|fail)
      simp[iA,mA,gj,aN, -List.length_flatMap]
   .have hz:fP q.kind ses a=⟨9,0,0,[]⟩:=by unfold fP;rw[ar (hne c4),ar (hne c1),ay (hpe c16)]
    rw[hz]
    repeat'(first|(with_reducible first|refine aa _ _ ?_|refine ak ?_|refine ao ?_)|rw[af]|simp only[hk4,hk16,hk3,hm5,hm4,w1,w2,w3,w4,w5,c4,c1,c16,hcd,zY,Int.reduceEq,Int.reduceBEq,Int.reduceBNe,Nat.reduceSub,Nat.reduceEqDiff,Nat.reduceAdd,Nat.reduceMul,Nat.reduceLeDiff,Nat.reduceLT,Nat.reduceBEq,reduceCtorEq]|((first|((try refine aD ?_);apply aE)|(apply aG;intro _));(solve|exact(h5)|(refine ae.le (h5) ?_;exact zM)|fail);try case hn=>rfl)|refine aj ?_|refine ag (λ hb=> ?_) (λ hb=> ?_)|(refine And.intro ?_ ?_;exact zI)|refine And.intro (λ hg=> ?_) (λ hg=> ?_)|exact zC|fail)
    simp[iA,mA,gj,aN, -List.length_flatMap]
  .have hz:fP q.kind ses a=⟨0,1+a.name % 5,0,[]⟩:=by unfold fP;rw[ar (hne c4),ay (hpe c1)]
   rw[hz]
   repeat'(first|(with_reducible first|refine aa _ _ ?_|refine ak ?_|refine ao ?_)|rw[af]|simp only[hk4,hk16,hk3,hm5,hm4,w1,w2,w3,w4,w5,c4,c1,hcd,zY,Int.reduceEq,Int.reduceBEq,Int.reduceBNe,Nat.reduceSub,Nat.reduceEqDiff,Nat.reduceAdd,Nat.reduceMul,Nat.reduceLeDiff,Nat.reduceLT,Nat.reduceBEq,reduceCtorEq]|((first|((try refine aD ?_);apply aE)|(apply aG;intro _));(solve|exact(h5)|(refine ae.le (h5) ?_;exact zM)|fail);try case hn=>rfl)|refine aj ?_|refine ag (λ hb=> ?_) (λ hb=> ?_)|(refine And.intro ?_ ?_;exact zI)|refine And.intro (λ hg=> ?_) (λ hg=> ?_)|exact zC|fail)
   simp[iA,mA,gj,aN, -List.length_flatMap]
 .have hz:fP q.kind ses a=fA a.ns:=by unfold fP;rw[ay (hpe c4)]
  rw[hz]
  repeat'(first|(with_reducible first|refine aa _ _ ?_|refine ak ?_|refine ao ?_)|rw[af]|simp only[hk4,hk16,hk3,hm5,hm4,w1,w2,w3,w4,w5,c4,hcd,zY,Int.reduceEq,Int.reduceBEq,Int.reduceBNe,Nat.reduceSub,Nat.reduceEqDiff,Nat.reduceAdd,Nat.reduceMul,Nat.reduceLeDiff,Nat.reduceLT,Nat.reduceBEq,reduceCtorEq]|((first|((try refine aD ?_);apply aE)|(apply aG;intro _));(solve|exact(h5)|(refine ae.le (h5) ?_;exact zM)|fail);try case hn=>rfl)|refine aj ?_|refine ag (λ hb=> ?_) (λ hb=> ?_)|(refine And.intro ?_ ?_;exact zI)|refine And.intro (λ hg=> ?_) (λ hg=> ?_)|exact zC|fail)
  simp[iA,mA,gj,aN, -List.length_flatMap]
end Go.Proofs.YtiegkabcgokhkaaGreat
