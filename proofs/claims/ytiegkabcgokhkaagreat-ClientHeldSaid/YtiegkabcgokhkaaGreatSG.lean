import Derived.Test.YtiegkabcgokhkaaGreatK9
import Derived.Test.YtiegkabcgokhkaaGreatSA
set_option maxHeartbeats 8000000
namespace Go.Proofs.YtiegkabcgokhkaaGreat
open Go.Pk Tryz
set_option maxRecDepth 100000
set_option linter.unusedSimpArgs false
set_option linter.unusedVariables false
def mm (a:Cm):Bool:=a.kind==5||a.kind==6
def ew (l:List Cm):List Cm:=l.dropWhile mm
theorem MK:ew []=[]:=rfl
theorem BR {a:Cm} {l:List Cm} (h:mm a=true):ew (a::l)=ew l:=by unfold ew;rw[List.dropWhile_cons,ay h]
theorem Nm {a:Cm} {l:List Cm} (h:mm a=false):ew (a::l)=a::l:=by unfold ew;rw[List.dropWhile_cons,ar (by rw[h];simp)]
theorem Mc {l:List Cm}:(ew l).length≤l.length:=(List.dropWhile_sublist _).length_le
abbrev wv (K:Cl) (l:List Cm) (e nx:Nat):Nat×RS:=(0,{next:=nx,l:=[some {e:=0,var:=true,fz:=false,cw:=true,sz:=0,cells:=[di K.c.bw,di K.c.ey,di K.c.aV,di K.c.aT,di K.c.base,di K.c.cap,di K.c.fh,di K.c.wait,di K.c.fg,di K.c.eg,di K.c.b8,
 di K.id,di K.aF, .d (.sl K.has.length (ch K.has)),di K.cW, .own ⟨0,16,e⟩ 0 l.length,db K.busy,
 di K.out.bh,di K.out.seq,di K.out.kind,di K.out.aF,dS K.out.name,di K.first,db K.iF,di K.last,di K.seq,di K.turn]},none,none,none,none,none,none,none,none,none,none,none,none,none,none,none,
 some {e:=e,var:=false,fz:=false,cw:=true,sz:=3,cells:=(cH l).map C.d},none,none,none,none,none,none,none,none,none,none,none]})
theorem Lw (K:Cl) (now:Int) (hs:K.aF=0) (hL:K.asks.length≤4):
  ae prog 38 [.obj K.ro, .f (ai now)] (λ r o=>r=[.agg [.d (iD 1), .d (iD 0), .d (sD .empty)],rb (decide (((ew K.asks).length:Int)>0))]/\o=[({K with asks:=ew K.asks}:Cl).ro]):=by
 refine ae.gp ?_;refine aR aO mixed (T:=Ty) (n:=85) func38 (c:=f38.body.getD .skip) rfl results38 ntmps38 call38 ?_;simp only[f38,Option.getD];have h2:(K.aF==0)=true:=by rw[hs];rfl
 repeat'(first|(with_reducible first|refine aa _ _ ?_|refine ak ?_|refine ao ?_)|rw[af]|simp only[h2,zY,Int.reduceEq,Int.reduceBEq,Int.reduceBNe,Nat.reduceSub,Nat.reduceEqDiff,Nat.reduceAdd,Nat.reduceMul,Nat.reduceLeDiff,Nat.reduceLT,Nat.reduceBEq,reduceCtorEq]|refine aj ?_|refine ag (λ hb=> ?_) (λ hb=> ?_)|(refine And.intro ?_ ?_;exact zI)|refine And.intro (λ hg=> ?_) (λ hg=> ?_)|exact zC|fail)
 refine gr (τ:=List Cm×Nat×Nat) (λ t=>⟨[.one (.ptr ⟨0,0,0⟩ 0),dd,dd,dd, .one (.ptr ⟨4,0,1⟩ 0),dd,dd,dd,dd,dd,dd,dd,dd,dd,dd,dd,dd,dd,dd,dd,dd,dd,dd,dd,dd,dd,dd,dd,dd,dd,dd,dd,dd,dd,dd,dd,dd,dd,dd,dd,dd,dd,dd,dd,dd,dd,dd,dd,dd,dd,dd,dd,dd,dd,dd,dd,dd,dd,dd,dd,dd,dd,dd,dd,dd,dd,dd,dd,dd,dd,dd,dd,dd,dd,dd,dd,dd,dd,dd,dd,dd,dd,dd,dd,dd],[wv K t.1 t.2.1 t.2.2,(4,{next:=2,l:=[some {e:=1,var:=true,fz:=false,sz:=0,cells:=[di 0,di 0,dS .empty]},none,none,none]})]⟩)
  (λ t=>t.1.length≤4) (λ t=>ew t.1) (λ t=>t.1.length) (K.asks,0,1)
  (Gh.canon [0,4] [] [0] zK rfl rfl) hL ?_
 intro⟨l,e,nx⟩ hL0 hF Kx hK;simp only at hL0 hF hK⊢;cases l with
 |nil=>
  rw[MK]at hF;have h1:decide (((0:Nat):Int)>0)=false:=rfl;rw[←hF]
  repeat'(first|(with_reducible first|refine aa _ _ ?_|refine ak ?_|refine ao ?_)|rw[af]|simp only[h1,iq,zY,Int.reduceEq,Int.reduceBEq,Int.reduceBNe,Nat.reduceSub,Nat.reduceEqDiff,Nat.reduceAdd,Nat.reduceMul,Nat.reduceLeDiff,Nat.reduceLT,Nat.reduceBEq,reduceCtorEq]|refine aj ?_|refine ag (λ hb=> ?_) (λ hb=> ?_)|(refine And.intro ?_ ?_;exact zI)|refine And.intro (λ hg=> ?_) (λ hg=> ?_)|exact zC|fail)
  refine⟨cm, ?_⟩;simp[eK,dv,eF]
 |cons a l=>
  have hen:=vy a.kind;have h1:decide (((l.length+1:Nat):Int)>0)=true:=by simp
  have hat:cH (a::l)=iD a.kind::iD a.aF::sD a.name::cH l:=rfl;have hl3:((cH l).length+1+1+1=(a::l).length*3)=True:=eN (by rw[jZ,de];omega);cases he:mm a
  .rw[Nm he]at hF;unfold mm at he;rw[he]at hen;rw[←hF]
   repeat'(first|(with_reducible first|refine aa _ _ ?_|refine ak ?_|refine ao ?_)|rw[af]|simp only[h1,gB,hat,hl3,zY,Int.reduceEq,Int.reduceBEq,Int.reduceBNe,Nat.reduceSub,Nat.reduceEqDiff,Nat.reduceAdd,Nat.reduceMul,Nat.reduceLeDiff,Nat.reduceLT,Nat.reduceBEq,reduceCtorEq]|((first|((try refine aD ?_);apply aE)|(apply aG;intro _));(solve|exact(hen)|(refine ae.le (hen) ?_;exact zM)|fail);try case hn=>rfl)|refine aj ?_|refine ag (λ hb=> ?_) (λ hb=> ?_)|(refine And.intro ?_ ?_;exact zI)|refine And.intro (λ hg=> ?_) (λ hg=> ?_)|exact zC|fail)
   refine⟨⟨rN,by simp[wP,eF,h1],trivial⟩, ?_⟩;simp[eK,dv,eF]
  .unfold mm at he;rw[he]at hen;rw[BR (show mm a=true from he)]at hF
   repeat'(first|(with_reducible first|refine aa _ _ ?_|refine ak ?_|refine ao ?_)|rw[af]|simp only[h1,gB,hat,hl3,Nat.add_sub_cancel,zY,Int.reduceEq,Int.reduceBEq,Int.reduceBNe,Nat.reduceSub,Nat.reduceEqDiff,Nat.reduceAdd,Nat.reduceMul,Nat.reduceLeDiff,Nat.reduceLT,Nat.reduceBEq,reduceCtorEq]|((first|((try refine aD ?_);apply aE)|(apply aG;intro _));(solve|exact(hen)|(refine ae.le (hen) ?_;exact zM)|fail);try case hn=>rfl)|refine aj ?_|refine ag (λ hb=> ?_) (λ hb=> ?_)|(refine And.intro ?_ ?_;exact zI)|refine And.intro (λ hg=> ?_) (λ hg=> ?_)|exact zC|fail)
   refine hK _ (l,nx,nx+1) ((Gh.sR 0 15 1 l.length ?_).trans (Gh.canon [0,4] [] [0] zK rfl rfl)) ?_ ?_ ?_
   .exact⟨rfl,rfl,rfl⟩
   .simp only[de]at hL0⊢;omega
   .exact(BR (show mm a=true from he)).symm
   .simp only[de];omega
theorem LH (K:Cl) (now:Int) (a:Cm) (l:List Cm) (hs:(K.aF==0)=false) (ha:K.asks=a::l) (hL:K.asks.length≤4):
  ae prog 38 [.f K.at, .f (ai now)] (λ r o=>r=[.agg [.d (iD a.kind), .d (iD K.aF), .d (sD a.name)],rb true]/\o=[]):=by
 refine aR aO mixed (T:=Ty) (n:=85) func38 (c:=f38.body.getD .skip) rfl results38 ntmps38 call38 ?_;simp only[f38,Option.getD];have h1:decide ((K.asks.length:Int)>0)=true:=by rw[ha];simp
 have hat:cH K.asks=iD a.kind::iD a.aF::sD a.name::cH l:=by rw[ha];rfl
 have hl3:((cH l).length+1+1+1=K.asks.length*3)=True:=eN (by rw[jZ,ha,de];omega)
 repeat'(first|(with_reducible first|refine aa _ _ ?_|refine ak ?_|refine ao ?_)|rw[af]|simp only[hs,h1,gB,hat,hl3,zY,Int.reduceEq,Int.reduceBEq,Int.reduceBNe,Nat.reduceSub,Nat.reduceEqDiff,Nat.reduceAdd,Nat.reduceMul,Nat.reduceLeDiff,Nat.reduceLT,Nat.reduceBEq,reduceCtorEq]|refine aj ?_|refine ag (λ hb=> ?_) (λ hb=> ?_)|(refine And.intro ?_ ?_;exact zI)|refine And.intro (λ hg=> ?_) (λ hg=> ?_)|exact zC|fail)
def mw (K:Cl) (now:Int):Bool:= !K.iF||decide (now - K.last≥K.c.b8)
theorem Lm (K:Cl) (now:Int) (hs:(K.aF==0)=false) (ha:K.asks=[]) (h0:0≤now/\now≤2305843009213693952) (hl:0≤K.last/\K.last≤2305843009213693952):
  ae prog 38 [.f K.at, .f (ai now)] (λ r o=>r=[.agg [.d (iD 2), .d (iD K.aF), .d (sD .empty)],rb (mw K now)]/\o=[]):=by
 refine aR aO mixed (T:=Ty) (n:=85) func38 (c:=f38.body.getD .skip) rfl results38 ntmps38 call38 ?_;simp only[f38,Option.getD];have h1:decide ((K.asks.length:Int)>0)=false:=by rw[ha];simp
 have hw:IntKind.i64.wrap (now - K.last)=now - K.last:=wrap64 (by omega) (by omega);unfold mw;cases hse:K.iF
 .repeat'(first|(with_reducible first|refine aa _ _ ?_|refine ak ?_|refine ao ?_)|rw[af]|simp only[hs,h1,hse,zY,Int.reduceEq,Int.reduceBEq,Int.reduceBNe,Nat.reduceSub,Nat.reduceEqDiff,Nat.reduceAdd,Nat.reduceMul,Nat.reduceLeDiff,Nat.reduceLT,Nat.reduceBEq,reduceCtorEq]|refine aj ?_|refine ag (λ hb=> ?_) (λ hb=> ?_)|(refine And.intro ?_ ?_;exact zI)|refine And.intro (λ hg=> ?_) (λ hg=> ?_)|exact zC|fail)
 .repeat'(first|(with_reducible first|refine aa _ _ ?_|refine ak ?_|refine ao ?_)|rw[af]|simp only[hs,h1,hse,hw,zY,Int.reduceEq,Int.reduceBEq,Int.reduceBNe,Nat.reduceSub,Nat.reduceEqDiff,Nat.reduceAdd,Nat.reduceMul,Nat.reduceLeDiff,Nat.reduceLT,Nat.reduceBEq,reduceCtorEq]|refine aj ?_|refine ag (λ hb=> ?_) (λ hb=> ?_)|(refine And.intro ?_ ?_;exact zI)|refine And.intro (λ hg=> ?_) (λ hg=> ?_)|exact zC|fail)
def iW (K:Cl) (now:Int) (k n:Int) (s:ByteArray):Cl:={K with seq:=K.seq+1,busy:=true,first:=now,out:=⟨K.id,K.seq+1,k,n,s⟩,iF:=true,last:=now}
theorem tw (K:Cl) (k n:Int) (s:ByteArray) (hq:0≤K.seq/\K.seq<2^60) (hid:0≤K.id/\K.id<8) (hm:ej k n s=true):br.may ⟨K.id,K.seq+1,k,n,s⟩=true/\(⟨K.id,K.seq+1,k,n,s⟩:br).ok:=by obtain⟨f1,f2,f3,f4,f5⟩:=mN hm;have hH:ep=2305843009213693952:=rfl;refine⟨?_,by simp only[i64];omega,by simp only[i64];omega,by simp only[i64];omega,by simp only[i64];omega,by simp only;omega⟩;unfold br.may;simp only[hm,hH,iQ,cu,eo];omega
theorem KN (K:Cl) (now:Int) (h0:0≤now/\now≤2305843009213693952) (hs:K.aF=0) (hL:K.asks.length≤4) (hb:K.busy=false) (hq:0≤K.seq/\K.seq<2^60) (hid:0≤K.id/\K.id<8):
  ae prog 13 [.obj K.ro, .f (ai now)] (λ r o=>
   r=(if(ew K.asks).length>0 then [.one (.own 2 1 (oM (iW {K with asks:=ew K.asks} now 1 0 .empty)) false)]else [.one (.d (.v (.slice none 0 0)))])/\
   o=[(if(ew K.asks).length>0 then iW {K with asks:=ew K.asks} now 1 0 .empty else {K with asks:=ew K.asks}).ro]):=by
 refine ae.gp ?_;refine aR aO mixed (T:=Ty) (n:=82) func13 (c:=f13.body.getD .skip) rfl results13 ntmps13 call13 ?_;simp only[f13,Option.getD];have h3:IntKind.i64.wrap (K.seq+1)=K.seq+1:=wrap64 (by omega) (by omega);obtain⟨hmr,hrk⟩:=tw K 1 0 .empty hq hid (by unfold ej;simp);have hnx:=Lw {K with busy:=false} now hs hL;cases hd:decide (((ew K.asks).length:Int)>0)
 .rw[ar (by simpa using hd),ar (by simpa using hd)];simp only[hd]at hnx
  repeat'(first|(with_reducible first|refine aa _ _ ?_|refine ak ?_|refine ao ?_)|rw[af]|simp only[hb,zY,Int.reduceEq,Int.reduceBEq,Int.reduceBNe,Nat.reduceSub,Nat.reduceEqDiff,Nat.reduceAdd,Nat.reduceMul,Nat.reduceLeDiff,Nat.reduceLT,Nat.reduceBEq,reduceCtorEq]|((first|((try refine aD ?_);apply aE)|(apply aG;intro _));(solve|exact(fy now h0)|(refine ae.le (fy now h0) ?_;exact zM)|fail);try case hn=>rfl)|refine aj ?_|refine ag (λ hb=> ?_) (λ hb=> ?_)|(refine And.intro ?_ ?_;exact zI)|refine And.intro (λ hg=> ?_) (λ hg=> ?_)|exact zC|fail)
  refine jc (mv:= ?mv1) (aJ:= ?le1) 0 ?ha1 (hnx) ?hb1 ?hc1
  case ha1=>(try simp only[zB,du,Nat.reduceSub,Nat.reduceEqDiff,Nat.reduceAdd,Nat.reduceMul,Nat.reduceLeDiff,Nat.reduceLT,Nat.reduceBEq,reduceCtorEq]);exact rfl
  case hb1=>(try simp only[zB,bA,Nat.reduceSub,Nat.reduceEqDiff,Nat.reduceAdd,Nat.reduceMul,Nat.reduceLeDiff,Nat.reduceLT,Nat.reduceBEq,reduceCtorEq]);repeat'(first|rfl|trivial|omega|with_reducible refine And.intro ?_ ?_)
  show aP _ _ _ _ _ _ _ _
  repeat'(first|(with_reducible first|refine aa _ _ ?_|refine ak ?_|refine ao ?_)|rw[af]|simp only[zY,Int.reduceEq,Int.reduceBEq,Int.reduceBNe,Nat.reduceSub,Nat.reduceEqDiff,Nat.reduceAdd,Nat.reduceMul,Nat.reduceLeDiff,Nat.reduceLT,Nat.reduceBEq,reduceCtorEq]|refine aj ?_|refine ag (λ hb=> ?_) (λ hb=> ?_)|(refine And.intro ?_ ?_;exact zI)|refine And.intro (λ hg=> ?_) (λ hg=> ?_)|exact zC|fail)
  refine⟨cm, ?_⟩;simp[eK,dv,eF,hb]
 .have hgt:(ew K.asks).length>0:=by simpa using hd
  rw[ay hgt,ay hgt];simp only[hd]at hnx;have hsd:=r9 {K with asks:=ew K.asks,seq:=K.seq+1,busy:=true,first:=now,out:=⟨K.id,K.seq+1,1,0, .empty⟩} now hrk hmr
  repeat'(first|(with_reducible first|refine aa _ _ ?_|refine ak ?_|refine ao ?_)|rw[af]|simp only[hb,zY,Int.reduceEq,Int.reduceBEq,Int.reduceBNe,Nat.reduceSub,Nat.reduceEqDiff,Nat.reduceAdd,Nat.reduceMul,Nat.reduceLeDiff,Nat.reduceLT,Nat.reduceBEq,reduceCtorEq]|((first|((try refine aD ?_);apply aE)|(apply aG;intro _));(solve|exact(fy now h0)|(refine ae.le (fy now h0) ?_;exact zM)|fail);try case hn=>rfl)|refine aj ?_|refine ag (λ hb=> ?_) (λ hb=> ?_)|(refine And.intro ?_ ?_;exact zI)|refine And.intro (λ hg=> ?_) (λ hg=> ?_)|exact zC|fail)
  refine jc (mv:= ?mv2) (aJ:= ?le2) 0 ?ha2 (hnx) ?hb2 ?hc2
  case ha2=>(try simp only[zB,du,Nat.reduceSub,Nat.reduceEqDiff,Nat.reduceAdd,Nat.reduceMul,Nat.reduceLeDiff,Nat.reduceLT,Nat.reduceBEq,reduceCtorEq]);exact rfl
  case hb2=>(try simp only[zB,bA,Nat.reduceSub,Nat.reduceEqDiff,Nat.reduceAdd,Nat.reduceMul,Nat.reduceLeDiff,Nat.reduceLT,Nat.reduceBEq,reduceCtorEq]);repeat'(first|rfl|trivial|omega|with_reducible refine And.intro ?_ ?_)
  show aP _ _ _ _ _ _ _ _
  repeat'(first|(with_reducible first|refine aa _ _ ?_|refine ak ?_|refine ao ?_)|rw[af]|simp only[h3,zY,Int.reduceEq,Int.reduceBEq,Int.reduceBNe,Nat.reduceSub,Nat.reduceEqDiff,Nat.reduceAdd,Nat.reduceMul,Nat.reduceLeDiff,Nat.reduceLT,Nat.reduceBEq,reduceCtorEq]|refine aj ?_|refine ag (λ hb=> ?_) (λ hb=> ?_)|(refine And.intro ?_ ?_;exact zI)|refine And.intro (λ hg=> ?_) (λ hg=> ?_)|exact zC|fail)
  refine jc (mv:= ?mv3) (aJ:= ?le3) 0 ?ha3 (hsd) ?hb3 ?hc3
  case ha3=>(try simp only[zB,du,aS,Nat.reduceSub,Nat.reduceEqDiff,Nat.reduceAdd,Nat.reduceMul,Nat.reduceLeDiff,Nat.reduceLT,Nat.reduceBEq,reduceCtorEq]);exact rfl
  case hb3=>(try simp only[zB,bA,aS,Nat.reduceSub,Nat.reduceEqDiff,Nat.reduceAdd,Nat.reduceMul,Nat.reduceLeDiff,Nat.reduceLT,Nat.reduceBEq,reduceCtorEq]);repeat'(first|rfl|trivial|omega|with_reducible refine And.intro ?_ ?_)
  show aP _ _ _ _ _ _ _ _
  repeat'(first|(with_reducible first|refine aa _ _ ?_|refine ak ?_|refine ao ?_)|rw[af]|simp only[zY,Int.reduceEq,Int.reduceBEq,Int.reduceBNe,Nat.reduceSub,Nat.reduceEqDiff,Nat.reduceAdd,Nat.reduceMul,Nat.reduceLeDiff,Nat.reduceLT,Nat.reduceBEq,reduceCtorEq]|refine aj ?_|refine ag (λ hb=> ?_) (λ hb=> ?_)|(refine And.intro ?_ ?_;exact zI)|refine And.intro (λ hg=> ?_) (λ hg=> ?_)|exact zC|fail)
  exact⟨rfl,cm,dj⟩
theorem Lt (K:Cl) (now:Int) (a:Cm) (l:List Cm) (h0:0≤now/\now≤2305843009213693952) (hs:(K.aF==0)=false) (ha:K.asks=a::l) (hL:K.asks.length≤4) (hb:K.busy=false) (hq:0≤K.seq/\K.seq<2^60) (hid:0≤K.id/\K.id<8)
  (hm:ej a.kind K.aF a.name=true):
  ae prog 13 [.obj K.ro, .f (ai now)] (λ r o=>r=[.one (.own 2 1 (oM (iW K now a.kind K.aF a.name)) false)]/\o=[(iW K now a.kind K.aF a.name).ro]):=by
 refine ae.gp ?_;refine aR aO mixed (T:=Ty) (n:=82) func13 (c:=f13.body.getD .skip) rfl results13 ntmps13 call13 ?_;simp only[f13,Option.getD];have h3:IntKind.i64.wrap (K.seq+1)=K.seq+1:=wrap64 (by omega) (by omega);obtain⟨hmr,hrk⟩:=tw K a.kind K.aF a.name hq hid hm;have hnx:=LH {K with busy:=false} now a l hs ha hL;have hsd:=r9 {K with seq:=K.seq+1,busy:=true,first:=now,out:=⟨K.id,K.seq+1,a.kind,K.aF,a.name⟩} now hrk hmr
 repeat'(first|(with_reducible first|refine aa _ _ ?_|refine ak ?_|refine ao ?_)|rw[af]|simp only[hb,h3,aS,zY,Int.reduceEq,Int.reduceBEq,Int.reduceBNe,Nat.reduceSub,Nat.reduceEqDiff,Nat.reduceAdd,Nat.reduceMul,Nat.reduceLeDiff,Nat.reduceLT,Nat.reduceBEq,reduceCtorEq]|((first|((try refine aD ?_);apply aE)|(apply aG;intro _));(solve|exact(fy now h0)|exact(hnx)|(refine ae.le (fy now h0) ?_;exact zM)|(refine ae.le (hnx) ?_;exact zM)|fail);try case hn=>rfl)|refine aj ?_|refine ag (λ hb=> ?_) (λ hb=> ?_)|(refine And.intro ?_ ?_;exact zI)|refine And.intro (λ hg=> ?_) (λ hg=> ?_)|exact zC|fail)
 refine jc (mv:= ?mv4) (aJ:= ?le4) 0 ?ha4 (hsd) ?hb4 ?hc4
 case ha4=>(try simp only[zB,du,aS,Nat.reduceSub,Nat.reduceEqDiff,Nat.reduceAdd,Nat.reduceMul,Nat.reduceLeDiff,Nat.reduceLT,Nat.reduceBEq,reduceCtorEq]);exact rfl
 case hb4=>(try simp only[zB,bA,aS,Nat.reduceSub,Nat.reduceEqDiff,Nat.reduceAdd,Nat.reduceMul,Nat.reduceLeDiff,Nat.reduceLT,Nat.reduceBEq,reduceCtorEq]);repeat'(first|rfl|trivial|omega|with_reducible refine And.intro ?_ ?_)
 show aP _ _ _ _ _ _ _ _
 repeat'(first|(with_reducible first|refine aa _ _ ?_|refine ak ?_|refine ao ?_)|rw[af]|simp only[zY,Int.reduceEq,Int.reduceBEq,Int.reduceBNe,Nat.reduceSub,Nat.reduceEqDiff,Nat.reduceAdd,Nat.reduceMul,Nat.reduceLeDiff,Nat.reduceLT,Nat.reduceBEq,reduceCtorEq]|refine aj ?_|refine ag (λ hb=> ?_) (λ hb=> ?_)|(refine And.intro ?_ ?_;exact zI)|refine And.intro (λ hg=> ?_) (λ hg=> ?_)|exact zC|fail)
 exact⟨rfl,cm,dj⟩
theorem LQ (K:Cl) (now:Int) (h0:0≤now/\now≤2305843009213693952) (hs:(K.aF==0)=false) (ha:K.asks=[]) (hb:K.busy=false) (hq:0≤K.seq/\K.seq<2^60) (hid:0≤K.id/\K.id<8)
  (hl:0≤K.last/\K.last≤2305843009213693952) (hm:ej 2 K.aF .empty=true):
  ae prog 13 [.obj K.ro, .f (ai now)] (λ r o=>
   r=(if mw K now=true then [.one (.own 2 1 (oM (iW K now 2 K.aF .empty)) false)]else [.one (.d (.v (.slice none 0 0)))])/\o=[(if mw K now=true then iW K now 2 K.aF .empty else K).ro]):=by
 refine ae.gp ?_;refine aR aO mixed (T:=Ty) (n:=82) func13 (c:=f13.body.getD .skip) rfl results13 ntmps13 call13 ?_;simp only[f13,Option.getD];have h3:IntKind.i64.wrap (K.seq+1)=K.seq+1:=wrap64 (by omega) (by omega);obtain⟨hmr,hrk⟩:=tw K 2 K.aF .empty hq hid hm;have hnx:=Lm {K with busy:=false} now hs ha h0 hl;have hkb:mw {K with busy:=false} now=mw K now:=rfl;rw[hkb]at hnx;cases hd:mw K now
 .rw[ar (by simp),ar (by simp)];rw[hd]at hnx
  repeat'(first|(with_reducible first|refine aa _ _ ?_|refine ak ?_|refine ao ?_)|rw[af]|simp only[hb,aS,zY,Int.reduceEq,Int.reduceBEq,Int.reduceBNe,Nat.reduceSub,Nat.reduceEqDiff,Nat.reduceAdd,Nat.reduceMul,Nat.reduceLeDiff,Nat.reduceLT,Nat.reduceBEq,reduceCtorEq]|((first|((try refine aD ?_);apply aE)|(apply aG;intro _));(solve|exact(fy now h0)|exact(hnx)|(refine ae.le (fy now h0) ?_;exact zM)|(refine ae.le (hnx) ?_;exact zM)|fail);try case hn=>rfl)|refine aj ?_|refine ag (λ hb=> ?_) (λ hb=> ?_)|(refine And.intro ?_ ?_;exact zI)|refine And.intro (λ hg=> ?_) (λ hg=> ?_)|exact zC|fail)
  refine⟨cm, ?_⟩;simp[eK,dv,eF,hb]
 .rw[ay rfl,ay rfl];rw[hd]at hnx;have hsd:=r9 {K with seq:=K.seq+1,busy:=true,first:=now,out:=⟨K.id,K.seq+1,2,K.aF, .empty⟩} now hrk hmr
  repeat'(first|(with_reducible first|refine aa _ _ ?_|refine ak ?_|refine ao ?_)|rw[af]|simp only[hb,h3,aS,zY,Int.reduceEq,Int.reduceBEq,Int.reduceBNe,Nat.reduceSub,Nat.reduceEqDiff,Nat.reduceAdd,Nat.reduceMul,Nat.reduceLeDiff,Nat.reduceLT,Nat.reduceBEq,reduceCtorEq]|((first|((try refine aD ?_);apply aE)|(apply aG;intro _));(solve|exact(fy now h0)|exact(hnx)|(refine ae.le (fy now h0) ?_;exact zM)|(refine ae.le (hnx) ?_;exact zM)|fail);try case hn=>rfl)|refine aj ?_|refine ag (λ hb=> ?_) (λ hb=> ?_)|(refine And.intro ?_ ?_;exact zI)|refine And.intro (λ hg=> ?_) (λ hg=> ?_)|exact zC|fail)
  refine jc (mv:= ?mv5) (aJ:= ?le5) 0 ?ha5 (hsd) ?hb5 ?hc5
  case ha5=>(try simp only[zB,du,aS,Nat.reduceSub,Nat.reduceEqDiff,Nat.reduceAdd,Nat.reduceMul,Nat.reduceLeDiff,Nat.reduceLT,Nat.reduceBEq,reduceCtorEq]);exact rfl
  case hb5=>(try simp only[zB,bA,aS,Nat.reduceSub,Nat.reduceEqDiff,Nat.reduceAdd,Nat.reduceMul,Nat.reduceLeDiff,Nat.reduceLT,Nat.reduceBEq,reduceCtorEq]);repeat'(first|rfl|trivial|omega|with_reducible refine And.intro ?_ ?_)
  show aP _ _ _ _ _ _ _ _
  repeat'(first|(with_reducible first|refine aa _ _ ?_|refine ak ?_|refine ao ?_)|rw[af]|simp only[zY,Int.reduceEq,Int.reduceBEq,Int.reduceBNe,Nat.reduceSub,Nat.reduceEqDiff,Nat.reduceAdd,Nat.reduceMul,Nat.reduceLeDiff,Nat.reduceLT,Nat.reduceBEq,reduceCtorEq]|refine aj ?_|refine ag (λ hb=> ?_) (λ hb=> ?_)|(refine And.intro ?_ ?_;exact zI)|refine And.intro (λ hg=> ?_) (λ hg=> ?_)|exact zC|fail)
  exact⟨rfl,cm,dj⟩
def fQ (aV aT:Int):Int:=aV*(1000 - aT) / (1000+aT)
def m9 (c:cU):Prop:=(1≤c.aV/\c.aV≤1000000)/\(0≤c.aT/\c.aT≤200)
theorem n8 {aV aT:Int} (h1:1≤aV/\aV≤1000000) (h2:0≤aT/\aT≤200):0≤fQ aV aT/\fQ aV aT≤1000000000/\0≤aV*(1000 - aT)/\aV*(1000 - aT)≤1000000000:=by have h3:0≤aV*(1000 - aT):=Int.mul_nonneg (by omega) (by omega);have h4:aV*(1000 - aT)≤1000000*1000:=Int.mul_le_mul (by omega) (by omega) (by omega) (by omega);have h5:fQ aV aT≤aV*(1000 - aT):=Int.ediv_le_self _ h3;have h6:0≤fQ aV aT:=Int.ediv_nonneg h3 (by omega);exact⟨h6,by omega,h3,by omega⟩
theorem vD (aV aT:Int) (h1:1≤aV/\aV≤1000000) (h2:0≤aT/\aT≤200):ae prog 21 [.f (ai aV), .f (ai aT)] (λ r o=>r=[ri (fQ aV aT)]/\o=[]):=by
 refine aR aO mixed (T:=Ty) (n:=26) func21 (c:=f21.body.getD .skip) rfl results21 ntmps21 call21 ?_;simp only[f21,Option.getD];obtain⟨b1,b2,b3,b4⟩:=n8 h1 h2;have e1:decide (aV<1)=false:=by simp;omega
 have e2:decide (aV>1000000)=false:=by simp;omega
 have e3:decide (aT<0)=false:=by simp;omega
 have e4:decide (aT>200)=false:=by simp;omega
 have w1:IntKind.i64.wrap (1000 - aT)=1000 - aT:=wrap64 (by omega) (by omega);have w2:IntKind.i64.wrap (aV*(1000 - aT))=aV*(1000 - aT):=wrap64 (by omega) (by omega);have w3:IntKind.i64.wrap (1000+aT)=1000+aT:=wrap64 (by omega) (by omega);have w4:(aV*(1000 - aT)).tdiv (1000+aT)=fQ aV aT:=Int.tdiv_eq_ediv_of_nonneg b3;have w5:IntKind.i64.wrap (fQ aV aT)=fQ aV aT:=wrap64 (by omega) (by omega);have hne:(1000+aT)≠0:=by omega
 repeat'(first|(with_reducible first|refine aa _ _ ?_|refine ak ?_|refine ao ?_)|rw[af]|simp only[e1,e2,e3,e4,w1,w2,w3,ar hne,w4,w5,zY,Int.reduceEq,Int.reduceBEq,Int.reduceBNe,Nat.reduceSub,Nat.reduceEqDiff,Nat.reduceAdd,Nat.reduceMul,Nat.reduceLeDiff,Nat.reduceLT,Nat.reduceBEq,reduceCtorEq]|refine aj ?_|refine ag (λ hb=> ?_) (λ hb=> ?_)|(refine And.intro ?_ ?_;exact zI)|refine And.intro (λ hg=> ?_) (λ hg=> ?_)|exact zC|fail)
theorem zU (n aV aT:Int) (h0:0≤n/\n≤2305843009213693952) (h1:1≤aV/\aV≤1000000) (h2:0≤aT/\aT≤200):
  ae prog 47 [.f (ai n), .f (ai aV), .f (ai aT)] (λ r o=>r=[ri (n+fQ aV aT)]/\o=[]):=by
 refine aR aO mixed (T:=Ty) (n:=18) func47 (c:=f47.body.getD .skip) rfl results47 ntmps47 call47 ?_;simp only[f47,Option.getD];obtain⟨b1,b2,b3,b4⟩:=n8 h1 h2;have e1:decide (n<0)=false:=by simp;omega
 have e2:decide (n>2305843009213693952)=false:=by simp;omega
 have w1:IntKind.i64.wrap (n+fQ aV aT)=n+fQ aV aT:=wrap64 (by omega) (by omega)
 repeat'(first|(with_reducible first|refine aa _ _ ?_|refine ak ?_|refine ao ?_)|rw[af]|simp only[e1,e2,w1,zY,Int.reduceEq,Int.reduceBEq,Int.reduceBNe,Nat.reduceSub,Nat.reduceEqDiff,Nat.reduceAdd,Nat.reduceMul,Nat.reduceLeDiff,Nat.reduceLT,Nat.reduceBEq,reduceCtorEq]|((first|((try refine aD ?_);apply aE)|(apply aG;intro _));(solve|exact(vD aV aT h1 h2)|(refine ae.le (vD aV aT h1 h2) ?_;exact zM)|fail);try case hn=>rfl)|refine aj ?_|refine ag (λ hb=> ?_) (λ hb=> ?_)|(refine And.intro ?_ ?_;exact zI)|refine And.intro (λ hg=> ?_) (λ hg=> ?_)|exact zC|fail)
def kV (K:Cl):Int:=K.first+fQ K.c.aV K.c.aT
def m8 (K:Cl) (r:cB):Cl:=
 if(r.code==0)=true then {K with aF:=r.aF,has:=r.held,cW:=kV K}else if(r.code==7)=true then {K with aF:=r.aF,has:=r.held,cW:=0}else K
def jY (K:Cl):Cl:={K with aF:=0,has:=[],cW:=0}
theorem xY (K:Cl) (hL:K.asks.length<2^30):ae prog 45 [.obj K.ro] (λ r o=>r=[]/\o=[(jY K).ro]):=by
 refine ae.gp ?_;refine aR aO mixed (T:=Ty) (n:=11) func45 (c:=f45.body.getD .skip) rfl results45 ntmps45 call45 ?_;simp only[f45,Option.getD]
 repeat'(first|(with_reducible first|refine aa _ _ ?_|refine ak ?_|refine ao ?_)|rw[af]|simp only[zY,Int.reduceEq,Int.reduceBEq,Int.reduceBNe,Nat.reduceSub,Nat.reduceEqDiff,Nat.reduceAdd,Nat.reduceMul,Nat.reduceLeDiff,Nat.reduceLT,Nat.reduceBEq,reduceCtorEq]|refine aj ?_|refine ag (λ hb=> ?_) (λ hb=> ?_)|(refine And.intro ?_ ?_;exact zI)|refine And.intro (λ hg=> ?_) (λ hg=> ?_)|exact zC|fail)
 refine⟨trivial, ?_⟩;simp[eK,dv,eF,jY]
theorem KF (K:Cl) (r:cB) (hl:m9 K.c) (hf:0≤K.first/\K.first≤2305843009213693952):ae prog 44 [.obj K.ro, .f (.agg (vK r))] (λ x o=>x=[]/\o=[(m8 K r).ro]):=by
 refine ae.gp ?_;refine aR aO mixed (T:=Ty) (n:=51) func44 (c:=f44.body.getD .skip) rfl results44 ntmps44 call44 ?_;simp only[f44,Option.getD];unfold m8;have hu:=zU K.first K.c.aV K.c.aT hf hl.1 hl.2;cases h0:(r.code==0)
 .cases h7:(r.code==7)
  .repeat'(first|(with_reducible first|refine aa _ _ ?_|refine ak ?_|refine ao ?_)|rw[af]|simp only[h0,h7,zY,Int.reduceEq,Int.reduceBEq,Int.reduceBNe,Nat.reduceSub,Nat.reduceEqDiff,Nat.reduceAdd,Nat.reduceMul,Nat.reduceLeDiff,Nat.reduceLT,Nat.reduceBEq,reduceCtorEq]|refine aj ?_|refine ag (λ hb=> ?_) (λ hb=> ?_)|(refine And.intro ?_ ?_;exact zI)|refine And.intro (λ hg=> ?_) (λ hg=> ?_)|exact zC|fail)
   exact⟨trivial,dj⟩
  .repeat'(first|(with_reducible first|refine aa _ _ ?_|refine ak ?_|refine ao ?_)|rw[af]|simp only[h0,h7,zY,Int.reduceEq,Int.reduceBEq,Int.reduceBNe,Nat.reduceSub,Nat.reduceEqDiff,Nat.reduceAdd,Nat.reduceMul,Nat.reduceLeDiff,Nat.reduceLT,Nat.reduceBEq,reduceCtorEq]|refine aj ?_|refine ag (λ hb=> ?_) (λ hb=> ?_)|(refine And.intro ?_ ?_;exact zI)|refine And.intro (λ hg=> ?_) (λ hg=> ?_)|exact zC|fail)
   exact⟨trivial,dj⟩
 .repeat'(first|(with_reducible first|refine aa _ _ ?_|refine ak ?_|refine ao ?_)|rw[af]|simp only[h0,zY,Int.reduceEq,Int.reduceBEq,Int.reduceBNe,Nat.reduceSub,Nat.reduceEqDiff,Nat.reduceAdd,Nat.reduceMul,Nat.reduceLeDiff,Nat.reduceLT,Nat.reduceBEq,reduceCtorEq]|((first|((try refine aD ?_);apply aE)|(apply aG;intro _));(solve|exact(hu)|(refine ae.le (hu) ?_;exact zM)|fail);try case hn=>rfl)|refine aj ?_|refine ag (λ hb=> ?_) (λ hb=> ?_)|(refine And.intro ?_ ?_;exact zI)|refine And.intro (λ hg=> ?_) (λ hg=> ?_)|exact zC|fail)
  exact⟨trivial,dj⟩
def gY (K:Cl) (r:cB):Cl:=
 if(K.out.kind==1)=true then m8 {K with busy:=false} r else
 if(r.code==9)=true then(if(K.out.kind==5||K.out.kind==6)=true then {jY {K with busy:=false}with asks:=K.asks.tail}else jY {K with busy:=false})else
 if(K.out.kind==2)=true then {K with busy:=false,has:=r.held,cW:=max K.cW (kV K)}else
 if(K.out.kind==6)=true then jY {K with busy:=false,asks:=K.asks.tail}else {K with busy:=false,asks:=K.asks.tail,has:=r.held,cW:=max K.cW (kV K)}
theorem yy (K:Cl):ae prog 20 [.f K.at] (λ r o=>r=[ri K.aF]/\o=[]):=by
 refine aR aO mixed (T:=Ty) (n:=9) func20 (c:=f20.body.getD .skip) rfl results20 ntmps20 call20 ?_;simp only[f20,Option.getD]
 repeat'(first|(with_reducible first|refine aa _ _ ?_|refine ak ?_|refine ao ?_)|rw[af]|simp only[zY,Int.reduceEq,Int.reduceBEq,Int.reduceBNe,Nat.reduceSub,Nat.reduceEqDiff,Nat.reduceAdd,Nat.reduceMul,Nat.reduceLeDiff,Nat.reduceLT,Nat.reduceBEq,reduceCtorEq]|refine aj ?_|refine ag (λ hb=> ?_) (λ hb=> ?_)|(refine And.intro ?_ ?_;exact zI)|refine And.intro (λ hg=> ?_) (λ hg=> ?_)|exact zC|fail)
theorem JW (K:Cl) (m:cG) (bs:List Int) (hm:dQ m=true) (hb:bs=dW m) (hbu:K.busy=true) (hL:K.asks.length<2^30)
  (hne:(m.bh !=K.id||m.seq !=K.out.seq)=true):
  ae prog 17 [.obj K.ro, .f (bE bs.length (aI bs))] (λ r o=>r=[rb false]/\o=[K.ro]):=by
 refine ae.gp ?_;refine aR aO mixed (T:=Ty) (n:=127) func17 (c:=f17.body.getD .skip) rfl results17 ntmps17 call17 ?_;simp only[f17,Option.getD];have hg:=Bh bs m hm hb;cases h1:(m.bh !=K.id)
 .have h2:(m.seq !=K.out.seq)=true:=by rw[h1,nJ]at hne;exact hne
  repeat'(first|(with_reducible first|refine aa _ _ ?_|refine ak ?_|refine ao ?_)|rw[af]|simp only[hbu,h1,h2,zY,Int.reduceEq,Int.reduceBEq,Int.reduceBNe,Nat.reduceSub,Nat.reduceEqDiff,Nat.reduceAdd,Nat.reduceMul,Nat.reduceLeDiff,Nat.reduceLT,Nat.reduceBEq,reduceCtorEq]|((first|((try refine aD ?_);apply aE)|(apply aG;intro _));(solve|exact(hg)|(refine ae.le (hg) ?_;exact zM)|fail);try case hn=>rfl)|refine aj ?_|refine ag (λ hb=> ?_) (λ hb=> ?_)|(refine And.intro ?_ ?_;exact zI)|refine And.intro (λ hg=> ?_) (λ hg=> ?_)|exact zC|fail)
  refine⟨cm, ?_⟩;simp[eK,dv,eF,hbu]
 .repeat'(first|(with_reducible first|refine aa _ _ ?_|refine ak ?_|refine ao ?_)|rw[af]|simp only[hbu,h1,zY,Int.reduceEq,Int.reduceBEq,Int.reduceBNe,Nat.reduceSub,Nat.reduceEqDiff,Nat.reduceAdd,Nat.reduceMul,Nat.reduceLeDiff,Nat.reduceLT,Nat.reduceBEq,reduceCtorEq]|((first|((try refine aD ?_);apply aE)|(apply aG;intro _));(solve|exact(hg)|(refine ae.le (hg) ?_;exact zM)|fail);try case hn=>rfl)|refine aj ?_|refine ag (λ hb=> ?_) (λ hb=> ?_)|(refine And.intro ?_ ?_;exact zI)|refine And.intro (λ hg=> ?_) (λ hg=> ?_)|exact zC|fail)
  refine⟨cm, ?_⟩;simp[eK,dv,eF,hbu]
theorem z7 (K:Cl) (m:cG) (bs:List Int) (hm:dQ m=true) (hb:bs=dW m) (hbu:K.busy=true) (hL:K.asks.length≤4) (hl:m9 K.c) (hf:0≤K.first/\K.first≤2305843009213693952)
  (hk:(K.out.kind==1)=false->(K.out.kind==2)=false->K.asks≠[]) (hc:m.bh=K.id) (hs:m.seq=K.out.seq):
  ae prog 17 [.obj K.ro, .f (bE bs.length (aI bs))] (λ r o=>r=[rb true]/\o=[(gY K m.cf).ro]):=by
 refine ae.gp ?_;refine aR aO mixed (T:=Ty) (n:=127) func17 (c:=f17.body.getD .skip) rfl results17 ntmps17 call17 ?_;simp only[f17,Option.getD];have hg:=Bh bs m hm hb;have e1:(m.bh !=K.id)=false:=by rw[hc];simp
 have e2:(m.seq !=K.out.seq)=false:=by rw[hs];simp
 have hu:=zU K.first K.c.aV K.c.aT hf hl.1 hl.2;have hop:=KF {K with busy:=false} m.cf hl hf;have hno:=xY {K with busy:=false} (by simp only;omega);have hen:=vy K.out.kind;unfold gY;cases k1:(K.out.kind==1)
 .cases c9:(m.cf.code==9)
  .cases k2:(K.out.kind==2)
   .have k2':(K.out.kind !=2)=true:=by rw[bne,k2];rfl
    obtain⟨a,l,ha⟩:∃a l,K.asks=a::l:=by
     cases hq:K.asks with
     |nil=>exact absurd hq (hk k1 k2)
     |cons a l=>exact⟨a,l,rfl⟩
    have hlen:K.asks.length=l.length+1:=by rw[ha];rfl
    have hat:cH K.asks=iD a.kind::iD a.aF::sD a.name::cH l:=by rw[ha];rfl
    have htl:K.asks.tail=l:=by rw[ha];rfl
    rw[htl];have hno2:=xY {K with busy:=false,asks:=l,has:=m.cf.held,cW:=max K.cW (kV K)} (by simp only;omega);cases k6:(K.out.kind==6)
    .repeat'(first|(with_reducible first|refine nf 10 ?_|refine mW 10 ?_|refine mX 10 ?_)|(with_reducible first|refine aa _ _ ?_|refine ak ?_|refine ao ?_)|rw[af]|simp only[hbu,e1,e2,k1,c9,k2',hlen,hat,Nat.add_sub_cancel,zY,Int.reduceEq,Int.reduceBEq,Int.reduceBNe,Nat.reduceSub,Nat.reduceEqDiff,Nat.reduceAdd,Nat.reduceMul,Nat.reduceLeDiff,Nat.reduceLT,Nat.reduceBEq,reduceCtorEq]|((first|((try refine aD ?_);apply aE)|(apply aG;intro _));(solve|exact(hg)|(refine ae.le (hg) ?_;exact zM)|fail);try case hn=>rfl)|refine aj ?_|refine ag (λ hb=> ?_) (λ hb=> ?_)|(refine And.intro ?_ ?_;exact zI)|refine And.intro (λ hg=> ?_) (λ hg=> ?_)|exact zC|fail)
     refine qh (sC (Gh.sR 0 15 1 l.length ⟨rfl,rfl,rfl⟩) ?_);simp only[zB,qf,nr,nF,gB,Nat.reduceSub,Nat.reduceEqDiff,Nat.reduceAdd,Nat.reduceMul,Nat.reduceLeDiff,Nat.reduceLT,Nat.reduceBEq,reduceCtorEq]
     repeat'(first|(with_reducible first|refine aa _ _ ?_|refine ak ?_|refine ao ?_)|rw[af]|simp only[k6,zY,Int.reduceEq,Int.reduceBEq,Int.reduceBNe,Nat.reduceSub,Nat.reduceEqDiff,Nat.reduceAdd,Nat.reduceMul,Nat.reduceLeDiff,Nat.reduceLT,Nat.reduceBEq,reduceCtorEq]|((first|((try refine aD ?_);apply aE)|(apply aG;intro _));(solve|exact(hu)|(refine ae.le (hu) ?_;exact zM)|fail);try case hn=>rfl)|refine aj ?_|refine ag (λ hb=> ?_) (λ hb=> ?_)|(refine And.intro ?_ ?_;exact zI)|refine And.intro (λ hg=> ?_) (λ hg=> ?_)|exact zC|fail)
     exact⟨cm,dj⟩
    .repeat'(first|(with_reducible first|refine nf 10 ?_|refine mW 10 ?_|refine mX 10 ?_)|(with_reducible first|refine aa _ _ ?_|refine ak ?_|refine ao ?_)|rw[af]|simp only[hbu,e1,e2,k1,c9,k2',hlen,hat,Nat.add_sub_cancel,zY,Int.reduceEq,Int.reduceBEq,Int.reduceBNe,Nat.reduceSub,Nat.reduceEqDiff,Nat.reduceAdd,Nat.reduceMul,Nat.reduceLeDiff,Nat.reduceLT,Nat.reduceBEq,reduceCtorEq]|((first|((try refine aD ?_);apply aE)|(apply aG;intro _));(solve|exact(hg)|(refine ae.le (hg) ?_;exact zM)|fail);try case hn=>rfl)|refine aj ?_|refine ag (λ hb=> ?_) (λ hb=> ?_)|(refine And.intro ?_ ?_;exact zI)|refine And.intro (λ hg=> ?_) (λ hg=> ?_)|exact zC|fail)
     refine qh (sC (Gh.sR 0 15 1 l.length ⟨rfl,rfl,rfl⟩) ?_);simp only[zB,qf,nr,nF,gB,Nat.reduceSub,Nat.reduceEqDiff,Nat.reduceAdd,Nat.reduceMul,Nat.reduceLeDiff,Nat.reduceLT,Nat.reduceBEq,reduceCtorEq]
     repeat'(first|(with_reducible first|refine aa _ _ ?_|refine ak ?_|refine ao ?_)|rw[af]|simp only[k6,zY,Int.reduceEq,Int.reduceBEq,Int.reduceBNe,Nat.reduceSub,Nat.reduceEqDiff,Nat.reduceAdd,Nat.reduceMul,Nat.reduceLeDiff,Nat.reduceLT,Nat.reduceBEq,reduceCtorEq]|((first|((try refine aD ?_);apply aE)|(apply aG;intro _));(solve|exact(hu)|(refine ae.le (hu) ?_;exact zM)|fail);try case hn=>rfl)|refine aj ?_|refine ag (λ hb=> ?_) (λ hb=> ?_)|(refine And.intro ?_ ?_;exact zI)|refine And.intro (λ hg=> ?_) (λ hg=> ?_)|exact zC|fail)
     refine jc (mv:= ?mv1) (aJ:= ?le1) 0 ?ha1 (hno2) ?hb1 ?hc1
     case ha1=>(try simp only[zB,du,aS,kV,Nat.reduceSub,Nat.reduceEqDiff,Nat.reduceAdd,Nat.reduceMul,Nat.reduceLeDiff,Nat.reduceLT,Nat.reduceBEq,reduceCtorEq]);exact rfl
     case hb1=>(try simp only[zB,bA,aS,kV,Nat.reduceSub,Nat.reduceEqDiff,Nat.reduceAdd,Nat.reduceMul,Nat.reduceLeDiff,Nat.reduceLT,Nat.reduceBEq,reduceCtorEq]);repeat'(first|rfl|trivial|omega|with_reducible refine And.intro ?_ ?_)
     show aP _ _ _ _ _ _ _ _
     repeat'(first|(with_reducible first|refine aa _ _ ?_|refine ak ?_|refine ao ?_)|rw[af]|simp only[zY,Int.reduceEq,Int.reduceBEq,Int.reduceBNe,Nat.reduceSub,Nat.reduceEqDiff,Nat.reduceAdd,Nat.reduceMul,Nat.reduceLeDiff,Nat.reduceLT,Nat.reduceBEq,reduceCtorEq]|refine aj ?_|refine ag (λ hb=> ?_) (λ hb=> ?_)|(refine And.intro ?_ ?_;exact zI)|refine And.intro (λ hg=> ?_) (λ hg=> ?_)|exact zC|fail)
     refine⟨cm, ?_⟩;simp[eK,dv,eF,jY]
   .have k2':(K.out.kind !=2)=false:=by rw[bne,k2];rfl
    cases k6:(K.out.kind==6)
    .repeat'(first|(with_reducible first|refine aa _ _ ?_|refine ak ?_|refine ao ?_)|rw[af]|simp only[hbu,e1,e2,k1,c9,k2',k6,zY,Int.reduceEq,Int.reduceBEq,Int.reduceBNe,Nat.reduceSub,Nat.reduceEqDiff,Nat.reduceAdd,Nat.reduceMul,Nat.reduceLeDiff,Nat.reduceLT,Nat.reduceBEq,reduceCtorEq]|((first|((try refine aD ?_);apply aE)|(apply aG;intro _));(solve|exact(hg)|exact(hu)|(refine ae.le (hg) ?_;exact zM)|(refine ae.le (hu) ?_;exact zM)|fail);try case hn=>rfl)|refine aj ?_|refine ag (λ hb=> ?_) (λ hb=> ?_)|(refine And.intro ?_ ?_;exact zI)|refine And.intro (λ hg=> ?_) (λ hg=> ?_)|exact zC|fail)
     exact⟨cm,dj⟩
    .exfalso;simp at k2 k6;omega
  .repeat'(first|(with_reducible first|refine aa _ _ ?_|refine ak ?_|refine ao ?_)|rw[af]|simp only[hbu,e1,e2,k1,c9,zY,Int.reduceEq,Int.reduceBEq,Int.reduceBNe,Nat.reduceSub,Nat.reduceEqDiff,Nat.reduceAdd,Nat.reduceMul,Nat.reduceLeDiff,Nat.reduceLT,Nat.reduceBEq,reduceCtorEq]|((first|((try refine aD ?_);apply aE)|(apply aG;intro _));(solve|exact(hg)|(refine ae.le (hg) ?_;exact zM)|fail);try case hn=>rfl)|refine aj ?_|refine ag (λ hb=> ?_) (λ hb=> ?_)|(refine And.intro ?_ ?_;exact zI)|refine And.intro (λ hg=> ?_) (λ hg=> ?_)|exact zC|fail)
   refine jc (mv:= ?mv2) (aJ:= ?le2) 0 ?ha2 (hno) ?hb2 ?hc2
   case ha2=>(try simp only[zB,du,aS,Nat.reduceSub,Nat.reduceEqDiff,Nat.reduceAdd,Nat.reduceMul,Nat.reduceLeDiff,Nat.reduceLT,Nat.reduceBEq,reduceCtorEq]);exact rfl
   case hb2=>(try simp only[zB,bA,aS,Nat.reduceSub,Nat.reduceEqDiff,Nat.reduceAdd,Nat.reduceMul,Nat.reduceLeDiff,Nat.reduceLT,Nat.reduceBEq,reduceCtorEq]);repeat'(first|rfl|trivial|omega|with_reducible refine And.intro ?_ ?_)
   show aP _ _ _ _ _ _ _ _;cases k5:(K.out.kind==5||K.out.kind==6)
   .rw[k5]at hen
    repeat'(first|(with_reducible first|refine aa _ _ ?_|refine ak ?_|refine ao ?_)|rw[af]|simp only[zY,Int.reduceEq,Int.reduceBEq,Int.reduceBNe,Nat.reduceSub,Nat.reduceEqDiff,Nat.reduceAdd,Nat.reduceMul,Nat.reduceLeDiff,Nat.reduceLT,Nat.reduceBEq,reduceCtorEq]|((first|((try refine aD ?_);apply aE)|(apply aG;intro _));(solve|exact(hen)|(refine ae.le (hen) ?_;exact zM)|fail);try case hn=>rfl)|refine aj ?_|refine ag (λ hb=> ?_) (λ hb=> ?_)|(refine And.intro ?_ ?_;exact zI)|refine And.intro (λ hg=> ?_) (λ hg=> ?_)|exact zC|fail)
    exact⟨cm,dj⟩
   .rw[k5]at hen;have k2:(K.out.kind==2)=false:=by simp only[nq,kN]at k5;simp only[beq_eq_false_iff_ne];omega
    obtain⟨a,l,ha⟩:∃a l,K.asks=a::l:=by
     cases hq:K.asks with
     |nil=>exact absurd hq (hk k1 k2)
     |cons a l=>exact⟨a,l,rfl⟩
    have hlen:K.asks.length=l.length+1:=by rw[ha];rfl
    have hat:cH K.asks=iD a.kind::iD a.aF::sD a.name::cH l:=by rw[ha];rfl
    have htl:K.asks.tail=l:=by rw[ha];rfl
    rw[htl];unfold jY
    repeat'(first|(with_reducible first|refine nf 20 ?_|refine mW 20 ?_|refine mX 20 ?_)|(with_reducible first|refine aa _ _ ?_|refine ak ?_|refine ao ?_)|rw[af]|simp only[hlen,hat,Nat.add_sub_cancel,zY,Int.reduceEq,Int.reduceBEq,Int.reduceBNe,Nat.reduceSub,Nat.reduceEqDiff,Nat.reduceAdd,Nat.reduceMul,Nat.reduceLeDiff,Nat.reduceLT,Nat.reduceBEq,reduceCtorEq]|((first|((try refine aD ?_);apply aE)|(apply aG;intro _));(solve|exact(hen)|(refine ae.le (hen) ?_;exact zM)|fail);try case hn=>rfl)|refine aj ?_|refine ag (λ hb=> ?_) (λ hb=> ?_)|(refine And.intro ?_ ?_;exact zI)|refine And.intro (λ hg=> ?_) (λ hg=> ?_)|exact zC|fail)
    refine qh (sC (Gh.sR 0 15 1 l.length ⟨rfl,rfl,rfl⟩) ?_);simp only[zB,qf,nr,nF,gB,Nat.reduceSub,Nat.reduceEqDiff,Nat.reduceAdd,Nat.reduceMul,Nat.reduceLeDiff,Nat.reduceLT,Nat.reduceBEq,reduceCtorEq]
    repeat'(first|(with_reducible first|refine aa _ _ ?_|refine ak ?_|refine ao ?_)|rw[af]|simp only[zY,Int.reduceEq,Int.reduceBEq,Int.reduceBNe,Nat.reduceSub,Nat.reduceEqDiff,Nat.reduceAdd,Nat.reduceMul,Nat.reduceLeDiff,Nat.reduceLT,Nat.reduceBEq,reduceCtorEq]|refine aj ?_|refine ag (λ hb=> ?_) (λ hb=> ?_)|(refine And.intro ?_ ?_;exact zI)|refine And.intro (λ hg=> ?_) (λ hg=> ?_)|exact zC|fail)
    exact⟨cm,dj⟩
 .repeat'(first|(with_reducible first|refine aa _ _ ?_|refine ak ?_|refine ao ?_)|rw[af]|simp only[hbu,e1,e2,k1,zY,Int.reduceEq,Int.reduceBEq,Int.reduceBNe,Nat.reduceSub,Nat.reduceEqDiff,Nat.reduceAdd,Nat.reduceMul,Nat.reduceLeDiff,Nat.reduceLT,Nat.reduceBEq,reduceCtorEq]|((first|((try refine aD ?_);apply aE)|(apply aG;intro _));(solve|exact(hg)|(refine ae.le (hg) ?_;exact zM)|fail);try case hn=>rfl)|refine aj ?_|refine ag (λ hb=> ?_) (λ hb=> ?_)|(refine And.intro ?_ ?_;exact zI)|refine And.intro (λ hg=> ?_) (λ hg=> ?_)|exact zC|fail)
  refine jc (mv:= ?mv3) (aJ:= ?le3) 0 ?ha3 (hop) ?hb3 ?hc3
  case ha3=>(try simp only[zB,du,aS,Nat.reduceSub,Nat.reduceEqDiff,Nat.reduceAdd,Nat.reduceMul,Nat.reduceLeDiff,Nat.reduceLT,Nat.reduceBEq,reduceCtorEq]);exact rfl
  case hb3=>(try simp only[zB,bA,aS,Nat.reduceSub,Nat.reduceEqDiff,Nat.reduceAdd,Nat.reduceMul,Nat.reduceLeDiff,Nat.reduceLT,Nat.reduceBEq,reduceCtorEq]);repeat'(first|rfl|trivial|omega|with_reducible refine And.intro ?_ ?_)
  show aP _ _ _ _ _ _ _ _
  repeat'(first|(with_reducible first|refine aa _ _ ?_|refine ak ?_|refine ao ?_)|rw[af]|simp only[zY,Int.reduceEq,Int.reduceBEq,Int.reduceBNe,Nat.reduceSub,Nat.reduceEqDiff,Nat.reduceAdd,Nat.reduceMul,Nat.reduceLeDiff,Nat.reduceLT,Nat.reduceBEq,reduceCtorEq]|refine aj ?_|refine ag (λ hb=> ?_) (λ hb=> ?_)|(refine And.intro ?_ ?_;exact zI)|refine And.intro (λ hg=> ?_) (λ hg=> ?_)|exact zC|fail)
  exact⟨cm,dj⟩
def lf {α:Type} (p:α->Bool):List α->Int->Int
 |[],_=> -1
 |x::l,i=>if p x=true then i else lf p l (i+1)
theorem La {α:Type} (p:α->Bool) (l:List α):decide (lf p l 0≥0)=l.any p:=by
 have h:∀(l:List α) (i:Int),0≤i->(0≤lf p l i↔l.any p=true):=by
  intro l;induction l with
  |nil=>intro i _;simp[lf]
  |cons x l ih=>
   intro i hi;simp only[lf];by_cases hx:p x=true
   .simp[hx,hi]
   .rw[ar hx,ih (i+1) (by omega)];simp[hx]
 rw[Bool.eq_iff_iff];simpa using h l 0 (Int.le_refl _)
theorem B5 {l:List Cm} {i:Nat} (hi:i<l.length):(cH l).drop (i*3)=l[i].enc++(cH (l.drop (i+1))):=sn _ 3 l i hi λ _=>rfl
abbrev wG:Cm->AV:=λ x=> .agg (x.enc.map C.d)
theorem Lo (l:List Cm) (hl:l.length<2^62) (p:Cm->Bool) (f:Nat) (caps:List C) (hc:eT [] (caps.map AV.one)=some (caps.map λ c=> .f (.one c)))
  (hp:∀x∈l,ae prog f (.f (wG x)::caps.map λ c=> .f (.one c)) (λ r o=>r=[rb (p x)]/\o=[])):
  ae prog 82 [.f (al l.length (cH l)), .f (.one (.eP f caps))] (λ r o=>r=[ri (lf p l 0)]/\o=[]):=by
 refine aR aO mixed (T:=Ty) (n:=19) func82 (c:=f82.body.getD .skip) rfl results82 ntmps82 call82 ?_;simp only[f82,Option.getD]
 repeat(first|with_reducible refine aa _ _ ?_|with_reducible refine ax (aa _ _) ?_|with_reducible refine ax (ax (aa _ _)) ?_|with_reducible refine ax (ax (ax (aa _ _))) ?_|rw[af]|simp only[zB,Nat.reduceSub,Nat.reduceEqDiff,Nat.reduceAdd,Nat.reduceMul,Nat.reduceLeDiff,Nat.reduceLT,Nat.reduceBEq,reduceCtorEq])
 refine gr (τ:=Nat) (λ i=>⟨[al l.length (cH l), .one (.eP f caps),dd,dd,ai 0,dd,al l.length (cH l),ai l.length,ai i,dd,dd,dd,dd,dd,dd,dd,dd,dd,dd],[]⟩) (λ i=>i≤l.length) (λ i=>lf p (l.drop i) i) (λ i=>l.length - i) 0 (Gh.fH ?_) (dA _) ?_
 .simp only[ov,oA,oH,bK]
 intro i hi0 hF K hK
 repeat(first|with_reducible refine aa _ _ ?_|with_reducible refine ax (aa _ _) ?_|with_reducible refine ax (ax (aa _ _)) ?_|with_reducible refine ax (ax (ax (aa _ _))) ?_|rw[af]|simp only[zB,Nat.reduceSub,Nat.reduceEqDiff,Nat.reduceAdd,Nat.reduceMul,Nat.reduceLeDiff,Nat.reduceLT,Nat.reduceBEq,reduceCtorEq])
 rw[ur];refine⟨trivial,λ hlt=> ?_,λ hge=> ?_⟩
 .have hi:i<l.length:=by simpa using hlt
  rw[kn hi,lf]at hF;have hat:=B5 hi;simp only[eD,eJ]at hat
  repeat(first|with_reducible refine aa _ _ ?_|with_reducible refine ax (aa _ _) ?_|with_reducible refine ax (ax (aa _ _)) ?_|with_reducible refine ax (ax (ax (aa _ _))) ?_|rw[af]|simp only[zB,jZ,hat,hc,Nat.reduceSub,Nat.reduceEqDiff,Nat.reduceAdd,Nat.reduceMul,Nat.reduceLeDiff,Nat.reduceLT,Nat.reduceBEq,reduceCtorEq])
  refine⟨⟨Int.natCast_nonneg i,by omega⟩, ?_⟩;refine aE (hp _ (ix hi)) ?_
  repeat(first|with_reducible refine aa _ _ ?_|with_reducible refine ax (aa _ _) ?_|with_reducible refine ax (ax (aa _ _)) ?_|with_reducible refine ax (ax (ax (aa _ _))) ?_|rw[af]|simp only[zB,Nat.reduceSub,Nat.reduceEqDiff,Nat.reduceAdd,Nat.reduceMul,Nat.reduceLeDiff,Nat.reduceLT,Nat.reduceBEq,reduceCtorEq])
  refine ag (λ hb=> ?_) (λ hb=> ?_)
  .rw[ay hb]at hF
   repeat(first|with_reducible refine aa _ _ ?_|with_reducible refine ax (aa _ _) ?_|with_reducible refine ax (ax (aa _ _)) ?_|with_reducible refine ax (ax (ax (aa _ _))) ?_|rw[af]|simp only[zB,Nat.reduceSub,Nat.reduceEqDiff,Nat.reduceAdd,Nat.reduceMul,Nat.reduceLeDiff,Nat.reduceLT,Nat.reduceBEq,reduceCtorEq])
   rw[hF];rfl
  .rw[ar (by simp[hb])]at hF
   repeat(first|with_reducible refine aa _ _ ?_|with_reducible refine ax (aa _ _) ?_|with_reducible refine ax (ax (aa _ _)) ?_|with_reducible refine ax (ax (ax (aa _ _))) ?_|rw[af]|simp only[zB,Nat.reduceSub,Nat.reduceEqDiff,Nat.reduceAdd,Nat.reduceMul,Nat.reduceLeDiff,Nat.reduceLT,Nat.reduceBEq,reduceCtorEq])
   refine hK _ (i+1) (Gh.fH ?_) hi (by simp only[kn hi,lf];rw[ar (by simp[hb])];rfl) (by omega);have hw:IntKind.i64.wrap ((i:Int)+1)=((i+1:Nat):Int):=by rw[wrap64 (by omega) (by omega)];rfl
   simp only[hw,ov,oA,oH]
 .have hi:i=l.length:=by
   have:¬(i:Int)<l.length:=by simpa using hge
   omega
  rw[hi,pb,lf]at hF
  repeat(first|with_reducible refine aa _ _ ?_|with_reducible refine ax (aa _ _) ?_|with_reducible refine ax (ax (aa _ _)) ?_|with_reducible refine ax (ax (ax (aa _ _))) ?_|rw[af]|simp only[zB,Nat.reduceSub,Nat.reduceEqDiff,Nat.reduceAdd,Nat.reduceMul,Nat.reduceLeDiff,Nat.reduceLT,Nat.reduceBEq,reduceCtorEq])
  rw[hF];rfl
theorem I2 (l:List Cm) (hl:l.length<2^62) (p:Cm->Bool) (f:Nat) (caps:List C) (hc:eT [] (caps.map AV.one)=some (caps.map λ c=> .f (.one c))) (hc2:bd.lendCs [] caps=some caps)
  (hp:∀x∈l,ae prog f (.f (wG x)::caps.map λ c=> .f (.one c)) (λ r o=>r=[rb (p x)]/\o=[])):
  ae prog 50 [.f (al l.length (cH l)), .f (.one (.eP f caps))] (λ r o=>r=[rb (l.any p)]/\o=[]):=by
 refine aR aO mixed (T:=Ty) (n:=9) func50 (c:=f50.body.getD .skip) rfl results50 ntmps50 call50 ?_;simp only[f50,Option.getD]
 repeat(first|with_reducible refine aa _ _ ?_|with_reducible refine ax (aa _ _) ?_|with_reducible refine ax (ax (aa _ _)) ?_|with_reducible refine ax (ax (ax (aa _ _))) ?_|rw[af]|simp only[zB,hc2,Nat.reduceSub,Nat.reduceEqDiff,Nat.reduceAdd,Nat.reduceMul,Nat.reduceLeDiff,Nat.reduceLT,Nat.reduceBEq,reduceCtorEq])
 refine aE (Lo l hl p f caps hc hp) ?_
 repeat(first|with_reducible refine aa _ _ ?_|with_reducible refine ax (aa _ _) ?_|with_reducible refine ax (ax (aa _ _)) ?_|with_reducible refine ax (ax (ax (aa _ _))) ?_|rw[af]|simp only[zB,Nat.reduceSub,Nat.reduceEqDiff,Nat.reduceAdd,Nat.reduceMul,Nat.reduceLeDiff,Nat.reduceLT,Nat.reduceBEq,reduceCtorEq])
 rw[La]
def lL (g:bt) (c:Cm):Bool:=c.kind==6||(c.kind==5&&c.name.toList==g.name.toList)
theorem K7 (c:Cm) (g:bt):ae prog 51 [.f (wG c), .f (.one (.dP g.enc))] (λ r o=>r=[rb (lL g c)]/\o=[]):=by
 refine aR aO mixed (T:=Ty) (n:=19) func51 (c:=f51.body.getD .skip) rfl results51 ntmps51 call51 ?_;simp only[f51,Option.getD];unfold lL;cases h6:(c.kind==6)
 .cases h5:(c.kind==5)
  .repeat'(first|(with_reducible first|refine aa _ _ ?_|refine ak ?_|refine ao ?_)|rw[af]|simp only[h6,h5,zY,Int.reduceEq,Int.reduceBEq,Int.reduceBNe,Nat.reduceSub,Nat.reduceEqDiff,Nat.reduceAdd,Nat.reduceMul,Nat.reduceLeDiff,Nat.reduceLT,Nat.reduceBEq,reduceCtorEq]|refine aj ?_|refine ag (λ hb=> ?_) (λ hb=> ?_)|(refine And.intro ?_ ?_;exact zI)|refine And.intro (λ hg=> ?_) (λ hg=> ?_)|exact zC|fail)
  .repeat'(first|(with_reducible first|refine aa _ _ ?_|refine ak ?_|refine ao ?_)|rw[af]|simp only[h6,h5,zY,Int.reduceEq,Int.reduceBEq,Int.reduceBNe,Nat.reduceSub,Nat.reduceEqDiff,Nat.reduceAdd,Nat.reduceMul,Nat.reduceLeDiff,Nat.reduceLT,Nat.reduceBEq,reduceCtorEq]|refine aj ?_|refine ag (λ hb=> ?_) (λ hb=> ?_)|(refine And.intro ?_ ?_;exact zI)|refine And.intro (λ hg=> ?_) (λ hg=> ?_)|exact zC|fail)
 .repeat'(first|(with_reducible first|refine aa _ _ ?_|refine ak ?_|refine ao ?_)|rw[af]|simp only[h6,zY,Int.reduceEq,Int.reduceBEq,Int.reduceBNe,Nat.reduceSub,Nat.reduceEqDiff,Nat.reduceAdd,Nat.reduceMul,Nat.reduceLeDiff,Nat.reduceLT,Nat.reduceBEq,reduceCtorEq]|refine aj ?_|refine ag (λ hb=> ?_) (λ hb=> ?_)|(refine And.intro ?_ ?_;exact zI)|refine And.intro (λ hg=> ?_) (λ hg=> ?_)|exact zC|fail)
def kW (asks:List Cm) (l:List bt):List bt:=l.filter λ g=> !asks.any (lL g)
def jH (K:Cl) (now:Int):List bt:=if now≥K.cW then []else kW K.asks K.has
theorem BN (K:Cl) (now:Int) (h0:0≤now/\now≤2305843009213693952) (hL:K.asks.length<2^30) (hH:K.has.length<2^30):
  ae prog 22 [.f K.at, .f (ai now)] (λ r o=>r=[.one (.d (.sl (jH K now).length (ch (jH K now))))]/\o=[]):=by
 refine ae.nil ?_;refine aR aO mixed (T:=Ty) (n:=41) func22 (c:=f22.body.getD .skip) rfl results22 ntmps22 call22 ?_;simp only[f22,Option.getD];unfold jH;cases hg:decide (now≥K.cW)
 .rw[ar (by simpa using hg)]
  repeat'(first|(with_reducible first|refine aa _ _ ?_|refine ak ?_|refine ao ?_)|rw[af]|simp only[hg,zY,Int.reduceEq,Int.reduceBEq,Int.reduceBNe,Nat.reduceSub,Nat.reduceEqDiff,Nat.reduceAdd,Nat.reduceMul,Nat.reduceLeDiff,Nat.reduceLT,Nat.reduceBEq,reduceCtorEq]|((first|((try refine aD ?_);apply aE)|(apply aG;intro _));(solve|exact(fy now h0)|(refine ae.le (fy now h0) ?_;exact zM)|fail);try case hn=>rfl)|refine aj ?_|refine ag (λ hb=> ?_) (λ hb=> ?_)|(refine And.intro ?_ ?_;exact zI)|refine And.intro (λ hg=> ?_) (λ hg=> ?_)|exact zC|fail)
  have hagg:∀(Z:List Nat) (r:Rs) (xs ys:List AV),eb Z r (K.at::xs) (K.at::ys)=eb Z r xs ys:=λ Z r xs ys=>u9 rfl rfl
  refine gr (τ:=Nat×List bt) (λ t=>⟨[K.at,dd,dd,dd,dd, .one (.own ⟨5,1,1⟩ 0 t.2.length),dd,dd,dd,dd,dd,dd,dd,dd,dd,dd,dd,dd,dd,dd,dd,dd,bE K.has.length (ch K.has),ai K.has.length,ai t.1,dd,dd,dd,dd,dd,dd,dd,dd,dd,dd,dd,dd,dd,dd,dd,dd],[(5,{next:=2,l:=[none,some {e:=1,var:=false,fz:=false,sz:=2,cells:=(ch t.2).map C.d}]}),(7,⟨2,[]⟩),(37,⟨2,[]⟩),(38,⟨2,[]⟩)]⟩)
   (λ t=>t.1≤K.has.length/\t.2.length≤t.1) (λ t=>t.2++kW K.asks (K.has.drop t.1)) (λ t=>K.has.length - t.1) (0,[])
   ((Gh.nil (i:=5) (s:=5) (sz:=2) rfl).trans (Gh.canon [5] [7,37,38] [] (by simp only[hagg,bN,bS,bW,bR,bT,bU,bV,bM,bO,bL,bH,bK,bX,D.v.injEq,bY];try(repeat'(first|rfl|omega|with_reducible apply And.intro))) rfl rfl)) ⟨dA _,Nat.le_refl _⟩ ?_
  intro⟨i,acc⟩ ⟨hi0,ha⟩ hF Kx hK;simp only[gB,eJ]at hi0 ha hF hK⊢
  repeat(first|with_reducible refine aa _ _ ?_|with_reducible refine ax (aa _ _) ?_|with_reducible refine ax (ax (aa _ _)) ?_|with_reducible refine ax (ax (ax (aa _ _))) ?_|rw[af]|simp only[zB,Nat.reduceSub,Nat.reduceEqDiff,Nat.reduceAdd,Nat.reduceMul,Nat.reduceLeDiff,Nat.reduceLT,Nat.reduceBEq,reduceCtorEq])
  refine ag (λ hlt=> ?_) (λ hge=> ?_)
  .have hi:i<K.has.length:=by simpa using hlt
   have hw:=fv hi (by omega);have hat:=gL hi;have hco:=I2 K.asks (by omega) (lL K.has[i]) 51 [.dP K.has[i].enc] rfl rfl (λ x _=>K7 x _);have hle:(acc.length+1≤2^47)=True:=eN (by omega);have hq:kW K.asks (K.has.drop i)=if K.asks.any (lL K.has[i])=true then kW K.asks (K.has.drop (i+1))else K.has[i]::kW K.asks (K.has.drop (i+1)):=by rw[kn hi,kW,List.filter_cons];cases K.asks.any (lL K.has[i])<;>simp[kW]
   cases hc:K.asks.any (lL K.has[i])
   .rw[hc]at hco;rw[hc,ar (by simp)]at hq
    repeat'(first|(with_reducible first|refine aa _ _ ?_|refine ak ?_|refine ao ?_)|rw[af]|simp only[hat,eD,eJ,en,hle,zY,Int.reduceEq,Int.reduceBEq,Int.reduceBNe,Nat.reduceSub,Nat.reduceEqDiff,Nat.reduceAdd,Nat.reduceMul,Nat.reduceLeDiff,Nat.reduceLT,Nat.reduceBEq,reduceCtorEq]|((first|((try refine aD ?_);apply aE)|(apply aG;intro _));(solve|exact(hco)|(refine ae.le (hco) ?_;exact zM)|fail);try case hn=>rfl)|refine aj ?_|refine ag (λ hb=> ?_) (λ hb=> ?_)|(refine And.intro ?_ ?_;exact zI)|refine And.intro (λ hg=> ?_) (λ hg=> ?_)|exact zC|fail)
    refine hK _ (i+1,acc++[K.has[i]]) (Gh.canon [5] [] [] (by simp only[hagg,hw,b6,gD,bN,bS,bW,bR,bT,bU,bV,bM,bO,bL,bH,bK,bX,D.v.injEq,bY];try(repeat'(first|rfl|omega|with_reducible apply And.intro))) rfl (by simp only[b6,gD];rw[ue];rfl)) ⟨hi,by simp only[b6,gD];omega⟩ ?_ (by simp only;omega);simp only;rw[hq,jg,List.singleton_append]
   .rw[hc]at hco;rw[hc,ay rfl]at hq
    repeat'(first|(with_reducible first|refine aa _ _ ?_|refine ak ?_|refine ao ?_)|rw[af]|simp only[hat,eD,eJ,en,zY,Int.reduceEq,Int.reduceBEq,Int.reduceBNe,Nat.reduceSub,Nat.reduceEqDiff,Nat.reduceAdd,Nat.reduceMul,Nat.reduceLeDiff,Nat.reduceLT,Nat.reduceBEq,reduceCtorEq]|((first|((try refine aD ?_);apply aE)|(apply aG;intro _));(solve|exact(hco)|(refine ae.le (hco) ?_;exact zM)|fail);try case hn=>rfl)|refine aj ?_|refine ag (λ hb=> ?_) (λ hb=> ?_)|(refine And.intro ?_ ?_;exact zI)|refine And.intro (λ hg=> ?_) (λ hg=> ?_)|exact zC|fail)
    refine hK _ (i+1,acc) (Gh.canon [5] [] [] (by simp only[hagg,hw,bN,bS,bW,bR,bT,bU,bV,bM,bO,bL,bH,bK,bX,D.v.injEq,bY];try(repeat'(first|rfl|omega|with_reducible apply And.intro))) rfl rfl) ⟨hi,by simp only;omega⟩ ?_ (by simp only;omega);simp only;rw[hq]
  .have hi:i=K.has.length:=by
    have:¬(i:Int)<K.has.length:=by simpa using hge
    omega
   rw[hi,pb]at hF;simp only[kW,List.filter_nil,eU]at hF;rw[show kW K.asks K.has=acc from hF.symm]
   repeat'(first|(with_reducible first|refine aa _ _ ?_|refine ak ?_|refine ao ?_)|rw[af]|simp only[zY,Int.reduceEq,Int.reduceBEq,Int.reduceBNe,Nat.reduceSub,Nat.reduceEqDiff,Nat.reduceAdd,Nat.reduceMul,Nat.reduceLeDiff,Nat.reduceLT,Nat.reduceBEq,reduceCtorEq]|refine aj ?_|refine ag (λ hb=> ?_) (λ hb=> ?_)|(refine And.intro ?_ ?_;exact zI)|refine And.intro (λ hg=> ?_) (λ hg=> ?_)|exact zC|fail)
   show aN _ _/\True;simp[aN, -List.length_flatMap,en]
 .rw[ay (by simpa using hg)]
  repeat'(first|(with_reducible first|refine aa _ _ ?_|refine ak ?_|refine ao ?_)|rw[af]|simp only[hg,zY,Int.reduceEq,Int.reduceBEq,Int.reduceBNe,Nat.reduceSub,Nat.reduceEqDiff,Nat.reduceAdd,Nat.reduceMul,Nat.reduceLeDiff,Nat.reduceLT,Nat.reduceBEq,reduceCtorEq]|((first|((try refine aD ?_);apply aE)|(apply aG;intro _));(solve|exact(fy now h0)|(refine ae.le (fy now h0) ?_;exact zM)|fail);try case hn=>rfl)|refine aj ?_|refine ag (λ hb=> ?_) (λ hb=> ?_)|(refine And.intro ?_ ?_;exact zI)|refine And.intro (λ hg=> ?_) (λ hg=> ?_)|exact zC|fail)
  show aN _ _/\True;simp[aN]
theorem pI (m:cG) (h:dQ m=true):ae prog 18 [.f (ai m.bh), .f (ai m.seq), .f (.agg (vK m.cf))] (λ x o=>x=[.one (.d (.sl (dW m).length (aI (dW m))))]/\o=[]):=by
 refine ae.nil ((KV m h).mono ?_)
 rintro r o ⟨rfl,rfl⟩
 refine⟨⟨?_,trivial⟩,rfl⟩;show aN _ _;simp[aN]
theorem I4:m9 dK:=⟨by decide,by decide⟩
def N':Cl:={nQ dK 0 with asks:=[⟨3,0,jm⟩]}
def Oa:Cl:=iW N' 0 1 0 .empty
def Oe:Cl:=gY Oa ⟨0,4,0,[]⟩
def Oy:Cl:=iW Oe 0 3 4 jm
def Oz (held:List bt):Cl:=⟨dK,0,4,held,49,[],false,⟨0,2,3,4,jm⟩,0,true,0,2,0⟩
def Ox (held:List bt):cB:=⟨0,4,0,held⟩
def Ob (j:Nat):ByteArray:=([⟨#[97]⟩,⟨#[98]⟩,⟨#[99]⟩,⟨#[100]⟩]:List ByteArray).getD j .empty
def gN (j:Nat):bt:=⟨Ob j,1+(j:Int)⟩
abbrev Oi:List D:=[sD ⟨#[97]⟩,sD ⟨#[98]⟩,sD ⟨#[99]⟩,sD ⟨#[100]⟩]
def Dg:Nat->List (List bt)
 |0=>[[]]
 |i+1=>Dg i++(Dg i).map (·++[gN i])
def Om (l:List bt) (s:ByteArray):List bt:=l.filter λ g=>g.name.toList !=s.toList
abbrev kP (s:Nat) (K:Cl):Nat×RS:=(s,{next:=2,l:=[some {e:=1,var:=true,fz:=false,sz:=0,cells:=[di K.c.bw,di K.c.ey,di K.c.aV,di K.c.aT,di K.c.base,di K.c.cap,di K.c.fh,di K.c.wait,di K.c.fg,di K.c.eg,di K.c.b8,
 di K.id,di K.aF, .d (.sl K.has.length (ch K.has)),di K.cW, .own ⟨s,16,1⟩ 0 K.asks.length,db K.busy,
 di K.out.bh,di K.out.seq,di K.out.kind,di K.out.aF,dS K.out.name,di K.first,db K.iF,di K.last,di K.seq,di K.turn]},none,none,none,none,none,none,none,none,none,none,none,none,none,none,none,
 some {e:=1,var:=false,fz:=false,sz:=3,cells:=(cH K.asks).map C.d},none,none,none,none,none,none,none,none,none,none,none]})
theorem mZ {n:Int} (h:0≤n) (k:Int):n.tmod k=n % k:=nC h
def NM:List ByteArray:=[⟨#[97]⟩,⟨#[98]⟩,⟨#[99]⟩,⟨#[100]⟩,⟨#[107,101,121,45,49]⟩,⟨#[116,104,101,45,108,97,115,116,45,111,110,101]⟩]
def fL (n:Int):ByteArray:=(NM[(n % 6).toNat]?).getD .empty
theorem Il (n:Int):n % 6=0∨n % 6=1∨n % 6=2∨n % 6=3∨n % 6=4∨n % 6=5:=by omega
theorem uQ (n:Int) (hn:bp n):ae prog 16 [.f (au n)] (λ r o=>r=[.one (.d (sD (fL n)))]/\o=[]):=by
 refine aR aO mixed (T:=Ty) (n:=9) func16 (c:=f16.body.getD .skip) rfl results16 ntmps16 call16 ?_;simp only[f16,Option.getD];unfold bp at hn;have hw:IntKind.i64.wrap n=n:=wrap64 (by omega) (by omega);have ht:=mZ hn.1 6;unfold fL;rcases Il n with h|h|h|h|h|h
 all_goals
  rw[h]at ht⊢
  repeat'(first|(with_reducible first|refine aa _ _ ?_|refine ak ?_|refine ao ?_)|rw[af]|simp only[hw,ht,Int.reduceToNat,nF,gB,zY,Int.reduceEq,Int.reduceBEq,Int.reduceBNe,Nat.reduceSub,Nat.reduceEqDiff,Nat.reduceAdd,Nat.reduceMul,Nat.reduceLeDiff,Nat.reduceLT,Nat.reduceBEq,reduceCtorEq]|refine aj ?_|refine ag (λ hb=> ?_) (λ hb=> ?_)|(refine And.intro ?_ ?_;exact zI)|refine And.intro (λ hg=> ?_) (λ hg=> ?_)|exact zC|fail)
  rfl
theorem rY (n:Int):dF (fL n)=true:=by unfold fL;rcases Il n with h|h|h|h|h|h<;>rw[h]<;>kernel_rfl
theorem y6 {s:ByteArray} (h:dF s=true):s.size≤12:=by unfold dF at h;simp only[cu,eo]at h;omega
def fV (k:Int):Int:=3+k % 3
theorem BA {k:Int} (hk:bp k):∃rest,List.drop (k % 3).toNat [C.d (iD 3),C.d (iD 4),C.d (iD 5)]=C.d (iD (fV k))::rest:=by unfold fV;rcases(show k % 3=0∨k % 3=1∨k % 3=2 by omega)with h|h|h<;>rw[h]<;>exact⟨_,rfl⟩
def N4 (k n:Int):Cm:=⟨fV k,0,fL n⟩
structure mD (a:Cm):Prop where
 k:a.kind=3∨a.kind=4∨a.kind=5
 n:dF a.name=true
 s:a.aF=0
theorem vN (k n:Int):mD (N4 k n):=⟨by show fV k=3∨fV k=4∨fV k=5;unfold fV;omega,rY n,rfl⟩
def Ow:cB:=⟨0,6,0,[]⟩
def OA:cB:=⟨9,0,0,[]⟩
structure Ou (K:Cl) (acc:List Cm):Prop where
 s:K.aF=0
 t:K.cW=0
 h:K.has=[]
 b:K.busy=false
 c:K.c=dK
 i:K.id=0
 q:K.seq=3
 l:K.asks.length≤4
 d:ew K.asks=ew acc
theorem NJ {a:Cm} (h:mD a) (n:Int) (hn:1≤n/\n≤7):ej a.kind n a.name=true:=by
 have h1:=h.n;rcases h.k with e|e|e<;>rw[e]<;>unfold ej<;>rw[h1]<;>
  (rcases(show n=1∨n=2∨n=3∨n=4∨n=5∨n=6∨n=7 by omega)with rfl|rfl|rfl|rfl|rfl|rfl|rfl<;>rfl)
theorem vx {l:List Cm} {a:Cm} (h:a∈ew l):a∈l:=(List.dropWhile_sublist _).subset h
end Go.Proofs.YtiegkabcgokhkaaGreat
