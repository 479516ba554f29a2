import Derived.Test.YtiegkabcgokhkaaGreatK9
import Derived.JoinedOf
import Derived.Handed
import Derived.ProofKit
import Derived.Test.YtiegkabcgokhkaaGreatSL
set_option maxHeartbeats 8000000
namespace Go.Proofs.YtiegkabcgokhkaaGreat
open Go.Pk Tryz
set_option maxRecDepth 100000
set_option linter.unusedSimpArgs false
set_option linter.unusedVariables false
def mu (aT aV:Int):cU:={dK with aT:=aT % 201,aV:=1+aV}
theorem LF {aT aV:Int} (hl:bp aV):nm (mu aT aV):=by
 have h:=se;unfold bp at hl;refine⟨h.r,h.cl, ?_,h.base,h.cap,h.fh,h.fg,h.eg,h.b8,h.wait,h.bc, ?_⟩
 .show jf (1+aV)=true;unfold jf;simp only[cu,eo];omega
 .show 0≤aT % 201/\aT % 201≤200;omega
theorem IY {aT aV:Int} (hl:bp aV):m9 (mu aT aV):=by unfold bp at hl;exact⟨⟨by show 1≤1+aV;omega,by show 1+aV≤1000000;omega⟩,by show 0≤aT % 201;omega,by show aT % 201≤200;omega⟩
theorem p9 (K:Cl):∃q:br,ae prog 12 [.f K.at] (λ r o=>r=[.agg (q.enc.map RO.d),rb K.busy]/\o=[])/\(K.busy=true->q=K.out):=by
 cases hb:K.busy
 .exact⟨_,uZ K hb,λ h=>by cases h⟩
 .exact⟨_,sm K hb,λ _=>rfl⟩
theorem Ix (acts:List hU) (aT aV:Int) (hl:acts.length<2^60) (hA:∀a∈acts,oN a) (hr:bp aT) (hle:bp aV):
  ae prog 4 [.f (al acts.length (ie acts)), .f (au aT), .f (au aV)] (λ r o=>r=[rb true]/\o=[]):=by
 refine aR aO mixed (T:=Ty) (n:=200) func4 (c:=f4.body.getD .skip) rfl results4 ntmps4 call4 ?_;simp only[f4,Option.getD];have haw:=A6;cases hq:decide ((acts.length:Int)>60)
 case true=>repeat'(first|(with_reducible first|refine aa _ _ ?_|refine ak ?_|refine ao ?_)|rw[af]|simp only[hq,zY,Int.reduceEq,Int.reduceBEq,Int.reduceBNe,Nat.reduceSub,Nat.reduceEqDiff,Nat.reduceAdd,Nat.reduceMul,Nat.reduceLeDiff,Nat.reduceLT,Nat.reduceBEq,reduceCtorEq]|((first|((try refine aD ?_);apply aE)|(apply aG;intro _));(solve|exact(haw)|(refine ae.le (haw) ?_;exact zM)|fail);try case hn=>rfl)|refine aj ?_|refine ag (λ hb=> ?_) (λ hb=> ?_)|(refine And.intro ?_ ?_;exact zI)|refine And.intro (λ hg=> ?_) (λ hg=> ?_)|exact zC|fail)
 have h60:acts.length≤60:=by simp at hq;omega
 have hcf:=uq;have hcl:=IY (aT:=aT) hle;have hnw:=Bt (mu aT aV) 0 (LF hle) (show 0≤(0:Int)/\(0:Int)<3 from by decide);have hin:=Mf (mu aT aV) 0 hcl (show 1≤(3:Int)/\(3:Int)≤7 from by decide) (by decide);obtain⟨K0,hK0⟩:∃K,K=nQ (mu aT aV) 0:=⟨_,rfl⟩;have f0:K0.c=mu aT aV/\K0.id=0/\K0.seq=0:=by rw[hK0];exact⟨rfl,rfl,rfl⟩
 rw[←hK0]at hnw hin;have hsp:=vD (1+aV) (aT % 201) hcl.1 hcl.2;have hspb:=n8 hcl.1 hcl.2;have g0:((0:Int) !=0)=false:=rfl;have hr2:=hr;have hle2:=hle;unfold bp at hr2 hle2;have w1:IntKind.i64.wrap aT=aT:=wrap64 (by omega) (by omega);have w2:aT.tmod 201=aT % 201:=mZ hr2.1 201;have w3:IntKind.i64.wrap (aT % 201)=aT % 201:=wrap64 (by omega) (by omega);have w4:IntKind.i64.wrap aV=aV:=wrap64 (by omega) (by omega);have w5:IntKind.i64.wrap (1+aV)=1+aV:=wrap64 (by omega) (by omega)
 repeat'(first|(with_reducible first|refine aa _ _ ?_|refine ak ?_|refine ao ?_)|rw[af]|simp only[hq,g0,w1,w2,w3,w4,w5,zY,Int.reduceEq,Int.reduceBEq,Int.reduceBNe,Nat.reduceSub,Nat.reduceEqDiff,Nat.reduceAdd,Nat.reduceMul,Nat.reduceLeDiff,Nat.reduceLT,Nat.reduceBEq,reduceCtorEq]|((first|((try refine aD ?_);apply aE)|(apply aG;intro _));(solve|exact(hcf)|exact(hsp)|(refine ae.le (hcf) ?_;exact zM)|(refine ae.le (hsp) ?_;exact zM)|fail);try case hn=>rfl)|refine oD (hnw) ?_|(refine oD (gy.le (hnw) ?_) ?_;focus(simp[cV,dq,dw,dG]<;>fail))|refine aj ?_|refine ag (λ hb=> ?_) (λ hb=> ?_)|(refine And.intro ?_ ?_;exact zI)|refine And.intro (λ hg=> ?_) (λ hg=> ?_)|exact zC|fail)
 obtain⟨sp,hsp2⟩:∃x,x=fQ (1+aV) (aT % 201):=⟨_,rfl⟩;rw[←hsp2];refine fJ Ty prog (τ:=Nat×Cl×Int×Int×Int×List bt) (λ ⟨i,K,now,fs0,sure,has⟩=>⟨[al acts.length (ie acts),dd,dd,dd,dd,dd,dd,dd, .one (.ptr ⟨41,0,1⟩ 0),dd,ai sp,ai now,ai fs0,ai sure,bE has.length (ch has),ai i,dd,dd,dd,dd,dd,dd,dd,dd,dd,dd,dd,dd,dd,dd,dd,dd,dd,dd,dd,dd,dd,dd,dd,dd,dd,dd,dd,dd,dd,dd,dd,dd,dd,dd,dd,dd,dd,dd,dd,dd,dd,dd,dd,dd,dd,dd,dd,dd,dd,dd,dd,dd,dd,dd,dd,dd,dd,dd,dd,dd,dd,dd,dd,dd,dd,dd,dd,dd,dd,dd,dd,dd,dd,dd,dd,dd,dd,dd,dd,dd,dd,dd,dd,dd,dd,dd,dd,dd,dd,dd,dd,dd,dd,dd,dd,dd,dd,dd,dd,dd,dd,dd,dd,dd,dd,dd,dd,dd,dd,dd,dd,dd,dd,dd,dd,dd,dd,dd,dd,dd,dd,dd,dd,dd,dd,dd,dd,dd,dd,dd,dd,dd,dd,dd,dd,dd,dd,dd,dd,dd,dd,dd,dd,dd,dd,dd,dd,dd,dd,dd,dd,dd,dd,dd,dd,dd,dd,dd,dd,dd,dd,dd,dd,dd,dd,dd,dd,dd,dd,dd,dd,dd,dd,dd,dd,dd,dd,dd,dd,dd,dd,dd,dd,dd],[(7,⟨2,[]⟩),kP 41 K,(14,⟨2,[]⟩),(16,⟨2,[]⟩),(17,⟨2,[]⟩),(19,⟨2,[]⟩),(20,⟨2,[]⟩),(21,⟨2,[]⟩),(82,⟨2,[]⟩),(89,⟨2,[]⟩),(106,⟨2,[]⟩),(111,⟨2,[]⟩),(120,⟨2,[]⟩),(122,⟨2,[]⟩),(196,⟨2,[]⟩)]⟩)
  (λ ⟨i,K,now,fs0,sure,has⟩=>i≤acts.length/\HI K now fs0 sure has/\K.c=mu aT aV/\K.id=0/\now≤15*i/\K.seq≤i/\has.length≤4) (λ t=>acts.length - t.1) (0,K0,0,0, -1,[])
  (((Gh.nil (i:=14) (s:=14) (sz:=2) rfl).trans (Gh.CH 14 (d:= .sl 0 []) rfl (by simp only[zY,aq,Nat.reduceSub,Nat.reduceEqDiff,Nat.reduceAdd,Nat.reduceMul,Nat.reduceLeDiff,Nat.reduceLT,Nat.reduceBEq,reduceCtorEq];rfl))).trans (Gh.canon [41] [16,17,19,20,21,82,89,106,111,120,122,196] [] zK rfl rfl)) ⟨dA _,hin,f0.1,f0.2.1,by decide,by rw[f0.2.2];decide,by decide⟩ ?_
 intro⟨i,K,now,fs0,sure,has⟩ ⟨hi0,hK,hc,hid,hnow,hsq,hh4⟩ Kx hKx;simp only at hi0 hK hc hid hnow hsq hh4 hKx⊢;cases hlt:decide ((i:Int)<acts.length)
 case false=>repeat'(first|(with_reducible first|refine aa _ _ ?_|refine ak ?_|refine ao ?_)|rw[af]|simp only[hlt,zY,Int.reduceEq,Int.reduceBEq,Int.reduceBNe,Nat.reduceSub,Nat.reduceEqDiff,Nat.reduceAdd,Nat.reduceMul,Nat.reduceLeDiff,Nat.reduceLT,Nat.reduceBEq,reduceCtorEq]|((first|((try refine aD ?_);apply aE)|(apply aG;intro _));(solve|exact(haw)|(refine ae.le (haw) ?_;exact zM)|fail);try case hn=>rfl)|refine aj ?_|refine ag (λ hb=> ?_) (λ hb=> ?_)|(refine And.intro ?_ ?_;exact zI)|refine And.intro (λ hg=> ?_) (λ hg=> ?_)|exact zC|fail)
 have hi:i<acts.length:=by simpa using hlt
 have hat:=Au hi;have hw:=fv hi (by omega);have hao:=hA _ (ix hi);generalize acts[i]=a at*;have ht:=hao.t;unfold bp at ht;have w1:IntKind.i64.wrap a.time=a.time:=wrap64 (by omega) (by omega);have w2:a.time.tmod 16=a.time % 16:=mZ ht.1 16;have w3:IntKind.i64.wrap (a.time % 16)=a.time % 16:=wrap64 (by omega) (by omega);have hn0:0≤now:=by have:=hK.f;omega
 have w4:IntKind.i64.wrap (now+a.time % 16)=now+a.time % 16:=wrap64 (by omega) (by omega);obtain⟨t,htt⟩:∃t,t=now+a.time % 16:=⟨_,rfl⟩;rw[←htt]at w4;have hKt:=hK.s6 (t:=t) (by omega) (by omega);clear hK;obtain⟨q,ho,hqo⟩:=p9 K
 repeat'(first|(with_reducible first|refine nf 17 ?_|refine mW 17 ?_|refine mX 17 ?_)|(with_reducible first|refine aa _ _ ?_|refine ak ?_|refine ao ?_)|rw[af]|simp only[hlt,hat,w1,w2,w3,←htt,w4,mT,aS,zY,Int.reduceEq,Int.reduceBEq,Int.reduceBNe,Nat.reduceSub,Nat.reduceEqDiff,Nat.reduceAdd,Nat.reduceMul,Nat.reduceLeDiff,Nat.reduceLT,Nat.reduceBEq,reduceCtorEq]|((first|((try refine aD ?_);apply aE)|(apply aG;intro _));(solve|exact(ho)|(refine ae.le (ho) ?_;exact zM)|fail);try case hn=>rfl)|refine aj ?_|refine ag (λ hb=> ?_) (λ hb=> ?_)|(refine And.intro ?_ ?_;exact zJ)|refine And.intro (λ hg=> ?_) (λ hg=> ?_)|exact zC|fail)
 refine LR (τ:=Cl×Int×Int×List bt) (λ ⟨K,fs0,sure,has⟩=>⟨[al acts.length (ie acts),dd,dd,dd,dd,dd,dd,dd, .one (.ptr ⟨41,0,1⟩ 0),dd,ai sp,ai t,ai fs0,ai sure,bE has.length (ch has),ai i,dd,dd,dd,dd,dd,dd,dd,dd,dd,dd,dd,dd,dd,dd,dd,dd,dd,dd,dd,dd,dd,dd,dd,dd,dd,dd,dd,dd,dd,dd,dd,dd,dd,dd,dd,dd,dd,dd,dd,dd,dd,dd,dd,dd,dd,dd,dd,dd,dd,dd,dd,dd,dd,dd,dd,dd,dd,dd,dd,dd,dd,dd,dd,dd,dd,dd,dd,dd,dd,dd,dd,dd,dd,dd,dd,dd,dd,dd,dd,dd,dd,dd,dd,dd,dd,dd,dd,dd,dd,dd,dd,dd,dd,dd,dd,dd,dd,dd,dd,dd,dd,dd,dd,dd,dd,dd,dd,dd,dd,dd,dd,dd,dd,dd,dd,dd,dd,dd,dd,dd,dd,dd,dd,dd,dd,dd,dd,dd,dd,dd,dd,dd,dd,dd,dd,dd,dd,dd,dd,dd,dd,dd,dd,dd,dd,dd,dd,dd,dd,dd,dd,dd,dd,dd,dd,dd,dd,dd,dd,dd,dd,dd,dd,dd,dd,dd,dd,dd,dd,dd,dd,dd,dd,dd,dd,dd,dd,dd,dd,dd,dd,dd,dd,dd],[(7,⟨2,[]⟩),kP 41 K,(14,⟨2,[]⟩),(16,⟨2,[]⟩),(17,⟨2,[]⟩),(19,⟨2,[]⟩),(20,⟨2,[]⟩),(21,⟨2,[]⟩),(82,⟨2,[]⟩),(89,⟨2,[]⟩),(106,⟨2,[]⟩),(111,⟨2,[]⟩),(120,⟨2,[]⟩),(122,⟨2,[]⟩),(196,⟨2,[]⟩)]⟩)
  (λ ⟨K,fs0,sure,has⟩=>HI K t fs0 sure has/\K.c=mu aT aV/\K.id=0/\K.seq≤i+1/\has.length≤4) ?_ ?_
 .intro⟨K,fs0,sure,has⟩ ⟨hI,hc,hid,hsq,hh4⟩;simp only at hI hc hid hsq hh4⊢;obtain⟨i1,i2,i3⟩:=hI.held;have hspe:fQ K.c.aV K.c.aT=sp:=by rw[hc,hsp2];rfl
  rw[hspe]at i2 i3;have hsb:0≤sp/\sp≤1000000000:=by rw[hsp2];exact⟨hspb.1,hspb.2.1⟩
  have htb:=hI.ci.w;have hf:=hI.f;have hsu:=hI.su;have hal:=hI.ci.n;have hhl:=hI.ci.h;have w5:IntKind.i64.wrap (t+sp)=t+sp:=wrap64 (by omega) (by omega);have w6:IntKind.i64.wrap (t - sure)=t - sure:=wrap64 (by omega) (by omega);have hh1:=BN K t (by omega) (by omega) (by omega);have hh2:ae prog 22 [.f K.at, .f (ai (t+sp))] (λ r o=>r=[.one (.d (.sl 0 []))]/\o=[]):=by have:=BN K (t+sp) (by omega) (by omega) (by omega);rw[i3]at this;exact this
  have has1:=Ln K (by omega);have hLl:(jH K t).length≤4:=by
   unfold jH;split
   .exact dA _
   .exact gl (List.length_filter_le ..) hhl
  obtain⟨L,hL⟩:∃L,L=jH K t:=⟨_,rfl⟩;rw[←hL]at i1 i2 hh1 hLl;have hcd:(decide ((L.length:Int)>0)&&(decide (sure<0)||decide (t - sure≥sp)))=false:=by
   cases hz:decide ((L.length:Int)>0)
   .rfl
   .have h1:L≠[]:=λ h=>by rw[h]at hz;simp at hz
    have h2:=i2 h1;have e1:decide (sure<0)=false:=by simp;omega
    have e2:decide (t - sure≥sp)=false:=by simp;omega
    rw[e1,e2];rfl
  clear hKt hA
  repeat'(first|(with_reducible first|refine nf 34 ?_|refine mW 34 ?_|refine mX 34 ?_)|(with_reducible first|refine aa _ _ ?_|refine ak ?_|refine ao ?_)|rw[af]|simp only[w6,hcd,aS,zY,Int.reduceEq,Int.reduceBEq,Int.reduceBNe,Nat.reduceSub,Nat.reduceEqDiff,Nat.reduceAdd,Nat.reduceMul,Nat.reduceLeDiff,Nat.reduceLT,Nat.reduceBEq,reduceCtorEq]|((first|((try refine aD ?_);apply aE)|(apply aG;intro _));(solve|exact(hh1)|exact(has1)|(refine ae.le (hh1) ?_;exact zM)|(refine ae.le (has1) ?_;exact zM)|fail);try case hn=>rfl)|refine aj ?_|refine ag (λ hb=> ?_) (λ hb=> ?_)|(refine And.intro ?_ ?_;exact zJ)|refine And.intro (λ hg=> ?_) (λ hg=> ?_)|exact zC|fail)
  refine qh (sC (Gh.CH 21 (d:= .sl K.asks.length (cH K.asks)) rfl (by simp only[zY,aS,Nat.reduceSub,Nat.reduceEqDiff,Nat.reduceAdd,Nat.reduceMul,Nat.reduceLeDiff,Nat.reduceLT,Nat.reduceBEq,reduceCtorEq];rfl)) ?_);simp only[zB,Nat.reduceSub,Nat.reduceEqDiff,Nat.reduceAdd,Nat.reduceMul,Nat.reduceLeDiff,Nat.reduceLT,Nat.reduceBEq,reduceCtorEq]
  repeat'(first|(with_reducible first|refine aa _ _ ?_|refine ak ?_|refine ao ?_)|rw[af]|simp only[zY,Int.reduceEq,Int.reduceBEq,Int.reduceBNe,Nat.reduceSub,Nat.reduceEqDiff,Nat.reduceAdd,Nat.reduceMul,Nat.reduceLeDiff,Nat.reduceLT,Nat.reduceBEq,reduceCtorEq]|refine aj ?_|refine ag (λ hb=> ?_) (λ hb=> ?_)|(refine And.intro ?_ ?_;exact zJ)|refine And.intro (λ hg=> ?_) (λ hg=> ?_)|exact zC|fail)
  refine fJ Ty prog (τ:=Nat) (λ j=>⟨[al acts.length (ie acts),dd,dd,dd,dd,dd,dd,dd, .one (.ptr ⟨41,0,1⟩ 0),dd,ai sp,ai t,ai fs0,ai sure,bE has.length (ch has),ai i,dd,dd,dd,dd,bE L.length (ch L),bE K.asks.length (cH K.asks),ai j,dd,dd,dd,dd,dd,dd,dd,dd,dd,dd,dd,dd,dd,dd,dd,dd,dd,dd,dd,dd,dd,dd,dd,dd,dd,dd,dd,dd,dd,dd,dd,dd,dd,dd,dd,dd,dd,dd,dd,dd,dd,dd,dd,dd,dd,dd,dd,dd,dd,dd,dd,dd,dd,dd,dd,dd,dd,dd,dd,dd,dd,dd,dd,dd,dd,dd,dd,dd,dd,dd,dd,dd,dd,dd,dd,dd,dd,dd,dd,dd,dd,dd,dd,dd,dd,dd,dd,dd,dd,dd,dd,dd,dd,dd,dd,dd,dd,dd,dd,dd,dd,dd,dd,dd,dd,dd,dd,dd,dd,dd,dd,dd,dd,dd,dd,dd,dd,dd,dd,dd,dd,dd,dd,dd,dd,dd,dd,dd,dd,dd,dd,dd,dd,dd,dd,dd,dd,dd,dd,dd,dd,dd,dd,dd,dd,dd,dd,dd,dd,dd,dd,dd,dd,dd,dd,dd,dd,dd,dd,dd,dd,dd,dd,dd,dd,dd,dd,dd,dd,dd,dd,dd,dd,dd,dd,dd,dd],[(7,⟨2,[]⟩),kP 41 K,(14,⟨2,[]⟩),(16,⟨2,[]⟩),(17,⟨2,[]⟩),(19,⟨2,[]⟩),(20,⟨2,[]⟩),(21,⟨2,[]⟩),(82,⟨2,[]⟩),(89,⟨2,[]⟩),(106,⟨2,[]⟩),(111,⟨2,[]⟩),(120,⟨2,[]⟩),(122,⟨2,[]⟩),(196,⟨2,[]⟩)]⟩)
   (λ j=>j≤L.length) (λ j=>L.length - j) 0 (Gh.canon [41] [] [] zK rfl rfl) (dA _) ?_
  intro j hj0 K3 hK3;simp only at hj0 hK3⊢;cases hjl:decide ((j:Int)<L.length)
  .repeat'(first|(with_reducible first|refine aa _ _ ?_|refine ak ?_|refine ao ?_)|rw[af]|simp only[hjl,w5,aS,zY,Int.reduceEq,Int.reduceBEq,Int.reduceBNe,Nat.reduceSub,Nat.reduceEqDiff,Nat.reduceAdd,Nat.reduceMul,Nat.reduceLeDiff,Nat.reduceLT,Nat.reduceBEq,reduceCtorEq]|((first|((try refine aD ?_);apply aE)|(apply aG;intro _));(solve|exact(hh2)|(refine ae.le (hh2) ?_;exact zM)|fail);try case hn=>rfl)|refine aj ?_|refine ag (λ hb=> ?_) (λ hb=> ?_)|(refine And.intro ?_ ?_;exact zJ)|refine And.intro (λ hg=> ?_) (λ hg=> ?_)|exact zC|fail)
   .exact absurd hb (by decide)
   exact hKx _ (i+1,K,t,fs0,sure,has) (Gh.canon [41] [] [] (by simp only[hw,bN,bS,bW,bR,bT,bU,bV,bM,bO,bL,bH,bK,bX,D.v.injEq,bY];try(repeat'(first|rfl|omega|with_reducible apply And.intro))) rfl rfl) ⟨hi,hI,hc,hid,by show t≤15*((i+1:Nat):Int);omega,by show K.seq≤((i+1:Nat):Int);omega,hh4⟩ (by simp only;omega)
  .have hj:j<L.length:=by simpa using hjl
   have hgt:=gL hj;have hjw:=fv hj (by omega);obtain⟨i4,i5⟩:=i1 _ (ix hj);generalize L[j]=g at*
   repeat'(first|(with_reducible first|refine aa _ _ ?_|refine ak ?_|refine ao ?_)|rw[af]|simp only[hjl,zY,Int.reduceEq,Int.reduceBEq,Int.reduceBNe,Nat.reduceSub,Nat.reduceEqDiff,Nat.reduceAdd,Nat.reduceMul,Nat.reduceLeDiff,Nat.reduceLT,Nat.reduceBEq,reduceCtorEq]|refine aj ?_|refine ag (λ hb=> ?_) (λ hb=> ?_)|(refine And.intro ?_ ?_;exact zJ)|refine And.intro (λ hg=> ?_) (λ hg=> ?_)|exact zC|fail)
   refine fJ Ty prog (τ:=Nat×Bool) (λ x=>⟨[al acts.length (ie acts),dd,dd,dd,dd,dd,dd,dd, .one (.ptr ⟨41,0,1⟩ 0),dd,ai sp,ai t,ai fs0,ai sure,bE has.length (ch has),ai i,dd,dd,dd,dd,bE L.length (ch L),bE K.asks.length (cH K.asks),ai j,ab x.2,ai x.1,dd,dd,dd,dd,dd,dd,dd,dd,dd,dd,dd,dd,dd,dd,dd,dd,dd,dd,dd,dd,dd,dd,dd,dd,dd,dd,dd,dd,dd,dd,dd,dd,dd,dd,dd,dd,dd,dd,dd,dd,dd,dd,dd,dd,dd,dd,dd,dd,dd,dd,dd,dd,dd,dd,dd,dd,dd,dd,dd,dd,dd,dd,dd,dd,dd,dd,dd,dd,dd,dd,dd,dd,dd,dd,dd,dd,dd,dd,dd,dd,dd,dd,dd,dd,dd,dd,dd,dd,dd,dd,dd,dd,dd,dd,dd,dd,dd,dd,dd,dd,dd,dd,dd,dd,dd,dd,dd,dd,dd,dd,dd,dd,dd,dd,dd,dd,dd,dd,dd,dd,dd,dd,dd,dd,dd,dd,dd,dd,dd,dd,dd,dd,dd,dd,dd,dd,dd,dd,dd,dd,dd,dd,dd,dd,dd,dd,dd,dd,dd,dd,dd,dd,dd,dd,dd,dd,dd,dd,dd,dd,dd,dd,dd,dd,dd,dd,dd,dd,dd,dd,dd,dd,dd,dd,dd],[(7,⟨2,[]⟩),kP 41 K,(14,⟨2,[]⟩),(16,⟨2,[]⟩),(17,⟨2,[]⟩),(19,⟨2,[]⟩),(20,⟨2,[]⟩),(21,⟨2,[]⟩),(82,⟨2,[]⟩),(89,⟨2,[]⟩),(106,⟨2,[]⟩),(111,⟨2,[]⟩),(120,⟨2,[]⟩),(122,⟨2,[]⟩),(196,⟨2,[]⟩)]⟩)
    (λ x=>x.1≤has.length/\(x.2=true∨g∈has.drop x.1)) (λ x=>has.length - x.1) (0,false) (Gh.canon [41] [] [] zK rfl rfl) ⟨dA _, .inr i4⟩ ?_
   intro⟨m,b⟩ ⟨hm0,hmb⟩ K4 hK4;simp only at hm0 hmb hK4⊢;cases hml:decide ((m:Int)<has.length)
   .have hb1:b=true:=by
     rcases hmb with h|h
     .exact h
     .rw[List.drop_eq_nil_of_le (by simp at hml;omega)]at h;cases h
    subst hb1
    repeat'(first|(with_reducible first|refine aa _ _ ?_|refine ak ?_|refine ao ?_)|rw[af]|simp only[hml,zY,Int.reduceEq,Int.reduceBEq,Int.reduceBNe,Nat.reduceSub,Nat.reduceEqDiff,Nat.reduceAdd,Nat.reduceMul,Nat.reduceLeDiff,Nat.reduceLT,Nat.reduceBEq,reduceCtorEq]|refine aj ?_|refine ag (λ hb=> ?_) (λ hb=> ?_)|(refine And.intro ?_ ?_;exact zJ)|refine And.intro (λ hg=> ?_) (λ hg=> ?_)|exact zC|fail)
    refine fJ Ty prog (τ:=Nat) (λ x=>⟨[al acts.length (ie acts),dd,dd,dd,dd,dd,dd,dd, .one (.ptr ⟨41,0,1⟩ 0),dd,ai sp,ai t,ai fs0,ai sure,bE has.length (ch has),ai i,dd,dd,dd,dd,bE L.length (ch L),bE K.asks.length (cH K.asks),ai j,ab true,dd,ai x,dd,dd,dd,dd,dd,dd,dd,dd,dd,dd,dd,dd,dd,dd,dd,dd,dd,dd,dd,dd,dd,dd,dd,dd,dd,dd,dd,dd,dd,dd,dd,dd,dd,dd,dd,dd,dd,dd,dd,dd,dd,dd,dd,dd,dd,dd,dd,dd,dd,dd,dd,dd,dd,dd,dd,dd,dd,dd,dd,dd,dd,dd,dd,dd,dd,dd,dd,dd,dd,dd,dd,dd,dd,dd,dd,dd,dd,dd,dd,dd,dd,dd,dd,dd,dd,dd,dd,dd,dd,dd,dd,dd,dd,dd,dd,dd,dd,dd,dd,dd,dd,dd,dd,dd,dd,dd,dd,dd,dd,dd,dd,dd,dd,dd,dd,dd,dd,dd,dd,dd,dd,dd,dd,dd,dd,dd,dd,dd,dd,dd,dd,dd,dd,dd,dd,dd,dd,dd,dd,dd,dd,dd,dd,dd,dd,dd,dd,dd,dd,dd,dd,dd,dd,dd,dd,dd,dd,dd,dd,dd,dd,dd,dd,dd,dd,dd,dd,dd,dd,dd,dd,dd,dd,dd],[(7,⟨2,[]⟩),kP 41 K,(14,⟨2,[]⟩),(16,⟨2,[]⟩),(17,⟨2,[]⟩),(19,⟨2,[]⟩),(20,⟨2,[]⟩),(21,⟨2,[]⟩),(82,⟨2,[]⟩),(89,⟨2,[]⟩),(106,⟨2,[]⟩),(111,⟨2,[]⟩),(120,⟨2,[]⟩),(122,⟨2,[]⟩),(196,⟨2,[]⟩)]⟩)
     (λ x=>x≤K.asks.length) (λ x=>K.asks.length - x) 0 (Gh.canon [41] [] [] zK rfl rfl) (dA _) ?_
    intro n hn0 K5 hK5;simp only at hn0 hK5⊢;cases hnl:decide ((n:Int)<K.asks.length)
    .repeat'(first|(with_reducible first|refine aa _ _ ?_|refine ak ?_|refine ao ?_)|rw[af]|simp only[hnl,hjw,zY,Int.reduceEq,Int.reduceBEq,Int.reduceBNe,Nat.reduceSub,Nat.reduceEqDiff,Nat.reduceAdd,Nat.reduceMul,Nat.reduceLeDiff,Nat.reduceLT,Nat.reduceBEq,reduceCtorEq]|refine aj ?_|refine ag (λ hb=> ?_) (λ hb=> ?_)|(refine And.intro ?_ ?_;exact zJ)|refine And.intro (λ hg=> ?_) (λ hg=> ?_)|exact zC|fail)
     exact hK3 _ (j+1) (Gh.canon [41] [] [] zK rfl rfl) hj (by omega)
    .have hn:n<K.asks.length:=by simpa using hnl
     have hct:=B5 hn;have hnw:=fv hn (by omega);have hlq:=i5 _ (ix hn);generalize K.asks[n]=c at*;unfold lL at hlq;rw[kU]at hlq;cases hk5:(c.kind==5)
     .repeat'(first|(with_reducible first|refine aa _ _ ?_|refine ak ?_|refine ao ?_)|rw[af]|simp only[hnl,hct,hgt,hk5,hnw,jZ,en,zY,Int.reduceEq,Int.reduceBEq,Int.reduceBNe,Nat.reduceSub,Nat.reduceEqDiff,Nat.reduceAdd,Nat.reduceMul,Nat.reduceLeDiff,Nat.reduceLT,Nat.reduceBEq,reduceCtorEq]|refine aj ?_|refine ag (λ hb=> ?_) (λ hb=> ?_)|(refine And.intro ?_ ?_;exact zJ)|refine And.intro (λ hg=> ?_) (λ hg=> ?_)|exact zC|fail)
      exact hK5 _ (n+1) (Gh.canon [41] [] [] zK rfl rfl) hn (by omega)
     .have hnm:(c.name.toList==g.name.toList)=false:=by have:=hlq.2;rw[hk5,kh]at this;exact this
      repeat'(first|(with_reducible first|refine aa _ _ ?_|refine ak ?_|refine ao ?_)|rw[af]|simp only[hnl,hct,hgt,hk5,hnm,hnw,jZ,en,zY,Int.reduceEq,Int.reduceBEq,Int.reduceBNe,Nat.reduceSub,Nat.reduceEqDiff,Nat.reduceAdd,Nat.reduceMul,Nat.reduceLeDiff,Nat.reduceLT,Nat.reduceBEq,reduceCtorEq]|refine aj ?_|refine ag (λ hb=> ?_) (λ hb=> ?_)|(refine And.intro ?_ ?_;exact zJ)|refine And.intro (λ hg=> ?_) (λ hg=> ?_)|exact zC|fail)
      exact hK5 _ (n+1) (Gh.canon [41] [] [] zK rfl rfl) hn (by omega)
   .have hm:m<has.length:=by simpa using hml
    have hmt:=gL hm;have hmw:=fv hm (by omega);cases b
    .repeat'(first|(with_reducible first|refine aa _ _ ?_|refine ak ?_|refine ao ?_)|rw[af]|simp only[hml,hmt,hgt,hmw,en,zY,Int.reduceEq,Int.reduceBEq,Int.reduceBNe,Nat.reduceSub,Nat.reduceEqDiff,Nat.reduceAdd,Nat.reduceMul,Nat.reduceLeDiff,Nat.reduceLT,Nat.reduceBEq,reduceCtorEq]|refine aj ?_|refine ag (λ hb=> ?_) (λ hb=> ?_)|(refine And.intro ?_ ?_;exact zJ)|refine And.intro (λ hg=> ?_) (λ hg=> ?_)|exact zC|fail)
     refine hK4 _ (m+1,_) (Gh.canon [41] [] [] zK rfl rfl) ⟨hm, ?_⟩ (by simp only;omega);rcases hmb with h|h
     .cases h
     .rw[kn hm]at h;rcases cL.1 h with h|h
      .exact .inl (by simp only;rw[←h];simp)
      .exact .inr h
    .repeat'(first|(with_reducible first|refine aa _ _ ?_|refine ak ?_|refine ao ?_)|rw[af]|simp only[hml,hmt,hgt,hmw,en,zY,Int.reduceEq,Int.reduceBEq,Int.reduceBNe,Nat.reduceSub,Nat.reduceEqDiff,Nat.reduceAdd,Nat.reduceMul,Nat.reduceLeDiff,Nat.reduceLT,Nat.reduceBEq,reduceCtorEq]|refine aj ?_|refine ag (λ hb=> ?_) (λ hb=> ?_)|(refine And.intro ?_ ?_;exact zJ)|refine And.intro (λ hg=> ?_) (λ hg=> ?_)|exact zC|fail)
     exact hK4 _ (m+1,true) (Gh.canon [41] [] [] zK rfl rfl) ⟨hm, .inl rfl⟩ (by simp only;omega)
 .clear hKx;intro K2 hK2;have hd:a.todo=0∨a.todo=1∨a.todo=2∨(a.todo≠0/\a.todo≠1/\a.todo≠2):=by omega
  rcases hd with hd|hd|hd|⟨hd0,hd1,hd2⟩
  .have e0:(a.todo==0)=true:=by rw[hd];rfl
   obtain⟨K',b,hst,hstep⟩:=AD K t hKt.ci (by omega);have hH:=hKt.step hst;have hsq':K'.seq≤K.seq+1:=by
    cases hb:K.busy
    .cases b
     .have:=(hst.go hb).2.2 rfl;omega
     .have:=((hst.go hb).2.1 rfl).1;omega
    .have:=(hst.out hb).2.2.1;omega
   have hcc:=hst.has.2.2.2.2;have hii:=hst.has.2.2.2.1;have hfin:∀g,Gh g ⟨[al acts.length (ie acts),dd,dd,dd,dd,dd,dd,dd, .one (.ptr ⟨41,0,1⟩ 0),dd,ai sp,ai t,ai (if K.busy=true then fs0 else t),ai sure,bE has.length (ch has),ai i,dd,dd,dd,dd,dd,dd,dd,dd,dd,dd,dd,dd,dd,dd,dd,dd,dd,dd,dd,dd,dd,dd,dd,dd,dd,dd,dd,dd,dd,dd,dd,dd,dd,dd,dd,dd,dd,dd,dd,dd,dd,dd,dd,dd,dd,dd,dd,dd,dd,dd,dd,dd,dd,dd,dd,dd,dd,dd,dd,dd,dd,dd,dd,dd,dd,dd,dd,dd,dd,dd,dd,dd,dd,dd,dd,dd,dd,dd,dd,dd,dd,dd,dd,dd,dd,dd,dd,dd,dd,dd,dd,dd,dd,dd,dd,dd,dd,dd,dd,dd,dd,dd,dd,dd,dd,dd,dd,dd,dd,dd,dd,dd,dd,dd,dd,dd,dd,dd,dd,dd,dd,dd,dd,dd,dd,dd,dd,dd,dd,dd,dd,dd,dd,dd,dd,dd,dd,dd,dd,dd,dd,dd,dd,dd,dd,dd,dd,dd,dd,dd,dd,dd,dd,dd,dd,dd,dd,dd,dd,dd,dd,dd,dd,dd,dd,dd,dd,dd,dd,dd,dd,dd,dd,dd,dd,dd,dd,dd,dd,dd,dd,dd,dd,dd],[(7,⟨2,[]⟩),kP 41 K',(14,⟨2,[]⟩),(16,⟨2,[]⟩),(17,⟨2,[]⟩),(19,⟨2,[]⟩),(20,⟨2,[]⟩),(21,⟨2,[]⟩),(82,⟨2,[]⟩),(89,⟨2,[]⟩),(106,⟨2,[]⟩),(111,⟨2,[]⟩),(120,⟨2,[]⟩),(122,⟨2,[]⟩),(196,⟨2,[]⟩)]⟩->K2 g:=
    λ g hg=>hK2 g (K',_,sure,has) hg ⟨hH,by rw[hcc];exact hc,by rw[hii];exact hid,by omega,hh4⟩
   clear hK2;cases b
   .rw[ar (by simp)]at hstep
    repeat'(first|(with_reducible first|refine aa _ _ ?_|refine ak ?_|refine ao ?_)|rw[af]|simp only[e0,aS,zY,Int.reduceEq,Int.reduceBEq,Int.reduceBNe,Nat.reduceSub,Nat.reduceEqDiff,Nat.reduceAdd,Nat.reduceMul,Nat.reduceLeDiff,Nat.reduceLT,Nat.reduceBEq,reduceCtorEq]|refine aj ?_|refine ag (λ hb=> ?_) (λ hb=> ?_)|(refine And.intro ?_ ?_;exact zJ)|refine And.intro (λ hg=> ?_) (λ hg=> ?_)|exact zC|fail)
    refine fa (mv:= ?mv1) (aJ:= ?le1) (x:= ?x1) (ass:= ?ass1) ?ha1 (hstep) ?hr1 rfl ?hs1 ?hb1 ?hc1
    case ha1=>(try simp only[zY,Int.reduceEq,Int.reduceBEq,Int.reduceBNe,aS,Nat.reduceSub,Nat.reduceEqDiff,Nat.reduceAdd,Nat.reduceMul,Nat.reduceLeDiff,Nat.reduceLT,Nat.reduceBEq,reduceCtorEq]);exact rfl
    case hr1=>simp[ea,eu,aS]
    case hs1=>simp[cV,dq,dw,dG,aS]
    case hb1=>(try simp only[zB,bA,aS,Nat.reduceSub,Nat.reduceEqDiff,Nat.reduceAdd,Nat.reduceMul,Nat.reduceLeDiff,Nat.reduceLT,Nat.reduceBEq,reduceCtorEq]);repeat'(first|rfl|trivial|omega|with_reducible refine And.intro ?_ ?_)
    show aP _ _ _ _ _ _ _ _;cases hb:K.busy
    .rw[hb]at hfin
     repeat'(first|(with_reducible first|refine aa _ _ ?_|refine ak ?_|refine ao ?_)|rw[af]|simp only[hb,aS,zY,Int.reduceEq,Int.reduceBEq,Int.reduceBNe,Nat.reduceSub,Nat.reduceEqDiff,Nat.reduceAdd,Nat.reduceMul,Nat.reduceLeDiff,Nat.reduceLT,Nat.reduceBEq,reduceCtorEq]|refine aj ?_|refine ag (λ hb=> ?_) (λ hb=> ?_)|(refine And.intro ?_ ?_;exact zJ)|refine And.intro (λ hg=> ?_) (λ hg=> ?_)|exact zC|fail)
     exact hfin _ (Gh.canon [41] [] [] zK rfl rfl)
    .rw[hb]at hfin
     repeat'(first|(with_reducible first|refine aa _ _ ?_|refine ak ?_|refine ao ?_)|rw[af]|simp only[hb,aS,zY,Int.reduceEq,Int.reduceBEq,Int.reduceBNe,Nat.reduceSub,Nat.reduceEqDiff,Nat.reduceAdd,Nat.reduceMul,Nat.reduceLeDiff,Nat.reduceLT,Nat.reduceBEq,reduceCtorEq]|refine aj ?_|refine ag (λ hb=> ?_) (λ hb=> ?_)|(refine And.intro ?_ ?_;exact zJ)|refine And.intro (λ hg=> ?_) (λ hg=> ?_)|exact zC|fail)
     exact hfin _ (Gh.canon [41] [] [] zK rfl rfl)
   .rw[ay rfl]at hstep
    repeat'(first|(with_reducible first|refine aa _ _ ?_|refine ak ?_|refine ao ?_)|rw[af]|simp only[e0,aS,zY,Int.reduceEq,Int.reduceBEq,Int.reduceBNe,Nat.reduceSub,Nat.reduceEqDiff,Nat.reduceAdd,Nat.reduceMul,Nat.reduceLeDiff,Nat.reduceLT,Nat.reduceBEq,reduceCtorEq]|refine aj ?_|refine ag (λ hb=> ?_) (λ hb=> ?_)|(refine And.intro ?_ ?_;exact zJ)|refine And.intro (λ hg=> ?_) (λ hg=> ?_)|exact zC|fail)
    refine fa (mv:= ?mv2) (aJ:= ?le2) (x:= ?x2) (ass:= ?ass2) ?ha2 (hstep) ?hr2 rfl ?hs2 ?hb2 ?hc2
    case ha2=>(try simp only[zY,Int.reduceEq,Int.reduceBEq,Int.reduceBNe,aS,Nat.reduceSub,Nat.reduceEqDiff,Nat.reduceAdd,Nat.reduceMul,Nat.reduceLeDiff,Nat.reduceLT,Nat.reduceBEq,reduceCtorEq]);exact rfl
    case hr2=>simp[ea,eu,aS]
    case hs2=>simp[cV,dq,dw,dG,aS]
    case hb2=>(try simp only[zB,bA,aS,Nat.reduceSub,Nat.reduceEqDiff,Nat.reduceAdd,Nat.reduceMul,Nat.reduceLeDiff,Nat.reduceLT,Nat.reduceBEq,reduceCtorEq]);repeat'(first|rfl|trivial|omega|with_reducible refine And.intro ?_ ?_)
    show aP _ _ _ _ _ _ _ _;cases hb:K.busy
    .rw[hb]at hfin
     repeat'(first|(with_reducible first|refine aa _ _ ?_|refine ak ?_|refine ao ?_)|rw[af]|simp only[hb,aS,zY,Int.reduceEq,Int.reduceBEq,Int.reduceBNe,Nat.reduceSub,Nat.reduceEqDiff,Nat.reduceAdd,Nat.reduceMul,Nat.reduceLeDiff,Nat.reduceLT,Nat.reduceBEq,reduceCtorEq]|refine aj ?_|refine ag (λ hb=> ?_) (λ hb=> ?_)|(refine And.intro ?_ ?_;exact zJ)|refine And.intro (λ hg=> ?_) (λ hg=> ?_)|exact zC|fail)
     exact hfin _ (Gh.canon [41] [] [] zK rfl rfl)
    .rw[hb]at hfin
     repeat'(first|(with_reducible first|refine aa _ _ ?_|refine ak ?_|refine ao ?_)|rw[af]|simp only[hb,aS,zY,Int.reduceEq,Int.reduceBEq,Int.reduceBNe,Nat.reduceSub,Nat.reduceEqDiff,Nat.reduceAdd,Nat.reduceMul,Nat.reduceLeDiff,Nat.reduceLT,Nat.reduceBEq,reduceCtorEq]|refine aj ?_|refine ag (λ hb=> ?_) (λ hb=> ?_)|(refine And.intro ?_ ?_;exact zJ)|refine And.intro (λ hg=> ?_) (λ hg=> ?_)|exact zC|fail)
     exact hfin _ (Gh.canon [41] [] [] zK rfl rfl)
  .have e0:(a.todo==0)=false:=by rw[hd];rfl
   have e1:(a.todo==1)=true:=by rw[hd];rfl
   have hkb:=hao.k;obtain⟨rest,hkd⟩:=BA hkb;have hkb2:=hkb;unfold bp at hkb2;have v1:a.kind.tmod 3=a.kind % 3:=mZ hkb2.1 3;have v2:IntKind.u8.wrap (a.kind % 3)=a.kind % 3:=hC (by omega) (by omega);have hnm:=uQ a.name hao.m;have hak:=BC K (fV a.kind) (fL a.name) (by have:=y6 (rY a.name);omega) hKt.ci.n;have hH:=hKt.ask (vN a.kind a.name);obtain⟨_,hKe⟩:=vr hKt.ci (vN a.kind a.name);have ha2:(dB K (fV a.kind) (fL a.name)).1.c=K.c/\(dB K (fV a.kind) (fL a.name)).1.id=K.id/\(dB K (fV a.kind) (fL a.name)).1.seq=K.seq:=by rw[hKe];exact⟨rfl,rfl,rfl⟩
   obtain⟨K',hK'⟩:∃x,x=(dB K (fV a.kind) (fL a.name)).1:=⟨_,rfl⟩;obtain⟨r',hr'⟩:∃x,x=(dB K (fV a.kind) (fL a.name)).2:=⟨_,rfl⟩;rw[←hK']at ha2 hH;rw[←hK',←hr']at hak;clear hKe
   repeat'(first|(with_reducible first|refine aa _ _ ?_|refine ak ?_|refine ao ?_)|rw[af]|simp only[e0,e1,v1,v2,hkd,aS,zY,Int.reduceEq,Int.reduceBEq,Int.reduceBNe,Nat.reduceSub,Nat.reduceEqDiff,Nat.reduceAdd,Nat.reduceMul,Nat.reduceLeDiff,Nat.reduceLT,Nat.reduceBEq,reduceCtorEq]|((first|((try refine aD ?_);apply aE)|(apply aG;intro _));(solve|exact(hnm)|(refine ae.le (hnm) ?_;exact zM)|fail);try case hn=>rfl)|refine aj ?_|refine ag (λ hb=> ?_) (λ hb=> ?_)|(refine And.intro ?_ ?_;exact zJ)|refine And.intro (λ hg=> ?_) (λ hg=> ?_)|exact zC|fail)
   refine fa (mv:= ?mv3) (aJ:= ?le3) (x:= ?x3) (ass:= ?ass3) ?ha3 (hak) ?hr3 rfl ?hs3 ?hb3 ?hc3
   case ha3=>(try simp only[zY,Int.reduceEq,Int.reduceBEq,Int.reduceBNe,aS,Nat.reduceSub,Nat.reduceEqDiff,Nat.reduceAdd,Nat.reduceMul,Nat.reduceLeDiff,Nat.reduceLT,Nat.reduceBEq,reduceCtorEq]);exact rfl
   case hr3=>simp[ea,eu,aS]
   case hs3=>simp[cV,dq,dw,dG,aS]
   case hb3=>(try simp only[zB,bA,aS,Nat.reduceSub,Nat.reduceEqDiff,Nat.reduceAdd,Nat.reduceMul,Nat.reduceLeDiff,Nat.reduceLT,Nat.reduceBEq,reduceCtorEq]);repeat'(first|rfl|trivial|omega|with_reducible refine And.intro ?_ ?_)
   show aP _ _ _ _ _ _ _ _
   repeat'(first|(with_reducible first|refine aa _ _ ?_|refine ak ?_|refine ao ?_)|rw[af]|simp only[aS,zY,Int.reduceEq,Int.reduceBEq,Int.reduceBNe,Nat.reduceSub,Nat.reduceEqDiff,Nat.reduceAdd,Nat.reduceMul,Nat.reduceLeDiff,Nat.reduceLT,Nat.reduceBEq,reduceCtorEq]|refine aj ?_|refine ag (λ hb=> ?_) (λ hb=> ?_)|(refine And.intro ?_ ?_;exact zJ)|refine And.intro (λ hg=> ?_) (λ hg=> ?_)|exact zC|fail)
   exact hK2 _ (K',fs0,sure,has) (Gh.canon [41] [] [] zK rfl rfl) ⟨hH,by rw[ha2.1];exact hc,by rw[ha2.2.1];exact hid,by show K'.seq≤(i:Int)+1;have:=ha2.2.2;omega,hh4⟩
  .have e0:(a.todo==0)=false:=by rw[hd];rfl
   have e1:(a.todo==1)=false:=by rw[hd];rfl
   have e2:(a.todo==2)=true:=by rw[hd];rfl
   cases hb:K.busy
   .repeat'(first|(with_reducible first|refine aa _ _ ?_|refine ak ?_|refine ao ?_)|rw[af]|simp only[e0,e1,e2,hb,aS,zY,Int.reduceEq,Int.reduceBEq,Int.reduceBNe,Nat.reduceSub,Nat.reduceEqDiff,Nat.reduceAdd,Nat.reduceMul,Nat.reduceLeDiff,Nat.reduceLT,Nat.reduceBEq,reduceCtorEq]|refine aj ?_|refine ag (λ hb=> ?_) (λ hb=> ?_)|(refine And.intro ?_ ?_;exact zJ)|refine And.intro (λ hg=> ?_) (λ hg=> ?_)|exact zC|fail)
    exact hK2 _ (K,fs0,sure,has) (Gh.canon [41] [] [] (by simp only[hb,bN,bS,bW,bR,bT,bU,bV,bM,bO,bL,bH,bK,bX,D.v.injEq,bY];try(repeat'(first|rfl|omega|with_reducible apply And.intro))) rfl (by simp only[kP,hb];rfl)) ⟨hKt,hc,hid,by show K.seq≤(i:Int)+1;omega,hh4⟩
   .have hq1:=hqo hb;subst hq1;obtain⟨o1,o2,o3,o4⟩:=hKt.ci.o hb;obtain⟨p1,p2,p3⟩:=zn (k:=K.out.kind) (ses:=K.aF) hao hKt.ci.s;have hlk:=Bd K.out K.aF a hao hKt.ci.s;have hse:=yy ({K with busy:=true}:Cl);obtain⟨R,hR⟩:∃R,R=fP K.out.kind K.aF a:=⟨_,rfl⟩;rw[←hR]at p1 p2 p3 hlk;have hsq1:1≤K.out.seq/\K.out.seq≤1000:=by have h1:br.may K.out=true:=o1;unfold br.may at h1;simp only[cu,eo]at h1;have:=hKt.ci.q;omega
    have hans:dQ ⟨0,K.out.seq,R⟩=true:=by
     unfold dQ;have h1:decide (K.out.seq≥1)=true:=by simp;omega
     have h2:decide (K.out.seq≤ep)=true:=by rw[show ep=2305843009213693952 from rfl];simp;omega
     rw[p1,h1,h2];rfl
    have hby:=pI ⟨0,K.out.seq,R⟩ hans;obtain⟨bs,hbs⟩:∃x,x=dW ⟨0,K.out.seq,R⟩:=⟨_,rfl⟩;rw[←hbs]at hby
    have htk:=z7 ({K with busy:=true}:Cl) ⟨0,K.out.seq,R⟩ bs hans hbs rfl hKt.ci.n hKt.ci.c (by show 0≤K.first/\K.first≤2305843009213693952;have:=hKt.ci.f;have:=hKt.ci.w;omega) (λ h1 h2=>hKt.ci.k hb h1 h2) hid.symm rfl;have hH:=hKt.take hb p1 p3;obtain⟨_,_,q1,q2,q3⟩:=vo hKt.ci hb (iY p1).2.2.2.1 ⟨p2,p3⟩;obtain⟨K',hK'⟩:∃x,x=gY K R:=⟨_,rfl⟩;have htk:ae prog 17 [.obj ({K with busy:=true}:Cl).ro, .f (bE bs.length (aI bs))] (λ r o=>r=[rb true]/\o=[K'.ro]):=by rw[hK'];exact htk
    rw[←hK']at hH q1 q2 q3;clear hR hans
    repeat'(first|(with_reducible first|refine aa _ _ ?_|refine ak ?_|refine ao ?_)|rw[af]|simp only[e0,e1,e2,aS,zY,Int.reduceEq,Int.reduceBEq,Int.reduceBNe,Nat.reduceSub,Nat.reduceEqDiff,Nat.reduceAdd,Nat.reduceMul,Nat.reduceLeDiff,Nat.reduceLT,Nat.reduceBEq,reduceCtorEq]|((first|((try refine aD ?_);apply aE)|(apply aG;intro _));(solve|exact(hse)|exact(hlk)|exact(hby)|(refine ae.le (hse) ?_;exact zM)|(refine ae.le (hlk) ?_;exact zM)|(refine ae.le (hby) ?_;exact zM)|fail);try case hn=>rfl)|refine aj ?_|refine ag (λ hb=> ?_) (λ hb=> ?_)|(refine And.intro ?_ ?_;exact zJ)|refine And.intro (λ hg=> ?_) (λ hg=> ?_)|exact zC|fail)
    refine fa (mv:= ?mv4) (aJ:= ?le4) (x:= ?x4) (ass:= ?ass4) ?ha4 (htk) ?hr4 rfl ?hs4 ?hb4 ?hc4
    case ha4=>(try simp only[zY,Int.reduceEq,Int.reduceBEq,Int.reduceBNe,aS,Nat.reduceSub,Nat.reduceEqDiff,Nat.reduceAdd,Nat.reduceMul,Nat.reduceLeDiff,Nat.reduceLT,Nat.reduceBEq,reduceCtorEq]);exact rfl
    case hr4=>simp[ea,eu,aS]
    case hs4=>simp[cV,dq,dw,dG,aS]
    case hb4=>(try simp only[zB,bA,aS,Nat.reduceSub,Nat.reduceEqDiff,Nat.reduceAdd,Nat.reduceMul,Nat.reduceLeDiff,Nat.reduceLT,Nat.reduceBEq,reduceCtorEq]);repeat'(first|rfl|trivial|omega|with_reducible refine And.intro ?_ ?_)
    show aP _ _ _ _ _ _ _ _
    repeat'(first|(with_reducible first|refine aa _ _ ?_|refine ak ?_|refine ao ?_)|rw[af]|simp only[aS,zY,Int.reduceEq,Int.reduceBEq,Int.reduceBNe,Nat.reduceSub,Nat.reduceEqDiff,Nat.reduceAdd,Nat.reduceMul,Nat.reduceLeDiff,Nat.reduceLT,Nat.reduceBEq,reduceCtorEq]|refine aj ?_|refine ag (λ hb=> ?_) (λ hb=> ?_)|(refine And.intro ?_ ?_;exact zJ)|refine And.intro (λ hg=> ?_) (λ hg=> ?_)|exact zC|fail)
    exact hK2 _ (K',fs0,max sure fs0,R.held) (Gh.canon [41] [] [] zK rfl rfl) ⟨hH,by rw[q3];exact hc,by rw[q2];exact hid,by show K'.seq≤(i:Int)+1;omega,(iY p1).2.2.2.1⟩
  .have e0:(a.todo==0)=false:=by simpa using hd0
   have e1:(a.todo==1)=false:=by simpa using hd1
   have e2:(a.todo==2)=false:=by simpa using hd2
   repeat'(first|(with_reducible first|refine aa _ _ ?_|refine ak ?_|refine ao ?_)|rw[af]|simp only[e0,e1,e2,zY,Int.reduceEq,Int.reduceBEq,Int.reduceBNe,Nat.reduceSub,Nat.reduceEqDiff,Nat.reduceAdd,Nat.reduceMul,Nat.reduceLeDiff,Nat.reduceLT,Nat.reduceBEq,reduceCtorEq]|refine aj ?_|refine ag (λ hb=> ?_) (λ hb=> ?_)|(refine And.intro ?_ ?_;exact zJ)|refine And.intro (λ hg=> ?_) (λ hg=> ?_)|exact zC|fail)
   exact hK2 _ (K,fs0,sure,has) (Gh.canon [41] [] [] zK rfl rfl) ⟨hKt,hc,hid,by show K.seq≤(i:Int)+1;omega,hh4⟩
theorem Nj {n:Int} (h:(Lit.int .i64 n).wf=true):i64 n:=by
 have h2:(decide (IntKind.i64.min≤n)&&decide (n≤IntKind.i64.max))=true:=h;have e1:IntKind.i64.min= -9223372036854775808:=by decide
 have e2:IntKind.i64.max=9223372036854775807:=by decide
 rw[e1,e2]at h2;simp only[cu,eo]at h2;unfold i64;omega
theorem NT {n:Int} (h:(Lit.int .u8 n).wf=true):bp n:=by
 have h2:(decide (IntKind.u8.min≤n)&&decide (n≤IntKind.u8.max))=true:=h;have e1:IntKind.u8.min=0:=by decide
 have e2:IntKind.u8.max=255:=by decide
 rw[e1,e2]at h2;simp only[cu,eo]at h2;unfold bp;omega
theorem vl {α:Type} {enc:α->List D} {ok:α->Prop} {s:Sh} (h:∀ds,dr s ds->∃x,ds=enc x/\ok x):∀xs:List (List D),(∀x∈xs,dr s x)->∃l:List α,l.length=xs.length/\xs.flatten=l.flatMap enc/\∀x∈l,ok x
 |[],_=>⟨[],rfl,rfl,λ x hx=>by cases hx⟩
 |x::xs,hx=>by
  obtain⟨a,ha1,ha2⟩:=h x (hx x (by simp));obtain⟨l,h1,h2,h3⟩:=vl h xs λ y hy=>hx y (by simp[hy])
  refine⟨a::l,by simp[h1], ?_,λ y hy=> ?_⟩
  .rw[gC,fm,h2,ha1]
  .rcases cL.1 hy with rfl|hy
   .exact ha2
   .exact h3 y hy
theorem vw:reachBytes<2^60:=by decide
theorem na (ds:List D) (h:dr (.int .u8) ds):∃x:Int,ds=[uD x]/\bp x:=by simp only[dr]at h;obtain⟨n,rfl,hn⟩:=h;exact⟨n,rfl,NT hn⟩
theorem Nk (ds:List D) (h:dr (.int .i64) ds):∃x:Int,ds=[iD x]/\i64 x:=by simp only[dr]at h;obtain⟨n,rfl,hn⟩:=h;exact⟨n,rfl,Nj hn⟩
theorem Nt (ds:List D) (h:dr .str ds):∃x:ByteArray,ds=[sD x]/\x.size<2^60:=by simp only[dr]at h;obtain⟨n,rfl,hn⟩:=h;have:=vw;exact⟨n,rfl,by omega⟩
theorem I9 (l:List Int):(l.flatMap λ n=>[uD n])=aI l:=by
 induction l with
 |nil=>rfl
 |cons a l ih=>simp[fm,ih]
theorem CE (ds:List D) (h:dr (.slice 1 (.int .u8)) ds):∃l:List Int,ds=[.sl l.length (aI l)]/\l.length<2^60/\∀x∈l,bp x:=by rw[dr]at h;obtain⟨xs,rfl,hx1,hx2⟩:=h;obtain⟨l,l1,l2,l3⟩:=vl na xs hx2;have:=vw;rw[I9]at l2;exact⟨l,by rw[←l1,l2],by omega,l3⟩
abbrev mc:Sh:= .struct [.int .u8, .int .u8, .int .u8, .int .u8, .slice 1 (.int .u8), .int .i64, .str, .slice 1 (.int .u8)]
theorem MZ (ds:List D) (h:dr mc ds):∃r:hU,ds=r.enc/\oN r:=by rw[dr]at h;simp only[la]at h;obtain⟨_,_,rfl,h1,_,_,rfl,h2,_,_,rfl,h3,_,_,rfl,h4,_,_,rfl,h5,_,_,rfl,h6,_,_,rfl,h7,_,_,rfl,h8,rfl⟩:=h;obtain⟨a,rfl,ha⟩:=na _ h1;obtain⟨b,rfl,hb⟩:=na _ h2;obtain⟨c,rfl,hc⟩:=na _ h3;obtain⟨d,rfl,hd⟩:=na _ h4;obtain⟨l,rfl,hl,hl2⟩:=CE _ h5;obtain⟨n,rfl,hn⟩:=Nk _ h6;obtain⟨s,rfl,hs⟩:=Nt _ h7;obtain⟨r,rfl,hr,hr2⟩:=CE _ h8;exact⟨⟨a,b,c,d,l,n,s,r⟩,rfl,ha,hb,hc,hd,hl,hl2,hn,hs,hr,hr2⟩
theorem Ay (ds:List D) (h:dr (.slice 80 mc) ds):∃l:List hU,ds=[.sl l.length (ie l)]/\l.length<2^60/\∀x∈l,oN x:=by rw[dr]at h;obtain⟨xs,rfl,hx1,hx2⟩:=h;obtain⟨l,l1,l2,l3⟩:=vl MZ xs hx2;have:=vw;exact⟨l,by rw[←l1,l2],by omega,l3⟩
end Go.Proofs.YtiegkabcgokhkaaGreat
