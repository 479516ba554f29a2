import Derived.Test.YtiegkabcgokhkaaGreatTC
set_option maxHeartbeats 8000000
namespace Go.Proofs.YtiegkabcgokhkaaGreat
open Go.Pk Tryz
set_option maxRecDepth 100000
set_option linter.unusedSimpArgs false
set_option linter.unusedVariables false
theorem MN (r:br) (h:br.may r=true):ae prog 14 [.f (bE (iN r).length (iN r))] (λ x o=>x=[.agg ((tH r).map RO.d),ri 0]/\o=[]):=by have:=LZ (jC r) r h rfl;rw[Be,show(aI (jC r)).length=(jC r).length by simp[aI]];exact this
theorem vL {c s:Int} (hc:0≤c/\c<8) (hs:1≤s/\s≤2000):dQ ⟨c,s,gG⟩=true:=by
 unfold dQ;have h0:dR gG=true:=rfl;have h1:decide (c≥0)=true:=by simp;omega
 have h2:decide (c<8)=true:=by simp;omega
 have h3:decide (s≥1)=true:=by simp;omega
 have h4:decide (s≤ep)=true:=by rw[show ep=2305843009213693952 from rfl];simp;omega
 simp only[h0,h1,h2,h3,h4];rfl
theorem II (acts:List hU) (hl:acts.length<2^60) (hA:∀a∈acts,oN a):
  ae prog 3 [.f (al acts.length (ie acts))] (λ r o=>r=[rb true]/\o=[]):=by
 refine aR aO mixed (T:=Ty) (n:=207) func3 (c:=f3.body.getD .skip) rfl results3 ntmps3 call3 ?_;simp only[f3,Option.getD];have haw:=A6;cases hle:decide ((acts.length:Int)>60)
 case true=>repeat'(first|(with_reducible first|refine aa _ _ ?_|refine ak ?_|refine ao ?_)|rw[af]|simp only[hle,zY,Int.reduceEq,Int.reduceBEq,Int.reduceBNe,Nat.reduceSub,Nat.reduceEqDiff,Nat.reduceAdd,Nat.reduceMul,Nat.reduceLeDiff,Nat.reduceLT,Nat.reduceBEq,reduceCtorEq]|((first|((try refine aD ?_);apply aE)|(apply aG;intro _));(solve|exact(haw)|(refine ae.le (haw) ?_;exact zM)|fail);try case hn=>rfl)|refine aj ?_|refine ag (λ hb=> ?_) (λ hb=> ?_)|(refine And.intro ?_ ?_;exact zI)|refine And.intro (λ hg=> ?_) (λ hg=> ?_)|exact zC|fail)
 have h60:acts.length≤60:=by simp at hle;omega
 have hcf:=uq;have hnw:=Bt dK 1 se (show 0≤(1:Int)/\(1:Int)<3 from by decide);have hin:=BM dK 1 I4 (show 1≤(3:Int)/\(3:Int)≤7 from by decide) (by decide);obtain⟨K0,hK0⟩:∃K,K=nQ dK 1:=⟨_,rfl⟩;have f0:K0.c=dK/\K0.id=1/\K0.seq=0:=by rw[hK0];exact⟨rfl,rfl,rfl⟩
 rw[←hK0]at hnw hin;have g0:((0:Int) !=0)=false:=rfl
 repeat'(first|(with_reducible first|refine aa _ _ ?_|refine ak ?_|refine ao ?_)|rw[af]|simp only[hle,g0,zY,Int.reduceEq,Int.reduceBEq,Int.reduceBNe,Nat.reduceSub,Nat.reduceEqDiff,Nat.reduceAdd,Nat.reduceMul,Nat.reduceLeDiff,Nat.reduceLT,Nat.reduceBEq,reduceCtorEq]|((first|((try refine aD ?_);apply aE)|(apply aG;intro _));(solve|exact(hcf)|(refine ae.le (hcf) ?_;exact zM)|fail);try case hn=>rfl)|refine oD (hnw) ?_|(refine oD (gy.le (hnw) ?_) ?_;focus(simp[cV,dq,dw,dG]<;>fail))|refine aj ?_|refine ag (λ hb=> ?_) (λ hb=> ?_)|(refine And.intro ?_ ?_;exact zI)|refine And.intro (λ hg=> ?_) (λ hg=> ?_)|exact zC|fail)
 refine fJ Ty prog (τ:=Nat×Cl×Int×Int) (λ ⟨i,K,now,seq⟩=>⟨[al acts.length (ie acts),dd,dd, .one (.ptr ⟨24,0,1⟩ 0),dd,ai now,ai seq,ai i,dd,dd,dd,dd,dd,dd,dd,dd,dd,dd,dd,dd,dd,dd,dd,dd,dd,dd,dd,dd,dd,dd,dd,dd,dd,dd,dd,dd,dd,dd,dd,dd,dd,dd,dd,dd,dd,dd,dd,dd,dd,dd,dd,dd,dd,dd,dd,dd,dd,dd,dd,dd,dd,dd,dd,dd,dd,dd,dd,dd,dd,dd,dd,dd,dd,dd,dd,dd,dd,dd,dd,dd,dd,dd,dd,dd,dd,dd,dd,dd,dd,dd,dd,dd,dd,dd,dd,dd,dd,dd,dd,dd,dd,dd,dd,dd,dd,dd,dd,dd,dd,dd,dd,dd,dd,dd,dd,dd,dd,dd,dd,dd,dd,dd,dd,dd,dd,dd,dd,dd,dd,dd,dd,dd,dd,dd,dd,dd,dd,dd,dd,dd,dd,dd,dd,dd,dd,dd,dd,dd,dd,dd,dd,dd,dd,dd,dd,dd,dd,dd,dd,dd,dd,dd,dd,dd,dd,dd,dd,dd,dd,dd,dd,dd,dd,dd,dd,dd,dd,dd,dd,dd,dd,dd,dd,dd,dd,dd,dd,dd,dd,dd,dd,dd,dd,dd,dd,dd,dd,dd,dd,dd,dd,dd,dd,dd,dd,dd,dd],[kP 24 K,(8,⟨2,[]⟩),(9,⟨2,[]⟩),(11,⟨2,[]⟩),(12,⟨2,[]⟩),(14,⟨2,[]⟩),(16,⟨2,[]⟩),(60,⟨2,[]⟩),(98,⟨2,[]⟩),(146,⟨2,[]⟩),(165,⟨2,[]⟩),(172,⟨2,[]⟩),(185,⟨2,[]⟩),(196,⟨2,[]⟩),(197,⟨2,[]⟩)]⟩)
  (λ ⟨i,K,now,seq⟩=>i≤acts.length/\CI K now/\K.c=dK/\K.id=1/\now≤15*i/\K.seq≤i/\seq=K.seq) (λ t=>acts.length - t.1) (0,K0,0,0)
  (Gh.canon [24] [8,9,11,12,14,16,60,98,146,165,172,185,196,197] [] zK rfl rfl) ⟨dA _,hin,f0.1,f0.2.1,by decide,by rw[f0.2.2];decide,f0.2.2.symm⟩ ?_
 intro⟨i,K,now,seq⟩ ⟨hi0,hK,hc,hid,hnow,hsq,hse⟩ Kx hKx;simp only at hi0 hK hc hid hnow hsq hse hKx⊢;subst hse;cases hlt:decide ((i:Int)<acts.length)
 case false=>repeat'(first|(with_reducible first|refine aa _ _ ?_|refine ak ?_|refine ao ?_)|rw[af]|simp only[hlt,zY,Int.reduceEq,Int.reduceBEq,Int.reduceBNe,Nat.reduceSub,Nat.reduceEqDiff,Nat.reduceAdd,Nat.reduceMul,Nat.reduceLeDiff,Nat.reduceLT,Nat.reduceBEq,reduceCtorEq]|((first|((try refine aD ?_);apply aE)|(apply aG;intro _));(solve|exact(haw)|(refine ae.le (haw) ?_;exact zM)|fail);try case hn=>rfl)|refine aj ?_|refine ag (λ hb=> ?_) (λ hb=> ?_)|(refine And.intro ?_ ?_;exact zI)|refine And.intro (λ hg=> ?_) (λ hg=> ?_)|exact zC|fail)
 have hi:i<acts.length:=by simpa using hlt
 have hat:=Au hi;have hw:=fv hi (by omega);have hao:=hA _ (ix hi);generalize acts[i]=a at*;have ht:=hao.t;unfold bp at ht;have w1:IntKind.i64.wrap a.time=a.time:=wrap64 (by omega) (by omega);have w2:a.time.tmod 16=a.time % 16:=mZ ht.1 16;have w3:IntKind.i64.wrap (a.time % 16)=a.time % 16:=wrap64 (by omega) (by omega);have hn0:0≤now:=by have:=hK.l;omega
 have w4:IntKind.i64.wrap (now+a.time % 16)=now+a.time % 16:=wrap64 (by omega) (by omega);obtain⟨t,htt⟩:∃t,t=now+a.time % 16:=⟨_,rfl⟩;rw[←htt]at w4;have hKt:=hK.s6 (t:=t) (by omega) (by omega);clear hK;have w5:IntKind.i64.wrap (K.seq+1)=K.seq+1:=by have:=hKt.q;exact wrap64 (by omega) (by omega)
 have hgo:∀g K',Gh g ⟨[al acts.length (ie acts),dd,dd, .one (.ptr ⟨24,0,1⟩ 0),dd,ai t,ai K'.seq,ai ((i+1:Nat):Int),dd,dd,dd,dd,dd,dd,dd,dd,dd,dd,dd,dd,dd,dd,dd,dd,dd,dd,dd,dd,dd,dd,dd,dd,dd,dd,dd,dd,dd,dd,dd,dd,dd,dd,dd,dd,dd,dd,dd,dd,dd,dd,dd,dd,dd,dd,dd,dd,dd,dd,dd,dd,dd,dd,dd,dd,dd,dd,dd,dd,dd,dd,dd,dd,dd,dd,dd,dd,dd,dd,dd,dd,dd,dd,dd,dd,dd,dd,dd,dd,dd,dd,dd,dd,dd,dd,dd,dd,dd,dd,dd,dd,dd,dd,dd,dd,dd,dd,dd,dd,dd,dd,dd,dd,dd,dd,dd,dd,dd,dd,dd,dd,dd,dd,dd,dd,dd,dd,dd,dd,dd,dd,dd,dd,dd,dd,dd,dd,dd,dd,dd,dd,dd,dd,dd,dd,dd,dd,dd,dd,dd,dd,dd,dd,dd,dd,dd,dd,dd,dd,dd,dd,dd,dd,dd,dd,dd,dd,dd,dd,dd,dd,dd,dd,dd,dd,dd,dd,dd,dd,dd,dd,dd,dd,dd,dd,dd,dd,dd,dd,dd,dd,dd,dd,dd,dd,dd,dd,dd,dd,dd,dd,dd,dd,dd,dd,dd,dd,dd],[kP 24 K',(8,⟨2,[]⟩),(9,⟨2,[]⟩),(11,⟨2,[]⟩),(12,⟨2,[]⟩),(14,⟨2,[]⟩),(16,⟨2,[]⟩),(60,⟨2,[]⟩),(98,⟨2,[]⟩),(146,⟨2,[]⟩),(165,⟨2,[]⟩),(172,⟨2,[]⟩),(185,⟨2,[]⟩),(196,⟨2,[]⟩),(197,⟨2,[]⟩)]⟩->CI K' t->K'.c=dK->K'.id=1->K'.seq≤K.seq+1->Kx g:=
  λ g K' hg h1 h2 h3 h4=>hKx g (i+1,K',t,K'.seq) hg ⟨hi,h1,h2,h3,by show t≤15*((i+1:Nat):Int);omega,by show K'.seq≤((i+1:Nat):Int);omega,rfl⟩ (by simp only;omega)
 clear hKx;have hd:a.todo=0∨a.todo=1∨a.todo=2∨(a.todo≠0/\a.todo≠1/\a.todo≠2):=by omega
 rcases hd with hd|hd|hd|⟨hd0,hd1,hd2⟩
 .have e0:(a.todo==0)=true:=by rw[hd];rfl
  obtain⟨K',b,hst,hstep⟩:=AD K t hKt (by omega);have hcc:=hst.has.2.2.2.2;have hii:=hst.has.2.2.2.1;have hcr:K'.c.bw=3:=by rw[hcc,hc];rfl
  obtain⟨q,ho,hqo⟩:=p9 K;have hsq':K'.seq≤K.seq+1:=by
   cases hb:K.busy
   .cases b
    .have:=(hst.go hb).2.2 rfl;omega
    .have:=((hst.go hb).2.1 rfl).1;omega
   .have:=(hst.out hb).2.2.1;omega
  have hgo2:∀g,Gh g ⟨[al acts.length (ie acts),dd,dd, .one (.ptr ⟨24,0,1⟩ 0),dd,ai t,ai K'.seq,ai ((i+1:Nat):Int),dd,dd,dd,dd,dd,dd,dd,dd,dd,dd,dd,dd,dd,dd,dd,dd,dd,dd,dd,dd,dd,dd,dd,dd,dd,dd,dd,dd,dd,dd,dd,dd,dd,dd,dd,dd,dd,dd,dd,dd,dd,dd,dd,dd,dd,dd,dd,dd,dd,dd,dd,dd,dd,dd,dd,dd,dd,dd,dd,dd,dd,dd,dd,dd,dd,dd,dd,dd,dd,dd,dd,dd,dd,dd,dd,dd,dd,dd,dd,dd,dd,dd,dd,dd,dd,dd,dd,dd,dd,dd,dd,dd,dd,dd,dd,dd,dd,dd,dd,dd,dd,dd,dd,dd,dd,dd,dd,dd,dd,dd,dd,dd,dd,dd,dd,dd,dd,dd,dd,dd,dd,dd,dd,dd,dd,dd,dd,dd,dd,dd,dd,dd,dd,dd,dd,dd,dd,dd,dd,dd,dd,dd,dd,dd,dd,dd,dd,dd,dd,dd,dd,dd,dd,dd,dd,dd,dd,dd,dd,dd,dd,dd,dd,dd,dd,dd,dd,dd,dd,dd,dd,dd,dd,dd,dd,dd,dd,dd,dd,dd,dd,dd,dd,dd,dd,dd,dd,dd,dd,dd,dd,dd,dd,dd,dd,dd,dd,dd,dd],[kP 24 K',(8,⟨2,[]⟩),(9,⟨2,[]⟩),(11,⟨2,[]⟩),(12,⟨2,[]⟩),(14,⟨2,[]⟩),(16,⟨2,[]⟩),(60,⟨2,[]⟩),(98,⟨2,[]⟩),(146,⟨2,[]⟩),(165,⟨2,[]⟩),(172,⟨2,[]⟩),(185,⟨2,[]⟩),(196,⟨2,[]⟩),(197,⟨2,[]⟩)]⟩->Kx g:=
   λ g hg=>hgo g K' hg hst.ci (by rw[hcc];exact hc) (by rw[hii];exact hid) hsq'
  clear hgo;have hsent:K'.busy=true->ae prog 14 [.f (bE (iN K'.out).length (iN K'.out))] (λ x o=>x=[.agg ((tH K'.out).map RO.d),ri 0]/\o=[])/\(K'.out.bh !=1)=false/\K'.out.seq=K'.seq/\decide (K'.turn<0)=false/\decide (K'.turn>2)=false:=by
   intro h;obtain⟨o1,o2,o3,o4⟩:=hst.ci.o h;have ht:=hst.ci.t;refine⟨MN _ o1, ?_,o4, ?_, ?_⟩
   .rw[o3,hii,hid];rfl
   .simp;omega
   .simp;omega
  cases b
  .rw[ar (by simp)]at hstep
   repeat'(first|(with_reducible first|refine aa _ _ ?_|refine ak ?_|refine ao ?_)|rw[af]|simp only[hlt,hat,w1,w2,w3,←htt,w4,mT,aS,e0,zY,Int.reduceEq,Int.reduceBEq,Int.reduceBNe,Nat.reduceSub,Nat.reduceEqDiff,Nat.reduceAdd,Nat.reduceMul,Nat.reduceLeDiff,Nat.reduceLT,Nat.reduceBEq,reduceCtorEq]|((first|((try refine aD ?_);apply aE)|(apply aG;intro _));(solve|exact(ho)|(refine ae.le (ho) ?_;exact zM)|fail);try case hn=>rfl)|refine aj ?_|refine ag (λ hb=> ?_) (λ hb=> ?_)|(refine And.intro ?_ ?_;exact zJ)|refine And.intro (λ hg=> ?_) (λ hg=> ?_)|exact zC|fail)
   refine fa (mv:= ?mv1) (aJ:= ?le1) (x:= ?x1) (ass:= ?ass1) ?ha1 (hstep) ?hr1 rfl ?hs1 ?hb1 ?hc1
   case ha1=>(try simp only[zY,Int.reduceEq,Int.reduceBEq,Int.reduceBNe,aS,Nat.reduceSub,Nat.reduceEqDiff,Nat.reduceAdd,Nat.reduceMul,Nat.reduceLeDiff,Nat.reduceLT,Nat.reduceBEq,reduceCtorEq]);exact rfl
   case hr1=>simp[ea,eu,aS]
   case hs1=>simp[cV,dq,dw,dG,aS]
   case hb1=>(try simp only[zB,bA,aS,Nat.reduceSub,Nat.reduceEqDiff,Nat.reduceAdd,Nat.reduceMul,Nat.reduceLeDiff,Nat.reduceLT,Nat.reduceBEq,reduceCtorEq]);repeat'(first|rfl|trivial|omega|with_reducible refine And.intro ?_ ?_)
   show aP _ _ _ _ _ _ _ _;cases hb:K.busy
   .have h1:=(hst.go hb).1;have ho2:=uZ K' h1;have h3:=(hst.go hb).2.2 rfl
    repeat'(first|(with_reducible first|refine aa _ _ ?_|refine ak ?_|refine ao ?_)|rw[af]|simp only[hb,aS,zY,Int.reduceEq,Int.reduceBEq,Int.reduceBNe,Nat.reduceSub,Nat.reduceEqDiff,Nat.reduceAdd,Nat.reduceMul,Nat.reduceLeDiff,Nat.reduceLT,Nat.reduceBEq,reduceCtorEq]|((first|((try refine aD ?_);apply aE)|(apply aG;intro _));(solve|exact(ho2)|(refine ae.le (ho2) ?_;exact zM)|fail);try case hn=>rfl)|refine aj ?_|refine ag (λ hb=> ?_) (λ hb=> ?_)|(refine And.intro ?_ ?_;exact zJ)|refine And.intro (λ hg=> ?_) (λ hg=> ?_)|exact zC|fail)
    all_goals try exact absurd hb (by decide)
    exact hgo2 _ (Gh.canon [24] [] [] (by simp only[hw,h3,bN,bS,bW,bR,bT,bU,bV,bM,bO,bL,bH,bK,bX,D.v.injEq,bY];try(repeat'(first|rfl|omega|with_reducible apply And.intro))) rfl rfl)
   .obtain⟨h1,h2,h3,h4⟩:=hst.out hb;have ho2:=sm K' h1;have hq1:q=K'.out:=by rw[hqo hb,h2]
    subst hq1
    repeat'(first|(with_reducible first|refine aa _ _ ?_|refine ak ?_|refine ao ?_)|rw[af]|simp only[hb,aS,qz,km,zY,Int.reduceEq,Int.reduceBEq,Int.reduceBNe,Nat.reduceSub,Nat.reduceEqDiff,Nat.reduceAdd,Nat.reduceMul,Nat.reduceLeDiff,Nat.reduceLT,Nat.reduceBEq,reduceCtorEq]|((first|((try refine aD ?_);apply aE)|(apply aG;intro _));(solve|exact(ho2)|(refine ae.le (ho2) ?_;exact zM)|fail);try case hn=>rfl)|refine aj ?_|refine ag (λ hb=> ?_) (λ hb=> ?_)|(refine And.intro ?_ ?_;exact zJ)|refine And.intro (λ hg=> ?_) (λ hg=> ?_)|exact zC|fail)
    all_goals try exact absurd hb (by decide)
    exact hgo2 _ (Gh.canon [24] [] [] (by simp only[hw,h3,bN,bS,bW,bR,bT,bU,bV,bM,bO,bL,bH,bK,bX,D.v.injEq,bY];try(repeat'(first|rfl|omega|with_reducible apply And.intro))) rfl rfl)
  .rw[ay rfl]at hstep
   repeat'(first|(with_reducible first|refine aa _ _ ?_|refine ak ?_|refine ao ?_)|rw[af]|simp only[hlt,hat,w1,w2,w3,←htt,w4,mT,aS,e0,zY,Int.reduceEq,Int.reduceBEq,Int.reduceBNe,Nat.reduceSub,Nat.reduceEqDiff,Nat.reduceAdd,Nat.reduceMul,Nat.reduceLeDiff,Nat.reduceLT,Nat.reduceBEq,reduceCtorEq]|((first|((try refine aD ?_);apply aE)|(apply aG;intro _));(solve|exact(ho)|(refine ae.le (ho) ?_;exact zM)|fail);try case hn=>rfl)|refine aj ?_|refine ag (λ hb=> ?_) (λ hb=> ?_)|(refine And.intro ?_ ?_;exact zJ)|refine And.intro (λ hg=> ?_) (λ hg=> ?_)|exact zC|fail)
   refine fa (mv:= ?mv2) (aJ:= ?le2) (x:= ?x2) (ass:= ?ass2) ?ha2 (hstep) ?hr2 rfl ?hs2 ?hb2 ?hc2
   case ha2=>(try simp only[zY,Int.reduceEq,Int.reduceBEq,Int.reduceBNe,aS,Nat.reduceSub,Nat.reduceEqDiff,Nat.reduceAdd,Nat.reduceMul,Nat.reduceLeDiff,Nat.reduceLT,Nat.reduceBEq,reduceCtorEq]);exact rfl
   case hr2=>simp[ea,eu,aS]
   case hs2=>simp[cV,dq,dw,dG,aS]
   case hb2=>(try simp only[zB,bA,aS,Nat.reduceSub,Nat.reduceEqDiff,Nat.reduceAdd,Nat.reduceMul,Nat.reduceLeDiff,Nat.reduceLT,Nat.reduceBEq,reduceCtorEq]);repeat'(first|rfl|trivial|omega|with_reducible refine And.intro ?_ ?_)
   show aP _ _ _ _ _ _ _ _;cases hb:K.busy
   .have h1:=(hst.go hb).1;have h3:=((hst.go hb).2.1 rfl).1;have ho2:=sm K' h1;obtain⟨hget,s1,s2,s3,s4⟩:=hsent h1;have s5:(K'.out.seq !=K.seq+1)=false:=by rw[s2,h3];simp
    repeat'(first|(with_reducible first|refine aa _ _ ?_|refine ak ?_|refine ao ?_)|rw[af]|simp only[hb,aS,qz,km,w5,s1,s3,s4,s5,zY,Int.reduceEq,Int.reduceBEq,Int.reduceBNe,Nat.reduceSub,Nat.reduceEqDiff,Nat.reduceAdd,Nat.reduceMul,Nat.reduceLeDiff,Nat.reduceLT,Nat.reduceBEq,reduceCtorEq]|((first|((try refine aD ?_);apply aE)|(apply aG;intro _));(solve|exact(ho2)|exact(hget)|(refine ae.le (ho2) ?_;exact zM)|(refine ae.le (hget) ?_;exact zM)|fail);try case hn=>rfl)|refine aj ?_|refine ag (λ hb=> ?_) (λ hb=> ?_)|(refine And.intro ?_ ?_;exact zJ)|refine And.intro (λ hg=> ?_) (λ hg=> ?_)|exact zC|fail)
    all_goals try exact absurd hb (by decide)
    exact hgo2 _ (Gh.canon [24] [] [] (by simp only[hw,h3,bN,bS,bW,bR,bT,bU,bV,bM,bO,bL,bH,bK,bX,D.v.injEq,bY];try(repeat'(first|rfl|omega|with_reducible apply And.intro))) rfl rfl)
   .obtain⟨h1,h2,h3,h4⟩:=hst.out hb;have ho2:=sm K' h1;obtain⟨hget,s1,s2,s3,s4⟩:=hsent h1;have hq1:q=K'.out:=by rw[hqo hb,h2]
    subst hq1;have s5:(K'.out.seq !=K.seq)=false:=by rw[s2,h3];simp
    repeat'(first|(with_reducible first|refine aa _ _ ?_|refine ak ?_|refine ao ?_)|rw[af]|simp only[hb,aS,qz,km,w5,s1,s3,s4,s5,zY,Int.reduceEq,Int.reduceBEq,Int.reduceBNe,Nat.reduceSub,Nat.reduceEqDiff,Nat.reduceAdd,Nat.reduceMul,Nat.reduceLeDiff,Nat.reduceLT,Nat.reduceBEq,reduceCtorEq]|((first|((try refine aD ?_);apply aE)|(apply aG;intro _));(solve|exact(ho2)|exact(hget)|(refine ae.le (ho2) ?_;exact zM)|(refine ae.le (hget) ?_;exact zM)|fail);try case hn=>rfl)|refine aj ?_|refine ag (λ hb=> ?_) (λ hb=> ?_)|(refine And.intro ?_ ?_;exact zJ)|refine And.intro (λ hg=> ?_) (λ hg=> ?_)|exact zC|fail)
    all_goals try exact absurd hb (by decide)
    exact hgo2 _ (Gh.canon [24] [] [] (by simp only[hw,h3,bN,bS,bW,bR,bT,bU,bV,bM,bO,bL,bH,bK,bX,D.v.injEq,bY];try(repeat'(first|rfl|omega|with_reducible apply And.intro))) rfl rfl)
 .have e0:(a.todo==0)=false:=by rw[hd];rfl
  have e1:(a.todo==1)=true:=by rw[hd];rfl
  have hkb:=hao.k;obtain⟨rest,hkd⟩:=BA hkb;have hkb2:=hkb;unfold bp at hkb2;have v1:a.kind.tmod 3=a.kind % 3:=mZ hkb2.1 3;have v2:IntKind.u8.wrap (a.kind % 3)=a.kind % 3:=hC (by omega) (by omega);have hnm:=uQ a.name hao.m;have hak:=BC K (fV a.kind) (fL a.name) (by have:=y6 (rY a.name);omega) hKt.n;obtain⟨hH,hKe⟩:=vr hKt (vN a.kind a.name);have ha2:(dB K (fV a.kind) (fL a.name)).1.c=K.c/\(dB K (fV a.kind) (fL a.name)).1.id=K.id/\(dB K (fV a.kind) (fL a.name)).1.seq=K.seq:=by rw[hKe];exact⟨rfl,rfl,rfl⟩
  obtain⟨K',hK'⟩:∃x,x=(dB K (fV a.kind) (fL a.name)).1:=⟨_,rfl⟩;obtain⟨r',hr'⟩:∃x,x=(dB K (fV a.kind) (fL a.name)).2:=⟨_,rfl⟩;rw[←hK']at ha2 hH;rw[←hK',←hr']at hak;clear hKe;obtain⟨q,ho,hqo⟩:=p9 K
  repeat'(first|(with_reducible first|refine aa _ _ ?_|refine ak ?_|refine ao ?_)|rw[af]|simp only[hlt,hat,w1,w2,w3,←htt,w4,mT,aS,e0,e1,v1,v2,hkd,zY,Int.reduceEq,Int.reduceBEq,Int.reduceBNe,Nat.reduceSub,Nat.reduceEqDiff,Nat.reduceAdd,Nat.reduceMul,Nat.reduceLeDiff,Nat.reduceLT,Nat.reduceBEq,reduceCtorEq]|((first|((try refine aD ?_);apply aE)|(apply aG;intro _));(solve|exact(ho)|exact(hnm)|(refine ae.le (ho) ?_;exact zM)|(refine ae.le (hnm) ?_;exact zM)|fail);try case hn=>rfl)|refine aj ?_|refine ag (λ hb=> ?_) (λ hb=> ?_)|(refine And.intro ?_ ?_;exact zJ)|refine And.intro (λ hg=> ?_) (λ hg=> ?_)|exact zC|fail)
  refine fa (mv:= ?mv3) (aJ:= ?le3) (x:= ?x3) (ass:= ?ass3) ?ha3 (hak) ?hr3 rfl ?hs3 ?hb3 ?hc3
  case ha3=>(try simp only[zY,Int.reduceEq,Int.reduceBEq,Int.reduceBNe,aS,Nat.reduceSub,Nat.reduceEqDiff,Nat.reduceAdd,Nat.reduceMul,Nat.reduceLeDiff,Nat.reduceLT,Nat.reduceBEq,reduceCtorEq]);exact rfl
  case hr3=>simp[ea,eu,aS]
  case hs3=>simp[cV,dq,dw,dG,aS]
  case hb3=>(try simp only[zB,bA,aS,Nat.reduceSub,Nat.reduceEqDiff,Nat.reduceAdd,Nat.reduceMul,Nat.reduceLeDiff,Nat.reduceLT,Nat.reduceBEq,reduceCtorEq]);repeat'(first|rfl|trivial|omega|with_reducible refine And.intro ?_ ?_)
  show aP _ _ _ _ _ _ _ _
  repeat'(first|(with_reducible first|refine aa _ _ ?_|refine ak ?_|refine ao ?_)|rw[af]|simp only[aS,zY,Int.reduceEq,Int.reduceBEq,Int.reduceBNe,Nat.reduceSub,Nat.reduceEqDiff,Nat.reduceAdd,Nat.reduceMul,Nat.reduceLeDiff,Nat.reduceLT,Nat.reduceBEq,reduceCtorEq]|refine aj ?_|refine ag (λ hb=> ?_) (λ hb=> ?_)|(refine And.intro ?_ ?_;exact zJ)|refine And.intro (λ hg=> ?_) (λ hg=> ?_)|exact zC|fail)
  exact hgo _ K' (Gh.canon [24] [] [] (by simp only[hw,ha2.2.2,bN,bS,bW,bR,bT,bU,bV,bM,bO,bL,bH,bK,bX,D.v.injEq,bY];try(repeat'(first|rfl|omega|with_reducible apply And.intro))) rfl rfl) hH (by rw[ha2.1];exact hc) (by rw[ha2.2.1];exact hid) (by have:=ha2.2.2;omega)
 .have e0:(a.todo==0)=false:=by rw[hd];rfl
  have e1:(a.todo==1)=false:=by rw[hd];rfl
  have e2:(a.todo==2)=true:=by rw[hd];rfl
  obtain⟨q,ho,hqo⟩:=p9 K;cases hb:K.busy
  .rw[hb]at ho;have ho:ae prog 12 [.f ({K with busy:=false}:Cl).at] (λ r o=>r=[.agg (q.enc.map RO.d),rb false]/\o=[]):=by rw[show({K with busy:=false}:Cl)=K by rw[←hb]];exact ho
   repeat'(first|(with_reducible first|refine aa _ _ ?_|refine ak ?_|refine ao ?_)|rw[af]|simp only[hlt,hat,w1,w2,w3,←htt,w4,mT,aS,e0,e1,e2,hb,zY,Int.reduceEq,Int.reduceBEq,Int.reduceBNe,Nat.reduceSub,Nat.reduceEqDiff,Nat.reduceAdd,Nat.reduceMul,Nat.reduceLeDiff,Nat.reduceLT,Nat.reduceBEq,reduceCtorEq]|((first|((try refine aD ?_);apply aE)|(apply aG;intro _));(solve|exact(ho)|(refine ae.le (ho) ?_;exact zM)|fail);try case hn=>rfl)|refine aj ?_|refine ag (λ hb=> ?_) (λ hb=> ?_)|(refine And.intro ?_ ?_;exact zJ)|refine And.intro (λ hg=> ?_) (λ hg=> ?_)|exact zC|fail)
   have hKf:({K with busy:=false}:Cl)=K:=by rw[←hb]
   exact hgo _ ({K with busy:=false}:Cl) (Gh.canon [24] [] [] (by simp only[hw,bN,bS,bW,bR,bT,bU,bV,bM,bO,bL,bH,bK,bX,D.v.injEq,bY];try(repeat'(first|rfl|omega|with_reducible apply And.intro))) rfl rfl) (by rw[hKf];exact hKt) hc hid (by show K.seq≤K.seq+1;omega)
  .have hq1:=hqo hb;subst hq1;obtain⟨o1,o2,o3,o4⟩:=hKt.o hb;have hsq1:1≤K.out.seq/\K.out.seq≤1000:=by have h1:br.may K.out=true:=o1;unfold br.may at h1;simp only[cu,eo]at h1;have:=hKt.q;omega
   have hKb:({K with busy:=true}:Cl)=K:=by rw[←hb]
   rw[hb]at ho;have ho:ae prog 12 [.f ({K with busy:=true}:Cl).at] (λ r o=>r=[.agg (K.out.enc.map RO.d),rb true]/\o=[]):=by rw[hKb];exact ho
   have hno:∀m:cG,dQ m=true->(m.bh !=K.id||m.seq !=K.out.seq)=true->ae prog 17 [.obj ({K with busy:=true}:Cl).ro, .f (bE (dW m).length (aI (dW m)))] (λ r o=>r=[rb false]/\o=[({K with busy:=true}:Cl).ro]):=λ m h1 h2=>by rw[hKb];exact JW K m _ h1 rfl hb (by have:=hKt.n;omega) h2
   have m1:=vL (c:=1) (s:=K.out.seq+1) (by decide) (by omega);have m2:=vL (c:=2) (s:=K.out.seq) (by decide) (by omega);have n1:=hno _ m1 (by rw[show((K.out.seq+1) !=K.out.seq)=true by simp;omega];simp);have n2:=hno _ m2 (by simp only[hid];rfl);have b1:=pI _ m1;have b2:=pI _ m2;have v1:IntKind.i64.wrap (K.out.seq+1)=K.out.seq+1:=wrap64 (by omega) (by omega);have v2:IntKind.i64.wrap (K.out.seq - 1)=K.out.seq - 1:=wrap64 (by omega) (by omega);obtain⟨x1,hx1⟩:∃x,x=dW ⟨1,K.out.seq+1,gG⟩:=⟨_,rfl⟩;obtain⟨x2,hx2⟩:∃x,x=dW ⟨2,K.out.seq,gG⟩:=⟨_,rfl⟩;rw[←hx1]at n1 b1;rw[←hx2]at n2 b2
   repeat'(first|(with_reducible first|refine aa _ _ ?_|refine ak ?_|refine ao ?_)|rw[af]|simp only[hlt,hat,w1,w2,w3,←htt,w4,mT,aS,e0,e1,e2,v1,hb,zY,Int.reduceEq,Int.reduceBEq,Int.reduceBNe,Nat.reduceSub,Nat.reduceEqDiff,Nat.reduceAdd,Nat.reduceMul,Nat.reduceLeDiff,Nat.reduceLT,Nat.reduceBEq,reduceCtorEq]|((first|((try refine aD ?_);apply aE)|(apply aG;intro _));(solve|exact(ho)|exact(b1)|(refine ae.le (ho) ?_;exact zM)|(refine ae.le (b1) ?_;exact zM)|fail);try case hn=>rfl)|refine aj ?_|refine ag (λ hb=> ?_) (λ hb=> ?_)|(refine And.intro ?_ ?_;exact zJ)|refine And.intro (λ hg=> ?_) (λ hg=> ?_)|exact zC|fail)
   refine fa (mv:= ?mv4) (aJ:= ?le4) (x:= ?x4) (ass:= ?ass4) ?ha4 (n1) ?hr4 rfl ?hs4 ?hb4 ?hc4
   case ha4=>(try simp only[zY,Int.reduceEq,Int.reduceBEq,Int.reduceBNe,aS,Nat.reduceSub,Nat.reduceEqDiff,Nat.reduceAdd,Nat.reduceMul,Nat.reduceLeDiff,Nat.reduceLT,Nat.reduceBEq,reduceCtorEq]);exact rfl
   case hr4=>simp[ea,eu,aS]
   case hs4=>simp[cV,dq,dw,dG,aS]
   case hb4=>(try simp only[zB,bA,aS,Nat.reduceSub,Nat.reduceEqDiff,Nat.reduceAdd,Nat.reduceMul,Nat.reduceLeDiff,Nat.reduceLT,Nat.reduceBEq,reduceCtorEq]);repeat'(first|rfl|trivial|omega|with_reducible refine And.intro ?_ ?_)
   show aP _ _ _ _ _ _ _ _
   repeat'(first|(with_reducible first|refine aa _ _ ?_|refine ak ?_|refine ao ?_)|rw[af]|simp only[aS,zY,Int.reduceEq,Int.reduceBEq,Int.reduceBNe,Nat.reduceSub,Nat.reduceEqDiff,Nat.reduceAdd,Nat.reduceMul,Nat.reduceLeDiff,Nat.reduceLT,Nat.reduceBEq,reduceCtorEq]|((first|((try refine aD ?_);apply aE)|(apply aG;intro _));(solve|exact(b2)|(refine ae.le (b2) ?_;exact zM)|fail);try case hn=>rfl)|refine aj ?_|refine ag (λ hb=> ?_) (λ hb=> ?_)|(refine And.intro ?_ ?_;exact zJ)|refine And.intro (λ hg=> ?_) (λ hg=> ?_)|exact zC|fail)
   refine aD ?_;refine fa (mv:= ?mv5) (aJ:= ?le5) (x:= ?x5) (ass:= ?ass5) ?ha5 (n2) ?hr5 rfl ?hs5 ?hb5 ?hc5
   case ha5=>(try simp only[zY,Int.reduceEq,Int.reduceBEq,Int.reduceBNe,aS,Nat.reduceSub,Nat.reduceEqDiff,Nat.reduceAdd,Nat.reduceMul,Nat.reduceLeDiff,Nat.reduceLT,Nat.reduceBEq,reduceCtorEq]);exact rfl
   case hr5=>simp[ea,eu,aS]
   case hs5=>simp[cV,dq,dw,dG,aS]
   case hb5=>(try simp only[zB,bA,aS,Nat.reduceSub,Nat.reduceEqDiff,Nat.reduceAdd,Nat.reduceMul,Nat.reduceLeDiff,Nat.reduceLT,Nat.reduceBEq,reduceCtorEq]);repeat'(first|rfl|trivial|omega|with_reducible refine And.intro ?_ ?_)
   show aP _ _ _ _ _ _ _ _;have hlk:=Bd K.out K.aF a hao hKt.s;have hses:=yy ({K with busy:=true}:Cl);obtain⟨p1,p2,p3⟩:=zn (k:=K.out.kind) (ses:=K.aF) hao hKt.s;obtain⟨R,hR⟩:∃R,R=fP K.out.kind K.aF a:=⟨_,rfl⟩;rw[←hR]at p1 p2 p3 hlk;have hans:dQ ⟨1,K.out.seq,R⟩=true:=by
    unfold dQ;have h1:decide (K.out.seq≥1)=true:=by simp;omega
    have h2:decide (K.out.seq≤ep)=true:=by rw[show ep=2305843009213693952 from rfl];simp;omega
    rw[p1,h1,h2];rfl
   have hby:=pI ⟨1,K.out.seq,R⟩ hans;obtain⟨bs,hbs⟩:∃x,x=dW ⟨1,K.out.seq,R⟩:=⟨_,rfl⟩;rw[←hbs]at hby
   have htk:=z7 ({K with busy:=true}:Cl) ⟨1,K.out.seq,R⟩ bs hans hbs rfl hKt.n hKt.c (by show 0≤K.first/\K.first≤2305843009213693952;have:=hKt.f;have:=hKt.w;omega) (λ h1 h2=>hKt.k hb h1 h2) hid.symm rfl;obtain⟨q0,qb,q1,q2,q3⟩:=vo hKt hb (iY p1).2.2.2.1 ⟨p2,p3⟩;obtain⟨K',hK'⟩:∃x,x=gY K R:=⟨_,rfl⟩;have htk:ae prog 17 [.obj ({K with busy:=true}:Cl).ro, .f (bE bs.length (aI bs))] (λ r o=>r=[rb true]/\o=[K'.ro]):=by rw[hK'];exact htk
   rw[←hK']at q0 qb q1 q2 q3;have ho3:=uZ K' qb;clear hR hans n1 b1 ho;cases h1:decide (K.out.seq>1)
   .repeat'(first|(with_reducible first|refine aa _ _ ?_|refine ak ?_|refine ao ?_)|rw[af]|simp only[h1,aS,zY,Int.reduceEq,Int.reduceBEq,Int.reduceBNe,Nat.reduceSub,Nat.reduceEqDiff,Nat.reduceAdd,Nat.reduceMul,Nat.reduceLeDiff,Nat.reduceLT,Nat.reduceBEq,reduceCtorEq]|((first|((try refine aD ?_);apply aE)|(apply aG;intro _));(solve|exact(hses)|exact(hlk)|exact(hby)|(refine ae.le (hses) ?_;exact zM)|(refine ae.le (hlk) ?_;exact zM)|(refine ae.le (hby) ?_;exact zM)|fail);try case hn=>rfl)|refine aj ?_|refine ag (λ hb=> ?_) (λ hb=> ?_)|(refine And.intro ?_ ?_;exact zJ)|refine And.intro (λ hg=> ?_) (λ hg=> ?_)|exact zC|fail)
    refine fa (mv:= ?mv6) (aJ:= ?le6) (x:= ?x6) (ass:= ?ass6) ?ha6 (htk) ?hr6 rfl ?hs6 ?hb6 ?hc6
    case ha6=>(try simp only[zY,Int.reduceEq,Int.reduceBEq,Int.reduceBNe,aS,Nat.reduceSub,Nat.reduceEqDiff,Nat.reduceAdd,Nat.reduceMul,Nat.reduceLeDiff,Nat.reduceLT,Nat.reduceBEq,reduceCtorEq]);exact rfl
    case hr6=>simp[ea,eu,aS]
    case hs6=>simp[cV,dq,dw,dG,aS]
    case hb6=>(try simp only[zB,bA,aS,Nat.reduceSub,Nat.reduceEqDiff,Nat.reduceAdd,Nat.reduceMul,Nat.reduceLeDiff,Nat.reduceLT,Nat.reduceBEq,reduceCtorEq]);repeat'(first|rfl|trivial|omega|with_reducible refine And.intro ?_ ?_)
    show aP _ _ _ _ _ _ _ _
    repeat'(first|(with_reducible first|refine aa _ _ ?_|refine ak ?_|refine ao ?_)|rw[af]|simp only[aS,zY,Int.reduceEq,Int.reduceBEq,Int.reduceBNe,Nat.reduceSub,Nat.reduceEqDiff,Nat.reduceAdd,Nat.reduceMul,Nat.reduceLeDiff,Nat.reduceLT,Nat.reduceBEq,reduceCtorEq]|((first|((try refine aD ?_);apply aE)|(apply aG;intro _));(solve|exact(ho3)|(refine ae.le (ho3) ?_;exact zM)|fail);try case hn=>rfl)|refine aj ?_|refine ag (λ hb=> ?_) (λ hb=> ?_)|(refine And.intro ?_ ?_;exact zJ)|refine And.intro (λ hg=> ?_) (λ hg=> ?_)|exact zC|fail)
    exact hgo _ K' (Gh.canon [24] [] [] (by simp only[hw,q1,bN,bS,bW,bR,bT,bU,bV,bM,bO,bL,bH,bK,bX,D.v.injEq,bY];try(repeat'(first|rfl|omega|with_reducible apply And.intro))) rfl rfl) q0 (by rw[q3];exact hc) (by rw[q2];exact hid) (by omega)
   .have m3:=vL (c:=1) (s:=K.out.seq - 1) (by decide) (by simp at h1;omega);have n3:=hno _ m3 (by rw[show((K.out.seq - 1) !=K.out.seq)=true by simp;omega];simp);have b3:=pI _ m3;obtain⟨x3,hx3⟩:∃x,x=dW ⟨1,K.out.seq - 1,gG⟩:=⟨_,rfl⟩;rw[←hx3]at n3 b3
    repeat'(first|(with_reducible first|refine aa _ _ ?_|refine ak ?_|refine ao ?_)|rw[af]|simp only[h1,aS,v2,zY,Int.reduceEq,Int.reduceBEq,Int.reduceBNe,Nat.reduceSub,Nat.reduceEqDiff,Nat.reduceAdd,Nat.reduceMul,Nat.reduceLeDiff,Nat.reduceLT,Nat.reduceBEq,reduceCtorEq]|((first|((try refine aD ?_);apply aE)|(apply aG;intro _));(solve|exact(b3)|(refine ae.le (b3) ?_;exact zM)|fail);try case hn=>rfl)|refine aj ?_|refine ag (λ hb=> ?_) (λ hb=> ?_)|(refine And.intro ?_ ?_;exact zJ)|refine And.intro (λ hg=> ?_) (λ hg=> ?_)|exact zC|fail)
    refine aD ?_;refine fa (mv:= ?mv7) (aJ:= ?le7) (x:= ?x7) (ass:= ?ass7) ?ha7 (n3) ?hr7 rfl ?hs7 ?hb7 ?hc7
    case ha7=>(try simp only[zY,Int.reduceEq,Int.reduceBEq,Int.reduceBNe,aS,Nat.reduceSub,Nat.reduceEqDiff,Nat.reduceAdd,Nat.reduceMul,Nat.reduceLeDiff,Nat.reduceLT,Nat.reduceBEq,reduceCtorEq]);exact rfl
    case hr7=>simp[ea,eu,aS]
    case hs7=>simp[cV,dq,dw,dG,aS]
    case hb7=>(try simp only[zB,bA,aS,Nat.reduceSub,Nat.reduceEqDiff,Nat.reduceAdd,Nat.reduceMul,Nat.reduceLeDiff,Nat.reduceLT,Nat.reduceBEq,reduceCtorEq]);repeat'(first|rfl|trivial|omega|with_reducible refine And.intro ?_ ?_)
    show aP _ _ _ _ _ _ _ _
    repeat'(first|(with_reducible first|refine aa _ _ ?_|refine ak ?_|refine ao ?_)|rw[af]|simp only[aS,zY,Int.reduceEq,Int.reduceBEq,Int.reduceBNe,Nat.reduceSub,Nat.reduceEqDiff,Nat.reduceAdd,Nat.reduceMul,Nat.reduceLeDiff,Nat.reduceLT,Nat.reduceBEq,reduceCtorEq]|((first|((try refine aD ?_);apply aE)|(apply aG;intro _));(solve|exact(hses)|exact(hlk)|exact(hby)|(refine ae.le (hses) ?_;exact zM)|(refine ae.le (hlk) ?_;exact zM)|(refine ae.le (hby) ?_;exact zM)|fail);try case hn=>rfl)|refine aj ?_|refine ag (λ hb=> ?_) (λ hb=> ?_)|(refine And.intro ?_ ?_;exact zJ)|refine And.intro (λ hg=> ?_) (λ hg=> ?_)|exact zC|fail)
    refine fa (mv:= ?mv8) (aJ:= ?le8) (x:= ?x8) (ass:= ?ass8) ?ha8 (htk) ?hr8 rfl ?hs8 ?hb8 ?hc8
    case ha8=>(try simp only[zY,Int.reduceEq,Int.reduceBEq,Int.reduceBNe,aS,Nat.reduceSub,Nat.reduceEqDiff,Nat.reduceAdd,Nat.reduceMul,Nat.reduceLeDiff,Nat.reduceLT,Nat.reduceBEq,reduceCtorEq]);exact rfl
    case hr8=>simp[ea,eu,aS]
    case hs8=>simp[cV,dq,dw,dG,aS]
    case hb8=>(try simp only[zB,bA,aS,Nat.reduceSub,Nat.reduceEqDiff,Nat.reduceAdd,Nat.reduceMul,Nat.reduceLeDiff,Nat.reduceLT,Nat.reduceBEq,reduceCtorEq]);repeat'(first|rfl|trivial|omega|with_reducible refine And.intro ?_ ?_)
    show aP _ _ _ _ _ _ _ _
    repeat'(first|(with_reducible first|refine aa _ _ ?_|refine ak ?_|refine ao ?_)|rw[af]|simp only[aS,zY,Int.reduceEq,Int.reduceBEq,Int.reduceBNe,Nat.reduceSub,Nat.reduceEqDiff,Nat.reduceAdd,Nat.reduceMul,Nat.reduceLeDiff,Nat.reduceLT,Nat.reduceBEq,reduceCtorEq]|((first|((try refine aD ?_);apply aE)|(apply aG;intro _));(solve|exact(ho3)|(refine ae.le (ho3) ?_;exact zM)|fail);try case hn=>rfl)|refine aj ?_|refine ag (λ hb=> ?_) (λ hb=> ?_)|(refine And.intro ?_ ?_;exact zJ)|refine And.intro (λ hg=> ?_) (λ hg=> ?_)|exact zC|fail)
    exact hgo _ K' (Gh.canon [24] [] [] (by simp only[hw,q1,bN,bS,bW,bR,bT,bU,bV,bM,bO,bL,bH,bK,bX,D.v.injEq,bY];try(repeat'(first|rfl|omega|with_reducible apply And.intro))) rfl rfl) q0 (by rw[q3];exact hc) (by rw[q2];exact hid) (by omega)
 .have e0:(a.todo==0)=false:=by simpa using hd0
  have e1:(a.todo==1)=false:=by simpa using hd1
  have e2:(a.todo==2)=false:=by simpa using hd2
  obtain⟨q,ho,hqo⟩:=p9 K
  repeat'(first|(with_reducible first|refine aa _ _ ?_|refine ak ?_|refine ao ?_)|rw[af]|simp only[hlt,hat,w1,w2,w3,←htt,w4,mT,aS,e0,e1,e2,zY,Int.reduceEq,Int.reduceBEq,Int.reduceBNe,Nat.reduceSub,Nat.reduceEqDiff,Nat.reduceAdd,Nat.reduceMul,Nat.reduceLeDiff,Nat.reduceLT,Nat.reduceBEq,reduceCtorEq]|((first|((try refine aD ?_);apply aE)|(apply aG;intro _));(solve|exact(ho)|(refine ae.le (ho) ?_;exact zM)|fail);try case hn=>rfl)|refine aj ?_|refine ag (λ hb=> ?_) (λ hb=> ?_)|(refine And.intro ?_ ?_;exact zJ)|refine And.intro (λ hg=> ?_) (λ hg=> ?_)|exact zC|fail)
  exact hgo _ K (Gh.canon [24] [] [] (by simp only[hw,bN,bS,bW,bR,bT,bU,bV,bM,bO,bL,bH,bK,bX,D.v.injEq,bY];try(repeat'(first|rfl|omega|with_reducible apply And.intro))) rfl rfl) hKt hc hid (by omega)
end Go.Proofs.YtiegkabcgokhkaaGreat
