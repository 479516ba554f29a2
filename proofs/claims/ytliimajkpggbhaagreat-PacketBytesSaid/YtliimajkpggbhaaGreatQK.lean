import Derived.Test.YtliimajkpggbhaaGreatWE
set_option maxHeartbeats 8000000
namespace Go.Proofs.YtliimajkpggbhaaGreat
open Go.Pk Tryz
set_option maxRecDepth 100000
set_option linter.unusedSimpArgs false
set_option linter.unusedVariables false
theorem Sl (X:List Int) (c:Int):(ag X++[D.v (Value.int .u8 c)]).take (X.length+1)=ag X++[D.v (Value.int .u8 c)]:=dk (by simp)
theorem tk2 (X:List Int) (c n:Int):(ag X++[D.v (Value.int .u8 c)]++ag (aK n)).take (X.length+1+8)=ag X++[D.v (Value.int .u8 c)]++ag (aK n):=dk (by simp[cg])
theorem tk3 (X:List Int) (c:Int) (n:ByteArray):(ag X++[D.v (Value.int .u8 c)]++rL n).take (X.length+1+n.size)=ag X++[D.v (Value.int .u8 c)]++rL n:=dk (by rw[aG,aG,bE,bE,sG];exact Nat.le_refl _)
theorem tk4 (X:List Int) (c d:Int) (n:ByteArray):(ag X++[D.v (Value.int .u8 c)]++rL n++[D.v (Value.int .u8 d)]).take (X.length+1+n.size+1)=ag X++[D.v (Value.int .u8 c)]++rL n++[D.v (Value.int .u8 d)]:=dk (by rw[aG,aG,aG,bE,bE,sG];exact Nat.le_refl _)
theorem tk5 (X:List Int) (c d e:Int) (n:ByteArray):(ag X++[D.v (Value.int .u8 c)]++rL n++[D.v (Value.int .u8 d)]++ag (aK e)).take (X.length+1+n.size+1+8)=ag X++[D.v (Value.int .u8 c)]++rL n++[D.v (Value.int .u8 d)]++ag (aK e):=dk (by rw[aG,aG,aG,aG,bE,bE,bE,sG,cg];exact Nat.le_refl _)
theorem abP (s:St) (h:cZ s):ah prog 72 [.f (.agg s.aC)] (λ r o=>r=[.one (.own 1 (kn s).length (ag (kn s)) false),ri 0]/\o=[]):=by
 refine vD eV mixed (T:=Ty) (n:=157) func72 (c:=f72.body.getD .skip) rfl results72 ntmps72 call72 ?_;simp only[f72,Option.getD];have hri:=F5 s (oO h);rw[uk.2 h]at hri;have hH:bj=2305843009213693952:=rfl;have ht:=h.time;have hn:=h.num;have hk:=h.token;have hsl:=h.sl;have hll:=h.ll;have n1:=fL s.time (by omega);have n2:=fL s.num (by omega);have n3:=fL s.token (by omega);have w1:IntKind.u8.wrap (s.ax.length:Int)=s.ax.length:=dj (by omega) (by omega);have t8:∀v:Int,(ag (aK v)).take 8=ag (aK v):=λ v=>dk (by rw[oi];decide)
 have t1:∀x:Int,dC (sub 0 1 1 [C.d (uD x)])=some [uD x]:=λ _=>rfl
 have t16:∀v w:Int,(ag (aK v)++ag (aK w)).take 16=ag (aK v)++ag (aK w):=λ v w=>dk (by simp[cg])
 have t24:∀v w x:Int,(ag (aK v)++ag (aK w)++ag (aK x)).take 24=ag (aK v)++ag (aK w)++ag (aK x):=λ v w x=>dk (by simp[cg])
 repeat'(first|(with_reducible first|refine bH _ _ ?_|refine fC ?_|refine fD ?_)|rw[dE]|simp only[t8,t16,t24,t1,w1,bE,cg,zY,Int.reduceEq,Int.reduceBEq,Int.reduceBNe,Nat.reduceSub,Nat.reduceEqDiff,Nat.reduceAdd,Nat.reduceMul,Nat.reduceLeDiff,Nat.reduceLT,Nat.reduceBEq,reduceCtorEq]|((first|((try refine eH ?_);apply eb)|(apply fm;intro _));(solve|exact(hri)|exact(n1)|exact(n2)|exact(n3)|(refine ah.le (hri) ?_;exact zM)|(refine ah.le (n1) ?_;exact zM)|(refine ah.le (n2) ?_;exact zM)|(refine ah.le (n3) ?_;exact zM)|fail);try case hn=>rfl)|refine eA ?_|refine aq (λ hb=> ?_) (λ hb=> ?_)|(refine And.intro ?_ ?_;exact zI)|refine And.intro (λ hg=> ?_) (λ hg=> ?_)|exact zC|fail)
 have hh:ag (qy s)=ag (aK s.time)++ag (aK s.num)++ag (aK s.token)++[D.v (Value.int .u8 (s.ax.length:Int))]:=by simp[qy,ag]
 refine bq (τ:=Nat) (λ i=>⟨[dd, .one (.ptr ⟨1,0,1⟩ 0),dd,dd, .one (.own ⟨4,1,1⟩ 0 (gp s i).length),ai i,dd,dd,dd,dd,dd,dd,dd,dd,dd,dd,dd,dd,dd,dd,dd,dd,dd,dd,dd,dd,dd,dd,dd,dd,dd,dd,dd,dd,dd,dd,dd,dd,dd,dd,dd,dd,dd,dd,dd,dd,dd,dd,dd,dd,dd,dd,dd,dd,dd,dd,dd,dd,dd,dd,dd,dd,dd,dd,dd,dd,dd,dd,dd,dd,dd,dd,dd,dd,dd,dd,dd,dd,dd,dd,dd,dd,dd,dd,dd,dd,dd,dd,dd,dd,dd,dd,dd,dd,dd,dd,dd,dd,dd,dd,dd,dd,dd,dd,dd,dd,dd,dd,dd,dd,dd,dd,dd,dd,dd,dd,dd,dd,dd,dd,dd,dd,dd,dd,dd,dd,dd,dd,dd,dd,dd,dd,dd,dd,dd,dd,dd,dd,dd,dd,dd,dd,dd,dd,dd,dd,dd,dd,dd,dd,dd,dd,dd,dd,dd,dd,dd],[(1,{next:=2,l:=[some {e:=1,var:=true,fz:=false,sz:=0,cells:=[di s.time,di s.num,di s.token, .aC s.ax.length (bT s.ax), .aC s.ae.length (aU s.ae), .aC s.aI.length (ct s.aI)]},none,none,none,none,none,none]}),(19,⟨2,[]⟩),(22,⟨2,[]⟩),(26,⟨2,[]⟩),(4,{next:=2,l:=[none,some {e:=1,var:=false,fz:=false,sz:=1,cells:=(ag (gp s i)).map C.d}]}),(33,⟨2,[]⟩),(6,⟨2,[]⟩),(51,⟨2,[]⟩),(52,⟨2,[]⟩),(55,⟨2,[]⟩),(56,⟨2,[]⟩),(59,⟨2,[]⟩),(60,⟨2,[]⟩)]⟩)
  (λ i=>i≤s.ax.length) (λ _=>()) (λ i=>s.ax.length - i) 0
  (Gh.canon [1,4] [6,51,52,55,56,59,60] [] (by simp only[Dd,CS,dT,lB,lH,lA,lE,lF,lG,iO,kV,jj,jo,fV,l5,D.v.injEq,l9];try(repeat'(first|rfl|omega|with_reducible apply And.intro))) rfl (by rw[Dd,hh];rfl)) (bc _) ?_
 intro i hi0 hF K hK
 repeat(first|with_reducible refine bH _ _ ?_|with_reducible refine dH (bH _ _) ?_|with_reducible refine dH (dH (bH _ _)) ?_|with_reducible refine dH (dH (dH (bH _ _))) ?_|rw[dE]|simp only[zB,Nat.reduceSub,Nat.reduceEqDiff,Nat.reduceAdd,Nat.reduceMul,Nat.reduceLeDiff,Nat.reduceLT,Nat.reduceBEq,reduceCtorEq])
 refine aq (λ hlt=> ?_) (λ hge=> ?_)
 .have hi:i<s.ax.length:=by simpa using hlt
  have hat:=hU hi;have hw:=bz hi (by omega);obtain⟨f1,f2,f3⟩:=qZ.1 (h.jS _ (cb hi)).1;simp only[fq,bM,dX]at f1;have wc:IntKind.u8.wrap s.ax[i].af=s.ax[i].af:=dj (by omega) (by omega);have m1:=fL s.ax[i].num (by omega);have m2:=fL s.ax[i].dp (by omega);have hb:=Az s i;have e1:((gp s i).length+1≤2^47)=True:=b5 (by omega);have e2:((gp s i).length+1+8≤2^47)=True:=b5 (by omega);have e3:((gp s i).length+1+8+8≤2^47)=True:=b5 (by omega);have hsl:(gp s (i+1)).length=(gp s i).length+1+8+8:=by rw[GP hi,aG,K0]
  repeat'(first|(with_reducible first|refine bH _ _ ?_|refine fC ?_|refine fD ?_)|rw[dE]|simp only[hat,dW,c5,ca,t8,t1,wc,e1,e2,e3,Sl,tk2,dD,bE,cg,zY,Int.reduceEq,Int.reduceBEq,Int.reduceBNe,Nat.reduceSub,Nat.reduceEqDiff,Nat.reduceAdd,Nat.reduceMul,Nat.reduceLeDiff,Nat.reduceLT,Nat.reduceBEq,reduceCtorEq]|((first|((try refine eH ?_);apply eb)|(apply fm;intro _));(solve|exact(m1)|exact(m2)|(refine ah.le (m1) ?_;exact zM)|(refine ah.le (m2) ?_;exact zM)|fail);try case hn=>rfl)|refine eA ?_|refine aq (λ hb=> ?_) (λ hb=> ?_)|(refine And.intro ?_ ?_;exact zI)|refine And.intro (λ hg=> ?_) (λ hg=> ?_)|exact zC|fail)
  exact hK _ (i+1) (Gh.canon [1,4] [] [] (by simp only[hw,hsl,dT,lB,lH,lA,lE,lF,lG,iO,kV,jj,jo,fV,l5,D.v.injEq,l9];try(repeat'(first|rfl|omega|with_reducible apply And.intro))) rfl (by rw[GP hi];simp only[b9,ag,fU,rH,b7,fH,dW,c5];rfl)) hi rfl (by omega)
 .have hi:i=s.ax.length:=by
   have:¬(i:Int)<s.ax.length:=by simpa using hge
   omega
  subst hi;clear hK;have w2:IntKind.u8.wrap (s.ae.length:Int)=s.ae.length:=dj (by omega) (by omega);have hb:=Az s s.ax.length;have hle:((gp s s.ax.length).length+1≤2^47)=True:=b5 (by omega)
  repeat'(first|(with_reducible first|refine bH _ _ ?_|refine fC ?_|refine fD ?_)|rw[dE]|simp only[hle,t1,w2,dD,bE,zY,Int.reduceEq,Int.reduceBEq,Int.reduceBNe,Nat.reduceSub,Nat.reduceEqDiff,Nat.reduceAdd,Nat.reduceMul,Nat.reduceLeDiff,Nat.reduceLT,Nat.reduceBEq,reduceCtorEq]|refine eA ?_|refine aq (λ hb=> ?_) (λ hb=> ?_)|(refine And.intro ?_ ?_;exact zI)|refine And.intro (λ hg=> ?_) (λ hg=> ?_)|exact zC|fail)
  refine bq (τ:=Nat) (λ i=>⟨[dd, .one (.ptr ⟨1,0,1⟩ 0),dd,dd, .one (.own ⟨4,1,1⟩ 0 (f7 s i).length),dd,dd,ai i,dd,dd,dd,dd,dd,dd,dd,dd,dd,dd,dd,dd,dd,dd,dd,dd,dd,dd,dd,dd,dd,dd,dd,dd,dd,dd,dd,dd,dd,dd,dd,dd,dd,dd,dd,dd,dd,dd,dd,dd,dd,dd,dd,dd,dd,dd,dd,dd,dd,dd,dd,dd,dd,dd,dd,dd,dd,dd,dd,dd,dd,dd,dd,dd,dd,dd,dd,dd,dd,dd,dd,dd,dd,dd,dd,dd,dd,dd,dd,dd,dd,dd,dd,dd,dd,dd,dd,dd,dd,dd,dd,dd,dd,dd,dd,dd,dd,dd,dd,dd,dd,dd,dd,dd,dd,dd,dd,dd,dd,dd,dd,dd,dd,dd,dd,dd,dd,dd,dd,dd,dd,dd,dd,dd,dd,dd,dd,dd,dd,dd,dd,dd,dd,dd,dd,dd,dd,dd,dd,dd,dd,dd,dd,dd,dd,dd,dd,dd,dd],[(1,{next:=2,l:=[some {e:=1,var:=true,fz:=false,sz:=0,cells:=[di s.time,di s.num,di s.token, .aC s.ax.length (bT s.ax), .aC s.ae.length (aU s.ae), .aC s.aI.length (ct s.aI)]},none,none,none,none,none,none]}),(19,⟨2,[]⟩),(22,⟨2,[]⟩),(26,⟨2,[]⟩),(4,{next:=2,l:=[none,some {e:=1,var:=false,fz:=false,sz:=1,cells:=(ag (f7 s i)).map C.d}]}),(33,⟨2,[]⟩),(6,⟨2,[]⟩),(51,⟨2,[]⟩),(52,⟨2,[]⟩),(55,⟨2,[]⟩),(56,⟨2,[]⟩),(59,⟨2,[]⟩),(60,⟨2,[]⟩),(66,⟨2,[]⟩),(8,⟨2,[]⟩),(85,⟨2,[]⟩),(86,⟨2,[]⟩),(89,⟨2,[]⟩),(94,⟨2,[]⟩),(95,⟨2,[]⟩),(98,⟨2,[]⟩),(99,⟨2,[]⟩),(105,⟨2,[]⟩),(106,⟨2,[]⟩),(121,⟨2,[]⟩),(122,⟨2,[]⟩)]⟩)
   (λ i=>i≤s.ae.length) (λ _=>()) (λ i=>s.ae.length - i) 0
   (Gh.canon [1,4] [8,85,86,89,94,95,98,99,105,106,121,122] [] (by simp only[CZ,aG,bG,dT,lB,lH,lA,lE,lF,lG,iO,kV,jj,jo,fV,l5,D.v.injEq,l9];try(repeat'(first|rfl|omega|with_reducible apply And.intro))) rfl (by rw[CZ];simp only[b9,ag,fU];rfl)) (bc _) ?_
  intro i hi0 hF K hK
  repeat(first|with_reducible refine bH _ _ ?_|with_reducible refine dH (bH _ _) ?_|with_reducible refine dH (dH (bH _ _)) ?_|with_reducible refine dH (dH (dH (bH _ _))) ?_|rw[dE]|simp only[zB,Nat.reduceSub,Nat.reduceEqDiff,Nat.reduceAdd,Nat.reduceMul,Nat.reduceLeDiff,Nat.reduceLT,Nat.reduceBEq,reduceCtorEq])
  refine aq (λ hlt=> ?_) (λ hge=> ?_)
  .have hi:i<s.ae.length:=by simpa using hlt
   have hat:=f8 hi;have hw:=bz hi (by omega);obtain⟨q0,q1,q2,q3,q4,q5⟩:=Cb h (cb hi);have wc:IntKind.u8.wrap s.ae[i].bh=s.ae[i].bh:=dj (by omega) (by omega);have wn:IntKind.u8.wrap (s.ae[i].name.size:Int)=s.ae[i].name.size:=dj (by omega) (by omega);have wl:IntKind.u8.wrap (s.ae[i].line.length:Int)=s.ae[i].line.length:=dj (by omega) (by omega);have m2:=fL s.ae[i].token (by omega);have hb:=Ax h i;have e1:((f7 s i).length+1≤2^47)=True:=b5 (by omega);have e2:((f7 s i).length+1+s.ae[i].name.size≤2^47)=True:=b5 (by omega);have e3:((f7 s i).length+1+s.ae[i].name.size+1≤2^47)=True:=b5 (by omega);have e4:((f7 s i).length+1+s.ae[i].name.size+1+8≤2^47)=True:=b5 (by omega);have e5:((f7 s i).length+1+s.ae[i].name.size+1+8+1≤2^47)=True:=b5 (by omega);have hs0:(ia s i s.ae[i] 0).length=(f7 s i).length+1+s.ae[i].name.size+1+8+1:=by rw[FY,aG,DJ];omega
   repeat'(first|(with_reducible first|refine bH _ _ ?_|refine fC ?_|refine fD ?_)|rw[dE]|simp only[hat,dW,c5,bK,t8,t1,wc,wl,wn,e1,e2,e3,e4,e5,Sl,tk3,tk4,tk5,dD,sG,bE,cg,zY,Int.reduceEq,Int.reduceBEq,Int.reduceBNe,Nat.reduceSub,Nat.reduceEqDiff,Nat.reduceAdd,Nat.reduceMul,Nat.reduceLeDiff,Nat.reduceLT,Nat.reduceBEq,reduceCtorEq]|((first|((try refine eH ?_);apply eb)|(apply fm;intro _));(solve|exact(m2)|(refine ah.le (m2) ?_;exact zM)|fail);try case hn=>rfl)|refine eA ?_|refine aq (λ hb=> ?_) (λ hb=> ?_)|(refine And.intro ?_ ?_;exact zI)|refine And.intro (λ hg=> ?_) (λ hg=> ?_)|exact zC|fail)
   refine bq (τ:=Nat) (λ j=>⟨[dd, .one (.ptr ⟨1,0,1⟩ 0),dd,dd, .one (.own ⟨4,1,1⟩ 0 (ia s i s.ae[i] j).length),dd,dd,ai i, .one (.ptr ⟨8,0,1⟩ 0),ai j,dd,dd,dd,dd,dd,dd,dd,dd,dd,dd,dd,dd,dd,dd,dd,dd,dd,dd,dd,dd,dd,dd,dd,dd,dd,dd,dd,dd,dd,dd,dd,dd,dd,dd,dd,dd,dd,dd,dd,dd,dd,dd,dd,dd,dd,dd,dd,dd,dd,dd,dd,dd,dd,dd,dd,dd,dd,dd,dd,dd,dd,dd,dd,dd,dd,dd,dd,dd,dd,dd,dd,dd,dd,dd,dd,dd,dd,dd,dd,dd,dd,dd,dd,dd,dd,dd,dd,dd,dd,dd,dd,dd,dd,dd,dd,dd,dd,dd,dd,dd,dd,dd,dd,dd,dd,dd,dd,dd,dd,dd,dd,dd,dd,dd,dd,dd,dd,dd,dd,dd,dd,dd,dd,dd,dd,dd,dd,dd,dd,dd,dd,dd,dd,dd,dd,dd,dd,dd,dd,dd,dd,dd,dd,dd,dd,dd,dd],[(1,{next:=2,l:=[some {e:=1,var:=true,fz:=false,sz:=0,cells:=[di s.time,di s.num,di s.token, .aC s.ax.length (bT s.ax), .aC s.ae.length (aU s.ae), .aC s.aI.length (ct s.aI)]},none,none,none,none,none,none]}),(19,⟨2,[]⟩),(22,⟨2,[]⟩),(26,⟨2,[]⟩),(4,{next:=2,l:=[none,some {e:=1,var:=false,fz:=false,sz:=1,cells:=(ag (ia s i s.ae[i] j)).map C.d}]}),(33,⟨2,[]⟩),(6,⟨2,[]⟩),(51,⟨2,[]⟩),(52,⟨2,[]⟩),(55,⟨2,[]⟩),(56,⟨2,[]⟩),(59,⟨2,[]⟩),(60,⟨2,[]⟩),(66,⟨2,[]⟩),(8,{next:=2,l:=[some {e:=1,var:=true,fz:=false,sz:=0,cells:=[dS s.ae[i].name,di s.ae[i].bh,di s.ae[i].token, .d (.sl s.ae[i].line.length (bt s.ae[i].line))]},none,none,none,none]}),(85,⟨2,[]⟩),(86,⟨2,[]⟩),(89,⟨2,[]⟩),(94,⟨2,[]⟩),(95,⟨2,[]⟩),(98,⟨2,[]⟩),(99,⟨2,[]⟩),(105,⟨2,[]⟩),(106,⟨2,[]⟩),(121,⟨2,[]⟩),(122,⟨2,[]⟩)]⟩)
    (λ j=>j≤s.ae[i].line.length) (λ _=>()) (λ j=>s.ae[i].line.length - j) 0
    (Gh.canon [1,4,8] [] [] (by simp only[hs0,dT,lB,lH,lA,lE,lF,lG,iO,kV,jj,jo,fV,l5,D.v.injEq,l9];try(repeat'(first|rfl|omega|with_reducible apply And.intro))) rfl (by rw[FY];simp only[ue,iU,ag,fU,b7,fY,rT,fH,dW,c5];rfl)) (bc _) ?_
   intro j hj0 hF2 K2 hK2
   repeat(first|with_reducible refine bH _ _ ?_|with_reducible refine dH (bH _ _) ?_|with_reducible refine dH (dH (bH _ _)) ?_|with_reducible refine dH (dH (dH (bH _ _))) ?_|rw[dE]|simp only[zB,Nat.reduceSub,Nat.reduceEqDiff,Nat.reduceAdd,Nat.reduceMul,Nat.reduceLeDiff,Nat.reduceLT,Nat.reduceBEq,reduceCtorEq])
   refine aq (λ hlt2=> ?_) (λ hge2=> ?_)
   .have hj:j<s.ae[i].line.length:=by simpa using hlt2
    have hat2:=mm hj;have hw2:=bz hj (by omega);have q6:=q5 _ (cb hj);have wd:IntKind.u8.wrap s.ae[i].line[j]=s.ae[i].line[j]:=dj (by omega) (by omega);have hlj:(ia s i s.ae[i] j).length≤300:=by rw[ia,aG,aG,DJ,cu];omega
    have hle3:((ia s i s.ae[i] j).length+1≤2^47)=True:=b5 (by omega);have hsl3:(ia s i s.ae[i] (j+1)).length=(ia s i s.ae[i] j).length+1:=by rw[Cw hj,aG,bG]
    repeat'(first|(with_reducible first|refine bH _ _ ?_|refine fC ?_|refine fD ?_)|rw[dE]|simp only[hat2,dW,c5,eu,t1,wd,hle3,dD,bE,zY,Int.reduceEq,Int.reduceBEq,Int.reduceBNe,Nat.reduceSub,Nat.reduceEqDiff,Nat.reduceAdd,Nat.reduceMul,Nat.reduceLeDiff,Nat.reduceLT,Nat.reduceBEq,reduceCtorEq]|refine eA ?_|refine aq (λ hb=> ?_) (λ hb=> ?_)|(refine And.intro ?_ ?_;exact zI)|refine And.intro (λ hg=> ?_) (λ hg=> ?_)|exact zC|fail)
    exact hK2 _ (j+1) (Gh.canon [1,4,8] [] [] (by simp only[hw2,hsl3,dT,lB,lH,lA,lE,lF,lG,iO,kV,jj,jo,fV,l5,D.v.injEq,l9];try(repeat'(first|rfl|omega|with_reducible apply And.intro))) rfl (by rw[Cw hj];simp only[b9,ag,fU];rfl)) hj rfl (by omega)
   .have hj:j=s.ae[i].line.length:=by
     have:¬(j:Int)<s.ae[i].line.length:=by simpa using hge2
     omega
    subst hj
    repeat'(first|(with_reducible first|refine bH _ _ ?_|refine fC ?_|refine fD ?_)|rw[dE]|simp only[zY,Int.reduceEq,Int.reduceBEq,Int.reduceBNe,Nat.reduceSub,Nat.reduceEqDiff,Nat.reduceAdd,Nat.reduceMul,Nat.reduceLeDiff,Nat.reduceLT,Nat.reduceBEq,reduceCtorEq]|refine eA ?_|refine aq (λ hb=> ?_) (λ hb=> ?_)|(refine And.intro ?_ ?_;exact zI)|refine And.intro (λ hg=> ?_) (λ hg=> ?_)|exact zC|fail)
    exact hK _ (i+1) (Gh.canon [1,4] [] [] (by simp only[hw,Dp hi,dT,lB,lH,lA,lE,lF,lG,iO,kV,jj,jo,fV,l5,D.v.injEq,l9];try(repeat'(first|rfl|omega|with_reducible apply And.intro))) rfl (by rw[Dp hi];rfl)) hi rfl (by omega)
  .have hi:i=s.ae.length:=by
    have:¬(i:Int)<s.ae.length:=by simpa using hge
    omega
   subst hi;clear hK;have hml:=xD h;have w3:IntKind.u8.wrap (s.aI.length:Int)=s.aI.length:=dj (by omega) (by omega);have hb2:=Ax h s.ae.length;have hle2:((f7 s s.ae.length).length+1≤2^47)=True:=b5 (by omega)
   repeat'(first|(with_reducible first|refine bH _ _ ?_|refine fC ?_|refine fD ?_)|rw[dE]|simp only[hle2,t1,w3,dD,bE,zY,Int.reduceEq,Int.reduceBEq,Int.reduceBNe,Nat.reduceSub,Nat.reduceEqDiff,Nat.reduceAdd,Nat.reduceMul,Nat.reduceLeDiff,Nat.reduceLT,Nat.reduceBEq,reduceCtorEq]|refine eA ?_|refine aq (λ hb=> ?_) (λ hb=> ?_)|(refine And.intro ?_ ?_;exact zI)|refine And.intro (λ hg=> ?_) (λ hg=> ?_)|exact zC|fail)
   refine bq (τ:=Nat) (λ i=>⟨[dd, .one (.ptr ⟨1,0,1⟩ 0),dd,dd, .one (.own ⟨4,1,1⟩ 0 (jQ s i).length),dd,dd,dd,dd,dd,ai i,dd,dd,dd,dd,dd,dd,dd,dd,dd,dd,dd,dd,dd,dd,dd,dd,dd,dd,dd,dd,dd,dd,dd,dd,dd,dd,dd,dd,dd,dd,dd,dd,dd,dd,dd,dd,dd,dd,dd,dd,dd,dd,dd,dd,dd,dd,dd,dd,dd,dd,dd,dd,dd,dd,dd,dd,dd,dd,dd,dd,dd,dd,dd,dd,dd,dd,dd,dd,dd,dd,dd,dd,dd,dd,dd,dd,dd,dd,dd,dd,dd,dd,dd,dd,dd,dd,dd,dd,dd,dd,dd,dd,dd,dd,dd,dd,dd,dd,dd,dd,dd,dd,dd,dd,dd,dd,dd,dd,dd,dd,dd,dd,dd,dd,dd,dd,dd,dd,dd,dd,dd,dd,dd,dd,dd,dd,dd,dd,dd,dd,dd,dd,dd,dd,dd,dd,dd,dd,dd,dd,dd,dd,dd,dd,dd,dd],[(1,{next:=2,l:=[some {e:=1,var:=true,fz:=false,sz:=0,cells:=[di s.time,di s.num,di s.token, .aC s.ax.length (bT s.ax), .aC s.ae.length (aU s.ae), .aC s.aI.length (ct s.aI)]},none,none,none,none,none,none]}),(19,⟨2,[]⟩),(22,⟨2,[]⟩),(26,⟨2,[]⟩),(4,{next:=2,l:=[none,some {e:=1,var:=false,fz:=false,sz:=1,cells:=(ag (jQ s i)).map C.d}]}),(33,⟨2,[]⟩),(6,⟨2,[]⟩),(51,⟨2,[]⟩),(52,⟨2,[]⟩),(55,⟨2,[]⟩),(56,⟨2,[]⟩),(59,⟨2,[]⟩),(60,⟨2,[]⟩),(66,⟨2,[]⟩),(8,⟨2,[]⟩),(85,⟨2,[]⟩),(86,⟨2,[]⟩),(89,⟨2,[]⟩),(94,⟨2,[]⟩),(95,⟨2,[]⟩),(98,⟨2,[]⟩),(99,⟨2,[]⟩),(105,⟨2,[]⟩),(106,⟨2,[]⟩),(121,⟨2,[]⟩),(122,⟨2,[]⟩),(128,⟨2,[]⟩),(11,⟨2,[]⟩),(12,⟨2,[]⟩),(150,⟨2,[]⟩),(155,⟨2,[]⟩)]⟩)
    (λ i=>i≤s.aI.length) (λ _=>()) (λ i=>s.aI.length - i) 0
    (Gh.canon [1,4] [11,12,150,155] [] (by simp only[Dc,aG,bG,dT,lB,lH,lA,lE,lF,lG,iO,kV,jj,jo,fV,l5,D.v.injEq,l9];try(repeat'(first|rfl|omega|with_reducible apply And.intro))) rfl (by rw[Dc];simp only[b9,ag,fU];rfl)) (bc _) ?_
   intro i hi0 hF K hK
   repeat(first|with_reducible refine bH _ _ ?_|with_reducible refine dH (bH _ _) ?_|with_reducible refine dH (dH (bH _ _)) ?_|with_reducible refine dH (dH (dH (bH _ _))) ?_|rw[dE]|simp only[zB,Nat.reduceSub,Nat.reduceEqDiff,Nat.reduceAdd,Nat.reduceMul,Nat.reduceLeDiff,Nat.reduceLT,Nat.reduceBEq,reduceCtorEq])
   refine aq (λ hlt=> ?_) (λ hge=> ?_)
   .have hi:i<s.aI.length:=by simpa using hlt
    have hat:=nE hi;have hw:=bz hi (by omega);have hma:=h.lx _ (cb hi);have hpa:=Ip s.aI[i] hma;have hb3:=Ay h i;have hal:=B5 hma;have hle3:((jQ s i).length+(fE s.aI[i]).length≤2^47)=True:=b5 (by omega);have hsl3:(jQ s (i+1)).length=(jQ s i).length+(fE s.aI[i]).length:=by rw[C5 hi,aG]
    repeat'(first|(with_reducible first|refine bH _ _ ?_|refine fC ?_|refine fD ?_)|rw[dE]|simp only[hat,dW,c5,cN,dD,hle3,ij,bE,zY,Int.reduceEq,Int.reduceBEq,Int.reduceBNe,Nat.reduceSub,Nat.reduceEqDiff,Nat.reduceAdd,Nat.reduceMul,Nat.reduceLeDiff,Nat.reduceLT,Nat.reduceBEq,reduceCtorEq]|((first|((try refine eH ?_);apply eb)|(apply fm;intro _));(solve|exact(hpa)|(refine ah.le (hpa) ?_;exact zM)|fail);try case hn=>rfl)|refine eA ?_|refine aq (λ hb=> ?_) (λ hb=> ?_)|(refine And.intro ?_ ?_;exact zI)|refine And.intro (λ hg=> ?_) (λ hg=> ?_)|exact zC|fail)
    exact hK _ (i+1) (Gh.canon [1,4] [] [] (by simp only[hw,hsl3,dT,lB,lH,lA,lE,lF,lG,iO,kV,jj,jo,fV,l5,D.v.injEq,l9];try(repeat'(first|rfl|omega|with_reducible apply And.intro))) rfl (by rw[C5 hi];simp only[b9,ag,fU];rfl)) hi rfl (by omega)
   .have hi:i=s.aI.length:=by
     have:¬(i:Int)<s.aI.length:=by simpa using hge
     omega
    subst hi
    repeat'(first|(with_reducible first|refine bH _ _ ?_|refine fC ?_|refine fD ?_)|rw[dE]|simp only[zY,Int.reduceEq,Int.reduceBEq,Int.reduceBNe,Nat.reduceSub,Nat.reduceEqDiff,Nat.reduceAdd,Nat.reduceMul,Nat.reduceLeDiff,Nat.reduceLT,Nat.reduceBEq,reduceCtorEq]|refine eA ?_|refine aq (λ hb=> ?_) (λ hb=> ?_)|(refine And.intro ?_ ?_;exact zI)|refine And.intro (λ hg=> ?_) (λ hg=> ?_)|exact zC|fail)
    rfl
theorem Vx (s:Sn) (h:gw s=true):ah prog 33 [.f (.agg s.aC)] (λ r o=>r=[.one (.own 1 (ie s).length (ag (ie s)) false),ri 0]/\o=[]):=by
 obtain⟨f1,f2,f3,f4⟩:=BQ h;refine vD eV mixed (T:=Ty) (n:=32) func33 (c:=f33.body.getD .skip) rfl results33 ntmps33 call33 ?_;simp only[f33,Option.getD];have hm:=Ff s (oO f4);rw[h]at hm;have hp:=abP s.st f4;have m1:=fL s.done f1;have m2:=fL s.view f2;have m3:=fL s.slot f3;have hl:=Ay f4 s.st.aI.length;have hml:=xD f4;have hle:(24+(kn s.st).length≤2^47)=True:=b5 (by unfold kn;omega);have t8:∀v:Int,(ag (aK v)).take 8=ag (aK v):=λ v=>dk (by rw[oi];decide)
 have t16:∀v w:Int,(ag (aK v)++ag (aK w)).take 16=ag (aK v)++ag (aK w):=λ v w=>dk (by simp[cg])
 have t24:∀v w x:Int,(ag (aK v)++ag (aK w)++ag (aK x)).take 24=ag (aK v)++ag (aK w)++ag (aK x):=λ v w x=>dk (by simp[cg])
 have hsl:(ie s).length=24+(kn s.st).length:=by simp[ie,cg];omega
 rw[hsl,show ag (ie s)=ag (aK s.done)++ag (aK s.view)++ag (aK s.slot)++ag (kn s.st) from by simp[ie,ag]]
 repeat'(first|(with_reducible first|refine bH _ _ ?_|refine fC ?_|refine fD ?_)|rw[dE]|simp only[t8,t16,t24,hle,dD,bE,cg,zY,Int.reduceEq,Int.reduceBEq,Int.reduceBNe,Nat.reduceSub,Nat.reduceEqDiff,Nat.reduceAdd,Nat.reduceMul,Nat.reduceLeDiff,Nat.reduceLT,Nat.reduceBEq,reduceCtorEq]|((first|((try refine eH ?_);apply eb)|(apply fm;intro _));(solve|exact(hm)|exact(m1)|exact(m2)|exact(m3)|exact(hp)|(refine ah.le (hm) ?_;exact zM)|(refine ah.le (m1) ?_;exact zM)|(refine ah.le (m2) ?_;exact zM)|(refine ah.le (m3) ?_;exact zM)|(refine ah.le (hp) ?_;exact zM)|fail);try case hn=>rfl)|refine eA ?_|refine aq (λ hb=> ?_) (λ hb=> ?_)|(refine And.intro ?_ ?_;exact zI)|refine And.intro (λ hg=> ?_) (λ hg=> ?_)|exact zC|fail)
theorem oI:∀a b:D,dC (sub 0 2 1 [C.d a,C.d b])=some [a,b]:=λ _ _=>rfl
theorem oM:∀(a:D) (n:Int),dC (sub 0 9 1 (C.d a::List.map C.d (ag (aK n))))=some (a::ag (aK n)):=λ _ _=>rfl
theorem qs0:∀(a b:D) (n:Int),dC (sub 0 10 1 (C.d a::List.map C.d (ag (aK n)++[b])))=some (a::(ag (aK n)++[b])):=λ _ _ _=>rfl
theorem qF:∀(a:D) (n m:Int),dC (sub 0 17 1 (C.d a::List.map C.d (ag (aK n)++ag (aK m))))=some (a::(ag (aK n)++ag (aK m))):=λ _ _ _=>rfl
theorem Rh:∀(a:D) (n m k:Int),dC (sub 0 25 1 (C.d a::List.map C.d (ag (aK n)++ag (aK m)++ag (aK k))))=some (a::(ag (aK n)++ag (aK m)++ag (aK k))):=λ _ _ _ _=>rfl
theorem Qk:∀(a:D) (n m k l:Int),dC (sub 0 33 1 (C.d a::List.map C.d (ag (aK n)++ag (aK m)++ag (aK k)++ag (aK l))))=some (a::(ag (aK n)++ag (aK m)++ag (aK k)++ag (aK l))):=λ _ _ _ _ _=>rfl
theorem adg (s:ByteArray):s.data.toList.length=s.size:=mC
theorem Wq (k n:Int) (s:ByteArray) (h:jq k n s=true):ah prog 70 [.f (.agg [di k,di n,dS s])] (λ r o=>r=[.one (.own 1 (kB k n s).length (ag (kB k n s)) false),ri 0]/\o=[]):=by refine zh func70 results70 ntmps70 call70 ?_;simp only[f70,Option.getD];obtain⟨f1,f2,f3,f4,f5⟩:=sk h;have hmy:=Dt k n s (by omega);rw[h]at hmy;have h8:=fL n (by omega);have w1:IntKind.u8.wrap k=k:=dj (by omega) (by omega);have w2:IntKind.u8.wrap (s.size:Int)=s.size:=dj (by omega) (by omega);have hle:(10+s.size≤2^47)=True:=b5 (by omega);refine zL (I oI (I oM (I qs0 (I adg (I w1 (I w2 (I t8 (I hle (I @bE.{0,0} @cg))))))))) (I (hmy) (h8)) ?_;rw[Df];simp[kB,iU,ag]
theorem Jj (r:aX) (h:aX.may r=true):ah prog 28 [.f (.agg (r.enc.map C.d))] (λ x o=>x=[.one (.own 1 (gj r).length (ag (gj r)) false),ri 0]/\o=[]):=by refine zh func28 results28 ntmps28 call28 ?_;simp only[f28,Option.getD];obtain⟨e1,e2,e3,e4⟩:=uv h;have hmy:=xi r e4;rw[h]at hmy;have h8:=fL r.seq (by omega);have hp:=Wq r.kind r.br r.name e3;have f:=sk e3;have w1:IntKind.u8.wrap r.af=r.af:=dj (by omega) (by omega);have hle:(9+(kB r.kind r.br r.name).length≤2^47)=True:=b5 (by rw[Df];omega);refine zL (I oI (I oM (I w1 (I t8 (I hle (I @dD (I @bE.{0,0} @cg))))))) (I (hmy) (I (h8) (hp))) ?_;simp[gj,ag,cg];omega
theorem FJ (b:Batch) (h:Batch.may b=true):ah prog 32 [.f (.agg b.aC)] (λ x o=>x=[.one (.own 1 (dB b).length (ag (dB b)) false),ri 0]/\o=[]):=by
 refine zh func32 results32 ntmps32 call32 ?_;simp only[f32,Option.getD];have hmy:=wY b (GS h);rw[h]at hmy;obtain⟨h1,h2⟩:=vC h;have hn:=FU h;have n1:=fL b.view (EM (hn _ (by simp)));have n2:=fL b.bB.view (EM (hn _ (by simp)));have n3:=fL b.bB.slot (EM (hn _ (by simp)));have n4:=fL b.time (EM (hn _ (by simp)));have w3:IntKind.u8.wrap (b.reqs.length:Int)=b.reqs.length:=dj (by omega) (by omega);cases hf:b.fill
 .rw[dB,aa (by rw[hf];simp)];rw[show b.aC=[db false,di b.view,di b.bB.view,di b.bB.slot,di b.time, .aC b.reqs.length (dw b.reqs)] from by rw[←hf]]at hmy;refine zL (I hf (I oI (I oM (I qF (I Rh (I Qk (I w3 (I t8 (I @bE.{0,0} @cg))))))))) (I (hmy) (I (n1) (I (n2) (I (n3) (n4))))) ?_;have hh:ag (ln b 4)=D.v (Value.int .u8 0)::(ag (aK b.view)++ag (aK b.bB.view)++ag (aK b.bB.slot)++ag (aK b.time)):=by simp[ln,bp,ag]
  refine bq (τ:=Nat) (λ i=>⟨(dd::cd 1::dM (.one (.own ⟨4,1,1⟩ 0 (jR b i).length)::ai i::yH (b8 []))),[(1,⟨2,[aW 1 [db false,di b.view,di b.bB.view,di b.bB.slot,di b.time, .aC b.reqs.length (dw b.reqs)],none,none,none,none,none,none]⟩),(14,⟨2,[]⟩),(17,⟨2,[]⟩),(4,⟨2,[none,b9 1 1 (ag (jR b i))]⟩),(23,⟨2,[]⟩),(28,⟨2,[]⟩),(32,⟨2,[]⟩),(39,⟨2,[]⟩),(6,⟨2,[]⟩),(54,⟨2,[]⟩),(59,⟨2,[]⟩)]⟩)
   (λ i=>i≤b.reqs.length) (λ _=>()) (λ i=>b.reqs.length - i) 0
   (Gh.canon [1,4] [6,54,59] [] (by simp only[Dn,aG,bG,Dx b (Nat.le_refl 4),dT,lB,lH,lA,lE,lF,lG,iO,kV,jj,jo,fV,l5,D.v.injEq,l9];try(repeat'(first|rfl|omega|with_reducible apply And.intro))) rfl (by rw[Dn];simp only[b9,ag,fU]at hh⊢;rw[hh];rfl)) (bc _) ?_
  intro i hi0 hF K hK;refine zw ?_;refine aq (λ hlt=> ?_) (λ hge=> ?_)
  .have hi:i<b.reqs.length:=by simpa using hlt
   have hat:=qg hi;have hw:=bz hi (by omega);have hm:=h2 _ (cb hi);have hpt:=Jj b.reqs[i] hm;have hl0:=G7 h2 i;have hl1:=Dq hm;have hle:((jR b i).length+(gj b.reqs[i]).length≤2^47)=True:=b5 (by omega);have hsl:(jR b (i+1)).length=(jR b i).length+(gj b.reqs[i]).length:=by rw[C2 hi,aG]
   refine zL (I hat (I @cQ (I hle (I @dD (I @bE.{0,0} bw))))) (hpt) ?_;exact hK _ (i+1) (Gh.canon [1,4] [] [] (zk (I hw hsl)) rfl (by rw[C2 hi];simp only[b9,ag,fU];rfl)) hi rfl (by omega)
  .have hi:i=b.reqs.length:=by
    have:¬(i:Int)<b.reqs.length:=by simpa using hge
    omega
   subst hi;exact bA trivial
 .rw[dB,aj hf];rw[show b.aC=[db true,di b.view,di b.bB.view,di b.bB.slot,di b.time, .aC b.reqs.length (dw b.reqs)] from by rw[←hf]]at hmy;exact zW hf (hmy)
theorem LN {r:eh} (h:fR r=true):∀x∈gR r,aO x:=by
 obtain⟨f1,f2,f3,f4,f5⟩:=vt h;have hg:=wW h;intro x hx;simp only[gR,dN,cF,iA,iR]at hx;rcases hx with rfl|hx|(rfl|rfl)|hx
 .unfold aO;omega
 .exact mr _ x hx
 .unfold aO;omega
 .unfold aO;omega
 .obtain⟨g,hgm,hx⟩:=ye.1 hx;have:=hg g hgm;rcases dN.1 hx with hx|hx
  .exact Hq _ (by omega) x hx
  .exact mr _ x hx
theorem XW {m:bN} (h:eB m=true):∀x∈fE m,aO x:=by
 obtain⟨f1,f2,f3⟩:=vr h;intro x hx;simp only[fE,dN,cF,iA,iR]at hx;rcases hx with rfl|hx|hx
 .unfold aO;omega
 .exact mr _ x hx
 .exact LN f3 x hx
theorem Zb {s:St} (h:cZ s):∀x∈kn s,aO x:=by
 have h1:=h.sl;have h2:=h.ll;have h3:=xD h;intro x hx;simp only[kn,jQ,f7,gp,qy,lP,dN,cF,iA,iR]at hx;rcases hx with(((((hx|hx|hx|rfl)|hx)|rfl)|hx)|rfl)|hx
 .exact mr _ x hx
 .exact mr _ x hx
 .exact mr _ x hx
 .unfold aO;omega
 .obtain⟨g,hg,hx⟩:=ye.1 hx;obtain⟨f1,_,_⟩:=qZ.1 (h.jS g hg).1;simp only[fq,bM,dX]at f1;simp only[rH,cF,dN]at hx;rcases hx with rfl|hx|hx
  .unfold aO;omega
  .exact mr _ x hx
  .exact mr _ x hx
 .unfold aO;omega
 .obtain⟨k,hk,hx⟩:=ye.1 hx;obtain⟨q0,q1,q2,q3,q4,q5⟩:=Cb h hk;simp only[sW,ue,dN,cF,iA,iR]at hx;rcases hx with(hx|rfl|hx|rfl)|hx
  .exact Hq _ (by omega) x hx
  .unfold aO;omega
  .exact mr _ x hx
  .unfold aO;omega
  .have:=q5 x hx;unfold aO;omega
 .unfold aO;omega
 .obtain⟨m,hm,hx⟩:=ye.1 hx;exact XW (h.lx m hm) x hx
section
variable {bs:List Int} {m:Nat} (hm:m≤bs.length) (hb:bu bs)
include hm hb
end
theorem sI {l:List Int}:∀x∈bp l,aO x:=λ x hx=>by obtain⟨v,_,hv⟩:=ye.1 hx;exact mr v x hv
theorem gL {a b:List Int} (ha:∀x∈a,aO x) (hb:∀x∈b,aO x):∀x∈a++b,aO x:=λ x hx=>(dN.1 hx).elim (ha x) (hb x)
theorem lW {n:Int} (h:0≤n/\n≤255):∀x∈[n],aO x:=λ x hx=>by simp only[cF,iA,iR]at hx;rw[hx];unfold aO;omega
theorem Oc {α:Type} {f:α->List Int} {l:List α} (h:∀y∈l,∀x∈f y,aO x):∀x∈l.flatMap f,aO x:=λ x hx=>by obtain⟨y,hy,hx⟩:=ye.1 hx;exact h y hy x hx
theorem NV {r:aX} (h:aX.may r=true):∀x∈gj r,aO x:=by obtain⟨f1,f2,f3,_⟩:=uv h;have g:=sk f3;exact gL (lW (by omega)) (gL (mr _) (gL (lW (by omega)) (gL (mr _) (Hq _ (by omega)))))
theorem HC {b:Batch} (h:Batch.may b=true):∀x∈dB b,aO x:=by
 obtain⟨h3,hr⟩:=vC h;unfold dB;split
 .exact lW (by decide)
 .exact gL (gL (gL (lW (by decide)) sI) (lW (by omega))) (Oc λ r hr2=>NV (hr r (jm hr2)))
theorem aaV {p:cr} (m:wK p):∀x∈i9 p,aO x:=by have:=m.src;have:=m.len;exact gL (gL (lW (by omega)) (gL sI (lW (by omega)))) (Oc λ v hv=>gL sI (HC (m.aM v (jm hv)).2.2.2.2))
theorem acf {s:Sn} (h:cZ s.st):∀x∈ie s,aO x:=gL (mr _) (gL (mr _) (gL (mr _) (Zb h)))
theorem ac0 {p:cf} (h:gm p=true):∀x∈lr p,aO x:=by
 have ho:=(z7 h).1;obtain⟨kind,aA,slot,done,ba,aV,aJ,prom,snap⟩:=p;rcases kinds kind with rfl|rfl|rfl|rfl|rfl|rfl|rfl|rfl|rfl|⟨k1,k2,k3,k4,k5,k6,k7,k8,k9⟩
 .exact gL (lW (n:=1) (by decide)) (show∀x∈gj ba,aO x from NV ho)
 .refine gL (lW (n:=2) (by decide)) (show∀x∈fE aV,aO x from ?_);have ho:eB aV=true:=ho;have f:=vr ho;exact gL (lW (by omega)) (gL (mr _) (LN f.2.2))
 .exact gL (lW (n:=3) (by decide)) (show∀x∈bp [aA],aO x from sI)
 .have ho:(bm aA 0&&cr.may prom)=true:=ho;rw[bM]at ho;exact gL (lW (n:=4) (by decide)) (show∀x∈bp [aA]++i9 prom,aO x from gL sI (aaV (AG ho.2)))
 .have ho:(bm aA 0&&bm slot 1&&Batch.may aJ)=true:=ho;rw[bM]at ho;exact gL (lW (n:=5) (by decide)) (show∀x∈bp [aA,slot]++dB aJ,aO x from gL sI (HC ho.2))
 .have ho:(bm aA 0&&bm slot 1&&Batch.may aJ)=true:=ho;rw[bM]at ho;exact gL (lW (n:=6) (by decide)) (show∀x∈bp [aA,slot]++dB aJ,aO x from gL sI (HC ho.2))
 .exact gL (lW (n:=7) (by decide)) (show∀x∈bp [aA,done],aO x from sI)
 .exact gL (lW (n:=8) (by decide)) (show∀x∈bp [done],aO x from sI)
 .exact gL (lW (n:=9) (by decide)) (show∀x∈ie snap,aO x from acf (BQ ho).2.2.2)
 .simp only[kU,kt]at k1 k2 k3 k4 k5 k6 k7 k8 k9;unfold qQ at ho;simp only[k1,k2,k3,k4,k5,k6,k7,k8,k9,cE]at ho;cases ho
theorem aaU {p:cf} (h:gm p=true):1≤(lr p).length/\(lr p).length≤1401:=by have:=CT h;rw[lr,aG,bG];omega
theorem jW (a:aX):fO a a=true:=by simp[fO]
theorem jv (a:Batch):gX a a=true:=by simp[gX,uw jW]
theorem LU (a:cf):fP a a=true:=by
 have hm:dZ a.aV a.aV=true:=by simp[dZ,F4]
 have hv:∀v,qK v v=true:=λ v=>by simp[qK,jv]
 have hp:iV a.prom a.prom=true:=by simp[iV,uw hv]
 simp[fP,jW,hm,jv,hp,ki]
def Rq (r:aX):Bool:=decide ((r.name.size:Int)>300)
def R5 (b:Batch):Bool:=if decide ((b.reqs.length:Int)>20)=true then true else b.reqs.any Rq
def ac4 (p:cr):Bool:=if decide ((p.aM.length:Int)>30)=true then true else p.aM.any λ v=>R5 v.batch
def adI (p:cf):Bool:=ab7 p.snap.st||R5 p.aJ||ac4 p.prom||decide ((p.aV.bd.held.length:Int)>20)||Rq p.ba
def kr (p:cf):cf:=if p.kind=1 then {aR p.kind with ba:=p.ba}else if p.kind=2 then {aR p.kind with aV:=p.aV}else if p.kind=3 then {aR p.kind with aA:=p.aA}else if p.kind=4 then {aR p.kind with aA:=p.aA,prom:=p.prom}else if p.kind=5 then {aR p.kind with aA:=p.aA,slot:=p.slot,aJ:=p.aJ}else if p.kind=6 then {aR p.kind with aA:=p.aA,slot:=p.slot,aJ:=p.aJ}else if p.kind=7 then {aR p.kind with aA:=p.aA,done:=p.done}else if p.kind=8 then {aR p.kind with done:=p.done}else if p.kind=9 then {aR p.kind with snap:=p.snap}else aR p.kind
theorem ZV {p:cf} (h:p.ok):(kr p).ok:=by
 have h0:=oy h.k;unfold kr;by_cases h1:p.kind=1
 .rw[aj h1];exact {h0 with ba:=h.ba}
 rw[aa h1];by_cases h2:p.kind=2
 .rw[aj h2];exact {h0 with aV:=h.aV}
 rw[aa h2];by_cases h3:p.kind=3
 .rw[aj h3];exact {h0 with b:=h.b}
 rw[aa h3];by_cases h4:p.kind=4
 .rw[aj h4];exact {h0 with b:=h.b,prom:=h.prom,pl:=h.pl,vl:=h.vl}
 rw[aa h4];by_cases h5:p.kind=5
 .rw[aj h5];exact {h0 with b:=h.b,s:=h.s,aJ:=h.aJ,bl:=h.bl}
 rw[aa h5];by_cases h6:p.kind=6
 .rw[aj h6];exact {h0 with b:=h.b,s:=h.s,aJ:=h.aJ,bl:=h.bl}
 rw[aa h6];by_cases h7:p.kind=7
 .rw[aj h7];exact {h0 with b:=h.b,d:=h.d}
 rw[aa h7];by_cases h8:p.kind=8
 .rw[aj h8];exact {h0 with d:=h.d}
 rw[aa h8];by_cases h9:p.kind=9
 .rw[aj h9];exact {h0 with snap:=h.snap}
 rw[aa h9];exact h0
theorem aa5 (p:cf):ah prog 41 [.f (.agg (p.enc.map C.d))] (λ r o=>r=[.agg ((kr p).enc.map RO.d)]/\o=[]):=by
 refine ah.nil ?_;refine zh func41 results41 ntmps41 call41 ?_;simp only[f41,Option.getD];obtain⟨kind,aA,slot,done,ba,aV,aJ,prom,snap⟩:=p;rcases kinds kind with rfl|rfl|rfl|rfl|rfl|rfl|rfl|rfl|rfl|⟨k1,k2,k3,k4,k5,k6,k7,k8,k9⟩
 .repeat'(first|exact zC|refine fX ?_|(apply aq<;>intro hb)|(apply I;exact zI)|(apply I<;>intro hg))
  simp[aT,bf,aY,ak,cm,kr, -List.length_flatMap,cI,cQ,dg,ca,bK,cN]
 .repeat'(first|exact zC|refine fX ?_|(apply aq<;>intro hb)|(apply I;exact zI)|(apply I<;>intro hg))
  simp[aT,bf,aY,ak,cm,kr, -List.length_flatMap,cI,cQ,dg,ca,bK,cN]
 .repeat'(first|exact zC|refine fX ?_|(apply aq<;>intro hb)|(apply I;exact zI)|(apply I<;>intro hg))
  simp[aT,bf,aY,ak,cm,kr, -List.length_flatMap,cI,cQ,dg,ca,bK,cN]
 .repeat'(first|exact zC|refine fX ?_|(apply aq<;>intro hb)|(apply I;exact zI)|(apply I<;>intro hg))
  simp[aT,bf,aY,ak,cm,kr, -List.length_flatMap,cI,cQ,dg,ca,bK,cN]
 .repeat'(first|exact zC|refine fX ?_|(apply aq<;>intro hb)|(apply I;exact zI)|(apply I<;>intro hg))
  simp[aT,bf,aY,ak,cm,kr, -List.length_flatMap,cI,cQ,dg,ca,bK,cN]
 .repeat'(first|exact zC|refine fX ?_|(apply aq<;>intro hb)|(apply I;exact zI)|(apply I<;>intro hg))
  simp[aT,bf,aY,ak,cm,kr, -List.length_flatMap,cI,cQ,dg,ca,bK,cN]
 .repeat'(first|exact zC|refine fX ?_|(apply aq<;>intro hb)|(apply I;exact zI)|(apply I<;>intro hg))
  simp[aT,bf,aY,ak,cm,kr, -List.length_flatMap,cI,cQ,dg,ca,bK,cN]
 .repeat'(first|exact zC|refine fX ?_|(apply aq<;>intro hb)|(apply I;exact zI)|(apply I<;>intro hg))
  simp[aT,bf,aY,ak,cm,kr, -List.length_flatMap,cI,cQ,dg,ca,bK,cN]
 .repeat'(first|exact zC|refine fX ?_|(apply aq<;>intro hb)|(apply I;exact zI)|(apply I<;>intro hg))
  simp[aT,bf,aY,ak,cm,kr, -List.length_flatMap,cI,cQ,dg,ca,bK,cN]
 .have hz:kr ⟨kind,aA,slot,done,ba,aV,aJ,prom,snap⟩=aR kind:=by simp only[kU,kt]at k1 k2 k3 k4 k5 k6 k7 k8 k9;unfold kr;simp only[k1,k2,k3,k4,k5,k6,k7,k8,k9,cE]
  rw[hz]
  repeat'(first|exact zC|refine zq (I k1 (I k2 (I k3 (I k4 (I k5 (I k6 (I k7 (I k8 k9)))))))) ?_|(apply aq<;>intro hb)|(apply I;exact zI)|(apply I<;>intro hg))
  simp[aT,bf,aY,ak,cm,kr, -List.length_flatMap,cI,cQ,dg,ca,bK,cN]
theorem Xm {α:Type} {eq:α->α->Bool} (l:List α):eF eq l []=((l.length:Int)==0):=by
 cases l with
 |nil=>rfl
 |cons x l=>simp[eF];omega
theorem sn (p:cf):iI p=(p.aA==0&&p.slot==0&&p.done==0&&fO p.ba gl&&dZ p.aV gT&&gX p.aJ dP&&iV p.prom jG&&jr p.snap iY):=by unfold iI dZ iV jr;simp only[Xm,eJ];rfl
def Ej (p:cf):Bool:=if(!fP p (kr p)|| !bm p.aA 0|| !bm p.done 0)=true then false else
 if p.kind=1 then aX.may p.ba else if p.kind=2 then eB p.aV else if p.kind=4 then cr.may p.prom else if p.kind=5 then bm p.slot 1&&Batch.may p.aJ else if p.kind=6 then bm p.slot 1&&Batch.may p.aJ else if p.kind=9 then gw p.snap else if p.kind=3 then true else if p.kind=7 then true else if p.kind=8 then true else false
theorem qS {v:Int} (h:(v==0)=true):bm v 0=true:=by rw[iz.1 h];rfl
theorem sV {A b d M O:Bool} (h:A=true->O=(M&&b&&d)):(if(!A|| !b|| !d)=true then false else M)=(O&&A):=by
 cases A
 .simp
 .rw[h rfl];cases b<;>cases d<;>cases M<;>rfl
theorem kL (a:bN):dZ a a=true:=by simp[dZ,F4]
theorem kJ (a:cr):iV a a=true:=by simp[iV,uw (λ v=>show qK v v=true by simp[qK,jv])]
theorem LV (p:cf):Ej p=gm p:=by
 obtain⟨kind,aA,slot,done,ba,aV,aJ,prom,snap⟩:=p;rcases kinds kind with rfl|rfl|rfl|rfl|rfl|rfl|rfl|rfl|rfl|⟨k1,k2,k3,k4,k5,k6,k7,k8,k9⟩
 .have hA:fP ⟨1,aA,slot,done,ba,aV,aJ,prom,snap⟩ {aR 1 with ba:=ba}=((aA==0)&&(slot==0)&&(done==0)&&(dZ aV gT)&&(gX aJ dP)&&(iV prom jG)&&(jr snap iY)):=by simp[fP,jW,kL,jv,kJ,ki,eJ]
  have hE:iI ⟨1,aA,slot,done,gl,aV,aJ,prom,snap⟩=((aA==0)&&(slot==0)&&(done==0)&&(dZ aV gT)&&(gX aJ dP)&&(iV prom jG)&&(jr snap iY)):=by rw[sn];simp[jW,kL,jv,kJ,ki,eJ]
  show(if(!fP ⟨1,aA,slot,done,ba,aV,aJ,prom,snap⟩ {aR 1 with ba:=ba}|| !bm aA 0|| !bm done 0)=true then false else aX.may ba)=(aX.may ba&&iI ⟨1,aA,slot,done,gl,aV,aJ,prom,snap⟩);rw[hA,hE];refine sV λ h=> ?_
  simp only[bM]at h;have i1:bm aA 0=true:=qS (by simp_all);have i2:bm done 0=true:=qS (by simp_all);clear h hA hE;rw[i1];rw[i2];simp[rE,sZ,eJ]
 .have hA:fP ⟨2,aA,slot,done,ba,aV,aJ,prom,snap⟩ {aR 2 with aV:=aV}=((aA==0)&&(slot==0)&&(done==0)&&(fO ba gl)&&(gX aJ dP)&&(iV prom jG)&&(jr snap iY)):=by simp[fP,jW,kL,jv,kJ,ki,eJ]
  have hE:iI ⟨2,aA,slot,done,ba,gT,aJ,prom,snap⟩=((aA==0)&&(slot==0)&&(done==0)&&(fO ba gl)&&(gX aJ dP)&&(iV prom jG)&&(jr snap iY)):=by rw[sn];simp[jW,kL,jv,kJ,ki,eJ]
  show(if(!fP ⟨2,aA,slot,done,ba,aV,aJ,prom,snap⟩ {aR 2 with aV:=aV}|| !bm aA 0|| !bm done 0)=true then false else eB aV)=(eB aV&&iI ⟨2,aA,slot,done,ba,gT,aJ,prom,snap⟩);rw[hA,hE];refine sV λ h=> ?_
  simp only[bM]at h;have i1:bm aA 0=true:=qS (by simp_all);have i2:bm done 0=true:=qS (by simp_all);clear h hA hE;rw[i1];rw[i2];simp[rE,sZ,eJ]
 .have hA:fP ⟨3,aA,slot,done,ba,aV,aJ,prom,snap⟩ {aR 3 with aA:=aA}=((slot==0)&&(done==0)&&(fO ba gl)&&(dZ aV gT)&&(gX aJ dP)&&(iV prom jG)&&(jr snap iY)):=by simp[fP,jW,kL,jv,kJ,ki,eJ]
  have hE:iI ⟨3,0,slot,done,ba,aV,aJ,prom,snap⟩=((slot==0)&&(done==0)&&(fO ba gl)&&(dZ aV gT)&&(gX aJ dP)&&(iV prom jG)&&(jr snap iY)):=by rw[sn];simp[jW,kL,jv,kJ,ki,eJ]
  show(if(!fP ⟨3,aA,slot,done,ba,aV,aJ,prom,snap⟩ {aR 3 with aA:=aA}|| !bm aA 0|| !bm done 0)=true then false else true)=(bm aA 0&&iI ⟨3,0,slot,done,ba,aV,aJ,prom,snap⟩);rw[hA,hE];refine sV λ h=> ?_
  simp only[bM]at h;have i1:bm aA 0=bm aA 0:=rfl;have i2:bm done 0=true:=qS (by simp_all);clear h hA hE;rw[i2];simp[rE,sZ,eJ]
 .have hA:fP ⟨4,aA,slot,done,ba,aV,aJ,prom,snap⟩ {aR 4 with aA:=aA,prom:=prom}=((slot==0)&&(done==0)&&(fO ba gl)&&(dZ aV gT)&&(gX aJ dP)&&(jr snap iY)):=by simp[fP,jW,kL,jv,kJ,ki,eJ]
  have hE:iI ⟨4,0,slot,done,ba,aV,aJ,jG,snap⟩=((slot==0)&&(done==0)&&(fO ba gl)&&(dZ aV gT)&&(gX aJ dP)&&(jr snap iY)):=by rw[sn];simp[jW,kL,jv,kJ,ki,eJ]
  show(if(!fP ⟨4,aA,slot,done,ba,aV,aJ,prom,snap⟩ {aR 4 with aA:=aA,prom:=prom}|| !bm aA 0|| !bm done 0)=true then false else cr.may prom)=((bm aA 0&&cr.may prom)&&iI ⟨4,0,slot,done,ba,aV,aJ,jG,snap⟩);rw[hA,hE];refine sV λ h=> ?_
  simp only[bM]at h;have i1:bm aA 0=bm aA 0:=rfl;have i2:bm done 0=true:=qS (by simp_all);clear h hA hE;rw[i2];simp[rE,sZ,eJ]
 .have hA:fP ⟨5,aA,slot,done,ba,aV,aJ,prom,snap⟩ {aR 5 with aA:=aA,slot:=slot,aJ:=aJ}=((done==0)&&(fO ba gl)&&(dZ aV gT)&&(iV prom jG)&&(jr snap iY)):=by simp[fP,jW,kL,jv,kJ,ki,eJ]
  have hE:iI ⟨5,0,0,done,ba,aV,dP,prom,snap⟩=((done==0)&&(fO ba gl)&&(dZ aV gT)&&(iV prom jG)&&(jr snap iY)):=by rw[sn];simp[jW,kL,jv,kJ,ki,eJ]
  show(if(!fP ⟨5,aA,slot,done,ba,aV,aJ,prom,snap⟩ {aR 5 with aA:=aA,slot:=slot,aJ:=aJ}|| !bm aA 0|| !bm done 0)=true then false else(bm slot 1&&Batch.may aJ))=((bm aA 0&&bm slot 1&&Batch.may aJ)&&iI ⟨5,0,0,done,ba,aV,dP,prom,snap⟩);rw[hA,hE];refine sV λ h=> ?_
  simp only[bM]at h;have i1:bm aA 0=bm aA 0:=rfl;have i2:bm done 0=true:=qS (by simp_all);clear h hA hE;rw[i2];simp[rE,sZ,eJ]
 .have hA:fP ⟨6,aA,slot,done,ba,aV,aJ,prom,snap⟩ {aR 6 with aA:=aA,slot:=slot,aJ:=aJ}=((done==0)&&(fO ba gl)&&(dZ aV gT)&&(iV prom jG)&&(jr snap iY)):=by simp[fP,jW,kL,jv,kJ,ki,eJ]
  have hE:iI ⟨6,0,0,done,ba,aV,dP,prom,snap⟩=((done==0)&&(fO ba gl)&&(dZ aV gT)&&(iV prom jG)&&(jr snap iY)):=by rw[sn];simp[jW,kL,jv,kJ,ki,eJ]
  show(if(!fP ⟨6,aA,slot,done,ba,aV,aJ,prom,snap⟩ {aR 6 with aA:=aA,slot:=slot,aJ:=aJ}|| !bm aA 0|| !bm done 0)=true then false else(bm slot 1&&Batch.may aJ))=((bm aA 0&&bm slot 1&&Batch.may aJ)&&iI ⟨6,0,0,done,ba,aV,dP,prom,snap⟩);rw[hA,hE];refine sV λ h=> ?_
  simp only[bM]at h;have i1:bm aA 0=bm aA 0:=rfl;have i2:bm done 0=true:=qS (by simp_all);clear h hA hE;rw[i2];simp[rE,sZ,eJ]
 .have hA:fP ⟨7,aA,slot,done,ba,aV,aJ,prom,snap⟩ {aR 7 with aA:=aA,done:=done}=((slot==0)&&(fO ba gl)&&(dZ aV gT)&&(gX aJ dP)&&(iV prom jG)&&(jr snap iY)):=by simp[fP,jW,kL,jv,kJ,ki,eJ]
  have hE:iI ⟨7,0,slot,0,ba,aV,aJ,prom,snap⟩=((slot==0)&&(fO ba gl)&&(dZ aV gT)&&(gX aJ dP)&&(iV prom jG)&&(jr snap iY)):=by rw[sn];simp[jW,kL,jv,kJ,ki,eJ]
  show(if(!fP ⟨7,aA,slot,done,ba,aV,aJ,prom,snap⟩ {aR 7 with aA:=aA,done:=done}|| !bm aA 0|| !bm done 0)=true then false else true)=((bm aA 0&&bm done 0)&&iI ⟨7,0,slot,0,ba,aV,aJ,prom,snap⟩);rw[hA,hE];refine sV λ h=> ?_
  simp only[bM]at h;have i1:bm aA 0=bm aA 0:=rfl;have i2:bm done 0=bm done 0:=rfl;clear h hA hE;simp[rE,sZ,eJ]
 .have hA:fP ⟨8,aA,slot,done,ba,aV,aJ,prom,snap⟩ {aR 8 with done:=done}=((aA==0)&&(slot==0)&&(fO ba gl)&&(dZ aV gT)&&(gX aJ dP)&&(iV prom jG)&&(jr snap iY)):=by simp[fP,jW,kL,jv,kJ,ki,eJ]
  have hE:iI ⟨8,aA,slot,0,ba,aV,aJ,prom,snap⟩=((aA==0)&&(slot==0)&&(fO ba gl)&&(dZ aV gT)&&(gX aJ dP)&&(iV prom jG)&&(jr snap iY)):=by rw[sn];simp[jW,kL,jv,kJ,ki,eJ]
  show(if(!fP ⟨8,aA,slot,done,ba,aV,aJ,prom,snap⟩ {aR 8 with done:=done}|| !bm aA 0|| !bm done 0)=true then false else true)=(bm done 0&&iI ⟨8,aA,slot,0,ba,aV,aJ,prom,snap⟩);rw[hA,hE];refine sV λ h=> ?_
  simp only[bM]at h;have i1:bm aA 0=true:=qS (by simp_all);have i2:bm done 0=bm done 0:=rfl;clear h hA hE;rw[i1];simp[rE,sZ,eJ]
 .have hA:fP ⟨9,aA,slot,done,ba,aV,aJ,prom,snap⟩ {aR 9 with snap:=snap}=((aA==0)&&(slot==0)&&(done==0)&&(fO ba gl)&&(dZ aV gT)&&(gX aJ dP)&&(iV prom jG)):=by simp[fP,jW,kL,jv,kJ,ki,eJ]
  have hE:iI ⟨9,aA,slot,done,ba,aV,aJ,prom,iY⟩=((aA==0)&&(slot==0)&&(done==0)&&(fO ba gl)&&(dZ aV gT)&&(gX aJ dP)&&(iV prom jG)):=by rw[sn];simp[jW,kL,jv,kJ,ki,eJ]
  show(if(!fP ⟨9,aA,slot,done,ba,aV,aJ,prom,snap⟩ {aR 9 with snap:=snap}|| !bm aA 0|| !bm done 0)=true then false else gw snap)=(gw snap&&iI ⟨9,aA,slot,done,ba,aV,aJ,prom,iY⟩);rw[hA,hE];refine sV λ h=> ?_
  simp only[bM]at h;have i1:bm aA 0=true:=qS (by simp_all);have i2:bm done 0=true:=qS (by simp_all);clear h hA hE;rw[i1];rw[i2];simp[rE,sZ,eJ]
 .have e1:gm ⟨kind,aA,slot,done,ba,aV,aJ,prom,snap⟩=false:=by simp only[kU,kt]at k1 k2 k3 k4 k5 k6 k7 k8 k9;unfold gm qQ;simp only[k1,k2,k3,k4,k5,k6,k7,k8,k9,cE,gV]
  rw[e1];simp only[kU,kt]at k1 k2 k3 k4 k5 k6 k7 k8 k9;unfold Ej;simp only[k1,k2,k3,k4,k5,k6,k7,k8,k9,cE,ite_self]
theorem Ge (v a:Int):ah prog 42 [.f (ai v), .f (ai a)] (λ r o=>r=[rb (bm v a)]/\o=[]):=by refine zh func42 results42 ntmps42 call42 ?_;simp only[f42,Option.getD];unfold bm;exact bA trivial
theorem Lh (p:cf) (h:p.ok):ah prog 14 [.f (.agg (p.enc.map C.d))] (λ r o=>r=[rb (Ej p)]/\o=[]):=by
 refine zh func14 results14 ntmps14 call14 ?_;simp only[f14,Option.getD];have h1:=aa5 p;have h2:=Dw p (kr p) h (ZV h);have w1:=Ge p.aA 0;have w2:=Ge p.done 0;have w3:=Ge p.slot 1;unfold Ej;cases hc:((!fP p (kr p)|| !bm p.aA 0)|| !bm p.done 0)
 .rw[aa (by simp)];simp only[iP,pq]at hc;obtain⟨⟨c1,c2⟩,c3⟩:=hc;rw[c1]at h2;rw[c2]at w1;rw[c3]at w2;clear c1 c2 c3;generalize kr p=q at*;obtain⟨kind,aA,slot,done,ba,aV,aJ,prom,snap⟩:=p;obtain⟨hk,hb,hs,hd,hreq,hans,hbat,hbl,hprom,hpl,hvl,hsn⟩:=h;simp only at hk hb hs hd hreq hans hbat hbl hprom hpl hvl hsn w1 w2 w3;rcases kinds kind with rfl|rfl|rfl|rfl|rfl|rfl|rfl|rfl|rfl|⟨k1,k2,k3,k4,k5,k6,k7,k8,k9⟩
  .have hm:=xi ba hreq;exact zW trivial (I (h1) (I (h2) (I (w1) (I (w2) (hm)))))
  .have hm:=yT aV hans;exact zW trivial (I (h1) (I (h2) (I (w1) (I (w2) (hm)))))
  .exact zW trivial (I (h1) (I (h2) (I (w1) (w2))))
  .have hm:=VN prom hprom;exact zW trivial (I (h1) (I (h2) (I (w1) (I (w2) (hm)))))
  .have hm:=wY aJ hbat;exact zW trivial (I (h1) (I (h2) (I (w1) (I (w2) (I (w3) (hm))))))
  .have hm:=wY aJ hbat;exact zW trivial (I (h1) (I (h2) (I (w1) (I (w2) (I (w3) (hm))))))
  .exact zW trivial (I (h1) (I (h2) (I (w1) (w2))))
  .exact zW trivial (I (h1) (I (h2) (I (w1) (w2))))
  .have hm:=Ff snap hsn;exact zW trivial (I (h1) (I (h2) (I (w1) (I (w2) (hm)))))
  .have hz:(if kind=1 then aX.may ba else if kind=2 then eB aV else if kind=4 then cr.may prom else if kind=5 then bm slot 1&&Batch.may aJ else if kind=6 then bm slot 1&&Batch.may aJ else if kind=9 then gw snap else if kind=3 then true else if kind=7 then true else if kind=8 then true else false)=false:=by simp only[kU,kt]at k1 k2 k3 k4 k5 k6 k7 k8 k9;simp only[k1,k2,k3,k4,k5,k6,k7,k8,k9,cE]
   rw[hz];exact zW (I k1 (I k2 (I k3 (I k4 (I k5 (I k6 (I k7 (I k8 k9)))))))) (I (h1) (I (h2) (I (w1) (w2))))
 .rw[aj rfl];exact zW hc (I (h1) (I (h2) (I (w1) (w2))))
theorem xP {bs:List Int} {p:Int} (h:bu bs) (hp:i64 p) {y:Int×Int} (hy:bI bs p= .ok y):ah prog 97 [.f (al bs.length (ag bs)), .f (ai p)] (λ r o=>r=[ri y.1,ri y.2,ri 0]/\o=[]):=by
 obtain⟨h0,rfl⟩:=iJ hy;have:=sB bs p h hp
 rwa[h0]at this
theorem AF {bs:List Int} {p:Int} (h:bu bs) (hp:i64 p) {e:Int} (hy:bI bs p= .error e):ah prog 97 [.f (al bs.length (ag bs)), .f (ai p)] (λ r o=>r=[ri (bQ bs p).1,ri (bQ bs p).2.1,ri e]/\o=[])/\(e !=0)=true:=by obtain⟨h0,h2⟩:=iH hy;have:=sB bs p h hp;rw[h0]at this;exact⟨this,by simpa using h2⟩
theorem Ea {bs:List Int} {p:Int} (h:bu bs) (hp:i64 p) {y:Int×Int} (hy:aD bs p= .ok y):ah prog 147 [.f (al bs.length (ag bs)), .f (ai p)] (λ r o=>r=[ri y.1,ri y.2,ri 0]/\o=[]):=by
 obtain⟨h0,rfl⟩:=iJ hy;have:=vJ bs p h hp
 rwa[h0]at this
theorem Et {bs:List Int} {p:Int} (h:bu bs) (hp:i64 p) {e:Int} (hy:aD bs p= .error e):ah prog 147 [.f (al bs.length (ag bs)), .f (ai p)] (λ r o=>r=[ri (ch bs p).1,ri (ch bs p).2.1,ri e]/\o=[])/\(e !=0)=true:=by obtain⟨h0,h2⟩:=iH hy;have:=vJ bs p h hp;rw[h0]at this;exact⟨this,by simpa using h2⟩
theorem ab9 {bs:List Int} {p:Int} (h:bu bs) (hp:i64 p) {y:ByteArray×Int} (hy:jl bs p= .ok y):ah prog 182 [.f (al bs.length (ag bs)), .f (ai p), .f (ai 12)] (λ r o=>r=[.one (.d (sD y.1)),ri y.2,ri 0]/\o=[]):=by
 obtain⟨h0,rfl⟩:=iJ hy;have:=CU bs p h hp
 rwa[h0]at this
theorem acO {bs:List Int} {p:Int} (h:bu bs) (hp:i64 p) {e:Int} (hy:jl bs p= .error e):ah prog 182 [.f (al bs.length (ag bs)), .f (ai p), .f (ai 12)] (λ r o=>r=[.one (.d (sD (cP bs p 12).1)),ri (cP bs p 12).2.1,ri e]/\o=[])/\(e !=0)=true:=by obtain⟨h0,h2⟩:=iH hy;have:=CU bs p h hp;rw[h0]at this;exact⟨this,by simpa using h2⟩
theorem Wu (bs:List Int) (p:Int) (h:bu bs) (hp:i64 p):ah prog 148 [.f (al bs.length (ag bs)), .f (ai p)] (λ r o=>r=[R6 (cy yK (kD bs p)).1,ri (cy yK (kD bs p)).2.1,ri (cy yK (kD bs p)).2.2]/\o=[]):=by
 refine zh func148 results148 ntmps148 call148 ?_;simp only[f148,Option.getD];unfold kD;cases e1:bI bs p with
 |error e=>
  obtain⟨h1,hq⟩:=AF h hp e1;simp only[cy];exact zW hq (h1)
 |ok k=>
 have h1:=xP h hp e1;have p1:=jT h e1;simp only;cases e2:aD bs k.2 with
 |error e=>
  obtain⟨h2,hq⟩:=Et h p1 e2;simp only[cy];exact zW hq (I (h1) (h2))
 |ok n=>
 have h2:=Ea h p1 e2;have p2:=dU h e2;simp only;cases e3:jl bs n.2 with
 |error e=>
  obtain⟨h3,hq⟩:=acO h p2 e3;simp only[cy];exact zW hq (I (h1) (I (h2) (h3)))
 |ok s=>
 have h3:=ab9 h p2 e3;have hs:s.1.size<2^62:=by have:=Fz e3;have:=h.l;omega
 have h4:=Dt k.1 n.1 s.1 hs;simp only;cases hm:jq k.1 n.1 s.1
 .rw[hm]at h4;rw[aa (by simp)];simp only[cy];exact zW trivial (I (h1) (I (h2) (I (h3) (h4))))
 .rw[hm]at h4;rw[aj rfl];simp only[cy];exact zW trivial (I (h1) (I (h2) (I (h3) (h4))))
theorem I3 (bs:List Int) (p:Int) (h:bu bs) (hp:i64 p):ah prog 98 [.f (al bs.length (ag bs)), .f (ai p)] (λ r o=>r=[Oq (cy gl (fy bs p)).1,ri (cy gl (fy bs p)).2.1,ri (cy gl (fy bs p)).2.2]/\o=[]):=by
 refine zh func98 results98 ntmps98 call98 ?_;simp only[f98,Option.getD];unfold fy;cases e1:bI bs p with
 |error e=>
  obtain⟨h1,hq⟩:=AF h hp e1;simp only[cy];refine zL hq (h1) ?_;rfl
 |ok k=>
 have h1:=xP h hp e1;have p1:=jT h e1;simp only;cases e2:aD bs k.2 with
 |error e=>
  obtain⟨h2,hq⟩:=Et h p1 e2;simp only[cy];refine zL hq (I (h1) (h2)) ?_;rfl
 |ok n=>
 have h2:=Ea h p1 e2;have p2:=dU h e2;simp only;have h3:=Wu bs n.2 h p2;cases e3:kD bs n.2 with
 |error e=>
  rw[e3]at h3;have hq:(e !=0)=true:=Gx e3;simp only[cy]at h3⊢;refine zL hq (I (h1) (I (h2) (h3))) ?_;rfl
 |ok c=>
 rw[e3]at h3;obtain⟨p3,hc⟩:=FQ h e3;have f:=sk hc;have hk:=pZ h e1;have hn:=Af h e2;have h4:=xi ⟨k.1,n.1,c.1.1,c.1.2.1,c.1.2.2⟩ (by unfold aX.ok i64;simp only;omega);simp only[cy]at h3⊢;cases hm:aX.may ⟨k.1,n.1,c.1.1,c.1.2.1,c.1.2.2⟩
 .rw[hm]at h4;rw[aa (by simp)];refine zL trivial (I (h1) (I (h2) (I (h3) (h4)))) ?_;rfl
 .rw[hm]at h4;rw[aj rfl];refine zL trivial (I (h1) (I (h2) (I (h3) (h4)))) ?_;rfl
theorem Wf {l:List Int}:(bt l).take l.length=bt l:=dk (by rw[eu];exact Nat.le_refl _)
theorem Yf {l:List Int} {x:Int}:bt (l++[x])=bt l++[iD x]:=by simp
def AW (r:Rr (List Int)):List RF:=match r with
 | .ok y=>[.one (.own 1 y.1.length (bt y.1) false),ri y.2,ri 0]
 | .error e=>[.one (.d (.v cY)),ri 0,ri e]
theorem Z0 (bs:List Int) (p:Int) (h:bu bs) (hp:i64 p):ah prog 183 [.f (al bs.length (ag bs)), .f (ai p), .f (ai 4)] (λ r o=>r=AW (bL (aD bs) 4 p [])/\o=[]):=by
 refine zh func183 results183 ntmps183 call183 ?_;simp only[f183,Option.getD];refine az trivial ?_;refine bq (τ:=Nat×Int×List Int) (λ a=>⟨(al bs.length (ag bs)::ai a.2.1::ai 4::lq (.one (.own ⟨9,1,1⟩ 0 a.2.2.length)::ai a.1::vd [])),[(9,⟨2,[none,b9 1 1 (bt a.2.2)]⟩),(6,⟨2,[]⟩),(31,⟨2,[]⟩),(32,⟨2,[]⟩)]⟩)
  (λ a=>a.1≤4/\i64 a.2.1/\a.2.2.length=a.1) (λ a=>bL (aD bs) (4 - a.1) a.2.1 a.2.2) (λ a=>4 - a.1) (0,p,[])
  ((Gh.nil (i:=9) (s:=9) (sz:=1) rfl).trans (Gh.canon [9] [6,31,32] [] zK rfl rfl)) ⟨bc _,hp,rfl⟩ ?_
 intro⟨i,q,l⟩ ⟨hi0,hq,hl⟩ hF K hK;simp only[i7]at hi0 hq hl hF hK⊢;rw[←hF];refine zw ?_;refine aq (λ hlt=> ?_) (λ hge=> ?_)
 .have hi:i<4:=by simp at hlt;omega
  have hw:IntKind.i64.wrap ((i:Int)+1)=((i+1:Nat):Int):=bz hi (by omega);have hst:4 - i=(4 - (i+1))+1:=by omega
  have hcl:(l.length+1≤2^47)=True:=b5 (by omega);rw[hst,bL]at hF⊢;cases x1:aD bs q with
  |error e=>
   obtain⟨h2,hz⟩:=Et h hq x1;simp only[AW];exact zW hz (h2)
  |ok x=>
  have h2:=Ea h hq x1;have p2:=dU h x1;rw[x1]at hF;simp only at hF⊢;refine zL (I @Wf (I @bE.{0,0} hcl)) (h2) ?_;have hs2:bL (aD bs) (4 - (i+1)) x.2 (l++[x.1])=bL (aD bs) (4 - i) q l:=by rw[hst,bL,x1]
  exact hK _ (i+1,x.2,l++[x.1]) (Gh.canon [9] [] [] (zk (I hw (I @aG.{0} @bG.{0}))) rfl (by simp only[b9,Yf,fU,aG,bG];rfl)) ⟨hi,p2,by simp only[aG,bG];omega⟩ hs2 (by simp only;omega)
 .have hi:i=4:=by
   have:¬(i:Int)<4:=by simpa using hge
   omega
  rw[hi,iq,bL];simp only[AW];exact bA trivial
theorem W1 (bs:List Int) (p:Int) (h:bu bs) (hp:i64 p):ah prog 150 [.f (al bs.length (ag bs)), .f (ai p)] (λ r o=>r=[El (cy dP (dr bs p)).1,ri (cy dP (dr bs p)).2.1,ri (cy dP (dr bs p)).2.2]/\o=[]):=by
 refine ah.nil ?_;refine zh func150 results150 ntmps150 call150 ?_;simp only[f150,Option.getD];unfold dr;cases e1:bI bs p with
 |error e=>
  obtain⟨h1,hq⟩:=AF h hp e1;simp only[cy]
  repeat'(first|exact zC|refine zq hq ?_|refine zx (h1) ?_|(apply aq<;>intro hb)|(apply I;exact zI)|(apply I<;>intro hg))
  simp[aT,bf,aY,ak]
 |ok k=>
 have h1:=xP h hp e1;have p1:=jT h e1;simp only;cases g1:decide (k.1>1)
 .rw[aa (by simpa using g1)];cases g2:(k.1==1)
  .rw[aa (by simpa using g2)];have h2:=Z0 bs k.2 h p1;cases e2:bL (aD bs) 4 k.2 []with
   |error e=>
    rw[e2]at h2;simp only[AW,cy]at h2⊢;have hz:(e !=0)=true:=z0 (λ p e h=>by simpa using(iH h).2) e2
    repeat'(first|exact zC|refine zq (I g1 (I g2 hz)) ?_|refine zx (h1) ?_|refine zx (h2) ?_|(apply aq<;>intro hb)|(apply I;exact zI)|(apply I<;>intro hg))
    simp[aT,bf,aY,ak]
   |ok l=>
   rw[e2]at h2;simp only[AW]at h2⊢;obtain⟨hq,hval0,hval⟩:=xe (ok:=λ v=>0≤v/\v<4611686018427387904) (λ q z hz=>⟨dU h hz,Af h hz⟩) p1 (λ _ hx=>by cases hx) e2;have hl4:l.1.length=4:=by simpa using hval0
   obtain⟨l,q⟩:=l;simp only at hq hval hl4 h2⊢;obtain⟨v0,v1,v2,v3,rfl⟩:=Hi hl4;have q0:=hval v0 (by simp);have q1:=hval v1 (by simp);have q2:=hval v2 (by simp);have q3:=hval v3 (by simp);clear hval;simp only[A7,List.getD_cons_succ];cases e3:ef bs q 3 with
   |error e=>
    rcases zi e3 with hz|⟨z,hz,hgt,rfl⟩
    .obtain⟨h3,hw⟩:=AF h hq hz;simp only[cy]
     repeat'(first|exact zC|refine zq (I g1 (I g2 hw)) ?_|refine zx (h1) ?_|refine zx (h2) ?_|refine zx (h3) ?_|(apply aq<;>intro hb)|(apply I;exact zI)|(apply I<;>intro hg))
     simp[aT,bf,aY,ak]
    .have h3:=xP h hq hz;have hgt:decide (z.1>3)=true:=by simpa using hgt
     simp only[cy]
     repeat'(first|exact zC|refine zq (I g1 (I g2 hgt)) ?_|refine zx (h1) ?_|refine zx (h2) ?_|refine zx (h3) ?_|(apply aq<;>intro hb)|(apply I;exact zI)|(apply I<;>intro hg))
     simp[aT,bf,aY,ak]
   |ok n=>
   obtain⟨hz,hle⟩:=zZ e3;obtain⟨p3,n0,n3⟩:=ui h e3;have h3:=xP h hq hz;have hgt:decide (n.1>3)=false:=by simp;omega
   simp only;have t2:Int.toNat 2=2:=rfl;have t3:Int.toNat 3=3:=rfl;refine zL (I g1 (I g2 (I hgt (I t2 t3)))) (I (h1) (I (h2) (h3))) ?_;refine bq (τ:=Nat×Int×List aX) (λ a=>⟨(al bs.length (ag bs)::ai a.2.1::dM (cd 4::pT (ai n.1::cd 11::ai a.1::nT (b8 (b8 []))))),[(4,⟨2,[aW 1 [db false,di 0,di 0,di 0,di 0, .d (.v cY)],none,none,none,none,none,none]⟩),(40,⟨2,[]⟩),(9,⟨2,[]⟩),(11,⟨2,[aW 1 [db false,di v0,di v1,di v2,di v3, .own ⟨11,6,1⟩ 0 a.2.2.length],none,none,none,none,none,b9 1 5 (dw a.2.2)]⟩),(13,⟨2,[]⟩),(95,⟨2,[]⟩),(96,⟨2,[]⟩)]⟩)
    (λ a=>a.1≤n.1.toNat/\i64 a.2.1/\a.2.2.length=a.1/\∀r∈a.2.2,aX.may r=true) (λ a=>bL (fy bs) (n.1.toNat - a.1) a.2.1 a.2.2) (λ a=>n.1.toNat - a.1) (0,n.2,[])
    ((Gh.mI 11 5 5 rfl).trans (Gh.canon [4,11] [13,95,96] [] zK rfl rfl)) ⟨bc _,p3,rfl,λ _ hx=>by cases hx⟩ ?_
   intro⟨i,q2,acc⟩ ⟨hi0,hq2,ha,hmy⟩ hF K hK;simp only[i7]at hi0 hq2 ha hmy hF hK⊢;rw[←hF];refine zw ?_;refine aq (λ hlt=> ?_) (λ hge=> ?_)
   .have hi:i<n.1.toNat:=by simp at hlt;omega
    have hw:=bz hi (by omega);have hst:n.1.toNat - i=(n.1.toNat - (i+1))+1:=by omega
    have h4:=I3 bs q2 h hq2;cases x1:fy bs q2 with
    |error e=>
     rw[hst,bL,x1];rw[x1]at h4;simp only[cy]at h4⊢;have hz:=Ap x1
     repeat'(first|exact zC|refine zq hz ?_|refine zx (h4) ?_|(apply aq<;>intro hb)|(apply I;exact zI)|(apply I<;>intro hg))
     simp[aT,bf,aY,ak]
    |ok x=>
    rw[x1]at h4;simp only[cy]at h4;have hs2:bL (fy bs) (n.1.toNat - (i+1)) x.2 (acc++[x.1])=bL (fy bs) (n.1.toNat - i) q2 acc:=by rw[hst,bL,x1]
    have hcl:(acc.length+1≤2^47)=True:=b5 (by omega);obtain⟨px,mx⟩:=Ch h x1;refine zL (I @sx (I @cQ hcl)) (h4) ?_;refine hK _ (i+1,x.2,acc++[x.1]) (Gh.canon [4,11] [] [] (zk (I hw (I @aG.{0} @bG.{0}))) rfl (by simp only[aG,bG];rw[Cs];rfl)) ⟨hi,px,by simp only[aG,bG];omega,λ r hr=> ?_⟩ hs2 (by simp only;omega);rcases dN.1 hr with hr|hr
    .exact hmy r hr
    .simp at hr;subst hr;exact mx
   .have hi:i=n.1.toNat:=by simp at hge;omega
    rw[hi,iq,bL];simp only;have hm:=wY ⟨false,v0,⟨v1,v2⟩,v3,acc⟩ ⟨by unfold i64;simp only;omega,by unfold i64;simp only;omega,by unfold i64;simp only;omega,by unfold i64;simp only;omega,by simp only;omega,λ r hr=>(uv (hmy r hr)).2.2.2⟩;clear hK hF;cases hb:Batch.may ⟨false,v0,⟨v1,v2⟩,v3,acc⟩
    .rw[hb]at hm;rw[aa (by simp)];simp only[cy]
     repeat'(first|exact zC|refine zq @sx ?_|refine zx (hm) ?_|(apply aq<;>intro hb)|(apply I;exact zI)|(apply I<;>intro hg))
     simp[aT,bf,aY,ak]
    .rw[hb]at hm;rw[aj rfl];simp only[cy]
     repeat'(first|exact zC|refine zq @sx ?_|refine zx (hm) ?_|(apply aq<;>intro hb)|(apply I;exact zI)|(apply I<;>intro hg))
     simp[aT,bf,aY,ak, -List.length_flatMap,cQ]
  .rw[aj (by simpa using g2)];simp only[cy]
   repeat'(first|exact zC|refine zq (I g1 g2) ?_|refine zx (h1) ?_|(apply aq<;>intro hb)|(apply I;exact zI)|(apply I<;>intro hg))
   simp[aT,bf,aY,ak]
 .rw[aj (by simpa using g1)];simp only[cy]
  repeat'(first|exact zC|refine zq g1 ?_|refine zx (h1) ?_|(apply aq<;>intro hb)|(apply I;exact zI)|(apply I<;>intro hg))
  simp[aT,bf,aY,ak]
end Go.Proofs.YtliimajkpggbhaaGreat
