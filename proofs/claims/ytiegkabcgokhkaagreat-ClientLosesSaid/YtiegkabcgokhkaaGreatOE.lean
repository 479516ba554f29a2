import Derived.Test.YtiegkabcgokhkaaGreatOD
namespace Go.Proofs.YtiegkabcgokhkaaGreat
open Go.Pk
set_option maxRecDepth 100000
set_option linter.unusedSimpArgs false
set_option linter.unusedVariables false
theorem zb3 {l:List Int} {i:Nat} (hi:i<l.length):(bytesE l).drop i=uD (l.getD i 0)::bytesE (l.drop (i+1)):=by
 rw[←List.map_drop,List.drop_eq_getElem_cons hi,List.getD_eq_getElem?_getD,List.getElem?_eq_getElem hi];rfl
theorem zaA {l:List Int}:(bytesE l).length=l.length:=by simp
theorem zj6 {c:Conf} {i:Nat} {n:Int} (e:i=0):confStep c i n={c with replicas:=reps.getD (n % 6).toNat 0}:=by subst e;rfl
theorem zj7 {c:Conf} {i:Nat} {n:Int} (e:i=1):confStep c i n={c with clients:=1+n % 5}:=by subst e;rfl
theorem zj8 {c:Conf} {i:Nat} {n:Int} (e:i=2):confStep c i n={c with base:=1+n % 20}:=by subst e;rfl
theorem zj9 {c:Conf} {i:Nat} {n:Int} (e:i=3):confStep c i n={c with cap:=c.base+n % 60}:=by subst e;rfl
theorem zka {c:Conf} {i:Nat} {n:Int} (e:i=4):confStep c i n={c with beat:=1+n % 6}:=by subst e;rfl
theorem zkb {c:Conf} {i:Nat} {n:Int} (e:i=5):confStep c i n={c with wait:=n % 4}:=by subst e;rfl
theorem zkc {c:Conf} {i:Nat} {n:Int} (e:i=6):confStep c i n={c with sweep:=1+n % 9}:=by subst e;rfl
theorem zkd {c:Conf} {i:Nat} {n:Int} (e:i=7):confStep c i n={c with retry:=1+n % 9}:=by subst e;rfl
theorem zke {c:Conf} {i:Nat} {n:Int} (e:i=8):confStep c i n={c with keep:=1+n % 12}:=by subst e;rfl
theorem zkf {c:Conf} {i:Nat} {n:Int} (e:i=9):confStep c i n={c with lease:=1+n}:=by subst e;rfl
theorem ziN {c:Conf} {i:Nat} {n:Int} (e:i=10):confStep c i n={c with rho:=n % 201}:=by subst e;rfl
theorem zkg {m:Nat} (hm6:m<6):List.drop m [di 3,di 1,di 5,di 3,di 7,di 3]=di (reps.getD m 0)::List.drop (m+1) [di 3,di 1,di 5,di 3,di 7,di 3]:=by
 rcases(show m=0∨m=1∨m=2∨m=3∨m=4∨m=5 by omega)with h|h|h|h|h|h<;>rw[h]<;>rfl
set_option maxHeartbeats 4000000 in
theorem zmT (ns:List Int) (hl:ns.length<2^60) (hn:∀n∈ns,byteI n):CallOK Tryz.prog 11 [.f (al ns.length (bytesE ns))] (fun r o=>r=[.agg ((confP ns).enc.map RO.d)]∧o=[]):=by
 refine zal zat mixed (T:=Ty) (n:=89) Tryz.func11 (c:=Tryz.f11.body.getD .skip) rfl Tryz.results11 Tryz.ntmps11 Tryz.call11 ?_
 simp only[Tryz.f11,Option.getD]
 repeat'(first|(with_reducible first|refine zaa _ _ ?_|refine zad ?_|refine zae ?_)|rw[zaf]|simp only[zY,Int.reduceEq,Int.reduceBEq,Int.reduceBNe,Nat.reduceSub,Nat.reduceEqDiff,Nat.reduceAdd,Nat.reduceMul,Nat.reduceLeDiff,Nat.reduceLT,Nat.reduceBEq,reduceCtorEq]|refine zab ?_|refine zac (fun hb=> ?_) (fun hb=> ?_)|(refine And.intro ?_ ?_;exact zI)|refine And.intro (fun hg=> ?_) (fun hg=> ?_)|exact zC|fail)
 refine zaV (τ:=Nat) (fun i=>⟨[al ns.length (bytesE ns),dd, .one (.ptr ⟨2,0,1⟩ 0), .one (.ptr ⟨3,0,1⟩ 0),ai i,dd,dd,dd,dd,dd,dd,dd,dd,dd,dd,dd,dd,dd,dd,dd,dd,dd,dd,dd,dd,dd,dd,dd,dd,dd,dd,dd,dd,dd,dd,dd,dd,dd,dd,dd,dd,dd,dd,dd,dd,dd,dd,dd,dd,dd,dd,dd,dd,dd,dd,dd,dd,dd,dd,dd,dd,dd,dd,dd,dd,dd,dd,dd,dd,dd,dd,dd,dd,dd,dd,dd,dd,dd,dd,dd,dd,dd,dd,dd,dd,dd,dd,dd,dd],[(2,{next:=2,l:=[some {e:=1,var:=true,fz:=false,sz:=0,cells:=[di 0,di 0,di 0,di 0,di 0,di 0,di 0,di 0,di 0,di 0,di 0]},none,none,none,none,none,none,none,none,none,none,none]}),(3,{next:=2,l:=[some {e:=1,var:=true,fz:=false,sz:=0,cells:=[di (confI ns i).replicas,di (confI ns i).clients,di (confI ns i).lease,di (confI ns i).rho,di (confI ns i).base,di (confI ns i).cap,di (confI ns i).beat,di (confI ns i).wait,di (confI ns i).sweep,di (confI ns i).retry,di (confI ns i).keep]},none,none,none,none,none,none,none,none,none,none,none]}),(28,⟨2,[]⟩)]⟩)
  (fun i=>i≤ns.length∧i≤11) (fun _=>()) (fun i=>ns.length - i) 0
  (Gh.canon [2,3] [28] [] zK rfl rfl) ⟨Nat.zero_le _,Nat.zero_le _⟩ ?_
 intro i ⟨hi0,hi1⟩ hF K hK
 repeat(first|with_reducible refine zaa _ _ ?_|with_reducible refine And.imp_right (zaa _ _) ?_|with_reducible refine And.imp_right (And.imp_right (zaa _ _)) ?_|with_reducible refine And.imp_right (And.imp_right (And.imp_right (zaa _ _))) ?_|rw[zaf]|simp only[zB,Nat.reduceSub,Nat.reduceEqDiff,Nat.reduceAdd,Nat.reduceMul,Nat.reduceLeDiff,Nat.reduceLT,Nat.reduceBEq,reduceCtorEq])
 refine zac (fun hlt=> ?_) (fun hge=> ?_)
 ·have hlt2:i<ns.length∧i<11:=by simp at hlt;omega
  obtain⟨hi,hi2⟩:=hlt2
  have hat:=zb3 hi
  have hw:=za3 hi (by omega)
  have hd:byteI (ns.getD i 0):=by
   rw[List.getD_eq_getElem?_getD,List.getElem?_eq_getElem hi];exact hn _ (List.getElem_mem hi)
  have hd2:=hd
  unfold byteI at hd2
  have hci:=zeo hn i
  obtain⟨_,_,_,_,hcb,_,_,_,_,_,_⟩:=hci
  have hwb:IntKind.i64.wrap (ns.getD i 0)=ns.getD i 0:=wrap64 (by omega) (by omega)
  have tm:∀k,(ns.getD i 0).tmod k=ns.getD i 0 % k:=fun k=>Int.tmod_eq_emod_of_nonneg hd2.1
  have w1:IntKind.i64.wrap (1+ns.getD i 0 % 5)=1+ns.getD i 0 % 5:=wrap64 (by omega) (by omega)
  have w2:IntKind.i64.wrap (1+ns.getD i 0 % 20)=1+ns.getD i 0 % 20:=wrap64 (by omega) (by omega)
  have w3:IntKind.i64.wrap ((confI ns i).base+ns.getD i 0 % 60)=(confI ns i).base+ns.getD i 0 % 60:=wrap64 (by omega) (by omega)
  have w4:IntKind.i64.wrap (1+ns.getD i 0 % 6)=1+ns.getD i 0 % 6:=wrap64 (by omega) (by omega)
  have w6:IntKind.i64.wrap (1+ns.getD i 0 % 9)=1+ns.getD i 0 % 9:=wrap64 (by omega) (by omega)
  have w8:IntKind.i64.wrap (1+ns.getD i 0 % 12)=1+ns.getD i 0 % 12:=wrap64 (by omega) (by omega)
  have w9:IntKind.i64.wrap (1+ns.getD i 0)=1+ns.getD i 0:=wrap64 (by omega) (by omega)
  have qn:∀k:Int,(i:Int)≠k→((i:Int)==k)=false:=fun k h=>by simpa using h
  have qy:∀k:Int,(i:Int)=k→((i:Int)==k)=true:=fun k h=>by simpa using h
  have hcs:confI ns (i+1)=confStep (confI ns i) i (ns.getD i 0):=rfl
  obtain⟨c,hc⟩:∃c,c=confI ns i:=⟨_,rfl⟩
  rw[←hc]at hcs hcb w3⊢
  obtain⟨n,hnn⟩:∃n,n=ns.getD i 0:=⟨_,rfl⟩
  rw[←hnn]at hat hd hd2 hwb tm w1 w2 w3 w4 w6 w8 w9 hcs
  clear hnn hc hn
  rcases(show i=0∨i=1∨i=2∨i=3∨i=4∨i=5∨i=6∨i=7∨i=8∨i=9∨i=10 by omega)with e|e|e|e|e|e|e|e|e|e|e
  ·have hcs:=hcs.trans (zj6 e)
   obtain⟨m,hm⟩:∃m:Nat,m=(n % 6).toNat:=⟨_,rfl⟩
   have hm6:m<6:=by omega
   have hme:n % 6=(m:Int):=by omega
   rw[←hm]at hcs
   clear hm
   repeat'(first|(with_reducible first|refine zaa _ _ ?_|refine zad ?_|refine zae ?_)|rw[zaf]|simp only[hat,hwb,tm,hme,zkg hm6,qy 0 (by omega),zaA,zY,Int.reduceEq,Int.reduceBEq,Int.reduceBNe,Nat.reduceSub,Nat.reduceEqDiff,Nat.reduceAdd,Nat.reduceMul,Nat.reduceLeDiff,Nat.reduceLT,Nat.reduceBEq,reduceCtorEq]|refine zab ?_|refine zac (fun hb=> ?_) (fun hb=> ?_)|(refine And.intro ?_ ?_;exact zJ)|refine And.intro (fun hg=> ?_) (fun hg=> ?_)|exact zC|fail)
   exact hK _ (i+1) (Gh.canon [2,3] [] [] (by simp only[hw,zaq,zaE,zar,zaw,zax,zay,List.set_cons_zero,List.set_cons_succ,and_true,true_and,Int.natCast_zero,Int.cast_ofNat_Int,D.v.injEq,Value.int.injEq];try(repeat'(first|rfl|omega|with_reducible apply And.intro))) rfl (by rw[hcs];rfl)) ⟨by omega,by omega⟩ rfl (by omega)
  ·have hcs:=hcs.trans (zj7 e)
   repeat'(first|(with_reducible first|refine zaa _ _ ?_|refine zad ?_|refine zae ?_)|rw[zaf]|simp only[hat,hwb,tm,w1,qn 0 (by omega),qy 1 (by omega),zaA,zY,Int.reduceEq,Int.reduceBEq,Int.reduceBNe,Nat.reduceSub,Nat.reduceEqDiff,Nat.reduceAdd,Nat.reduceMul,Nat.reduceLeDiff,Nat.reduceLT,Nat.reduceBEq,reduceCtorEq]|refine zab ?_|refine zac (fun hb=> ?_) (fun hb=> ?_)|(refine And.intro ?_ ?_;exact zJ)|refine And.intro (fun hg=> ?_) (fun hg=> ?_)|exact zC|fail)
   exact hK _ (i+1) (Gh.canon [2,3] [] [] (by simp only[hw,zaq,zaE,zar,zaw,zax,zay,List.set_cons_zero,List.set_cons_succ,and_true,true_and,Int.natCast_zero,Int.cast_ofNat_Int,D.v.injEq,Value.int.injEq];try(repeat'(first|rfl|omega|with_reducible apply And.intro))) rfl (by rw[hcs];rfl)) ⟨by omega,by omega⟩ rfl (by omega)
  ·have hcs:=hcs.trans (zj8 e)
   repeat'(first|(with_reducible first|refine zaa _ _ ?_|refine zad ?_|refine zae ?_)|rw[zaf]|simp only[hat,hwb,tm,w2,qn 0 (by omega),qn 1 (by omega),qy 2 (by omega),zaA,zY,Int.reduceEq,Int.reduceBEq,Int.reduceBNe,Nat.reduceSub,Nat.reduceEqDiff,Nat.reduceAdd,Nat.reduceMul,Nat.reduceLeDiff,Nat.reduceLT,Nat.reduceBEq,reduceCtorEq]|refine zab ?_|refine zac (fun hb=> ?_) (fun hb=> ?_)|(refine And.intro ?_ ?_;exact zJ)|refine And.intro (fun hg=> ?_) (fun hg=> ?_)|exact zC|fail)
   exact hK _ (i+1) (Gh.canon [2,3] [] [] (by simp only[hw,zaq,zaE,zar,zaw,zax,zay,List.set_cons_zero,List.set_cons_succ,and_true,true_and,Int.natCast_zero,Int.cast_ofNat_Int,D.v.injEq,Value.int.injEq];try(repeat'(first|rfl|omega|with_reducible apply And.intro))) rfl (by rw[hcs];rfl)) ⟨by omega,by omega⟩ rfl (by omega)
  ·have hcs:=hcs.trans (zj9 e)
   repeat'(first|(with_reducible first|refine zaa _ _ ?_|refine zad ?_|refine zae ?_)|rw[zaf]|simp only[hat,hwb,tm,w3,qn 0 (by omega),qn 1 (by omega),qn 2 (by omega),qy 3 (by omega),zaA,zY,Int.reduceEq,Int.reduceBEq,Int.reduceBNe,Nat.reduceSub,Nat.reduceEqDiff,Nat.reduceAdd,Nat.reduceMul,Nat.reduceLeDiff,Nat.reduceLT,Nat.reduceBEq,reduceCtorEq]|refine zab ?_|refine zac (fun hb=> ?_) (fun hb=> ?_)|(refine And.intro ?_ ?_;exact zJ)|refine And.intro (fun hg=> ?_) (fun hg=> ?_)|exact zC|fail)
   exact hK _ (i+1) (Gh.canon [2,3] [] [] (by simp only[hw,zaq,zaE,zar,zaw,zax,zay,List.set_cons_zero,List.set_cons_succ,and_true,true_and,Int.natCast_zero,Int.cast_ofNat_Int,D.v.injEq,Value.int.injEq];try(repeat'(first|rfl|omega|with_reducible apply And.intro))) rfl (by rw[hcs];rfl)) ⟨by omega,by omega⟩ rfl (by omega)
  ·have hcs:=hcs.trans (zka e)
   repeat'(first|(with_reducible first|refine zaa _ _ ?_|refine zad ?_|refine zae ?_)|rw[zaf]|simp only[hat,hwb,tm,w4,qn 0 (by omega),qn 1 (by omega),qn 2 (by omega),qn 3 (by omega),qy 4 (by omega),zaA,zY,Int.reduceEq,Int.reduceBEq,Int.reduceBNe,Nat.reduceSub,Nat.reduceEqDiff,Nat.reduceAdd,Nat.reduceMul,Nat.reduceLeDiff,Nat.reduceLT,Nat.reduceBEq,reduceCtorEq]|refine zab ?_|refine zac (fun hb=> ?_) (fun hb=> ?_)|(refine And.intro ?_ ?_;exact zJ)|refine And.intro (fun hg=> ?_) (fun hg=> ?_)|exact zC|fail)
   exact hK _ (i+1) (Gh.canon [2,3] [] [] (by simp only[hw,zaq,zaE,zar,zaw,zax,zay,List.set_cons_zero,List.set_cons_succ,and_true,true_and,Int.natCast_zero,Int.cast_ofNat_Int,D.v.injEq,Value.int.injEq];try(repeat'(first|rfl|omega|with_reducible apply And.intro))) rfl (by rw[hcs];rfl)) ⟨by omega,by omega⟩ rfl (by omega)
  ·have hcs:=hcs.trans (zkb e)
   repeat'(first|(with_reducible first|refine zaa _ _ ?_|refine zad ?_|refine zae ?_)|rw[zaf]|simp only[hat,hwb,tm,qn 0 (by omega),qn 1 (by omega),qn 2 (by omega),qn 3 (by omega),qn 4 (by omega),qy 5 (by omega),zaA,zY,Int.reduceEq,Int.reduceBEq,Int.reduceBNe,Nat.reduceSub,Nat.reduceEqDiff,Nat.reduceAdd,Nat.reduceMul,Nat.reduceLeDiff,Nat.reduceLT,Nat.reduceBEq,reduceCtorEq]|refine zab ?_|refine zac (fun hb=> ?_) (fun hb=> ?_)|(refine And.intro ?_ ?_;exact zJ)|refine And.intro (fun hg=> ?_) (fun hg=> ?_)|exact zC|fail)
   exact hK _ (i+1) (Gh.canon [2,3] [] [] (by simp only[hw,zaq,zaE,zar,zaw,zax,zay,List.set_cons_zero,List.set_cons_succ,and_true,true_and,Int.natCast_zero,Int.cast_ofNat_Int,D.v.injEq,Value.int.injEq];try(repeat'(first|rfl|omega|with_reducible apply And.intro))) rfl (by rw[hcs];rfl)) ⟨by omega,by omega⟩ rfl (by omega)
  ·have hcs:=hcs.trans (zkc e)
   repeat'(first|(with_reducible first|refine zaa _ _ ?_|refine zad ?_|refine zae ?_)|rw[zaf]|simp only[hat,hwb,tm,w6,qn 0 (by omega),qn 1 (by omega),qn 2 (by omega),qn 3 (by omega),qn 4 (by omega),qn 5 (by omega),qy 6 (by omega),zaA,zY,Int.reduceEq,Int.reduceBEq,Int.reduceBNe,Nat.reduceSub,Nat.reduceEqDiff,Nat.reduceAdd,Nat.reduceMul,Nat.reduceLeDiff,Nat.reduceLT,Nat.reduceBEq,reduceCtorEq]|refine zab ?_|refine zac (fun hb=> ?_) (fun hb=> ?_)|(refine And.intro ?_ ?_;exact zJ)|refine And.intro (fun hg=> ?_) (fun hg=> ?_)|exact zC|fail)
   exact hK _ (i+1) (Gh.canon [2,3] [] [] (by simp only[hw,zaq,zaE,zar,zaw,zax,zay,List.set_cons_zero,List.set_cons_succ,and_true,true_and,Int.natCast_zero,Int.cast_ofNat_Int,D.v.injEq,Value.int.injEq];try(repeat'(first|rfl|omega|with_reducible apply And.intro))) rfl (by rw[hcs];rfl)) ⟨by omega,by omega⟩ rfl (by omega)
  ·have hcs:=hcs.trans (zkd e)
   repeat'(first|(with_reducible first|refine zaa _ _ ?_|refine zad ?_|refine zae ?_)|rw[zaf]|simp only[hat,hwb,tm,w6,qn 0 (by omega),qn 1 (by omega),qn 2 (by omega),qn 3 (by omega),qn 4 (by omega),qn 5 (by omega),qn 6 (by omega),qy 7 (by omega),zaA,zY,Int.reduceEq,Int.reduceBEq,Int.reduceBNe,Nat.reduceSub,Nat.reduceEqDiff,Nat.reduceAdd,Nat.reduceMul,Nat.reduceLeDiff,Nat.reduceLT,Nat.reduceBEq,reduceCtorEq]|refine zab ?_|refine zac (fun hb=> ?_) (fun hb=> ?_)|(refine And.intro ?_ ?_;exact zJ)|refine And.intro (fun hg=> ?_) (fun hg=> ?_)|exact zC|fail)
   exact hK _ (i+1) (Gh.canon [2,3] [] [] (by simp only[hw,zaq,zaE,zar,zaw,zax,zay,List.set_cons_zero,List.set_cons_succ,and_true,true_and,Int.natCast_zero,Int.cast_ofNat_Int,D.v.injEq,Value.int.injEq];try(repeat'(first|rfl|omega|with_reducible apply And.intro))) rfl (by rw[hcs];rfl)) ⟨by omega,by omega⟩ rfl (by omega)
  ·have hcs:=hcs.trans (zke e)
   repeat'(first|(with_reducible first|refine zaa _ _ ?_|refine zad ?_|refine zae ?_)|rw[zaf]|simp only[hat,hwb,tm,w8,qn 0 (by omega),qn 1 (by omega),qn 2 (by omega),qn 3 (by omega),qn 4 (by omega),qn 5 (by omega),qn 6 (by omega),qn 7 (by omega),qy 8 (by omega),zaA,zY,Int.reduceEq,Int.reduceBEq,Int.reduceBNe,Nat.reduceSub,Nat.reduceEqDiff,Nat.reduceAdd,Nat.reduceMul,Nat.reduceLeDiff,Nat.reduceLT,Nat.reduceBEq,reduceCtorEq]|refine zab ?_|refine zac (fun hb=> ?_) (fun hb=> ?_)|(refine And.intro ?_ ?_;exact zJ)|refine And.intro (fun hg=> ?_) (fun hg=> ?_)|exact zC|fail)
   exact hK _ (i+1) (Gh.canon [2,3] [] [] (by simp only[hw,zaq,zaE,zar,zaw,zax,zay,List.set_cons_zero,List.set_cons_succ,and_true,true_and,Int.natCast_zero,Int.cast_ofNat_Int,D.v.injEq,Value.int.injEq];try(repeat'(first|rfl|omega|with_reducible apply And.intro))) rfl (by rw[hcs];rfl)) ⟨by omega,by omega⟩ rfl (by omega)
  ·have hcs:=hcs.trans (zkf e)
   repeat'(first|(with_reducible first|refine zaa _ _ ?_|refine zad ?_|refine zae ?_)|rw[zaf]|simp only[hat,hwb,tm,w9,qn 0 (by omega),qn 1 (by omega),qn 2 (by omega),qn 3 (by omega),qn 4 (by omega),qn 5 (by omega),qn 6 (by omega),qn 7 (by omega),qn 8 (by omega),qy 9 (by omega),zaA,zY,Int.reduceEq,Int.reduceBEq,Int.reduceBNe,Nat.reduceSub,Nat.reduceEqDiff,Nat.reduceAdd,Nat.reduceMul,Nat.reduceLeDiff,Nat.reduceLT,Nat.reduceBEq,reduceCtorEq]|refine zab ?_|refine zac (fun hb=> ?_) (fun hb=> ?_)|(refine And.intro ?_ ?_;exact zJ)|refine And.intro (fun hg=> ?_) (fun hg=> ?_)|exact zC|fail)
   exact hK _ (i+1) (Gh.canon [2,3] [] [] (by simp only[hw,zaq,zaE,zar,zaw,zax,zay,List.set_cons_zero,List.set_cons_succ,and_true,true_and,Int.natCast_zero,Int.cast_ofNat_Int,D.v.injEq,Value.int.injEq];try(repeat'(first|rfl|omega|with_reducible apply And.intro))) rfl (by rw[hcs];rfl)) ⟨by omega,by omega⟩ rfl (by omega)
  ·have hcs:=hcs.trans (ziN e)
   repeat'(first|(with_reducible first|refine zaa _ _ ?_|refine zad ?_|refine zae ?_)|rw[zaf]|simp only[hat,hwb,tm,qn 0 (by omega),qn 1 (by omega),qn 2 (by omega),qn 3 (by omega),qn 4 (by omega),qn 5 (by omega),qn 6 (by omega),qn 7 (by omega),qn 8 (by omega),qn 9 (by omega),zaA,zY,Int.reduceEq,Int.reduceBEq,Int.reduceBNe,Nat.reduceSub,Nat.reduceEqDiff,Nat.reduceAdd,Nat.reduceMul,Nat.reduceLeDiff,Nat.reduceLT,Nat.reduceBEq,reduceCtorEq]|refine zab ?_|refine zac (fun hb=> ?_) (fun hb=> ?_)|(refine And.intro ?_ ?_;exact zJ)|refine And.intro (fun hg=> ?_) (fun hg=> ?_)|exact zC|fail)
   exact hK _ (i+1) (Gh.canon [2,3] [] [] (by simp only[hw,zaq,zaE,zar,zaw,zax,zay,List.set_cons_zero,List.set_cons_succ,and_true,true_and,Int.natCast_zero,Int.cast_ofNat_Int,D.v.injEq,Value.int.injEq];try(repeat'(first|rfl|omega|with_reducible apply And.intro))) rfl (by rw[hcs];rfl)) ⟨by omega,by omega⟩ rfl (by omega)
 ·have hi:i=min ns.length 11:=by simp at hge;omega
  have hp:confP ns=confI ns i:=by rw[hi];rfl
  rw[hp]
  repeat'(first|(with_reducible first|refine zaa _ _ ?_|refine zad ?_|refine zae ?_)|rw[zaf]|simp only[zY,Int.reduceEq,Int.reduceBEq,Int.reduceBNe,Nat.reduceSub,Nat.reduceEqDiff,Nat.reduceAdd,Nat.reduceMul,Nat.reduceLeDiff,Nat.reduceLT,Nat.reduceBEq,reduceCtorEq]|refine zab ?_|refine zac (fun hb=> ?_) (fun hb=> ?_)|(refine And.intro ?_ ?_;exact zJ)|refine And.intro (fun hg=> ?_) (fun hg=> ?_)|exact zC|fail)
end Go.Proofs.YtiegkabcgokhkaaGreat
