import Derived.Test.YtliimajkpggbhaaGreatK9
import Derived.Test.YtliimajkpggbhaaGreatPZ
namespace Go.Proofs.YtliimajkpggbhaaGreat
open Go.Pk Tryz
set_option maxRecDepth 100000
set_option linter.unusedSimpArgs false
set_option linter.unusedVariables false
set_option maxHeartbeats 8000000 in
theorem znf (kind:Int) (ns:List Int) (acts:List Act) (told:NTold) (cut more:Int) (h:(Inp.mk kind ns acts told).ok) (hcut:zsE cut) (hmo:zav more):
  CallOK prog 5 [.f (au kind), .f (al ns.length (zad ns)), .f (al acts.length (zkh acts)), .f (.agg told.lent), .f (aw cut), .f (au more)] (fun r o=>r=[rb true]∧o=[]):=by
 refine zh func5 results5 ntmps5 call5 ?_
 simp only[f5,Option.getD]
 have c1:=znj _ h
 have m1:=zc0 _ h
 have o1:=zju _ h
 have e1:=znh h
 have e2:=zvL h more
 have e3:=fun k=>zxY h (k:=k)
 simp only at c1
 obtain⟨P,hP⟩:∃P,P=zaE ⟨kind,ns,acts,told⟩:=⟨_,rfl⟩
 rw[←hP]at c1 m1 o1 e1 e2 e3
 have l1:=ziE m1
 have hb:=zxX m1
 have p1:=zgg P o1 m1
 have p2:=zcy P o1
 rw[m1]at p2
 have sm:=zpW P P o1 o1
 rw[zrt]at sm
 have haw:=zid
 have q1:=zfI (pkI P) ⟨by omega,hb⟩ (by omega)
 rw[e1]at q1
 have q2:=zfI (pkI P++[more]) ⟨by rw[List.length_append,List.length_singleton];omega,zdw hb (fun x hx=>by rw[List.mem_singleton.1 hx];exact hmo)⟩ (by rw[List.length_append,List.length_singleton];omega)
 rw[e2]at q2
 obtain⟨k,hk,hkl⟩:∃k:Nat,cut.tmod ((pkI P).length:Int)=(k:Int)∧k<(pkI P).length:=by
  unfold zsE at hcut
  refine⟨(cut.tmod ((pkI P).length:Int)).toNat, ?_, ?_⟩
  ·rw[Int.toNat_of_nonneg (Int.tmod_nonneg _ hcut.1)]
  ·have:=Int.tmod_lt_of_pos cut (b:=((pkI P).length:Int)) (by omega)
   have:=Int.tmod_nonneg ((pkI P).length:Int) hcut.1
   omega
 have hw16:IntKind.i64.wrap cut=cut:=by unfold zsE at hcut;exact wrap64 (by omega) (by omega)
 have q3:=zfI ((pkI P).take k) ⟨by rw[List.length_take];omega,fun x hx=>hb x (List.mem_of_mem_take hx)⟩ (by rw[List.length_take];omega)
 rw[e3 k hkl]at q3
 have u1:(pkI P++[more]).length=(pkI P).length+1:=by simp
 have u2:zad (pkI P++[more])=zad (pkI P)++[uD more]:=by simp[zad]
 rw[u1,u2]at q2
 have u3:((pkI P).take k).length=k:=by rw[List.length_take];omega
 have u4:zad ((pkI P).take k)=(zad (pkI P)).take k:=by simp only[zad,List.map_take]
 rw[u3,u4]at q3
 obtain⟨M,hM⟩:∃M,bytesOf (zad (pkI P))=some M:=⟨_,zcN _⟩
 have ht1:(zad (pkI P)).take (pkI P).length=zad (pkI P):=zau
 have hNl:(zad (pkI P)).length=(pkI P).length:=by simp
 clear e1 e2 e3 hb u1 u2 u3 u4 hP
 generalize pkI P=B at*
 have hz1:((B.length:Int)==0)=false:=by
  have:B.length≠0:=by omega
  simpa using fun q=>this (by rw[q];rfl)
 have hz2:decide ((B.length:Int)>2048)=false:=by simp;omega
 have hl0:((B.length:Int)=0)=False:=eq_false (by omega)
 have hkn:(k≤B.length)=True:=eq_true (by omega)
 repeat'(first|exact zC|(with_reducible first|refine zbc 6 ?_|refine zaR 6 ?_|refine zaS 6 ?_)|refine zu (I hz1 (I hz2 (I hM (I ht1 hNl)))) ?_|(with_reducible first|refine zae _ _ ?_)|refine zx (c1) ?_|refine zx (p1) ?_|refine zx (p2) ?_|(apply zaa<;>intro hb)|(apply I;exact zI)|(apply I<;>intro hg))
 refine zbl (zae _ _ ?_)
 repeat'(first|exact zC|refine zq hNl ?_|(apply zaa<;>intro hb)|(apply I;exact zI)|(apply I<;>intro hg))
 refine zjL 53 (r':= ?r1) (h:=⟨14,1,0⟩) (lo:=0) (n:=B.length) (k:=B.length) (ds:=zad B) rfl rfl (Gh.sealV 53 rfl ?hw1) trivial ⟨trivial,trivial⟩ ?hc1 q1 ?_
 case hw1=>simp only[zY,ht1,Nat.reduceSub,Nat.reduceEqDiff,Nat.reduceAdd,Nat.reduceMul,Nat.reduceLeDiff,Nat.reduceLT,Nat.reduceBEq,reduceCtorEq];rfl
 case hc1=>simp only[zY,Nat.reduceSub,Nat.reduceEqDiff,Nat.reduceAdd,Nat.reduceMul,Nat.reduceLeDiff,Nat.reduceLT,Nat.reduceBEq,reduceCtorEq]
 repeat'(first|exact zC|refine zq (I hNl (I ht1 (I hw16 (I hk (I hl0 (I hkn @Int.toNat_natCast)))))) ?_|(apply zaa<;>intro hb)|(apply I;exact zI)|(apply I<;>intro hg))
 refine zjL 64 (r':= ?r2) (h:=⟨14,1,0⟩) (lo:=0) (n:=k) (k:=k) (ds:=(zad B).take k) rfl rfl (Gh.sealV 64 rfl ?hw2) trivial ⟨trivial,trivial⟩ ?hc2 q3 ?_
 case hw2=>simp only[zY,ht1,Nat.reduceSub,Nat.reduceEqDiff,Nat.reduceAdd,Nat.reduceMul,Nat.reduceLeDiff,Nat.reduceLT,Nat.reduceBEq,reduceCtorEq];rfl
 case hc2=>simp only[zY,Nat.reduceSub,Nat.reduceEqDiff,Nat.reduceAdd,Nat.reduceMul,Nat.reduceLeDiff,Nat.reduceLT,Nat.reduceBEq,reduceCtorEq]
 repeat'(first|exact zC|(with_reducible first|refine zbc 8 ?_|refine zaR 8 ?_|refine zaS 8 ?_)|refine zu (I hNl ht1) ?_|(with_reducible first|refine zae _ _ ?_)|(apply zaa<;>intro hb)|(apply I;exact zI)|(apply I<;>intro hg))
 refine zbl (zeL _ _ (zwc zcV mixed 5 (d:=74) (n:=B.length) (hd:=⟨14,1,0⟩) (v1:= ?v1) (r1:= ?r3) (r2:= ?r4) (ds:=zad B) (res:= ?res) (ei:= ?ei) (te:= ?te) (k1:= ?k1) (k2:= ?k2) rfl rfl rfl rfl ?h1 ?s1 ?s2 ?s3 ?e1 ?e2 ?e3 ?he ?hs ?hr ?hf ?hds ?h2))
 case h1=>
  intro K hK
  repeat'(first|exact zC|refine zq (I @List.take_succ_cons.{0} (I @List.take_zero.{0} hNl)) ?_|(apply zaa<;>intro hb)|(apply I;exact zI)|(apply I<;>intro hg))
  exact hK
 case s1=>exact trivial
 case s2=>exact trivial
 case s3=>exact trivial
 case e1=>rfl
 case e2=>rfl
 case e3=>rfl
 case he=>simp only[zY,Nat.reduceSub,Nat.reduceEqDiff,Nat.reduceAdd,Nat.reduceMul,Nat.reduceLeDiff,Nat.reduceLT,Nat.reduceBEq,reduceCtorEq];rfl
 case hs=>simp only[zY,ht1,hNl,Nat.reduceSub,Nat.reduceEqDiff,Nat.reduceAdd,Nat.reduceMul,Nat.reduceLeDiff,Nat.reduceLT,Nat.reduceBEq,reduceCtorEq];rfl
 case hr=>rfl
 case hf=>rfl
 case hds=>simp only[zY,ht1,Nat.reduceSub,Nat.reduceEqDiff,Nat.reduceAdd,Nat.reduceMul,Nat.reduceLeDiff,Nat.reduceLT,Nat.reduceBEq,reduceCtorEq]
 have hN1:(B.length+1≤B.length)=False:=eq_false (by omega)
 have hle3:(B.length+1≤2^47)=True:=eq_true (by omega)
 have ht5:(zad B++[uD more]).take (B.length+1)=zad B++[uD more]:=List.take_of_length_le (by rw[List.length_append,hNl];exact Nat.le_refl _)
 repeat'(first|exact zC|refine zq (I ht5 (I @List.drop_succ_cons.{0} (I @List.drop_zero.{0} (I hN1 (I hle3 (I hNl (I ht1 @List.nil_append.{0}))))))) ?_|(apply zaa<;>intro hb)|(apply I;exact zI)|(apply I<;>intro hg))
 refine zjL 77 (r':= ?r5) (h:=⟨77,1,0⟩) (lo:=0) (n:=B.length+1) (k:=B.length+1) (ds:=zad B++[uD more]) rfl rfl (Gh.sealV 77 rfl ?hw3) trivial ⟨trivial,trivial⟩ ?hc3 q2 ?_
 case hw3=>simp only[zY,ht5,Nat.reduceSub,Nat.reduceEqDiff,Nat.reduceAdd,Nat.reduceMul,Nat.reduceLeDiff,Nat.reduceLT,Nat.reduceBEq,reduceCtorEq];rfl
 case hc3=>simp only[zY,Nat.reduceSub,Nat.reduceEqDiff,Nat.reduceAdd,Nat.reduceMul,Nat.reduceLeDiff,Nat.reduceLT,Nat.reduceBEq,reduceCtorEq]
 repeat'(first|exact zC|refine zq (I hM (I ht1 (I hNl @beq_self_eq_true.{0}))) ?_|refine zx (sm) ?_|refine zx (haw) ?_|(apply zaa<;>intro hb)|(apply I;exact zI)|(apply I<;>intro hg))
end Go.Proofs.YtliimajkpggbhaaGreat
