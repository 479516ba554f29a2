import Derived.Test.YtbpmcjeeeiffhaaGreatK8
import Derived.JoinedOf
import Derived.Handed
import Derived.ProofKit
import Derived.Test.YtbpmcjeeeiffhaaGreatWD
namespace Go.Proofs.YtbpmcjeeeiffhaaGreat
open Go.Pk
set_option maxRecDepth 100000
set_option linter.unusedSimpArgs false
set_option linter.unusedVariables false
def shV (v:Int) (j:Nat):Int:=v.fdiv (2^(8*(8 - j)))
abbrev zxf (v:Int) (j:Nat):List D:=(List.range 8).map fun m=>uD (if j≤m then zfp v m else 0)
theorem zul (v:Int) (k:Nat) (hk:k<8):(zxf v (k+1)).set k (uD (zfp v k))=zxf v k:=by
 apply List.ext_getElem
 ·simp
 ·intro m h1 h2
  simp only[List.length_set,List.length_map,List.length_range]at h1
  rw[List.getElem_set]
  simp only[List.getElem_map,List.getElem_range]
  split
  ·rename_i e;subst e;rw[if_pos (Nat.le_refl _)]
  ·rename_i e
   by_cases h:k+1≤m
   ·rw[if_pos h,if_pos (by omega)]
   ·rw[if_neg h,if_neg (by omega)]
theorem zcH (v:Int) (h:0≤v∧v<4611686018427387904):CallOK Tryz.prog 36 [.f (ai v)] (fun r o=>r=[.one (.own 1 8 (zad (za8 v)) false)]∧o=[]):=by
 refine zac zao mixed (T:=Ty) (n:=18) Tryz.func36 (c:=Tryz.f36.body.getD .skip) rfl Tryz.results36 Tryz.ntmps36 Tryz.call36 ?_
 simp only[Tryz.f36,Option.getD]
 have hv8:shV v 8=v:=by unfold shV;simp
 repeat'(first|(with_reducible first|refine zab _ _ ?_|refine zaF ?_|refine zaG ?_)|rw[zay]|simp only[zY,Int.reduceEq,Int.reduceBEq,Int.reduceBNe,Nat.reduceSub,Nat.reduceEqDiff,Nat.reduceAdd,Nat.reduceMul,Nat.reduceLeDiff,Nat.reduceLT,Nat.reduceBEq,reduceCtorEq]|refine zav ?_|refine zaa (fun hb=> ?_) (fun hb=> ?_)|(refine And.intro ?_ ?_;exact zI)|refine And.intro (fun hg=> ?_) (fun hg=> ?_)|exact zC|fail)
 refine zai (τ:=Nat) (fun j=>⟨[ai (shV v j),dd,dd, .one (.own ⟨3,1,1⟩ 0 8),ai ((j:Int) - 1),dd,dd,dd,dd,dd,dd,dd,dd,dd,dd,dd,dd,dd],[(5,⟨2,[]⟩),(3,{next:=2,l:=[none,some {e:=1,var:=false,fz:=false,sz:=1,cells:=(zxf v j).map C.d}]})]⟩)
  (fun j=>j≤8) (fun _=>()) (fun j=>j) 8
  (Gh.canon [3] [] [] (by simp only[hv8,zcj,zdZ,zck,zcQ,zcR,zcS,List.set_cons_zero,List.set_cons_succ,and_true,true_and,Int.natCast_zero,Int.cast_ofNat_Int,D.v.injEq,Value.int.injEq];try(repeat'(first|rfl|omega|with_reducible apply And.intro))) rfl rfl) (Nat.le_refl _) ?_
 intro j hj0 hF K hK
 repeat(first|with_reducible refine zab _ _ ?_|with_reducible refine And.imp_right (zab _ _) ?_|with_reducible refine And.imp_right (And.imp_right (zab _ _)) ?_|with_reducible refine And.imp_right (And.imp_right (And.imp_right (zab _ _))) ?_|rw[zay]|simp only[zB,Nat.reduceSub,Nat.reduceEqDiff,Nat.reduceAdd,Nat.reduceMul,Nat.reduceLeDiff,Nat.reduceLT,Nat.reduceBEq,reduceCtorEq])
 refine zaa (fun hlt=> ?_) (fun hge=> ?_)
 ·obtain⟨k,rfl⟩:∃k,j=k+1:=⟨j - 1,by simp at hlt;omega⟩
  have hk:((((k+1:Nat):Int)) - 1)=(k:Int):=by omega
  have hge0:decide ((k:Int)≥0)=true:=by simp
  have w1:IntKind.i64.wrap ((k:Int) - 1)=(k:Int) - 1:=wrap64 (by omega) (by omega)
  have hb0:0≤shV v (k+1)∧shV v (k+1)≤v:=by
   unfold shV
   rw[Int.fdiv_eq_ediv_of_nonneg _ (Int.pow_nonneg (by decide))]
   exact⟨Int.ediv_nonneg h.1 (Int.pow_nonneg (by decide)),Int.ediv_le_self _ h.1⟩
  have w2:IntKind.u8.wrap (shV v (k+1))=zfp v k:=by unfold zfp shV;rw[show 8 - (k+1)=7 - k from by omega]
  have w3:(shV v (k+1)).fdiv (2^8)=shV v k:=by
   have p0:∀n:Nat,(0:Int)≤2^n:=fun n=>Int.pow_nonneg (by decide)
   unfold shV
   rw[Int.fdiv_eq_ediv_of_nonneg v (p0 (8*(8 - (k+1)))),Int.fdiv_eq_ediv_of_nonneg _ (p0 8),Int.fdiv_eq_ediv_of_nonneg v (p0 (8*(8 - k))),Int.ediv_ediv_of_nonneg (p0 _),←Int.pow_add,show 8*(8 - (k+1))+8=8*(8 - k) from by omega]
  have w4:IntKind.i64.wrap (shV v k)=shV v k:=by
   have:0≤shV v k∧shV v k≤v:=by
    unfold shV
    rw[Int.fdiv_eq_ediv_of_nonneg _ (Int.pow_nonneg (by decide))]
    exact⟨Int.ediv_nonneg h.1 (Int.pow_nonneg (by decide)),Int.ediv_le_self _ h.1⟩
   exact wrap64 (by omega) (by omega)
  have hset:((zxf v (k+1)).map C.d).set k (C.d (uD (zfp v k)))=(zxf v k).map C.d:=by
   rw[←zul v k (by omega),List.map_set]
  have hle:(k+1≤8)=True:=eq_true hj0
  have h8:(if(8:Int)<0 then none else some (Value.int .i64 ((shV v (k+1)).fdiv (2^min (Int.toNat 8) IntKind.i64.bits))))=some (Value.int .i64 (shV v k)):=by
   rw[if_neg (by decide),show min (Int.toNat 8) IntKind.i64.bits=8 from rfl,w3]
  repeat'(first|(with_reducible first|refine zab _ _ ?_|refine zaF ?_|refine zaG ?_)|rw[zay]|simp only[hk,w1,w2,h8,hset,List.length_range,hle,Int.toNat_natCast,zY,Int.reduceEq,Int.reduceBEq,Int.reduceBNe,Nat.reduceSub,Nat.reduceEqDiff,Nat.reduceAdd,Nat.reduceMul,Nat.reduceLeDiff,Nat.reduceLT,Nat.reduceBEq,reduceCtorEq]|refine zav ?_|refine zaa (fun hb=> ?_) (fun hb=> ?_)|(refine And.intro ?_ ?_;exact zI)|refine And.intro (fun hg=> ?_) (fun hg=> ?_)|exact zC|fail)
  exact hK _ k (Gh.canon [3] [] [] zK rfl rfl) (by omega) rfl (by omega)
 ·have hj:j=0:=by simp at hge;omega
  subst hj
  repeat'(first|(with_reducible first|refine zab _ _ ?_|refine zaF ?_|refine zaG ?_)|rw[zay]|simp only[zY,Int.reduceEq,Int.reduceBEq,Int.reduceBNe,Nat.reduceSub,Nat.reduceEqDiff,Nat.reduceAdd,Nat.reduceMul,Nat.reduceLeDiff,Nat.reduceLT,Nat.reduceBEq,reduceCtorEq]|refine zav ?_|refine zaa (fun hb=> ?_) (fun hb=> ?_)|(refine And.intro ?_ ?_;exact zI)|refine And.intro (fun hg=> ?_) (fun hg=> ?_)|exact zC|fail)
  rfl
theorem znO {r:Reply} (h:zbI r=true):zbG r:=by
 obtain⟨f1,f2,f3,f4,f5⟩:=zb6 h
 exact⟨by omega,fun g hg=>by have:=(zcb h g hg).1;omega⟩
theorem zzP {a b:D}:toDs (sub 0 2 1 [C.d a,C.d b])=some [a,b]:=rfl
theorem zzQ {a:D} {n:Int}:toDs (sub 0 9 1 (C.d a::List.map C.d (zad (za8 n))))=some (a::zad (za8 n)):=rfl
set_option maxHeartbeats 1000000 in
theorem zmK (r:Reply) (h:zbI r=true):CallOK Tryz.prog 83 [.f (.agg r.lent)] (fun x o=>x=[.one (.own 1 (zby r).length (zad (zby r)) false),ri 0]∧o=[]):=by
 obtain⟨f1,f2,f3,f4,f5⟩:=zb6 h
 have hgr:=zcb h
 refine zac zao mixed (T:=Ty) (n:=62) Tryz.func83 (c:=Tryz.f83.body.getD .skip) rfl Tryz.results83 Tryz.ntmps83 Tryz.call83 ?_
 simp only[Tryz.f83,Option.getD]
 have hmy:=zd6 r (znO h)
 rw[h]at hmy
 have hpn:=zcH r.session (by omega)
 have w1:IntKind.u8.wrap r.code=r.code:=zdt (by omega) (by omega)
 have w2:IntKind.u8.wrap r.ahead=r.ahead:=zdt (by omega) (by omega)
 have w3:IntKind.u8.wrap (r.held.length:Int)=r.held.length:=zdt (by omega) (by omega)
 have t1:(zad (za8 r.session)).take 8=zad (za8 r.session):=List.take_of_length_le (by rw[zcF];decide)
 repeat'(first|(with_reducible first|refine zab _ _ ?_|refine zaF ?_|refine zaG ?_)|rw[zay]|simp only[zzP,zzQ,t1,w1,w2,w3,List.length_map,zaR,zY,Int.reduceEq,Int.reduceBEq,Int.reduceBNe,Nat.reduceSub,Nat.reduceEqDiff,Nat.reduceAdd,Nat.reduceMul,Nat.reduceLeDiff,Nat.reduceLT,Nat.reduceBEq,reduceCtorEq]|((first|((try refine zaO ?_);apply za1)|(apply zaX;intro _));(solve|exact(hmy)|exact(hpn)|(refine CallOK.le (hmy) ?_;exact zM)|(refine CallOK.le (hpn) ?_;exact zM)|fail);try case hn=>rfl)|refine zav ?_|refine zaa (fun hb=> ?_) (fun hb=> ?_)|(refine And.intro ?_ ?_;exact zI)|refine And.intro (fun hg=> ?_) (fun hg=> ?_)|exact zC|fail)
 refine zai (τ:=Nat) (fun i=>⟨[dd, .one (.ptr ⟨1,0,1⟩ 0),dd,dd, .one (.own ⟨4,1,1⟩ 0 (zeG r i).length),ai i,dd,dd,dd,dd,dd,dd,dd,dd,dd,dd,dd,dd,dd,dd,dd,dd,dd,dd,dd,dd,dd,dd,dd,dd,dd,dd,dd,dd,dd,dd,dd,dd,dd,dd,dd,dd,dd,dd,dd,dd,dd,dd,dd,dd,dd,dd,dd,dd,dd,dd,dd,dd,dd,dd,dd,dd],[(1,{next:=2,l:=[some {e:=1,var:=true,fz:=false,sz:=0,cells:=[di r.code,di r.session,di r.ahead, .lent r.held.length (zaL r.held)]},none,none,none,none]}),(12,⟨2,[]⟩),(15,⟨2,[]⟩),(4,{next:=2,l:=[none,some {e:=1,var:=false,fz:=false,sz:=1,cells:=(zad (zeG r i)).map C.d}]}),(25,⟨2,[]⟩),(43,⟨2,[]⟩),(44,⟨2,[]⟩),(51,⟨2,[]⟩),(59,⟨2,[]⟩),(60,⟨2,[]⟩)]⟩)
  (fun i=>i≤r.held.length) (fun _=>()) (fun i=>r.held.length - i) 0
  (Gh.canon [1,4] [43,44,51,59,60] [] (by simp only[zhi,zfw,zcj,zdZ,zck,zcQ,zcR,zcS,List.set_cons_zero,List.set_cons_succ,and_true,true_and,Int.natCast_zero,Int.cast_ofNat_Int,D.v.injEq,Value.int.injEq];try(repeat'(first|rfl|omega|with_reducible apply And.intro))) rfl (by rw[zhi];rfl)) (Nat.zero_le _) ?_
 intro i hi0 hF K hK
 repeat(first|with_reducible refine zab _ _ ?_|with_reducible refine And.imp_right (zab _ _) ?_|with_reducible refine And.imp_right (And.imp_right (zab _ _)) ?_|with_reducible refine And.imp_right (And.imp_right (And.imp_right (zab _ _))) ?_|rw[zay]|simp only[zB,Nat.reduceSub,Nat.reduceEqDiff,Nat.reduceAdd,Nat.reduceMul,Nat.reduceLeDiff,Nat.reduceLT,Nat.reduceBEq,reduceCtorEq])
 refine zaa (fun hlt=> ?_) (fun hge=> ?_)
 ·have hi:i<r.held.length:=by simpa using hlt
  have hat:=zce hi
  have hw:=zak hi (by omega)
  have hg:=hgr _ (List.getElem_mem hi)
  have hpm:=zcH r.held[i].token hg.2
  have hlb:(zeG r i).length≤11+4*21:=by
   rw[zeG,List.length_append,zfw]
   have:=zeT (l:=r.held.take i) (k:=12) fun g hx=>(hgr g (List.mem_of_mem_take hx)).1
   have:(r.held.take i).length≤4:=by rw[List.length_take];omega
   omega
  have w4:IntKind.u8.wrap (r.held[i].name.size:Int)=r.held[i].name.size:=zdt (by omega) (by omega)
  have k3:(zad (zeG r i)).take (zeG r i).length=zad (zeG r i):=List.take_of_length_le (by rw[List.length_map];exact Nat.le_refl _)
  have k2:(zad (za8 r.held[i].token)).take 8=zad (za8 r.held[i].token):=List.take_of_length_le (by rw[zcF];decide)
  have hle:((zeG r i).length+1≤2^47)=True:=eq_true (by omega)
  have hle2:((zeG r i).length+1+r.held[i].name.size≤2^47)=True:=eq_true (by omega)
  have hle3:((zeG r i).length+1+r.held[i].name.size+8≤2^47)=True:=eq_true (by omega)
  have hsl:(zeG r (i+1)).length=(zeG r i).length+1+r.held[i].name.size+8:=by rw[zhh hi,List.length_append,List.length_append,zcD,zaR];omega
  have k4:(zad (zeG r i)++[D.v (Value.int .u8 (r.held[i].name.size:Int))]).take ((zeG r i).length+1)=zad (zeG r i)++[D.v (Value.int .u8 (r.held[i].name.size:Int))]:=List.take_of_length_le (by rw[List.length_append,List.length_map];exact Nat.le_refl _)
  have k5:(zad (zeG r i)++[D.v (Value.int .u8 (r.held[i].name.size:Int))]++zjs r.held[i].name).take ((zeG r i).length+1+r.held[i].name.size)=zad (zeG r i)++[D.v (Value.int .u8 (r.held[i].name.size:Int))]++zjs r.held[i].name:=List.take_of_length_le (by rw[List.length_append,List.length_append,List.length_map,List.length_map,zcY];exact Nat.le_refl _)
  repeat'(first|(with_reducible first|refine zab _ _ ?_|refine zaF ?_|refine zaG ?_)|rw[zay]|simp only[hat,w4,k4,k5,List.cons_append,List.nil_append,zaB,hle,hle2,hle3,k2,k3,zcY,List.length_map,zaR,zY,Int.reduceEq,Int.reduceBEq,Int.reduceBNe,Nat.reduceSub,Nat.reduceEqDiff,Nat.reduceAdd,Nat.reduceMul,Nat.reduceLeDiff,Nat.reduceLT,Nat.reduceBEq,reduceCtorEq]|((first|((try refine zaO ?_);apply za1)|(apply zaX;intro _));(solve|exact(hpm)|(refine CallOK.le (hpm) ?_;exact zM)|fail);try case hn=>rfl)|refine zav ?_|refine zaa (fun hb=> ?_) (fun hb=> ?_)|(refine And.intro ?_ ?_;exact zI)|refine And.intro (fun hg=> ?_) (fun hg=> ?_)|exact zC|fail)
  exact hK _ (i+1) (Gh.canon [1,4] [] [] (by simp only[hw,hsl,zcj,zdZ,zck,zcQ,zcR,zcS,List.set_cons_zero,List.set_cons_succ,and_true,true_and,Int.natCast_zero,Int.cast_ofNat_Int,D.v.injEq,Value.int.injEq];try(repeat'(first|rfl|omega|with_reducible apply And.intro))) rfl (by rw[zhh hi];simp only[zad,List.map_append,zeC,List.map_cons,List.map_map,List.append_assoc,List.cons_append,List.nil_append];rfl)) hi rfl (by omega)
 ·have hi:i=r.held.length:=by
   have:¬(i:Int)<r.held.length:=by simpa using hge
   omega
  subst hi
  repeat'(first|(with_reducible first|refine zab _ _ ?_|refine zaF ?_|refine zaG ?_)|rw[zay]|simp only[zY,Int.reduceEq,Int.reduceBEq,Int.reduceBNe,Nat.reduceSub,Nat.reduceEqDiff,Nat.reduceAdd,Nat.reduceMul,Nat.reduceLeDiff,Nat.reduceLT,Nat.reduceBEq,reduceCtorEq]|refine zav ?_|refine zaa (fun hb=> ?_) (fun hb=> ?_)|(refine And.intro ?_ ?_;exact zI)|refine And.intro (fun hg=> ?_) (fun hg=> ?_)|exact zC|fail)
  rw[zoN]
theorem zlo (m:Memo) (h:answerB m=true):CallOK Tryz.prog 37 [.f (.agg m.lent)] (fun x o=>x=[.one (.own 1 (za3 m).length (zad (za3 m)) false),ri 0]∧o=[]):=by
 refine zac zao mixed (T:=Ty) (n:=25) Tryz.func37 (c:=Tryz.f37.body.getD .skip) rfl Tryz.results37 Tryz.ntmps37 Tryz.call37 ?_
 simp only[Tryz.f37,Option.getD]
 obtain⟨f1,f2,f3⟩:=zcc h
 have hmy:=zdF m (zjd h)
 rw[h]at hmy
 have hpr:=zmK m.reply f3
 have hpn:=zcH m.seq (by omega)
 have hrl:=zhB f3
 have w1:IntKind.u8.wrap m.client=m.client:=zdt (by omega) (by omega)
 have t2:(zad (zby m.reply)).take (zby m.reply).length=zad (zby m.reply):=List.take_of_length_le (by rw[List.length_map];exact Nat.le_refl _)
 have hle:(9+(zby m.reply).length≤2^47)=True:=eq_true (by omega)
 have t1:(zad (za8 m.seq)).take 8=zad (za8 m.seq):=List.take_of_length_le (by rw[zcF];decide)
 repeat'(first|(with_reducible first|refine zab _ _ ?_|refine zaF ?_|refine zaG ?_)|rw[zay]|simp only[zzP,zzQ,w1,t1,t2,hle,List.length_map,zaR,zY,Int.reduceEq,Int.reduceBEq,Int.reduceBNe,Nat.reduceSub,Nat.reduceEqDiff,Nat.reduceAdd,Nat.reduceMul,Nat.reduceLeDiff,Nat.reduceLT,Nat.reduceBEq,reduceCtorEq]|((first|((try refine zaO ?_);apply za1)|(apply zaX;intro _));(solve|exact(hmy)|exact(hpr)|exact(hpn)|(refine CallOK.le (hmy) ?_;exact zM)|(refine CallOK.le (hpr) ?_;exact zM)|(refine CallOK.le (hpn) ?_;exact zM)|fail);try case hn=>rfl)|refine zav ?_|refine zaa (fun hb=> ?_) (fun hb=> ?_)|(refine And.intro ?_ ?_;exact zI)|refine And.intro (fun hg=> ?_) (fun hg=> ?_)|exact zC|fail)
 rw[show(za3 m).length=9+(zby m.reply).length from by simp[za3,zaR];omega]
 simp[za3,zad]
theorem tk1 (X:List Int) (c:Int):(zad X++[D.v (Value.int .u8 c)]).take (X.length+1)=zad X++[D.v (Value.int .u8 c)]:=List.take_of_length_le (by simp)
theorem tk2 (X:List Int) (c n:Int):(zad X++[D.v (Value.int .u8 c)]++zad (za8 n)).take (X.length+1+8)=zad X++[D.v (Value.int .u8 c)]++zad (za8 n):=List.take_of_length_le (by simp[zaR])
theorem tk3 (X:List Int) (c:Int) (n:ByteArray):(zad X++[D.v (Value.int .u8 c)]++zjs n).take (X.length+1+n.size)=zad X++[D.v (Value.int .u8 c)]++zjs n:=List.take_of_length_le (by rw[List.length_append,List.length_append,List.length_map,List.length_map,zcY];exact Nat.le_refl _)
theorem tk4 (X:List Int) (c d:Int) (n:ByteArray):(zad X++[D.v (Value.int .u8 c)]++zjs n++[D.v (Value.int .u8 d)]).take (X.length+1+n.size+1)=zad X++[D.v (Value.int .u8 c)]++zjs n++[D.v (Value.int .u8 d)]:=List.take_of_length_le (by rw[List.length_append,List.length_append,List.length_append,List.length_map,List.length_map,zcY];exact Nat.le_refl _)
theorem tk5 (X:List Int) (c d e:Int) (n:ByteArray):(zad X++[D.v (Value.int .u8 c)]++zjs n++[D.v (Value.int .u8 d)]++zad (za8 e)).take (X.length+1+n.size+1+8)=zad X++[D.v (Value.int .u8 c)]++zjs n++[D.v (Value.int .u8 d)]++zad (za8 e):=List.take_of_length_le (by rw[List.length_append,List.length_append,List.length_append,List.length_append,List.length_map,List.length_map,List.length_map,zcY,zaR];exact Nat.le_refl _)
set_option maxHeartbeats 4000000 in
theorem zwj (s:St) (h:RightS s):CallOK Tryz.prog 15 [.f (.agg s.lent)] (fun r o=>r=[.one (.own 1 (zcm s).length (zad (zcm s)) false),ri 0]∧o=[]):=by
 refine zac zao mixed (T:=Ty) (n:=157) Tryz.func15 (c:=Tryz.f15.body.getD .skip) rfl Tryz.results15 Tryz.ntmps15 Tryz.call15 ?_
 simp only[Tryz.f15,Option.getD]
 have hri:=zjk s (zbo h)
 rw[zcv.2 h]at hri
 have hH:zbD=2305843009213693952:=rfl
 have ht:=h.time
 have hn:=h.num
 have hk:=h.token
 have hsl:=h.sl
 have hll:=h.ll
 have n1:=zcH s.time (by omega)
 have n2:=zcH s.num (by omega)
 have n3:=zcH s.token (by omega)
 have w1:IntKind.u8.wrap (s.sess.length:Int)=s.sess.length:=zdt (by omega) (by omega)
 have t8:∀v:Int,(zad (za8 v)).take 8=zad (za8 v):=fun v=>List.take_of_length_le (by rw[zcF];decide)
 have t1:∀x:Int,toDs (sub 0 1 1 [C.d (uD x)])=some [uD x]:=fun _=>rfl
 have t16:∀v w:Int,(zad (za8 v)++zad (za8 w)).take 16=zad (za8 v)++zad (za8 w):=fun v w=>List.take_of_length_le (by simp[zaR])
 have t24:∀v w x:Int,(zad (za8 v)++zad (za8 w)++zad (za8 x)).take 24=zad (za8 v)++zad (za8 w)++zad (za8 x):=fun v w x=>List.take_of_length_le (by simp[zaR])
 repeat'(first|(with_reducible first|refine zab _ _ ?_|refine zaF ?_|refine zaG ?_)|rw[zay]|simp only[t8,t16,t24,t1,w1,List.length_map,zaR,zY,Int.reduceEq,Int.reduceBEq,Int.reduceBNe,Nat.reduceSub,Nat.reduceEqDiff,Nat.reduceAdd,Nat.reduceMul,Nat.reduceLeDiff,Nat.reduceLT,Nat.reduceBEq,reduceCtorEq]|((first|((try refine zaO ?_);apply za1)|(apply zaX;intro _));(solve|exact(hri)|exact(n1)|exact(n2)|exact(n3)|(refine CallOK.le (hri) ?_;exact zM)|(refine CallOK.le (n1) ?_;exact zM)|(refine CallOK.le (n2) ?_;exact zM)|(refine CallOK.le (n3) ?_;exact zM)|fail);try case hn=>rfl)|refine zav ?_|refine zaa (fun hb=> ?_) (fun hb=> ?_)|(refine And.intro ?_ ?_;exact zI)|refine And.intro (fun hg=> ?_) (fun hg=> ?_)|exact zC|fail)
 have hh:zad (zhX s)=zad (za8 s.time)++zad (za8 s.num)++zad (za8 s.token)++[D.v (Value.int .u8 (s.sess.length:Int))]:=by simp[zhX,zad]
 refine zai (τ:=Nat) (fun i=>⟨[dd, .one (.ptr ⟨1,0,1⟩ 0),dd,dd, .one (.own ⟨4,1,1⟩ 0 (sb1 s i).length),ai i,dd,dd,dd,dd,dd,dd,dd,dd,dd,dd,dd,dd,dd,dd,dd,dd,dd,dd,dd,dd,dd,dd,dd,dd,dd,dd,dd,dd,dd,dd,dd,dd,dd,dd,dd,dd,dd,dd,dd,dd,dd,dd,dd,dd,dd,dd,dd,dd,dd,dd,dd,dd,dd,dd,dd,dd,dd,dd,dd,dd,dd,dd,dd,dd,dd,dd,dd,dd,dd,dd,dd,dd,dd,dd,dd,dd,dd,dd,dd,dd,dd,dd,dd,dd,dd,dd,dd,dd,dd,dd,dd,dd,dd,dd,dd,dd,dd,dd,dd,dd,dd,dd,dd,dd,dd,dd,dd,dd,dd,dd,dd,dd,dd,dd,dd,dd,dd,dd,dd,dd,dd,dd,dd,dd,dd,dd,dd,dd,dd,dd,dd,dd,dd,dd,dd,dd,dd,dd,dd,dd,dd,dd,dd,dd,dd,dd,dd,dd,dd,dd,dd],[(1,{next:=2,l:=[some {e:=1,var:=true,fz:=false,sz:=0,cells:=[di s.time,di s.num,di s.token, .lent s.sess.length (zaK s.sess), .lent s.locks.length (zaj s.locks), .lent s.memos.length (zaD s.memos)]},none,none,none,none,none,none]}),(19,⟨2,[]⟩),(22,⟨2,[]⟩),(26,⟨2,[]⟩),(4,{next:=2,l:=[none,some {e:=1,var:=false,fz:=false,sz:=1,cells:=(zad (sb1 s i)).map C.d}]}),(33,⟨2,[]⟩),(6,⟨2,[]⟩),(51,⟨2,[]⟩),(52,⟨2,[]⟩),(55,⟨2,[]⟩),(56,⟨2,[]⟩),(59,⟨2,[]⟩),(60,⟨2,[]⟩)]⟩)
  (fun i=>i≤s.sess.length) (fun _=>()) (fun i=>s.sess.length - i) 0
  (Gh.canon [1,4] [6,51,52,55,56,59,60] [] (by simp only[zif,zhf,zcj,zdZ,zck,zcQ,zcR,zcS,List.set_cons_zero,List.set_cons_succ,and_true,true_and,Int.natCast_zero,Int.cast_ofNat_Int,D.v.injEq,Value.int.injEq];try(repeat'(first|rfl|omega|with_reducible apply And.intro))) rfl (by rw[zif,hh];rfl)) (Nat.zero_le _) ?_
 intro i hi0 hF K hK
 repeat(first|with_reducible refine zab _ _ ?_|with_reducible refine And.imp_right (zab _ _) ?_|with_reducible refine And.imp_right (And.imp_right (zab _ _)) ?_|with_reducible refine And.imp_right (And.imp_right (And.imp_right (zab _ _))) ?_|rw[zay]|simp only[zB,Nat.reduceSub,Nat.reduceEqDiff,Nat.reduceAdd,Nat.reduceMul,Nat.reduceLeDiff,Nat.reduceLT,Nat.reduceBEq,reduceCtorEq])
 refine zaa (fun hlt=> ?_) (fun hge=> ?_)
 ·have hi:i<s.sess.length:=by simpa using hlt
  have hat:=zbf hi
  have hw:=zak hi (by omega)
  obtain⟨f1,f2,f3⟩:=zb0.1 (h.sok _ (List.getElem_mem hi)).1
  simp only[isClient,Bool.and_eq_true,decide_eq_true_eq]at f1
  have wc:IntKind.u8.wrap s.sess[i].client=s.sess[i].client:=zdt (by omega) (by omega)
  have m1:=zcH s.sess[i].num (by omega)
  have m2:=zcH s.sess[i].renewed (by omega)
  have hb:=zi9 s i
  have e1:((sb1 s i).length+1≤2^47)=True:=eq_true (by omega)
  have e2:((sb1 s i).length+1+8≤2^47)=True:=eq_true (by omega)
  have e3:((sb1 s i).length+1+8+8≤2^47)=True:=eq_true (by omega)
  have hsl:(sb1 s (i+1)).length=(sb1 s i).length+1+8+8:=by rw[zli hi,List.length_append,zi7]
  repeat'(first|(with_reducible first|refine zab _ _ ?_|refine zaF ?_|refine zaG ?_)|rw[zay]|simp only[hat,List.cons_append,List.nil_append,zaq,t8,t1,wc,e1,e2,e3,tk1,tk2,zaI,List.length_map,zaR,zY,Int.reduceEq,Int.reduceBEq,Int.reduceBNe,Nat.reduceSub,Nat.reduceEqDiff,Nat.reduceAdd,Nat.reduceMul,Nat.reduceLeDiff,Nat.reduceLT,Nat.reduceBEq,reduceCtorEq]|((first|((try refine zaO ?_);apply za1)|(apply zaX;intro _));(solve|exact(m1)|exact(m2)|(refine CallOK.le (m1) ?_;exact zM)|(refine CallOK.le (m2) ?_;exact zM)|fail);try case hn=>rfl)|refine zav ?_|refine zaa (fun hb=> ?_) (fun hb=> ?_)|(refine And.intro ?_ ?_;exact zI)|refine And.intro (fun hg=> ?_) (fun hg=> ?_)|exact zC|fail)
  exact hK _ (i+1) (Gh.canon [1,4] [] [] (by simp only[hw,hsl,zcj,zdZ,zck,zcQ,zcR,zcS,List.set_cons_zero,List.set_cons_succ,and_true,true_and,Int.natCast_zero,Int.cast_ofNat_Int,D.v.injEq,Value.int.injEq];try(repeat'(first|rfl|omega|with_reducible apply And.intro))) rfl (by rw[zli hi];simp only[zad,List.map_append,zhz,List.map_cons,List.append_assoc,List.cons_append,List.nil_append];rfl)) hi rfl (by omega)
 ·have hi:i=s.sess.length:=by
   have:¬(i:Int)<s.sess.length:=by simpa using hge
   omega
  subst hi
  clear hK
  have w2:IntKind.u8.wrap (s.locks.length:Int)=s.locks.length:=zdt (by omega) (by omega)
  have hb:=zi9 s s.sess.length
  have hle:((sb1 s s.sess.length).length+1≤2^47)=True:=eq_true (by omega)
  repeat'(first|(with_reducible first|refine zab _ _ ?_|refine zaF ?_|refine zaG ?_)|rw[zay]|simp only[hle,t1,w2,zaI,List.length_map,zY,Int.reduceEq,Int.reduceBEq,Int.reduceBNe,Nat.reduceSub,Nat.reduceEqDiff,Nat.reduceAdd,Nat.reduceMul,Nat.reduceLeDiff,Nat.reduceLT,Nat.reduceBEq,reduceCtorEq]|refine zav ?_|refine zaa (fun hb=> ?_) (fun hb=> ?_)|(refine And.intro ?_ ?_;exact zI)|refine And.intro (fun hg=> ?_) (fun hg=> ?_)|exact zC|fail)
  refine zai (τ:=Nat) (fun i=>⟨[dd, .one (.ptr ⟨1,0,1⟩ 0),dd,dd, .one (.own ⟨4,1,1⟩ 0 (sb2 s i).length),dd,dd,ai i,dd,dd,dd,dd,dd,dd,dd,dd,dd,dd,dd,dd,dd,dd,dd,dd,dd,dd,dd,dd,dd,dd,dd,dd,dd,dd,dd,dd,dd,dd,dd,dd,dd,dd,dd,dd,dd,dd,dd,dd,dd,dd,dd,dd,dd,dd,dd,dd,dd,dd,dd,dd,dd,dd,dd,dd,dd,dd,dd,dd,dd,dd,dd,dd,dd,dd,dd,dd,dd,dd,dd,dd,dd,dd,dd,dd,dd,dd,dd,dd,dd,dd,dd,dd,dd,dd,dd,dd,dd,dd,dd,dd,dd,dd,dd,dd,dd,dd,dd,dd,dd,dd,dd,dd,dd,dd,dd,dd,dd,dd,dd,dd,dd,dd,dd,dd,dd,dd,dd,dd,dd,dd,dd,dd,dd,dd,dd,dd,dd,dd,dd,dd,dd,dd,dd,dd,dd,dd,dd,dd,dd,dd,dd,dd,dd,dd,dd,dd,dd],[(1,{next:=2,l:=[some {e:=1,var:=true,fz:=false,sz:=0,cells:=[di s.time,di s.num,di s.token, .lent s.sess.length (zaK s.sess), .lent s.locks.length (zaj s.locks), .lent s.memos.length (zaD s.memos)]},none,none,none,none,none,none]}),(19,⟨2,[]⟩),(22,⟨2,[]⟩),(26,⟨2,[]⟩),(4,{next:=2,l:=[none,some {e:=1,var:=false,fz:=false,sz:=1,cells:=(zad (sb2 s i)).map C.d}]}),(33,⟨2,[]⟩),(6,⟨2,[]⟩),(51,⟨2,[]⟩),(52,⟨2,[]⟩),(55,⟨2,[]⟩),(56,⟨2,[]⟩),(59,⟨2,[]⟩),(60,⟨2,[]⟩),(66,⟨2,[]⟩),(8,⟨2,[]⟩),(85,⟨2,[]⟩),(86,⟨2,[]⟩),(89,⟨2,[]⟩),(94,⟨2,[]⟩),(95,⟨2,[]⟩),(98,⟨2,[]⟩),(99,⟨2,[]⟩),(105,⟨2,[]⟩),(106,⟨2,[]⟩),(121,⟨2,[]⟩),(122,⟨2,[]⟩)]⟩)
   (fun i=>i≤s.locks.length) (fun _=>()) (fun i=>s.locks.length - i) 0
   (Gh.canon [1,4] [8,85,86,89,94,95,98,99,105,106,121,122] [] (by simp only[zih,List.length_append,List.length_singleton,zcj,zdZ,zck,zcQ,zcR,zcS,List.set_cons_zero,List.set_cons_succ,and_true,true_and,Int.natCast_zero,Int.cast_ofNat_Int,D.v.injEq,Value.int.injEq];try(repeat'(first|rfl|omega|with_reducible apply And.intro))) rfl (by rw[zih];simp only[zad,List.map_append];rfl)) (Nat.zero_le _) ?_
  intro i hi0 hF K hK
  repeat(first|with_reducible refine zab _ _ ?_|with_reducible refine And.imp_right (zab _ _) ?_|with_reducible refine And.imp_right (And.imp_right (zab _ _)) ?_|with_reducible refine And.imp_right (And.imp_right (And.imp_right (zab _ _))) ?_|rw[zay]|simp only[zB,Nat.reduceSub,Nat.reduceEqDiff,Nat.reduceAdd,Nat.reduceMul,Nat.reduceLeDiff,Nat.reduceLT,Nat.reduceBEq,reduceCtorEq])
  refine zaa (fun hlt=> ?_) (fun hge=> ?_)
  ·have hi:i<s.locks.length:=by simpa using hlt
   have hat:=zaP hi
   have hw:=zak hi (by omega)
   obtain⟨q0,q1,q2,q3,q4,q5⟩:=zeB h (List.getElem_mem hi)
   have wc:IntKind.u8.wrap s.locks[i].holder=s.locks[i].holder:=zdt (by omega) (by omega)
   have wn:IntKind.u8.wrap (s.locks[i].name.size:Int)=s.locks[i].name.size:=zdt (by omega) (by omega)
   have wl:IntKind.u8.wrap (s.locks[i].line.length:Int)=s.locks[i].line.length:=zdt (by omega) (by omega)
   have m2:=zcH s.locks[i].token (by omega)
   have hb:=zjb h i
   have e1:((sb2 s i).length+1≤2^47)=True:=eq_true (by omega)
   have e2:((sb2 s i).length+1+s.locks[i].name.size≤2^47)=True:=eq_true (by omega)
   have e3:((sb2 s i).length+1+s.locks[i].name.size+1≤2^47)=True:=eq_true (by omega)
   have e4:((sb2 s i).length+1+s.locks[i].name.size+1+8≤2^47)=True:=eq_true (by omega)
   have e5:((sb2 s i).length+1+s.locks[i].name.size+1+8+1≤2^47)=True:=eq_true (by omega)
   have hs0:(zhQ s i s.locks[i] 0).length=(sb2 s i).length+1+s.locks[i].name.size+1+8+1:=by rw[zja,List.length_append,zi8];omega
   repeat'(first|(with_reducible first|refine zab _ _ ?_|refine zaF ?_|refine zaG ?_)|rw[zay]|simp only[hat,List.cons_append,List.nil_append,zaf,t8,t1,wc,wl,wn,e1,e2,e3,e4,e5,tk1,tk3,tk4,tk5,zaI,zcY,List.length_map,zaR,zY,Int.reduceEq,Int.reduceBEq,Int.reduceBNe,Nat.reduceSub,Nat.reduceEqDiff,Nat.reduceAdd,Nat.reduceMul,Nat.reduceLeDiff,Nat.reduceLT,Nat.reduceBEq,reduceCtorEq]|((first|((try refine zaO ?_);apply za1)|(apply zaX;intro _));(solve|exact(m2)|(refine CallOK.le (m2) ?_;exact zM)|fail);try case hn=>rfl)|refine zav ?_|refine zaa (fun hb=> ?_) (fun hb=> ?_)|(refine And.intro ?_ ?_;exact zI)|refine And.intro (fun hg=> ?_) (fun hg=> ?_)|exact zC|fail)
   refine zai (τ:=Nat) (fun j=>⟨[dd, .one (.ptr ⟨1,0,1⟩ 0),dd,dd, .one (.own ⟨4,1,1⟩ 0 (zhQ s i s.locks[i] j).length),dd,dd,ai i, .one (.ptr ⟨8,0,1⟩ 0),ai j,dd,dd,dd,dd,dd,dd,dd,dd,dd,dd,dd,dd,dd,dd,dd,dd,dd,dd,dd,dd,dd,dd,dd,dd,dd,dd,dd,dd,dd,dd,dd,dd,dd,dd,dd,dd,dd,dd,dd,dd,dd,dd,dd,dd,dd,dd,dd,dd,dd,dd,dd,dd,dd,dd,dd,dd,dd,dd,dd,dd,dd,dd,dd,dd,dd,dd,dd,dd,dd,dd,dd,dd,dd,dd,dd,dd,dd,dd,dd,dd,dd,dd,dd,dd,dd,dd,dd,dd,dd,dd,dd,dd,dd,dd,dd,dd,dd,dd,dd,dd,dd,dd,dd,dd,dd,dd,dd,dd,dd,dd,dd,dd,dd,dd,dd,dd,dd,dd,dd,dd,dd,dd,dd,dd,dd,dd,dd,dd,dd,dd,dd,dd,dd,dd,dd,dd,dd,dd,dd,dd,dd,dd,dd,dd,dd,dd,dd],[(1,{next:=2,l:=[some {e:=1,var:=true,fz:=false,sz:=0,cells:=[di s.time,di s.num,di s.token, .lent s.sess.length (zaK s.sess), .lent s.locks.length (zaj s.locks), .lent s.memos.length (zaD s.memos)]},none,none,none,none,none,none]}),(19,⟨2,[]⟩),(22,⟨2,[]⟩),(26,⟨2,[]⟩),(4,{next:=2,l:=[none,some {e:=1,var:=false,fz:=false,sz:=1,cells:=(zad (zhQ s i s.locks[i] j)).map C.d}]}),(33,⟨2,[]⟩),(6,⟨2,[]⟩),(51,⟨2,[]⟩),(52,⟨2,[]⟩),(55,⟨2,[]⟩),(56,⟨2,[]⟩),(59,⟨2,[]⟩),(60,⟨2,[]⟩),(66,⟨2,[]⟩),(8,{next:=2,l:=[some {e:=1,var:=true,fz:=false,sz:=0,cells:=[dS s.locks[i].name,di s.locks[i].holder,di s.locks[i].token, .d (.sl s.locks[i].line.length (zaJ s.locks[i].line))]},none,none,none,none]}),(85,⟨2,[]⟩),(86,⟨2,[]⟩),(89,⟨2,[]⟩),(94,⟨2,[]⟩),(95,⟨2,[]⟩),(98,⟨2,[]⟩),(99,⟨2,[]⟩),(105,⟨2,[]⟩),(106,⟨2,[]⟩),(121,⟨2,[]⟩),(122,⟨2,[]⟩)]⟩)
    (fun j=>j≤s.locks[i].line.length) (fun _=>()) (fun j=>s.locks[i].line.length - j) 0
    (Gh.canon [1,4,8] [] [] (by simp only[hs0,zcj,zdZ,zck,zcQ,zcR,zcS,List.set_cons_zero,List.set_cons_succ,and_true,true_and,Int.natCast_zero,Int.cast_ofNat_Int,D.v.injEq,Value.int.injEq];try(repeat'(first|rfl|omega|with_reducible apply And.intro))) rfl (by rw[zja];simp only[lk0,zeC,zad,List.map_append,List.map_cons,List.map_nil,List.map_map,List.append_assoc,List.cons_append,List.nil_append];rfl)) (Nat.zero_le _) ?_
   intro j hj0 hF2 K2 hK2
   repeat(first|with_reducible refine zab _ _ ?_|with_reducible refine And.imp_right (zab _ _) ?_|with_reducible refine And.imp_right (And.imp_right (zab _ _)) ?_|with_reducible refine And.imp_right (And.imp_right (And.imp_right (zab _ _))) ?_|rw[zay]|simp only[zB,Nat.reduceSub,Nat.reduceEqDiff,Nat.reduceAdd,Nat.reduceMul,Nat.reduceLeDiff,Nat.reduceLT,Nat.reduceBEq,reduceCtorEq])
   refine zaa (fun hlt2=> ?_) (fun hge2=> ?_)
   ·have hj:j<s.locks[i].line.length:=by simpa using hlt2
    have hat2:=zb7 hj
    have hw2:=zak hj (by omega)
    have q6:=q5 _ (List.getElem_mem hj)
    have wd:IntKind.u8.wrap s.locks[i].line[j]=s.locks[i].line[j]:=zdt (by omega) (by omega)
    have hlj:(zhQ s i s.locks[i] j).length≤300:=by
     rw[zhQ,List.length_append,List.length_append,zi8,List.length_take];omega
    have hle3:((zhQ s i s.locks[i] j).length+1≤2^47)=True:=eq_true (by omega)
    have hsl3:(zhQ s i s.locks[i] (j+1)).length=(zhQ s i s.locks[i] j).length+1:=by rw[zhg hj,List.length_append,List.length_singleton]
    repeat'(first|(with_reducible first|refine zab _ _ ?_|refine zaF ?_|refine zaG ?_)|rw[zay]|simp only[hat2,List.cons_append,List.nil_append,zah,t1,wd,hle3,zaI,List.length_map,zY,Int.reduceEq,Int.reduceBEq,Int.reduceBNe,Nat.reduceSub,Nat.reduceEqDiff,Nat.reduceAdd,Nat.reduceMul,Nat.reduceLeDiff,Nat.reduceLT,Nat.reduceBEq,reduceCtorEq]|refine zav ?_|refine zaa (fun hb=> ?_) (fun hb=> ?_)|(refine And.intro ?_ ?_;exact zI)|refine And.intro (fun hg=> ?_) (fun hg=> ?_)|exact zC|fail)
    exact hK2 _ (j+1) (Gh.canon [1,4,8] [] [] (by simp only[hw2,hsl3,zcj,zdZ,zck,zcQ,zcR,zcS,List.set_cons_zero,List.set_cons_succ,and_true,true_and,Int.natCast_zero,Int.cast_ofNat_Int,D.v.injEq,Value.int.injEq];try(repeat'(first|rfl|omega|with_reducible apply And.intro))) rfl (by rw[zhg hj];simp only[zad,List.map_append];rfl)) hj rfl (by omega)
   ·have hj:j=s.locks[i].line.length:=by
     have:¬(j:Int)<s.locks[i].line.length:=by simpa using hge2
     omega
    subst hj
    repeat'(first|(with_reducible first|refine zab _ _ ?_|refine zaF ?_|refine zaG ?_)|rw[zay]|simp only[zY,Int.reduceEq,Int.reduceBEq,Int.reduceBNe,Nat.reduceSub,Nat.reduceEqDiff,Nat.reduceAdd,Nat.reduceMul,Nat.reduceLeDiff,Nat.reduceLT,Nat.reduceBEq,reduceCtorEq]|refine zav ?_|refine zaa (fun hb=> ?_) (fun hb=> ?_)|(refine And.intro ?_ ?_;exact zI)|refine And.intro (fun hg=> ?_) (fun hg=> ?_)|exact zC|fail)
    exact hK _ (i+1) (Gh.canon [1,4] [] [] (by simp only[hw,zij hi,zcj,zdZ,zck,zcQ,zcR,zcS,List.set_cons_zero,List.set_cons_succ,and_true,true_and,Int.natCast_zero,Int.cast_ofNat_Int,D.v.injEq,Value.int.injEq];try(repeat'(first|rfl|omega|with_reducible apply And.intro))) rfl (by rw[zij hi];rfl)) hi rfl (by omega)
  ·have hi:i=s.locks.length:=by
    have:¬(i:Int)<s.locks.length:=by simpa using hge
    omega
   subst hi
   clear hK
   have hml:=zeS h
   have w3:IntKind.u8.wrap (s.memos.length:Int)=s.memos.length:=zdt (by omega) (by omega)
   have hb2:=zjb h s.locks.length
   have hle2:((sb2 s s.locks.length).length+1≤2^47)=True:=eq_true (by omega)
   repeat'(first|(with_reducible first|refine zab _ _ ?_|refine zaF ?_|refine zaG ?_)|rw[zay]|simp only[hle2,t1,w3,zaI,List.length_map,zY,Int.reduceEq,Int.reduceBEq,Int.reduceBNe,Nat.reduceSub,Nat.reduceEqDiff,Nat.reduceAdd,Nat.reduceMul,Nat.reduceLeDiff,Nat.reduceLT,Nat.reduceBEq,reduceCtorEq]|refine zav ?_|refine zaa (fun hb=> ?_) (fun hb=> ?_)|(refine And.intro ?_ ?_;exact zI)|refine And.intro (fun hg=> ?_) (fun hg=> ?_)|exact zC|fail)
   refine zai (τ:=Nat) (fun i=>⟨[dd, .one (.ptr ⟨1,0,1⟩ 0),dd,dd, .one (.own ⟨4,1,1⟩ 0 (sb3 s i).length),dd,dd,dd,dd,dd,ai i,dd,dd,dd,dd,dd,dd,dd,dd,dd,dd,dd,dd,dd,dd,dd,dd,dd,dd,dd,dd,dd,dd,dd,dd,dd,dd,dd,dd,dd,dd,dd,dd,dd,dd,dd,dd,dd,dd,dd,dd,dd,dd,dd,dd,dd,dd,dd,dd,dd,dd,dd,dd,dd,dd,dd,dd,dd,dd,dd,dd,dd,dd,dd,dd,dd,dd,dd,dd,dd,dd,dd,dd,dd,dd,dd,dd,dd,dd,dd,dd,dd,dd,dd,dd,dd,dd,dd,dd,dd,dd,dd,dd,dd,dd,dd,dd,dd,dd,dd,dd,dd,dd,dd,dd,dd,dd,dd,dd,dd,dd,dd,dd,dd,dd,dd,dd,dd,dd,dd,dd,dd,dd,dd,dd,dd,dd,dd,dd,dd,dd,dd,dd,dd,dd,dd,dd,dd,dd,dd,dd,dd,dd,dd,dd,dd,dd],[(1,{next:=2,l:=[some {e:=1,var:=true,fz:=false,sz:=0,cells:=[di s.time,di s.num,di s.token, .lent s.sess.length (zaK s.sess), .lent s.locks.length (zaj s.locks), .lent s.memos.length (zaD s.memos)]},none,none,none,none,none,none]}),(19,⟨2,[]⟩),(22,⟨2,[]⟩),(26,⟨2,[]⟩),(4,{next:=2,l:=[none,some {e:=1,var:=false,fz:=false,sz:=1,cells:=(zad (sb3 s i)).map C.d}]}),(33,⟨2,[]⟩),(6,⟨2,[]⟩),(51,⟨2,[]⟩),(52,⟨2,[]⟩),(55,⟨2,[]⟩),(56,⟨2,[]⟩),(59,⟨2,[]⟩),(60,⟨2,[]⟩),(66,⟨2,[]⟩),(8,⟨2,[]⟩),(85,⟨2,[]⟩),(86,⟨2,[]⟩),(89,⟨2,[]⟩),(94,⟨2,[]⟩),(95,⟨2,[]⟩),(98,⟨2,[]⟩),(99,⟨2,[]⟩),(105,⟨2,[]⟩),(106,⟨2,[]⟩),(121,⟨2,[]⟩),(122,⟨2,[]⟩),(128,⟨2,[]⟩),(11,⟨2,[]⟩),(12,⟨2,[]⟩),(150,⟨2,[]⟩),(155,⟨2,[]⟩)]⟩)
    (fun i=>i≤s.memos.length) (fun _=>()) (fun i=>s.memos.length - i) 0
    (Gh.canon [1,4] [11,12,150,155] [] (by simp only[zii,List.length_append,List.length_singleton,zcj,zdZ,zck,zcQ,zcR,zcS,List.set_cons_zero,List.set_cons_succ,and_true,true_and,Int.natCast_zero,Int.cast_ofNat_Int,D.v.injEq,Value.int.injEq];try(repeat'(first|rfl|omega|with_reducible apply And.intro))) rfl (by rw[zii];simp only[zad,List.map_append];rfl)) (Nat.zero_le _) ?_
   intro i hi0 hF K hK
   repeat(first|with_reducible refine zab _ _ ?_|with_reducible refine And.imp_right (zab _ _) ?_|with_reducible refine And.imp_right (And.imp_right (zab _ _)) ?_|with_reducible refine And.imp_right (And.imp_right (And.imp_right (zab _ _))) ?_|rw[zay]|simp only[zB,Nat.reduceSub,Nat.reduceEqDiff,Nat.reduceAdd,Nat.reduceMul,Nat.reduceLeDiff,Nat.reduceLT,Nat.reduceBEq,reduceCtorEq])
   refine zaa (fun hlt=> ?_) (fun hge=> ?_)
   ·have hi:i<s.memos.length:=by simpa using hlt
    have hat:=zcl hi
    have hw:=zak hi (by omega)
    have hma:=h.mok _ (List.getElem_mem hi)
    have hpa:=zlo s.memos[i] hma
    have hb3:=zjc h i
    have hal:=zgu hma
    have hle3:((sb3 s i).length+(za3 s.memos[i]).length≤2^47)=True:=eq_true (by omega)
    have hsl3:(sb3 s (i+1)).length=(sb3 s i).length+(za3 s.memos[i]).length:=by rw[zie hi,List.length_append]
    repeat'(first|(with_reducible first|refine zab _ _ ?_|refine zaF ?_|refine zaG ?_)|rw[zay]|simp only[hat,List.cons_append,List.nil_append,zaA,zaI,hle3,zaH,List.length_map,zY,Int.reduceEq,Int.reduceBEq,Int.reduceBNe,Nat.reduceSub,Nat.reduceEqDiff,Nat.reduceAdd,Nat.reduceMul,Nat.reduceLeDiff,Nat.reduceLT,Nat.reduceBEq,reduceCtorEq]|((first|((try refine zaO ?_);apply za1)|(apply zaX;intro _));(solve|exact(hpa)|(refine CallOK.le (hpa) ?_;exact zM)|fail);try case hn=>rfl)|refine zav ?_|refine zaa (fun hb=> ?_) (fun hb=> ?_)|(refine And.intro ?_ ?_;exact zI)|refine And.intro (fun hg=> ?_) (fun hg=> ?_)|exact zC|fail)
    exact hK _ (i+1) (Gh.canon [1,4] [] [] (by simp only[hw,hsl3,zcj,zdZ,zck,zcQ,zcR,zcS,List.set_cons_zero,List.set_cons_succ,and_true,true_and,Int.natCast_zero,Int.cast_ofNat_Int,D.v.injEq,Value.int.injEq];try(repeat'(first|rfl|omega|with_reducible apply And.intro))) rfl (by rw[zie hi];simp only[zad,List.map_append];rfl)) hi rfl (by omega)
   ·have hi:i=s.memos.length:=by
     have:¬(i:Int)<s.memos.length:=by simpa using hge
     omega
    subst hi
    repeat'(first|(with_reducible first|refine zab _ _ ?_|refine zaF ?_|refine zaG ?_)|rw[zay]|simp only[zY,Int.reduceEq,Int.reduceBEq,Int.reduceBNe,Nat.reduceSub,Nat.reduceEqDiff,Nat.reduceAdd,Nat.reduceMul,Nat.reduceLeDiff,Nat.reduceLT,Nat.reduceBEq,reduceCtorEq]|refine zav ?_|refine zaa (fun hb=> ?_) (fun hb=> ?_)|(refine And.intro ?_ ?_;exact zI)|refine And.intro (fun hg=> ?_) (fun hg=> ?_)|exact zC|fail)
    rfl
theorem znN (s:Sn) (h:zbv s=true):CallOK Tryz.prog 18 [.f (.agg s.lent)] (fun r o=>r=[.one (.own 1 (snI s).length (zad (snI s)) false),ri 0]∧o=[]):=by
 obtain⟨f1,f2,f3,f4⟩:=zha h
 refine zac zao mixed (T:=Ty) (n:=32) Tryz.func18 (c:=Tryz.f18.body.getD .skip) rfl Tryz.results18 Tryz.ntmps18 Tryz.call18 ?_
 simp only[Tryz.f18,Option.getD]
 have hm:=zji s (zbo f4)
 rw[h]at hm
 have hp:=zwj s.st f4
 have m1:=zcH s.done f1
 have m2:=zcH s.view f2
 have m3:=zcH s.slot f3
 have hl:=zjc f4 s.st.memos.length
 have hml:=zeS f4
 have hle:(24+(zcm s.st).length≤2^47)=True:=eq_true (by unfold zcm;omega)
 have t8:∀v:Int,(zad (za8 v)).take 8=zad (za8 v):=fun v=>List.take_of_length_le (by rw[zcF];decide)
 have t16:∀v w:Int,(zad (za8 v)++zad (za8 w)).take 16=zad (za8 v)++zad (za8 w):=fun v w=>List.take_of_length_le (by simp[zaR])
 have t24:∀v w x:Int,(zad (za8 v)++zad (za8 w)++zad (za8 x)).take 24=zad (za8 v)++zad (za8 w)++zad (za8 x):=fun v w x=>List.take_of_length_le (by simp[zaR])
 have hsl:(snI s).length=24+(zcm s.st).length:=by simp[snI,zaR];omega
 rw[hsl,show zad (snI s)=zad (za8 s.done)++zad (za8 s.view)++zad (za8 s.slot)++zad (zcm s.st) from by simp[snI,zad]]
 repeat'(first|(with_reducible first|refine zab _ _ ?_|refine zaF ?_|refine zaG ?_)|rw[zay]|simp only[t8,t16,t24,hle,zaI,List.length_map,zaR,zY,Int.reduceEq,Int.reduceBEq,Int.reduceBNe,Nat.reduceSub,Nat.reduceEqDiff,Nat.reduceAdd,Nat.reduceMul,Nat.reduceLeDiff,Nat.reduceLT,Nat.reduceBEq,reduceCtorEq]|((first|((try refine zaO ?_);apply za1)|(apply zaX;intro _));(solve|exact(hm)|exact(m1)|exact(m2)|exact(m3)|exact(hp)|(refine CallOK.le (hm) ?_;exact zM)|(refine CallOK.le (m1) ?_;exact zM)|(refine CallOK.le (m2) ?_;exact zM)|(refine CallOK.le (m3) ?_;exact zM)|(refine CallOK.le (hp) ?_;exact zM)|fail);try case hn=>rfl)|refine zav ?_|refine zaa (fun hb=> ?_) (fun hb=> ?_)|(refine And.intro ?_ ?_;exact zI)|refine And.intro (fun hg=> ?_) (fun hg=> ?_)|exact zC|fail)
theorem zso (acts:List Act) (hl:acts.length<2^60) (ha:∀a∈acts,znp a) (d v s:Int) (hd:zaN d) (hv:zaN v) (hs:zaN s):
  CallOK Tryz.prog 8 [.f (al acts.length (zmh acts)), .f (au d), .f (au v), .f (au s)] (fun r o=>r=[zxF ⟨d,v,s,zpn acts⟩]∧o=[]):=by
 refine zac zao mixed (T:=Ty) (n:=19) Tryz.func8 (c:=Tryz.f8.body.getD .skip) rfl Tryz.results8 Tryz.ntmps8 Tryz.call8 ?_
 simp only[Tryz.f8,Option.getD]
 have hm:=zvY acts hl ha
 have w1:=zcZ hd
 have w2:=zcZ hv
 have w3:=zcZ hs
 repeat'(first|refine zq (I w1 (I w2 w3)) ?_|exact zd (I w1 (I w2 w3))|refine zc (hm) ?_|refine zg (hm) ?_|(refine zaa ?_ ?_<;>intro hb)|(refine And.intro ?_ ?_;exact zI)|(refine And.intro ?_ ?_<;>intro hg)|exact zC|fail)
 rfl
def zxH (a b:Sn):Bool:=(a.done==b.done)&&((a.view==b.view)&&(a.slot==b.slot))&&zsJ a.st b.st
theorem znM (a b:Sn) (ha:Small a.st) (hb:Small b.st):CallOK Tryz.prog 24 [.f (.agg a.lent), .f (.agg b.lent)] (fun r o=>r=[rb (zxH a b)]∧o=[]):=by
 refine zac zao mixed (T:=Ty) (n:=24) Tryz.func24 (c:=Tryz.f24.body.getD .skip) rfl Tryz.results24 Tryz.ntmps24 Tryz.call24 ?_
 simp only[Tryz.f24,Option.getD]
 have hs:=zoR a.st b.st ha hb
 repeat'(first|refine zq0 ?_|exact zd0|refine zc (hs) ?_|refine zg (hs) ?_|(refine zaa ?_ ?_<;>intro hb)|(refine And.intro ?_ ?_;exact zI)|(refine And.intro ?_ ?_<;>intro hg)|exact zC|fail)
 rfl
theorem zfy {α:Type} {eq:α→α→Bool} (h:∀a,eq a a=true) (l:List α):sameL eq l l=true:=by
 unfold sameL
 simp only[beq_self_eq_true,Bool.true_and,List.all_eq_true]
 intro p hp
 obtain⟨j,h1,h2⟩:=List.getElem_of_mem hp
 rw[←h2,List.getElem_zip]
 exact h _
theorem zp0 (l:List Int):sameL zhF l l=true:=zfy (fun x=>by simp[zhF]) l
theorem zsp (l:List Grant):sameL zoP l l=true:=zfy (fun x=>by simp[zoP]) l
theorem zlm (s:St):zsJ s s=true:=by
 unfold zsJ
 rw[zfy (fun a=>by simp[zmJ]),zfy (fun a=>by simp[eqLk,zp0]),zfy (fun a=>by simp[eqMe,zsp])]
 simp
theorem zug (s:Sn):zxH s s=true:=by simp[zxH,zlm]
abbrev Z27:List Int:=List.replicate 27 0
theorem zln:zcm st0=Z27:=by kernel_rfl
theorem st0_small:Small st0:=zbo zfr
theorem zxe:BsOk Z27:=⟨by decide,by intro x hx;rw[List.mem_replicate]at hx;rw[hx.2];exact⟨by decide,by decide⟩⟩
theorem zxI:dSt Z27 0=(st0,27,0):=by
 have h:=zr9 (bs:=Z27) (p:=0) (s:=st0) (rest:=[]) (by rw[zln];rfl) zfr
 rw[zln]at h
 have h:zdo Z27 0= .ok (st0,((0+27:Nat):Int)):=h
 unfold dSt
 rw[h]
 rfl
set_option maxHeartbeats 2000000 in
theorem zp1:CallOK Tryz.prog 12 [] (fun r o=>r=[rb true]∧o=[]):=by
 refine zac zao mixed (T:=Ty) (n:=50) Tryz.func12 (c:=Tryz.f12.body.getD .skip) rfl Tryz.results12 Tryz.ntmps12 Tryz.call12 ?_
 simp only[Tryz.f12,Option.getD]
 have hp:=zke st0 zfr
 rw[zln]at hp
 have hp:CallOK Tryz.prog 14 [.f (.agg [di 0,di 0,di 0, .lent 0 [], .lent 0 [], .lent 0 []])] (fun r o=>r=[.one (.own 1 27 (zad Z27) false),ri 0]∧o=[]):=hp
 have hg:=zpO Z27 0 zxe (by unfold i64;omega)
 rw[zxI]at hg
 have hg:CallOK Tryz.prog 16 [.f (asl 27 (zad Z27)), .f (ai 0)] (fun r o=>r=[.agg [.d (iD 0), .d (iD 0), .d (iD 0), .d (.sl 0 []), .d (.sl 0 []), .d (.sl 0 [])],ri 27,ri 0]∧o=[]):=hg
 have hs:=zoR st0 st0 st0_small st0_small
 rw[zlm]at hs
 have hs:CallOK Tryz.prog 23 [.f (.agg [di 0,di 0,di 0, .lent 0 [], .lent 0 [], .lent 0 []]), .f (.agg [di 0,di 0,di 0, .lent 0 [], .lent 0 [], .lent 0 []])] (fun r o=>r=[rb true]∧o=[]):=hs
 have hq:=zoQ st0 st0 st0_small st0_small
 rw[zlm]at hq
 have hq:CallOK Tryz.prog 22 [.f (.agg [di 0,di 0,di 0, .lent 0 [], .lent 0 [], .lent 0 []]), .f (.agg [di 0,di 0,di 0, .lent 0 [], .lent 0 [], .lent 0 []])] (fun r o=>r=[rb true]∧o=[]):=hq
 have hq1:=zoQ st0 {st0 with num:=1} st0_small ⟨st0_small.sess,st0_small.locks,st0_small.memos,st0_small.line,st0_small.held⟩
 rw[show zsJ st0 {st0 with num:=1}=false from rfl]at hq1
 have hq1:CallOK Tryz.prog 22 [.f (.agg [di 0,di 0,di 0, .lent 0 [], .lent 0 [], .lent 0 []]), .f (.agg [di 0,di 1,di 0, .lent 0 [], .lent 0 [], .lent 0 []])] (fun r o=>r=[rb false]∧o=[]):=hq1
 repeat'(first|(with_reducible first|refine za9 2 ?_|refine zaS 2 ?_|refine zaT 2 ?_)|refine zu0 ?_|exact zd0|(with_reducible first|refine zab _ _ ?_)|refine zc (hp) ?_|refine zg (hp) ?_|(refine zaa ?_ ?_<;>intro hb)|(refine And.intro ?_ ?_;exact zI)|(refine And.intro ?_ ?_<;>intro hg)|exact zC|fail)
 refine za6 (zaZ (Gh.sealV 1 (x:= .own ⟨1,1,0⟩ 0 27) (d:= .sl 27 (zad Z27)) rfl (by simp only[zY,Nat.reduceSub,Nat.reduceEqDiff,Nat.reduceAdd,Nat.reduceMul,Nat.reduceLeDiff,Nat.reduceLT,Nat.reduceBEq,reduceCtorEq];rfl)) ?_)
 have hz1:bytesOf (zad Z27)=some (List.replicate 27 0):=rfl
 have hz2:bytesOf (zec [.int .u8 0] 27)=some [UInt8.ofNat 0,UInt8.ofNat 0,UInt8.ofNat 0,UInt8.ofNat 0,UInt8.ofNat 0,UInt8.ofNat 0,UInt8.ofNat 0,UInt8.ofNat 0,UInt8.ofNat 0,UInt8.ofNat 0,UInt8.ofNat 0,UInt8.ofNat 0,UInt8.ofNat 0,UInt8.ofNat 0,UInt8.ofNat 0,UInt8.ofNat 0,UInt8.ofNat 0,UInt8.ofNat 0,UInt8.ofNat 0,UInt8.ofNat 0,UInt8.ofNat 0,UInt8.ofNat 0,UInt8.ofNat 0,UInt8.ofNat 0,UInt8.ofNat 0,UInt8.ofNat 0,UInt8.ofNat 0]:=rfl
 have hz6:Int.toNat 27=27:=rfl
 have hz3:(zec [.int .u8 0] 27).take 27=zec [.int .u8 0] 27:=rfl
 have hz4:(zec [.int .u8 0] 27).length=27:=rfl
 have hz5:(zad Z27).length=27:=rfl
 repeat'(first|refine zq (I hz1 (I hz2 (I hz3 (I hz4 (I hz5 hz6))))) ?_|exact zd (I hz1 (I hz2 (I hz3 (I hz4 (I hz5 hz6)))))|refine zc (hg) ?_|refine zg (hg) ?_|refine zc (hs) ?_|refine zg (hs) ?_|refine zc (hq) ?_|refine zg (hq) ?_|refine zc (hq1) ?_|refine zg (hq1) ?_|(refine zaa ?_ ?_<;>intro hb)|(refine And.intro ?_ ?_;exact zI)|(refine And.intro ?_ ?_<;>intro hg)|exact zC|fail)
def NmS (s:St):Prop:=(∀k∈s.locks,k.name.size<2^62)∧∀m∈s.memos,∀g∈m.reply.held,g.name.size<2^62
theorem zsv (bs:List Int) (p:Int):Small (dSn bs p).1.st:=by
 unfold dSn
 cases h:zlf bs p with
 |error e=>exact st0_small
 |ok y=>
  unfold zlf at h
  cases e1:zef bs p with
  |error x=>rw[e1]at h;cases h
  |ok d=>
  rw[e1]at h;simp only at h
  cases e2:zef bs d.2 with
  |error x=>rw[e2]at h;cases h
  |ok v=>
  rw[e2]at h;simp only at h
  cases e3:zef bs v.2 with
  |error x=>rw[e3]at h;cases h
  |ok l=>
  rw[e3]at h;simp only at h
  cases e4:zdo bs l.2 with
  |error x=>rw[e4]at h;cases h
  |ok s=>
  rw[e4]at h;simp only at h
  split at h
  ·cases h
   exact zbo (zcv.1 (zd7 e4))
  ·cases h
abbrev zz7 (s:Sn):AV:= .agg (di s.done::di s.view::di s.slot::(stE s.st).map C.d)
theorem zgv {n:Int} (h:zaN n):within n=true:=by
 unfold zaN at h
 rw[zcP]
 simp;omega
theorem zuf (acts:List Act) {d v s:Int} (hd:zaN d) (hv:zaN v) (hs:zaN s):zbv ⟨d,v,s,zpn acts⟩=true:=by
 simp only[zbv,zgv hd,zgv hv,zgv hs,zcv.2 (zoA acts).rt,Bool.and_self]
def zz:ByteArray:=⟨#[122,122]⟩
theorem ztZ {r:Reply} (h:zbI r=true):∀x∈zby r,zaN x:=by
 obtain⟨f1,f2,f3,f4,f5⟩:=zb6 h
 have hg:=zcb h
 intro x hx
 simp only[zby,List.mem_append,List.mem_cons,List.not_mem_nil,or_false]at hx
 rcases hx with rfl|hx|(rfl|rfl)|hx
 ·unfold zaN;omega
 ·exact zeY _ x hx
 ·unfold zaN;omega
 ·unfold zaN;omega
 ·obtain⟨g,hgm,hx⟩:=List.mem_flatMap.1 hx
  have:=hg g hgm
  rcases List.mem_append.1 hx with hx|hx
  ·exact zsf _ (by omega) x hx
  ·exact zeY _ x hx
theorem zr8 {m:Memo} (h:answerB m=true):∀x∈za3 m,zaN x:=by
 obtain⟨f1,f2,f3⟩:=zcc h
 intro x hx
 simp only[za3,List.mem_append,List.mem_cons,List.not_mem_nil,or_false]at hx
 rcases hx with rfl|hx|hx
 ·unfold zaN;omega
 ·exact zeY _ x hx
 ·exact ztZ f3 x hx
theorem zt1 {s:St} (h:RightS s):∀x∈zcm s,zaN x:=by
 have h1:=h.sl
 have h2:=h.ll
 have h3:=zeS h
 intro x hx
 simp only[zcm,sb3,sb2,sb1,zhX,List.take_length,List.mem_append,List.mem_cons,List.not_mem_nil,or_false]at hx
 rcases hx with(((((hx|hx|hx|rfl)|hx)|rfl)|hx)|rfl)|hx
 ·exact zeY _ x hx
 ·exact zeY _ x hx
 ·exact zeY _ x hx
 ·unfold zaN;omega
 ·obtain⟨g,hg,hx⟩:=List.mem_flatMap.1 hx
  obtain⟨f1,_,_⟩:=zb0.1 (h.sok g hg).1
  simp only[isClient,Bool.and_eq_true,decide_eq_true_eq]at f1
  simp only[zhz,List.mem_cons,List.mem_append]at hx
  rcases hx with rfl|hx|hx
  ·unfold zaN;omega
  ·exact zeY _ x hx
  ·exact zeY _ x hx
 ·unfold zaN;omega
 ·obtain⟨k,hk,hx⟩:=List.mem_flatMap.1 hx
  obtain⟨q0,q1,q2,q3,q4,q5⟩:=zeB h hk
  simp only[zhA,lk0,List.mem_append,List.mem_cons,List.not_mem_nil,or_false]at hx
  rcases hx with(hx|rfl|hx|rfl)|hx
  ·exact zsf _ (by omega) x hx
  ·unfold zaN;omega
  ·exact zeY _ x hx
  ·unfold zaN;omega
  ·have:=q5 x hx;unfold zaN;omega
 ·unfold zaN;omega
 ·obtain⟨m,hm,hx⟩:=List.mem_flatMap.1 hx
  exact zr8 (h.mok m hm) x hx
theorem zt2 {s:St} (h:RightS s):(zcm s).length≤1100:=by
 have h1:=zjc h s.memos.length
 have h2:=zeS h
 unfold zcm
 omega
theorem zxp {n:Int} (h:(Lit.int .u8 n).wf=true):zaN n:=by
 have h2:(decide (IntKind.u8.min≤n)&&decide (n≤IntKind.u8.max))=true:=h
 have e1:IntKind.u8.min=0:=by decide
 have e2:IntKind.u8.max=255:=by decide
 rw[e1,e2]at h2
 simp only[Bool.and_eq_true,decide_eq_true_eq]at h2
 unfold zaN
 omega
theorem zqb {α:Type} {enc:α→List D} {ok:α→Prop} {s:Sh} (h:∀ds,ShD s ds→∃x,ds=enc x∧ok x):∀xs:List (List D),(∀x∈xs,ShD s x)→∃l:List α,l.length=xs.length∧xs.flatten=l.flatMap enc∧∀x∈l,ok x
 |[],_=>⟨[],rfl,rfl,fun x hx=>by cases hx⟩
 |x::xs,hx=>by
  obtain⟨a,ha1,ha2⟩:=h x (hx x (by simp))
  obtain⟨l,h1,h2,h3⟩:=zqb h xs fun y hy=>hx y (by simp[hy])
  refine⟨a::l,by simp[h1], ?_,fun y hy=> ?_⟩
  ·rw[List.flatten_cons,List.flatMap_cons,h2,ha1]
  ·rcases List.mem_cons.1 hy with rfl|hy
   ·exact ha2
   ·exact h3 y hy
theorem zvb:reachBytes<2^60:=by decide
theorem byte_of (ds:List D) (h:ShD (.int .u8) ds):∃x:Int,ds=[uD x]∧zaN x:=by
 simp only[ShD]at h
 obtain⟨n,rfl,hn⟩:=h
 exact⟨n,rfl,zxp hn⟩
abbrev zqc:Sh:= .struct [.int .u8, .int .u8, .int .u8, .int .u8, .int .u8, .int .u8]
theorem zww (ds:List D) (h:ShD zqc ds):∃a:Act,ds=a.enc∧znp a:=by
 rw[ShD]at h
 simp only[ShDs]at h
 obtain⟨_,_,rfl,h1,_,_,rfl,h2,_,_,rfl,h3,_,_,rfl,h4,_,_,rfl,h5,_,_,rfl,h6,rfl⟩:=h
 obtain⟨a,rfl,ha⟩:=byte_of _ h1
 obtain⟨b,rfl,hb⟩:=byte_of _ h2
 obtain⟨c,rfl,hc⟩:=byte_of _ h3
 obtain⟨d,rfl,hd⟩:=byte_of _ h4
 obtain⟨e,rfl,he⟩:=byte_of _ h5
 obtain⟨f,rfl,hf⟩:=byte_of _ h6
 exact⟨⟨a,b,c,d,e,f⟩,rfl,ha,hb,hc,hd,he,hf⟩
theorem zvc (ds:List D) (h:ShD (.slice 6 zqc) ds):∃l:List Act,ds=[.sl l.length (zmh l)]∧l.length<2^60∧∀x∈l,znp x:=by
 rw[ShD]at h
 obtain⟨xs,rfl,hx1,hx2⟩:=h
 obtain⟨l,l1,l2,l3⟩:=zqb zww xs hx2
 have:=zvb
 exact⟨l,by rw[←l1,l2],by omega,l3⟩
def zoX (n:Int):Prop:=0≤n∧n<65536
abbrev wD (n:Int):D:= .v (.int .u16 n)
abbrev aw (n:Int):AV:= .one (.d (wD n))
theorem zwx {n:Int} (h:(Lit.int .u16 n).wf=true):zoX n:=by
 have h2:(decide (IntKind.u16.min≤n)&&decide (n≤IntKind.u16.max))=true:=h
 have e1:IntKind.u16.min=0:=by decide
 have e2:IntKind.u16.max=65535:=by decide
 rw[e1,e2]at h2
 simp only[Bool.and_eq_true,decide_eq_true_eq]at h2
 unfold zoX
 omega
theorem zvd (ds:List D) (h:ShD (.int .u16) ds):∃x:Int,ds=[wD x]∧zoX x:=by
 simp only[ShD]at h
 obtain⟨n,rfl,hn⟩:=h
 exact⟨n,rfl,zwx hn⟩
theorem zxE {s:Sn} (h:RightS s.st):∀x∈snI s,zaN x:=by
 intro x hx
 unfold snI at hx
 simp only[List.mem_append]at hx
 rcases hx with hx|hx|hx|hx
 ·exact zeY _ x hx
 ·exact zeY _ x hx
 ·exact zeY _ x hx
 ·exact zt1 h x hx
set_option maxHeartbeats 8000000 in
theorem znE (acts:List Act) (hl:acts.length<2^60) (ha:∀a∈acts,znp a) (d v s:Int) (hd:zaN d) (hv:zaN v) (hs:zaN s) (at_:Int) (hat:zoX at_) (y:Int) (hy:zaN y):
  CallOK Tryz.prog 5 [.f (al acts.length (zmh acts)), .f (au d), .f (au v), .f (au s), .f (aw at_), .f (au y)] (fun r o=>r=[rb true]∧o=[]):=by
 refine zac zao mixed (T:=Ty) (n:=96) Tryz.func5 (c:=Tryz.f5.body.getD .skip) rfl Tryz.results5 Tryz.ntmps5 Tryz.call5 ?_
 simp only[Tryz.f5,Option.getD]
 have haw:=zp1
 have hmd:=zso acts hl ha d v s hd hv hs
 have hmm:=zuf acts hd hv hs
 have hrt:=(zoA acts).rt
 obtain⟨a,hA⟩:∃a:Sn,a=⟨d,v,s,zpn acts⟩:=⟨_,rfl⟩
 rw[←hA]at hmd hmm
 have hrt:RightS a.st:=by rw[hA];exact hrt
 have p3:=zpM a hmm
 have p4:=znN a hmm
 have hln:(snI a).length=24+(zcm a.st).length:=by simp[snI,zaR];omega
 have hsl:=zt2 hrt
 have hb:=zxE hrt
 obtain⟨M,hM⟩:∃M,bytesOf (zad (snI a))=some M:=⟨_,zc5 _⟩
 generalize snI a=B at*
 obtain⟨k,hk,hkl⟩:∃k:Nat,at_.tmod (B.length:Int)=(k:Int)∧k<B.length:=by
  unfold zoX at hat
  refine⟨(at_.tmod (B.length:Int)).toNat, ?_, ?_⟩
  ·rw[Int.toNat_of_nonneg (Int.tmod_nonneg _ hat.1)]
  ·have:=Int.tmod_lt_of_pos at_ (b:=(B.length:Int)) (by omega)
   have:=Int.tmod_nonneg (B.length:Int) hat.1
   omega
 have hw16:IntKind.i64.wrap at_=at_:=by unfold zoX at hat;exact wrap64 (by omega) (by omega)
 have hdr:(List.map C.d (zad B)).drop k=C.d (uD B[k])::((zad B).drop (k+1)).map C.d:=by
  rw[←List.map_drop,List.drop_eq_getElem_cons (by simpa using hkl)];simp
 obtain⟨Y,hY⟩:∃Y,IntKind.u8.wrap ((BitVec.ofInt IntKind.u8.bits B[k]^^^BitVec.ofInt IntKind.u8.bits y).toNat:Int)=Y:=⟨_,rfl⟩
 have hYb:zaN Y:=by rw[←hY];exact zkg _
 obtain⟨X,hX⟩:∃X,X=B.set k Y:=⟨_,rfl⟩
 have hXl:X.length=B.length:=by rw[hX,List.length_set]
 have hXb:BsOk X:=⟨by omega,fun x hx=>by
  rw[hX]at hx
  rcases List.mem_or_eq_of_mem_set hx with hx|rfl
  ·exact hb x hx
  ·exact hYb⟩
 have hset:(List.map C.d (zad B)).set k (C.d (uD Y))=List.map C.d (zad X):=by rw[hX];simp only[zad,List.map_set]
 have htk:(zad X).take B.length=zad X:=List.take_of_length_le (by rw[List.length_map,hXl];exact Nat.le_refl _)
 have hkm:(k≤B.length)=True:=eq_true (by omega)
 have hz:i64 0:=by unfold i64;omega
 have q3:=zju X 0 hXb hz
 have q4:=znP X 0 hXb hz
 rw[hXl]at q3 q4
 have d2:=zsv X 0
 have k5:=znM _ _ d2 d2
 rw[zug]at k5
 generalize dSn X 0=w at*
 have hle:(B.length≤2^47)=True:=eq_true (by omega)
 have hlz:(0+B.length≤2^47)=True:=eq_true (by omega)
 have hkt:(k+1≤B.length)=True:=eq_true hkl
 have hl0:((B.length:Int)=0)=False:=eq_false (by omega)
 repeat'(first|(with_reducible first|refine za9 7 ?_|refine zaS 7 ?_|refine zaT 7 ?_)|(with_reducible first|refine zab _ _ ?_|refine zaF ?_|refine zaG ?_)|rw[zay]|simp only[hk,hw16,hl0,hdr,hY,hset,htk,hkm,hle,hlz,hkt,hM,bne_self_eq_false,beq_self_eq_true,zaI,List.length_map,Int.toNat_natCast,List.nil_append,List.cons_append,zY,Int.reduceEq,Int.reduceBEq,Int.reduceBNe,Nat.reduceSub,Nat.reduceEqDiff,Nat.reduceAdd,Nat.reduceMul,Nat.reduceLeDiff,Nat.reduceLT,Nat.reduceBEq,reduceCtorEq]|((first|((try refine zaO ?_);apply za1)|(apply zaX;intro _));(solve|exact(haw)|exact(hmd)|exact(p4)|exact(p3)|exact(q3)|exact(q4)|exact(k5)|(refine CallOK.le (haw) ?_;exact zM)|(refine CallOK.le (hmd) ?_;exact zM)|(refine CallOK.le (p4) ?_;exact zM)|(refine CallOK.le (p3) ?_;exact zM)|(refine CallOK.le (q3) ?_;exact zM)|(refine CallOK.le (q4) ?_;exact zM)|(refine CallOK.le (k5) ?_;exact zM)|fail);try case hn=>rfl)|refine zav ?_|refine zaa (fun hb=> ?_) (fun hb=> ?_)|(refine And.intro ?_ ?_;exact zI)|refine And.intro (fun hg=> ?_) (fun hg=> ?_)|exact zC|fail)
 refine za6 (zaZ (Gh.sealV 16 (x:= .own ⟨16,1,0⟩ 0 B.length) (d:= .sl B.length (zad X)) rfl (by simp only[zY,htk,Nat.reduceSub,Nat.reduceEqDiff,Nat.reduceAdd,Nat.reduceMul,Nat.reduceLeDiff,Nat.reduceLT,Nat.reduceBEq,reduceCtorEq];rfl)) ?_)
 repeat'(first|(with_reducible first|refine zab _ _ ?_|refine zaF ?_|refine zaG ?_)|rw[zay]|simp only[hk,hw16,hl0,hdr,hY,hset,htk,hkm,hle,hlz,hkt,hM,bne_self_eq_false,beq_self_eq_true,zaI,List.length_map,Int.toNat_natCast,List.nil_append,List.cons_append,zY,Int.reduceEq,Int.reduceBEq,Int.reduceBNe,Nat.reduceSub,Nat.reduceEqDiff,Nat.reduceAdd,Nat.reduceMul,Nat.reduceLeDiff,Nat.reduceLT,Nat.reduceBEq,reduceCtorEq]|((first|((try refine zaO ?_);apply za1)|(apply zaX;intro _));(solve|exact(haw)|exact(hmd)|exact(p4)|exact(p3)|exact(q3)|exact(q4)|exact(k5)|(refine CallOK.le (haw) ?_;exact zM)|(refine CallOK.le (hmd) ?_;exact zM)|(refine CallOK.le (p4) ?_;exact zM)|(refine CallOK.le (p3) ?_;exact zM)|(refine CallOK.le (q3) ?_;exact zM)|(refine CallOK.le (q4) ?_;exact zM)|(refine CallOK.le (k5) ?_;exact zM)|fail);try case hn=>rfl)|refine zav ?_|refine zaa (fun hb=> ?_) (fun hb=> ?_)|(refine And.intro ?_ ?_;exact zI)|refine And.intro (fun hg=> ?_) (fun hg=> ?_)|exact zC|fail)
end Go.Proofs.YtbpmcjeeeiffhaaGreat
