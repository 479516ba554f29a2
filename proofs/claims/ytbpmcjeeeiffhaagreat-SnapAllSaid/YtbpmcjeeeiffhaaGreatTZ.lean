import Derived.Test.YtbpmcjeeeiffhaaGreatK8
import Derived.JoinedOf
import Derived.Handed
import Derived.ProofKit
import Derived.Test.YtbpmcjeeeiffhaaGreatWD
namespace Go.Proofs.YtbpmcjeeeiffhaaGreat
open Go.Pk
set_option maxRecDepth 100000
set_option linter.unusedSimpArgs false
set_option linter.unusedVariables false
def shV (v:Int) (j:Nat):Int:=v.fdiv (2^(8*(8 - j)))
abbrev zuf (v:Int) (j:Nat):List D:=(List.range 8).map fun m=>uD (if j≤m then zeC v m else 0)
theorem zrj (v:Int) (k:Nat) (hk:k<8):(zuf v (k+1)).set k (uD (zeC v k))=zuf v k:=by
 apply List.ext_getElem
 ·simp
 ·intro m h1 h2
  simp only[List.length_set,List.length_map,List.length_range]at h1
  rw[List.getElem_set]
  simp only[List.getElem_map,List.getElem_range]
  split
  ·rename_i e;subst e;rw[if_pos (Nat.le_refl _)]
  ·rename_i e
   by_cases h:k+1≤m
   ·rw[if_pos h,if_pos (by omega)]
   ·rw[if_neg h,if_neg (by omega)]
theorem zch (v:Int) (h:0≤v∧v<4611686018427387904):CallOK Tryz.prog 36 [.f (ai v)] (fun r o=>r=[.one (.own 1 8 (zab (zaX v)) false)]∧o=[]):=by
 refine zae zam mixed (T:=Ty) (n:=18) Tryz.func36 (c:=Tryz.f36.body.getD .skip) rfl Tryz.results36 Tryz.ntmps36 Tryz.call36 ?_
 simp only[Tryz.f36,Option.getD]
 have hv8:shV v 8=v:=by unfold shV;simp
 repeat'(first|(with_reducible first|refine zac _ _ ?_|refine zaD ?_|refine zaE ?_)|rw[zay]|simp only[zY,Int.reduceEq,Int.reduceBEq,Int.reduceBNe,Nat.reduceSub,Nat.reduceEqDiff,Nat.reduceAdd,Nat.reduceMul,Nat.reduceLeDiff,Nat.reduceLT,Nat.reduceBEq,reduceCtorEq]|refine zat ?_|refine zaa (fun hb=> ?_) (fun hb=> ?_)|(refine And.intro ?_ ?_;exact zI)|refine And.intro (fun hg=> ?_) (fun hg=> ?_)|exact zC|fail)
 refine zah (τ:=Nat) (fun j=>⟨[ai (shV v j),dd,dd, .one (.own ⟨3,1,1⟩ 0 8),ai ((j:Int) - 1),dd,dd,dd,dd,dd,dd,dd,dd,dd,dd,dd,dd,dd],[(5,⟨2,[]⟩),(3,{next:=2,l:=[none,some {e:=1,var:=false,fz:=false,sz:=1,cells:=(zuf v j).map C.d}]})]⟩)
  (fun j=>j≤8) (fun _=>()) (fun j=>j) 8
  (Gh.canon [3] [] [] (by simp only[hv8,zbT,zdi,zbU,zco,zcp,zcq,List.set_cons_zero,List.set_cons_succ,and_true,true_and,Int.natCast_zero,Int.cast_ofNat_Int,D.v.injEq,Value.int.injEq];try(repeat'(first|rfl|omega|with_reducible apply And.intro))) rfl rfl) (Nat.le_refl _) ?_
 intro j hj0 hF K hK
 repeat(first|with_reducible refine zac _ _ ?_|with_reducible refine And.imp_right (zac _ _) ?_|with_reducible refine And.imp_right (And.imp_right (zac _ _)) ?_|with_reducible refine And.imp_right (And.imp_right (And.imp_right (zac _ _))) ?_|rw[zay]|simp only[zB,Nat.reduceSub,Nat.reduceEqDiff,Nat.reduceAdd,Nat.reduceMul,Nat.reduceLeDiff,Nat.reduceLT,Nat.reduceBEq,reduceCtorEq])
 refine zaa (fun hlt=> ?_) (fun hge=> ?_)
 ·obtain⟨k,rfl⟩:∃k,j=k+1:=⟨j - 1,by simp at hlt;omega⟩
  have hk:((((k+1:Nat):Int)) - 1)=(k:Int):=by omega
  have hge0:decide ((k:Int)≥0)=true:=by simp
  have w1:IntKind.i64.wrap ((k:Int) - 1)=(k:Int) - 1:=wrap64 (by omega) (by omega)
  have hb0:0≤shV v (k+1)∧shV v (k+1)≤v:=by
   unfold shV
   rw[Int.fdiv_eq_ediv_of_nonneg _ (Int.pow_nonneg (by decide))]
   exact⟨Int.ediv_nonneg h.1 (Int.pow_nonneg (by decide)),Int.ediv_le_self _ h.1⟩
  have w2:IntKind.u8.wrap (shV v (k+1))=zeC v k:=by unfold zeC shV;rw[show 8 - (k+1)=7 - k from by omega]
  have w3:(shV v (k+1)).fdiv (2^8)=shV v k:=by
   have p0:∀n:Nat,(0:Int)≤2^n:=fun n=>Int.pow_nonneg (by decide)
   unfold shV
   rw[Int.fdiv_eq_ediv_of_nonneg v (p0 (8*(8 - (k+1)))),Int.fdiv_eq_ediv_of_nonneg _ (p0 8),Int.fdiv_eq_ediv_of_nonneg v (p0 (8*(8 - k))),Int.ediv_ediv_of_nonneg (p0 _),←Int.pow_add,show 8*(8 - (k+1))+8=8*(8 - k) from by omega]
  have w4:IntKind.i64.wrap (shV v k)=shV v k:=by
   have:0≤shV v k∧shV v k≤v:=by
    unfold shV
    rw[Int.fdiv_eq_ediv_of_nonneg _ (Int.pow_nonneg (by decide))]
    exact⟨Int.ediv_nonneg h.1 (Int.pow_nonneg (by decide)),Int.ediv_le_self _ h.1⟩
   exact wrap64 (by omega) (by omega)
  have hset:((zuf v (k+1)).map C.d).set k (C.d (uD (zeC v k)))=(zuf v k).map C.d:=by
   rw[←zrj v k (by omega),List.map_set]
  have hle:(k+1≤8)=True:=eq_true hj0
  have h8:(if(8:Int)<0 then none else some (Value.int .i64 ((shV v (k+1)).fdiv (2^min (Int.toNat 8) IntKind.i64.bits))))=some (Value.int .i64 (shV v k)):=by
   rw[if_neg (by decide),show min (Int.toNat 8) IntKind.i64.bits=8 from rfl,w3]
  repeat'(first|(with_reducible first|refine zac _ _ ?_|refine zaD ?_|refine zaE ?_)|rw[zay]|simp only[hk,w1,w2,h8,hset,List.length_range,hle,Int.toNat_natCast,zY,Int.reduceEq,Int.reduceBEq,Int.reduceBNe,Nat.reduceSub,Nat.reduceEqDiff,Nat.reduceAdd,Nat.reduceMul,Nat.reduceLeDiff,Nat.reduceLT,Nat.reduceBEq,reduceCtorEq]|refine zat ?_|refine zaa (fun hb=> ?_) (fun hb=> ?_)|(refine And.intro ?_ ?_;exact zI)|refine And.intro (fun hg=> ?_) (fun hg=> ?_)|exact zC|fail)
  exact hK _ k (Gh.canon [3] [] [] zK rfl rfl) (by omega) rfl (by omega)
 ·have hj:j=0:=by simp at hge;omega
  subst hj
  repeat'(first|(with_reducible first|refine zac _ _ ?_|refine zaD ?_|refine zaE ?_)|rw[zay]|simp only[zY,Int.reduceEq,Int.reduceBEq,Int.reduceBNe,Nat.reduceSub,Nat.reduceEqDiff,Nat.reduceAdd,Nat.reduceMul,Nat.reduceLeDiff,Nat.reduceLT,Nat.reduceBEq,reduceCtorEq]|refine zat ?_|refine zaa (fun hb=> ?_) (fun hb=> ?_)|(refine And.intro ?_ ?_;exact zI)|refine And.intro (fun hg=> ?_) (fun hg=> ?_)|exact zC|fail)
  rfl
theorem zlW {r:Reply} (h:zbz r=true):zbS r:=by
 obtain⟨f1,f2,f3,f4,f5⟩:=zbY h
 exact⟨by omega,fun g hg=>by have:=(zb5 h g hg).1;omega⟩
theorem zw3 {a b:D}:toDs (sub 0 2 1 [C.d a,C.d b])=some [a,b]:=rfl
theorem zw4 {a:D} {n:Int}:toDs (sub 0 9 1 (C.d a::List.map C.d (zab (zaX n))))=some (a::zab (zaX n)):=rfl
set_option maxHeartbeats 1000000 in
theorem zk9 (r:Reply) (h:zbz r=true):CallOK Tryz.prog 83 [.f (.agg r.lent)] (fun x o=>x=[.one (.own 1 (zbo r).length (zab (zbo r)) false),ri 0]∧o=[]):=by
 obtain⟨f1,f2,f3,f4,f5⟩:=zbY h
 have hgr:=zb5 h
 refine zae zam mixed (T:=Ty) (n:=62) Tryz.func83 (c:=Tryz.f83.body.getD .skip) rfl Tryz.results83 Tryz.ntmps83 Tryz.call83 ?_
 simp only[Tryz.f83,Option.getD]
 have hmy:=zdl r (zlW h)
 rw[h]at hmy
 have hpn:=zch r.session (by omega)
 have w1:IntKind.u8.wrap r.code=r.code:=zcU (by omega) (by omega)
 have w2:IntKind.u8.wrap r.ahead=r.ahead:=zcU (by omega) (by omega)
 have w3:IntKind.u8.wrap (r.held.length:Int)=r.held.length:=zcU (by omega) (by omega)
 have t1:(zab (zaX r.session)).take 8=zab (zaX r.session):=List.take_of_length_le (by rw[zcg];decide)
 repeat'(first|(with_reducible first|refine zac _ _ ?_|refine zaD ?_|refine zaE ?_)|rw[zay]|simp only[zw3,zw4,t1,w1,w2,w3,List.length_map,zaH,zY,Int.reduceEq,Int.reduceBEq,Int.reduceBNe,Nat.reduceSub,Nat.reduceEqDiff,Nat.reduceAdd,Nat.reduceMul,Nat.reduceLeDiff,Nat.reduceLT,Nat.reduceBEq,reduceCtorEq]|((first|((try refine zaK ?_);apply zaU)|(apply zaT;intro _));(solve|exact(hmy)|exact(hpn)|(refine CallOK.le (hmy) ?_;exact zM)|(refine CallOK.le (hpn) ?_;exact zM)|fail);try case hn=>rfl)|refine zat ?_|refine zaa (fun hb=> ?_) (fun hb=> ?_)|(refine And.intro ?_ ?_;exact zI)|refine And.intro (fun hg=> ?_) (fun hg=> ?_)|exact zC|fail)
 refine zah (τ:=Nat) (fun i=>⟨[dd, .one (.ptr ⟨1,0,1⟩ 0),dd,dd, .one (.own ⟨4,1,1⟩ 0 (zdM r i).length),ai i,dd,dd,dd,dd,dd,dd,dd,dd,dd,dd,dd,dd,dd,dd,dd,dd,dd,dd,dd,dd,dd,dd,dd,dd,dd,dd,dd,dd,dd,dd,dd,dd,dd,dd,dd,dd,dd,dd,dd,dd,dd,dd,dd,dd,dd,dd,dd,dd,dd,dd,dd,dd,dd,dd,dd,dd],[(1,{next:=2,l:=[some {e:=1,var:=true,fz:=false,sz:=0,cells:=[di r.code,di r.session,di r.ahead, .lent r.held.length (zaO r.held)]},none,none,none,none]}),(12,⟨2,[]⟩),(15,⟨2,[]⟩),(4,{next:=2,l:=[none,some {e:=1,var:=false,fz:=false,sz:=1,cells:=(zab (zdM r i)).map C.d}]}),(25,⟨2,[]⟩),(43,⟨2,[]⟩),(44,⟨2,[]⟩),(51,⟨2,[]⟩),(59,⟨2,[]⟩),(60,⟨2,[]⟩)]⟩)
  (fun i=>i≤r.held.length) (fun _=>()) (fun i=>r.held.length - i) 0
  (Gh.canon [1,4] [43,44,51,59,60] [] (by simp only[zf8,zeA,zbT,zdi,zbU,zco,zcp,zcq,List.set_cons_zero,List.set_cons_succ,and_true,true_and,Int.natCast_zero,Int.cast_ofNat_Int,D.v.injEq,Value.int.injEq];try(repeat'(first|rfl|omega|with_reducible apply And.intro))) rfl (by rw[zf8];rfl)) (Nat.zero_le _) ?_
 intro i hi0 hF K hK
 repeat(first|with_reducible refine zac _ _ ?_|with_reducible refine And.imp_right (zac _ _) ?_|with_reducible refine And.imp_right (And.imp_right (zac _ _)) ?_|with_reducible refine And.imp_right (And.imp_right (And.imp_right (zac _ _))) ?_|rw[zay]|simp only[zB,Nat.reduceSub,Nat.reduceEqDiff,Nat.reduceAdd,Nat.reduceMul,Nat.reduceLeDiff,Nat.reduceLT,Nat.reduceBEq,reduceCtorEq])
 refine zaa (fun hlt=> ?_) (fun hge=> ?_)
 ·have hi:i<r.held.length:=by simpa using hlt
  have hat:=zbL hi
  have hw:=zai hi (by omega)
  have hg:=hgr _ (List.getElem_mem hi)
  have hpm:=zch r.held[i].token hg.2
  have hlb:(zdM r i).length≤11+4*21:=by
   rw[zdM,List.length_append,zeA]
   have:=zdW (l:=r.held.take i) (k:=12) fun g hx=>(hgr g (List.mem_of_mem_take hx)).1
   have:(r.held.take i).length≤4:=by rw[List.length_take];omega
   omega
  have w4:IntKind.u8.wrap (r.held[i].name.size:Int)=r.held[i].name.size:=zcU (by omega) (by omega)
  have k3:(zab (zdM r i)).take (zdM r i).length=zab (zdM r i):=List.take_of_length_le (by rw[List.length_map];exact Nat.le_refl _)
  have k2:(zab (zaX r.held[i].token)).take 8=zab (zaX r.held[i].token):=List.take_of_length_le (by rw[zcg];decide)
  have hle:((zdM r i).length+1≤2^47)=True:=eq_true (by omega)
  have hle2:((zdM r i).length+1+r.held[i].name.size≤2^47)=True:=eq_true (by omega)
  have hle3:((zdM r i).length+1+r.held[i].name.size+8≤2^47)=True:=eq_true (by omega)
  have hsl:(zdM r (i+1)).length=(zdM r i).length+1+r.held[i].name.size+8:=by rw[zf7 hi,List.length_append,List.length_append,zcd,zaH];omega
  have k4:(zab (zdM r i)++[D.v (Value.int .u8 (r.held[i].name.size:Int))]).take ((zdM r i).length+1)=zab (zdM r i)++[D.v (Value.int .u8 (r.held[i].name.size:Int))]:=List.take_of_length_le (by rw[List.length_append,List.length_map];exact Nat.le_refl _)
  have k5:(zab (zdM r i)++[D.v (Value.int .u8 (r.held[i].name.size:Int))]++zif r.held[i].name).take ((zdM r i).length+1+r.held[i].name.size)=zab (zdM r i)++[D.v (Value.int .u8 (r.held[i].name.size:Int))]++zif r.held[i].name:=List.take_of_length_le (by rw[List.length_append,List.length_append,List.length_map,List.length_map,zcy];exact Nat.le_refl _)
  repeat'(first|(with_reducible first|refine zac _ _ ?_|refine zaD ?_|refine zaE ?_)|rw[zay]|simp only[hat,w4,k4,k5,List.cons_append,List.nil_append,zaw,hle,hle2,hle3,k2,k3,zcy,List.length_map,zaH,zY,Int.reduceEq,Int.reduceBEq,Int.reduceBNe,Nat.reduceSub,Nat.reduceEqDiff,Nat.reduceAdd,Nat.reduceMul,Nat.reduceLeDiff,Nat.reduceLT,Nat.reduceBEq,reduceCtorEq]|((first|((try refine zaK ?_);apply zaU)|(apply zaT;intro _));(solve|exact(hpm)|(refine CallOK.le (hpm) ?_;exact zM)|fail);try case hn=>rfl)|refine zat ?_|refine zaa (fun hb=> ?_) (fun hb=> ?_)|(refine And.intro ?_ ?_;exact zI)|refine And.intro (fun hg=> ?_) (fun hg=> ?_)|exact zC|fail)
  exact hK _ (i+1) (Gh.canon [1,4] [] [] (by simp only[hw,hsl,zbT,zdi,zbU,zco,zcp,zcq,List.set_cons_zero,List.set_cons_succ,and_true,true_and,Int.natCast_zero,Int.cast_ofNat_Int,D.v.injEq,Value.int.injEq];try(repeat'(first|rfl|omega|with_reducible apply And.intro))) rfl (by rw[zf7 hi];simp only[zab,List.map_append,zdV,List.map_cons,List.map_map,List.append_assoc,List.cons_append,List.nil_append];rfl)) hi rfl (by omega)
 ·have hi:i=r.held.length:=by
   have:¬(i:Int)<r.held.length:=by simpa using hge
   omega
  subst hi
  repeat'(first|(with_reducible first|refine zac _ _ ?_|refine zaD ?_|refine zaE ?_)|rw[zay]|simp only[zY,Int.reduceEq,Int.reduceBEq,Int.reduceBNe,Nat.reduceSub,Nat.reduceEqDiff,Nat.reduceAdd,Nat.reduceMul,Nat.reduceLeDiff,Nat.reduceLT,Nat.reduceBEq,reduceCtorEq]|refine zat ?_|refine zaa (fun hb=> ?_) (fun hb=> ?_)|(refine And.intro ?_ ?_;exact zI)|refine And.intro (fun hg=> ?_) (fun hg=> ?_)|exact zC|fail)
  rw[zmO]
theorem zjX (m:Memo) (h:answerB m=true):CallOK Tryz.prog 37 [.f (.agg m.lent)] (fun x o=>x=[.one (.own 1 (zaV m).length (zab (zaV m)) false),ri 0]∧o=[]):=by
 refine zae zam mixed (T:=Ty) (n:=25) Tryz.func37 (c:=Tryz.f37.body.getD .skip) rfl Tryz.results37 Tryz.ntmps37 Tryz.call37 ?_
 simp only[Tryz.f37,Option.getD]
 obtain⟨f1,f2,f3⟩:=zb6 h
 have hmy:=zdS m (zhZ h)
 rw[h]at hmy
 have hpr:=zk9 m.reply f3
 have hpn:=zch m.seq (by omega)
 have hrl:=zgx f3
 have w1:IntKind.u8.wrap m.client=m.client:=zcU (by omega) (by omega)
 have t2:(zab (zbo m.reply)).take (zbo m.reply).length=zab (zbo m.reply):=List.take_of_length_le (by rw[List.length_map];exact Nat.le_refl _)
 have hle:(9+(zbo m.reply).length≤2^47)=True:=eq_true (by omega)
 have t1:(zab (zaX m.seq)).take 8=zab (zaX m.seq):=List.take_of_length_le (by rw[zcg];decide)
 repeat'(first|(with_reducible first|refine zac _ _ ?_|refine zaD ?_|refine zaE ?_)|rw[zay]|simp only[zw3,zw4,w1,t1,t2,hle,List.length_map,zaH,zY,Int.reduceEq,Int.reduceBEq,Int.reduceBNe,Nat.reduceSub,Nat.reduceEqDiff,Nat.reduceAdd,Nat.reduceMul,Nat.reduceLeDiff,Nat.reduceLT,Nat.reduceBEq,reduceCtorEq]|((first|((try refine zaK ?_);apply zaU)|(apply zaT;intro _));(solve|exact(hmy)|exact(hpr)|exact(hpn)|(refine CallOK.le (hmy) ?_;exact zM)|(refine CallOK.le (hpr) ?_;exact zM)|(refine CallOK.le (hpn) ?_;exact zM)|fail);try case hn=>rfl)|refine zat ?_|refine zaa (fun hb=> ?_) (fun hb=> ?_)|(refine And.intro ?_ ?_;exact zI)|refine And.intro (fun hg=> ?_) (fun hg=> ?_)|exact zC|fail)
 rw[show(zaV m).length=9+(zbo m.reply).length from by simp[zaV,zaH];omega]
 simp[zaV,zab]
theorem tk1 (X:List Int) (c:Int):(zab X++[D.v (Value.int .u8 c)]).take (X.length+1)=zab X++[D.v (Value.int .u8 c)]:=List.take_of_length_le (by simp)
theorem tk2 (X:List Int) (c n:Int):(zab X++[D.v (Value.int .u8 c)]++zab (zaX n)).take (X.length+1+8)=zab X++[D.v (Value.int .u8 c)]++zab (zaX n):=List.take_of_length_le (by simp[zaH])
theorem tk3 (X:List Int) (c:Int) (n:ByteArray):(zab X++[D.v (Value.int .u8 c)]++zif n).take (X.length+1+n.size)=zab X++[D.v (Value.int .u8 c)]++zif n:=List.take_of_length_le (by rw[List.length_append,List.length_append,List.length_map,List.length_map,zcy];exact Nat.le_refl _)
theorem tk4 (X:List Int) (c d:Int) (n:ByteArray):(zab X++[D.v (Value.int .u8 c)]++zif n++[D.v (Value.int .u8 d)]).take (X.length+1+n.size+1)=zab X++[D.v (Value.int .u8 c)]++zif n++[D.v (Value.int .u8 d)]:=List.take_of_length_le (by rw[List.length_append,List.length_append,List.length_append,List.length_map,List.length_map,zcy];exact Nat.le_refl _)
theorem tk5 (X:List Int) (c d e:Int) (n:ByteArray):(zab X++[D.v (Value.int .u8 c)]++zif n++[D.v (Value.int .u8 d)]++zab (zaX e)).take (X.length+1+n.size+1+8)=zab X++[D.v (Value.int .u8 c)]++zif n++[D.v (Value.int .u8 d)]++zab (zaX e):=List.take_of_length_le (by rw[List.length_append,List.length_append,List.length_append,List.length_append,List.length_map,List.length_map,List.length_map,zcy,zaH];exact Nat.le_refl _)
set_option maxHeartbeats 4000000 in
theorem zpI (s:St) (h:RightS s):CallOK Tryz.prog 15 [.f (.agg s.lent)] (fun r o=>r=[.one (.own 1 (zcl s).length (zab (zcl s)) false),ri 0]∧o=[]):=by
 refine zae zam mixed (T:=Ty) (n:=157) Tryz.func15 (c:=Tryz.f15.body.getD .skip) rfl Tryz.results15 Tryz.ntmps15 Tryz.call15 ?_
 simp only[Tryz.f15,Option.getD]
 have hri:=zgd s (zbJ h)
 rw[zbP.2 h]at hri
 have hH:zdu=2305843009213693952:=rfl
 have ht:=h.time
 have hn:=h.num
 have hk:=h.token
 have hsl:=h.sl
 have hll:=h.ll
 have n1:=zch s.time (by omega)
 have n2:=zch s.num (by omega)
 have n3:=zch s.token (by omega)
 have w1:IntKind.u8.wrap (s.sess.length:Int)=s.sess.length:=zcU (by omega) (by omega)
 have t8:∀v:Int,(zab (zaX v)).take 8=zab (zaX v):=fun v=>List.take_of_length_le (by rw[zcg];decide)
 have t1:∀x:Int,toDs (sub 0 1 1 [C.d (uD x)])=some [uD x]:=fun _=>rfl
 have t16:∀v w:Int,(zab (zaX v)++zab (zaX w)).take 16=zab (zaX v)++zab (zaX w):=fun v w=>List.take_of_length_le (by simp[zaH])
 have t24:∀v w x:Int,(zab (zaX v)++zab (zaX w)++zab (zaX x)).take 24=zab (zaX v)++zab (zaX w)++zab (zaX x):=fun v w x=>List.take_of_length_le (by simp[zaH])
 repeat'(first|(with_reducible first|refine zac _ _ ?_|refine zaD ?_|refine zaE ?_)|rw[zay]|simp only[t8,t16,t24,t1,w1,List.length_map,zaH,zY,Int.reduceEq,Int.reduceBEq,Int.reduceBNe,Nat.reduceSub,Nat.reduceEqDiff,Nat.reduceAdd,Nat.reduceMul,Nat.reduceLeDiff,Nat.reduceLT,Nat.reduceBEq,reduceCtorEq]|((first|((try refine zaK ?_);apply zaU)|(apply zaT;intro _));(solve|exact(hri)|exact(n1)|exact(n2)|exact(n3)|(refine CallOK.le (hri) ?_;exact zM)|(refine CallOK.le (n1) ?_;exact zM)|(refine CallOK.le (n2) ?_;exact zM)|(refine CallOK.le (n3) ?_;exact zM)|fail);try case hn=>rfl)|refine zat ?_|refine zaa (fun hb=> ?_) (fun hb=> ?_)|(refine And.intro ?_ ?_;exact zI)|refine And.intro (fun hg=> ?_) (fun hg=> ?_)|exact zC|fail)
 have hh:zab (zhT s)=zab (zaX s.time)++zab (zaX s.num)++zab (zaX s.token)++[D.v (Value.int .u8 (s.sess.length:Int))]:=by simp[zhT,zab]
 refine zah (τ:=Nat) (fun i=>⟨[dd, .one (.ptr ⟨1,0,1⟩ 0),dd,dd, .one (.own ⟨4,1,1⟩ 0 (sb1 s i).length),ai i,dd,dd,dd,dd,dd,dd,dd,dd,dd,dd,dd,dd,dd,dd,dd,dd,dd,dd,dd,dd,dd,dd,dd,dd,dd,dd,dd,dd,dd,dd,dd,dd,dd,dd,dd,dd,dd,dd,dd,dd,dd,dd,dd,dd,dd,dd,dd,dd,dd,dd,dd,dd,dd,dd,dd,dd,dd,dd,dd,dd,dd,dd,dd,dd,dd,dd,dd,dd,dd,dd,dd,dd,dd,dd,dd,dd,dd,dd,dd,dd,dd,dd,dd,dd,dd,dd,dd,dd,dd,dd,dd,dd,dd,dd,dd,dd,dd,dd,dd,dd,dd,dd,dd,dd,dd,dd,dd,dd,dd,dd,dd,dd,dd,dd,dd,dd,dd,dd,dd,dd,dd,dd,dd,dd,dd,dd,dd,dd,dd,dd,dd,dd,dd,dd,dd,dd,dd,dd,dd,dd,dd,dd,dd,dd,dd,dd,dd,dd,dd,dd,dd],[(1,{next:=2,l:=[some {e:=1,var:=true,fz:=false,sz:=0,cells:=[di s.time,di s.num,di s.token, .lent s.sess.length (zaN s.sess), .lent s.locks.length (zax s.locks), .lent s.memos.length (zaG s.memos)]},none,none,none,none,none,none]}),(19,⟨2,[]⟩),(22,⟨2,[]⟩),(26,⟨2,[]⟩),(4,{next:=2,l:=[none,some {e:=1,var:=false,fz:=false,sz:=1,cells:=(zab (sb1 s i)).map C.d}]}),(33,⟨2,[]⟩),(6,⟨2,[]⟩),(51,⟨2,[]⟩),(52,⟨2,[]⟩),(55,⟨2,[]⟩),(56,⟨2,[]⟩),(59,⟨2,[]⟩),(60,⟨2,[]⟩)]⟩)
  (fun i=>i≤s.sess.length) (fun _=>()) (fun i=>s.sess.length - i) 0
  (Gh.canon [1,4] [6,51,52,55,56,59,60] [] (by simp only[zhb,zf4,zbT,zdi,zbU,zco,zcp,zcq,List.set_cons_zero,List.set_cons_succ,and_true,true_and,Int.natCast_zero,Int.cast_ofNat_Int,D.v.injEq,Value.int.injEq];try(repeat'(first|rfl|omega|with_reducible apply And.intro))) rfl (by rw[zhb,hh];rfl)) (Nat.zero_le _) ?_
 intro i hi0 hF K hK
 repeat(first|with_reducible refine zac _ _ ?_|with_reducible refine And.imp_right (zac _ _) ?_|with_reducible refine And.imp_right (And.imp_right (zac _ _)) ?_|with_reducible refine And.imp_right (And.imp_right (And.imp_right (zac _ _))) ?_|rw[zay]|simp only[zB,Nat.reduceSub,Nat.reduceEqDiff,Nat.reduceAdd,Nat.reduceMul,Nat.reduceLeDiff,Nat.reduceLT,Nat.reduceBEq,reduceCtorEq])
 refine zaa (fun hlt=> ?_) (fun hge=> ?_)
 ·have hi:i<s.sess.length:=by simpa using hlt
  have hat:=zbu hi
  have hw:=zai hi (by omega)
  obtain⟨f1,f2,f3⟩:=zgk.1 (h.sok _ (List.getElem_mem hi)).1
  simp only[isClient,Bool.and_eq_true,decide_eq_true_eq]at f1
  have wc:IntKind.u8.wrap s.sess[i].client=s.sess[i].client:=zcU (by omega) (by omega)
  have m1:=zch s.sess[i].num (by omega)
  have m2:=zch s.sess[i].renewed (by omega)
  have hb:=zhW s i
  have e1:((sb1 s i).length+1≤2^47)=True:=eq_true (by omega)
  have e2:((sb1 s i).length+1+8≤2^47)=True:=eq_true (by omega)
  have e3:((sb1 s i).length+1+8+8≤2^47)=True:=eq_true (by omega)
  have hsl:(sb1 s (i+1)).length=(sb1 s i).length+1+8+8:=by rw[zjR hi,List.length_append,zhU]
  repeat'(first|(with_reducible first|refine zac _ _ ?_|refine zaD ?_|refine zaE ?_)|rw[zay]|simp only[hat,List.cons_append,List.nil_append,zas,t8,t1,wc,e1,e2,e3,tk1,tk2,zaB,List.length_map,zaH,zY,Int.reduceEq,Int.reduceBEq,Int.reduceBNe,Nat.reduceSub,Nat.reduceEqDiff,Nat.reduceAdd,Nat.reduceMul,Nat.reduceLeDiff,Nat.reduceLT,Nat.reduceBEq,reduceCtorEq]|((first|((try refine zaK ?_);apply zaU)|(apply zaT;intro _));(solve|exact(m1)|exact(m2)|(refine CallOK.le (m1) ?_;exact zM)|(refine CallOK.le (m2) ?_;exact zM)|fail);try case hn=>rfl)|refine zat ?_|refine zaa (fun hb=> ?_) (fun hb=> ?_)|(refine And.intro ?_ ?_;exact zI)|refine And.intro (fun hg=> ?_) (fun hg=> ?_)|exact zC|fail)
  exact hK _ (i+1) (Gh.canon [1,4] [] [] (by simp only[hw,hsl,zbT,zdi,zbU,zco,zcp,zcq,List.set_cons_zero,List.set_cons_succ,and_true,true_and,Int.natCast_zero,Int.cast_ofNat_Int,D.v.injEq,Value.int.injEq];try(repeat'(first|rfl|omega|with_reducible apply And.intro))) rfl (by rw[zjR hi];simp only[zab,List.map_append,zgQ,List.map_cons,List.append_assoc,List.cons_append,List.nil_append];rfl)) hi rfl (by omega)
 ·have hi:i=s.sess.length:=by
   have:¬(i:Int)<s.sess.length:=by simpa using hge
   omega
  subst hi
  clear hK
  have w2:IntKind.u8.wrap (s.locks.length:Int)=s.locks.length:=zcU (by omega) (by omega)
  have hb:=zhW s s.sess.length
  have hle:((sb1 s s.sess.length).length+1≤2^47)=True:=eq_true (by omega)
  repeat'(first|(with_reducible first|refine zac _ _ ?_|refine zaD ?_|refine zaE ?_)|rw[zay]|simp only[hle,t1,w2,zaB,List.length_map,zY,Int.reduceEq,Int.reduceBEq,Int.reduceBNe,Nat.reduceSub,Nat.reduceEqDiff,Nat.reduceAdd,Nat.reduceMul,Nat.reduceLeDiff,Nat.reduceLT,Nat.reduceBEq,reduceCtorEq]|refine zat ?_|refine zaa (fun hb=> ?_) (fun hb=> ?_)|(refine And.intro ?_ ?_;exact zI)|refine And.intro (fun hg=> ?_) (fun hg=> ?_)|exact zC|fail)
  refine zah (τ:=Nat) (fun i=>⟨[dd, .one (.ptr ⟨1,0,1⟩ 0),dd,dd, .one (.own ⟨4,1,1⟩ 0 (sb2 s i).length),dd,dd,ai i,dd,dd,dd,dd,dd,dd,dd,dd,dd,dd,dd,dd,dd,dd,dd,dd,dd,dd,dd,dd,dd,dd,dd,dd,dd,dd,dd,dd,dd,dd,dd,dd,dd,dd,dd,dd,dd,dd,dd,dd,dd,dd,dd,dd,dd,dd,dd,dd,dd,dd,dd,dd,dd,dd,dd,dd,dd,dd,dd,dd,dd,dd,dd,dd,dd,dd,dd,dd,dd,dd,dd,dd,dd,dd,dd,dd,dd,dd,dd,dd,dd,dd,dd,dd,dd,dd,dd,dd,dd,dd,dd,dd,dd,dd,dd,dd,dd,dd,dd,dd,dd,dd,dd,dd,dd,dd,dd,dd,dd,dd,dd,dd,dd,dd,dd,dd,dd,dd,dd,dd,dd,dd,dd,dd,dd,dd,dd,dd,dd,dd,dd,dd,dd,dd,dd,dd,dd,dd,dd,dd,dd,dd,dd,dd,dd,dd,dd,dd,dd],[(1,{next:=2,l:=[some {e:=1,var:=true,fz:=false,sz:=0,cells:=[di s.time,di s.num,di s.token, .lent s.sess.length (zaN s.sess), .lent s.locks.length (zax s.locks), .lent s.memos.length (zaG s.memos)]},none,none,none,none,none,none]}),(19,⟨2,[]⟩),(22,⟨2,[]⟩),(26,⟨2,[]⟩),(4,{next:=2,l:=[none,some {e:=1,var:=false,fz:=false,sz:=1,cells:=(zab (sb2 s i)).map C.d}]}),(33,⟨2,[]⟩),(6,⟨2,[]⟩),(51,⟨2,[]⟩),(52,⟨2,[]⟩),(55,⟨2,[]⟩),(56,⟨2,[]⟩),(59,⟨2,[]⟩),(60,⟨2,[]⟩),(66,⟨2,[]⟩),(8,⟨2,[]⟩),(85,⟨2,[]⟩),(86,⟨2,[]⟩),(89,⟨2,[]⟩),(94,⟨2,[]⟩),(95,⟨2,[]⟩),(98,⟨2,[]⟩),(99,⟨2,[]⟩),(105,⟨2,[]⟩),(106,⟨2,[]⟩),(121,⟨2,[]⟩),(122,⟨2,[]⟩)]⟩)
   (fun i=>i≤s.locks.length) (fun _=>()) (fun i=>s.locks.length - i) 0
   (Gh.canon [1,4] [8,85,86,89,94,95,98,99,105,106,121,122] [] (by simp only[zhc,List.length_append,List.length_singleton,zbT,zdi,zbU,zco,zcp,zcq,List.set_cons_zero,List.set_cons_succ,and_true,true_and,Int.natCast_zero,Int.cast_ofNat_Int,D.v.injEq,Value.int.injEq];try(repeat'(first|rfl|omega|with_reducible apply And.intro))) rfl (by rw[zhc];simp only[zab,List.map_append];rfl)) (Nat.zero_le _) ?_
  intro i hi0 hF K hK
  repeat(first|with_reducible refine zac _ _ ?_|with_reducible refine And.imp_right (zac _ _) ?_|with_reducible refine And.imp_right (And.imp_right (zac _ _)) ?_|with_reducible refine And.imp_right (And.imp_right (And.imp_right (zac _ _))) ?_|rw[zay]|simp only[zB,Nat.reduceSub,Nat.reduceEqDiff,Nat.reduceAdd,Nat.reduceMul,Nat.reduceLeDiff,Nat.reduceLT,Nat.reduceBEq,reduceCtorEq])
  refine zaa (fun hlt=> ?_) (fun hge=> ?_)
  ·have hi:i<s.locks.length:=by simpa using hlt
   have hat:=zbd hi
   have hw:=zai hi (by omega)
   obtain⟨q0,q1,q2,q3,q4,q5⟩:=ze2 h (List.getElem_mem hi)
   have wc:IntKind.u8.wrap s.locks[i].holder=s.locks[i].holder:=zcU (by omega) (by omega)
   have wn:IntKind.u8.wrap (s.locks[i].name.size:Int)=s.locks[i].name.size:=zcU (by omega) (by omega)
   have wl:IntKind.u8.wrap (s.locks[i].line.length:Int)=s.locks[i].line.length:=zcU (by omega) (by omega)
   have m2:=zch s.locks[i].token (by omega)
   have hb:=zhY h i
   have e1:((sb2 s i).length+1≤2^47)=True:=eq_true (by omega)
   have e2:((sb2 s i).length+1+s.locks[i].name.size≤2^47)=True:=eq_true (by omega)
   have e3:((sb2 s i).length+1+s.locks[i].name.size+1≤2^47)=True:=eq_true (by omega)
   have e4:((sb2 s i).length+1+s.locks[i].name.size+1+8≤2^47)=True:=eq_true (by omega)
   have e5:((sb2 s i).length+1+s.locks[i].name.size+1+8+1≤2^47)=True:=eq_true (by omega)
   have hs0:(zgK s i s.locks[i] 0).length=(sb2 s i).length+1+s.locks[i].name.size+1+8+1:=by rw[zhX,List.length_append,zhV];omega
   repeat'(first|(with_reducible first|refine zac _ _ ?_|refine zaD ?_|refine zaE ?_)|rw[zay]|simp only[hat,List.cons_append,List.nil_append,zal,t8,t1,wc,wl,wn,e1,e2,e3,e4,e5,tk1,tk3,tk4,tk5,zaB,zcy,List.length_map,zaH,zY,Int.reduceEq,Int.reduceBEq,Int.reduceBNe,Nat.reduceSub,Nat.reduceEqDiff,Nat.reduceAdd,Nat.reduceMul,Nat.reduceLeDiff,Nat.reduceLT,Nat.reduceBEq,reduceCtorEq]|((first|((try refine zaK ?_);apply zaU)|(apply zaT;intro _));(solve|exact(m2)|(refine CallOK.le (m2) ?_;exact zM)|fail);try case hn=>rfl)|refine zat ?_|refine zaa (fun hb=> ?_) (fun hb=> ?_)|(refine And.intro ?_ ?_;exact zI)|refine And.intro (fun hg=> ?_) (fun hg=> ?_)|exact zC|fail)
   refine zah (τ:=Nat) (fun j=>⟨[dd, .one (.ptr ⟨1,0,1⟩ 0),dd,dd, .one (.own ⟨4,1,1⟩ 0 (zgK s i s.locks[i] j).length),dd,dd,ai i, .one (.ptr ⟨8,0,1⟩ 0),ai j,dd,dd,dd,dd,dd,dd,dd,dd,dd,dd,dd,dd,dd,dd,dd,dd,dd,dd,dd,dd,dd,dd,dd,dd,dd,dd,dd,dd,dd,dd,dd,dd,dd,dd,dd,dd,dd,dd,dd,dd,dd,dd,dd,dd,dd,dd,dd,dd,dd,dd,dd,dd,dd,dd,dd,dd,dd,dd,dd,dd,dd,dd,dd,dd,dd,dd,dd,dd,dd,dd,dd,dd,dd,dd,dd,dd,dd,dd,dd,dd,dd,dd,dd,dd,dd,dd,dd,dd,dd,dd,dd,dd,dd,dd,dd,dd,dd,dd,dd,dd,dd,dd,dd,dd,dd,dd,dd,dd,dd,dd,dd,dd,dd,dd,dd,dd,dd,dd,dd,dd,dd,dd,dd,dd,dd,dd,dd,dd,dd,dd,dd,dd,dd,dd,dd,dd,dd,dd,dd,dd,dd,dd,dd,dd,dd,dd,dd],[(1,{next:=2,l:=[some {e:=1,var:=true,fz:=false,sz:=0,cells:=[di s.time,di s.num,di s.token, .lent s.sess.length (zaN s.sess), .lent s.locks.length (zax s.locks), .lent s.memos.length (zaG s.memos)]},none,none,none,none,none,none]}),(19,⟨2,[]⟩),(22,⟨2,[]⟩),(26,⟨2,[]⟩),(4,{next:=2,l:=[none,some {e:=1,var:=false,fz:=false,sz:=1,cells:=(zab (zgK s i s.locks[i] j)).map C.d}]}),(33,⟨2,[]⟩),(6,⟨2,[]⟩),(51,⟨2,[]⟩),(52,⟨2,[]⟩),(55,⟨2,[]⟩),(56,⟨2,[]⟩),(59,⟨2,[]⟩),(60,⟨2,[]⟩),(66,⟨2,[]⟩),(8,{next:=2,l:=[some {e:=1,var:=true,fz:=false,sz:=0,cells:=[dS s.locks[i].name,di s.locks[i].holder,di s.locks[i].token, .d (.sl s.locks[i].line.length (za3 s.locks[i].line))]},none,none,none,none]}),(85,⟨2,[]⟩),(86,⟨2,[]⟩),(89,⟨2,[]⟩),(94,⟨2,[]⟩),(95,⟨2,[]⟩),(98,⟨2,[]⟩),(99,⟨2,[]⟩),(105,⟨2,[]⟩),(106,⟨2,[]⟩),(121,⟨2,[]⟩),(122,⟨2,[]⟩)]⟩)
    (fun j=>j≤s.locks[i].line.length) (fun _=>()) (fun j=>s.locks[i].line.length - j) 0
    (Gh.canon [1,4,8] [] [] (by simp only[hs0,zbT,zdi,zbU,zco,zcp,zcq,List.set_cons_zero,List.set_cons_succ,and_true,true_and,Int.natCast_zero,Int.cast_ofNat_Int,D.v.injEq,Value.int.injEq];try(repeat'(first|rfl|omega|with_reducible apply And.intro))) rfl (by rw[zhX];simp only[lk0,zdV,zab,List.map_append,List.map_cons,List.map_nil,List.map_map,List.append_assoc,List.cons_append,List.nil_append];rfl)) (Nat.zero_le _) ?_
   intro j hj0 hF2 K2 hK2
   repeat(first|with_reducible refine zac _ _ ?_|with_reducible refine And.imp_right (zac _ _) ?_|with_reducible refine And.imp_right (And.imp_right (zac _ _)) ?_|with_reducible refine And.imp_right (And.imp_right (And.imp_right (zac _ _))) ?_|rw[zay]|simp only[zB,Nat.reduceSub,Nat.reduceEqDiff,Nat.reduceAdd,Nat.reduceMul,Nat.reduceLeDiff,Nat.reduceLT,Nat.reduceBEq,reduceCtorEq])
   refine zaa (fun hlt2=> ?_) (fun hge2=> ?_)
   ·have hj:j<s.locks[i].line.length:=by simpa using hlt2
    have hat2:=zce hj
    have hw2:=zai hj (by omega)
    have q6:=q5 _ (List.getElem_mem hj)
    have wd:IntKind.u8.wrap s.locks[i].line[j]=s.locks[i].line[j]:=zcU (by omega) (by omega)
    have hlj:(zgK s i s.locks[i] j).length≤300:=by
     rw[zgK,List.length_append,List.length_append,zhV,List.length_take];omega
    have hle3:((zgK s i s.locks[i] j).length+1≤2^47)=True:=eq_true (by omega)
    have hsl3:(zgK s i s.locks[i] (j+1)).length=(zgK s i s.locks[i] j).length+1:=by rw[zf5 hj,List.length_append,List.length_singleton]
    repeat'(first|(with_reducible first|refine zac _ _ ?_|refine zaD ?_|refine zaE ?_)|rw[zay]|simp only[hat2,List.cons_append,List.nil_append,zaq,t1,wd,hle3,zaB,List.length_map,zY,Int.reduceEq,Int.reduceBEq,Int.reduceBNe,Nat.reduceSub,Nat.reduceEqDiff,Nat.reduceAdd,Nat.reduceMul,Nat.reduceLeDiff,Nat.reduceLT,Nat.reduceBEq,reduceCtorEq]|refine zat ?_|refine zaa (fun hb=> ?_) (fun hb=> ?_)|(refine And.intro ?_ ?_;exact zI)|refine And.intro (fun hg=> ?_) (fun hg=> ?_)|exact zC|fail)
    exact hK2 _ (j+1) (Gh.canon [1,4,8] [] [] (by simp only[hw2,hsl3,zbT,zdi,zbU,zco,zcp,zcq,List.set_cons_zero,List.set_cons_succ,and_true,true_and,Int.natCast_zero,Int.cast_ofNat_Int,D.v.injEq,Value.int.injEq];try(repeat'(first|rfl|omega|with_reducible apply And.intro))) rfl (by rw[zf5 hj];simp only[zab,List.map_append];rfl)) hj rfl (by omega)
   ·have hj:j=s.locks[i].line.length:=by
     have:¬(j:Int)<s.locks[i].line.length:=by simpa using hge2
     omega
    subst hj
    repeat'(first|(with_reducible first|refine zac _ _ ?_|refine zaD ?_|refine zaE ?_)|rw[zay]|simp only[zY,Int.reduceEq,Int.reduceBEq,Int.reduceBNe,Nat.reduceSub,Nat.reduceEqDiff,Nat.reduceAdd,Nat.reduceMul,Nat.reduceLeDiff,Nat.reduceLT,Nat.reduceBEq,reduceCtorEq]|refine zat ?_|refine zaa (fun hb=> ?_) (fun hb=> ?_)|(refine And.intro ?_ ?_;exact zI)|refine And.intro (fun hg=> ?_) (fun hg=> ?_)|exact zC|fail)
    exact hK _ (i+1) (Gh.canon [1,4] [] [] (by simp only[hw,zhe hi,zbT,zdi,zbU,zco,zcp,zcq,List.set_cons_zero,List.set_cons_succ,and_true,true_and,Int.natCast_zero,Int.cast_ofNat_Int,D.v.injEq,Value.int.injEq];try(repeat'(first|rfl|omega|with_reducible apply And.intro))) rfl (by rw[zhe hi];rfl)) hi rfl (by omega)
  ·have hi:i=s.locks.length:=by
    have:¬(i:Int)<s.locks.length:=by simpa using hge
    omega
   subst hi
   clear hK
   have hml:=zf6 h
   have w3:IntKind.u8.wrap (s.memos.length:Int)=s.memos.length:=zcU (by omega) (by omega)
   have hb2:=zhY h s.locks.length
   have hle2:((sb2 s s.locks.length).length+1≤2^47)=True:=eq_true (by omega)
   repeat'(first|(with_reducible first|refine zac _ _ ?_|refine zaD ?_|refine zaE ?_)|rw[zay]|simp only[hle2,t1,w3,zaB,List.length_map,zY,Int.reduceEq,Int.reduceBEq,Int.reduceBNe,Nat.reduceSub,Nat.reduceEqDiff,Nat.reduceAdd,Nat.reduceMul,Nat.reduceLeDiff,Nat.reduceLT,Nat.reduceBEq,reduceCtorEq]|refine zat ?_|refine zaa (fun hb=> ?_) (fun hb=> ?_)|(refine And.intro ?_ ?_;exact zI)|refine And.intro (fun hg=> ?_) (fun hg=> ?_)|exact zC|fail)
   refine zah (τ:=Nat) (fun i=>⟨[dd, .one (.ptr ⟨1,0,1⟩ 0),dd,dd, .one (.own ⟨4,1,1⟩ 0 (sb3 s i).length),dd,dd,dd,dd,dd,ai i,dd,dd,dd,dd,dd,dd,dd,dd,dd,dd,dd,dd,dd,dd,dd,dd,dd,dd,dd,dd,dd,dd,dd,dd,dd,dd,dd,dd,dd,dd,dd,dd,dd,dd,dd,dd,dd,dd,dd,dd,dd,dd,dd,dd,dd,dd,dd,dd,dd,dd,dd,dd,dd,dd,dd,dd,dd,dd,dd,dd,dd,dd,dd,dd,dd,dd,dd,dd,dd,dd,dd,dd,dd,dd,dd,dd,dd,dd,dd,dd,dd,dd,dd,dd,dd,dd,dd,dd,dd,dd,dd,dd,dd,dd,dd,dd,dd,dd,dd,dd,dd,dd,dd,dd,dd,dd,dd,dd,dd,dd,dd,dd,dd,dd,dd,dd,dd,dd,dd,dd,dd,dd,dd,dd,dd,dd,dd,dd,dd,dd,dd,dd,dd,dd,dd,dd,dd,dd,dd,dd,dd,dd,dd,dd,dd,dd],[(1,{next:=2,l:=[some {e:=1,var:=true,fz:=false,sz:=0,cells:=[di s.time,di s.num,di s.token, .lent s.sess.length (zaN s.sess), .lent s.locks.length (zax s.locks), .lent s.memos.length (zaG s.memos)]},none,none,none,none,none,none]}),(19,⟨2,[]⟩),(22,⟨2,[]⟩),(26,⟨2,[]⟩),(4,{next:=2,l:=[none,some {e:=1,var:=false,fz:=false,sz:=1,cells:=(zab (sb3 s i)).map C.d}]}),(33,⟨2,[]⟩),(6,⟨2,[]⟩),(51,⟨2,[]⟩),(52,⟨2,[]⟩),(55,⟨2,[]⟩),(56,⟨2,[]⟩),(59,⟨2,[]⟩),(60,⟨2,[]⟩),(66,⟨2,[]⟩),(8,⟨2,[]⟩),(85,⟨2,[]⟩),(86,⟨2,[]⟩),(89,⟨2,[]⟩),(94,⟨2,[]⟩),(95,⟨2,[]⟩),(98,⟨2,[]⟩),(99,⟨2,[]⟩),(105,⟨2,[]⟩),(106,⟨2,[]⟩),(121,⟨2,[]⟩),(122,⟨2,[]⟩),(128,⟨2,[]⟩),(11,⟨2,[]⟩),(12,⟨2,[]⟩),(150,⟨2,[]⟩),(155,⟨2,[]⟩)]⟩)
    (fun i=>i≤s.memos.length) (fun _=>()) (fun i=>s.memos.length - i) 0
    (Gh.canon [1,4] [11,12,150,155] [] (by simp only[zhd,List.length_append,List.length_singleton,zbT,zdi,zbU,zco,zcp,zcq,List.set_cons_zero,List.set_cons_succ,and_true,true_and,Int.natCast_zero,Int.cast_ofNat_Int,D.v.injEq,Value.int.injEq];try(repeat'(first|rfl|omega|with_reducible apply And.intro))) rfl (by rw[zhd];simp only[zab,List.map_append];rfl)) (Nat.zero_le _) ?_
   intro i hi0 hF K hK
   repeat(first|with_reducible refine zac _ _ ?_|with_reducible refine And.imp_right (zac _ _) ?_|with_reducible refine And.imp_right (And.imp_right (zac _ _)) ?_|with_reducible refine And.imp_right (And.imp_right (And.imp_right (zac _ _))) ?_|rw[zay]|simp only[zB,Nat.reduceSub,Nat.reduceEqDiff,Nat.reduceAdd,Nat.reduceMul,Nat.reduceLeDiff,Nat.reduceLT,Nat.reduceBEq,reduceCtorEq])
   refine zaa (fun hlt=> ?_) (fun hge=> ?_)
   ·have hi:i<s.memos.length:=by simpa using hlt
    have hat:=zb0 hi
    have hw:=zai hi (by omega)
    have hma:=h.mok _ (List.getElem_mem hi)
    have hpa:=zjX s.memos[i] hma
    have hb3:=zjS h i
    have hal:=zfu hma
    have hle3:((sb3 s i).length+(zaV s.memos[i]).length≤2^47)=True:=eq_true (by omega)
    have hsl3:(sb3 s (i+1)).length=(sb3 s i).length+(zaV s.memos[i]).length:=by rw[zha hi,List.length_append]
    repeat'(first|(with_reducible first|refine zac _ _ ?_|refine zaD ?_|refine zaE ?_)|rw[zay]|simp only[hat,List.cons_append,List.nil_append,zaC,zaB,hle3,zaA,List.length_map,zY,Int.reduceEq,Int.reduceBEq,Int.reduceBNe,Nat.reduceSub,Nat.reduceEqDiff,Nat.reduceAdd,Nat.reduceMul,Nat.reduceLeDiff,Nat.reduceLT,Nat.reduceBEq,reduceCtorEq]|((first|((try refine zaK ?_);apply zaU)|(apply zaT;intro _));(solve|exact(hpa)|(refine CallOK.le (hpa) ?_;exact zM)|fail);try case hn=>rfl)|refine zat ?_|refine zaa (fun hb=> ?_) (fun hb=> ?_)|(refine And.intro ?_ ?_;exact zI)|refine And.intro (fun hg=> ?_) (fun hg=> ?_)|exact zC|fail)
    exact hK _ (i+1) (Gh.canon [1,4] [] [] (by simp only[hw,hsl3,zbT,zdi,zbU,zco,zcp,zcq,List.set_cons_zero,List.set_cons_succ,and_true,true_and,Int.natCast_zero,Int.cast_ofNat_Int,D.v.injEq,Value.int.injEq];try(repeat'(first|rfl|omega|with_reducible apply And.intro))) rfl (by rw[zha hi];simp only[zab,List.map_append];rfl)) hi rfl (by omega)
   ·have hi:i=s.memos.length:=by
     have:¬(i:Int)<s.memos.length:=by simpa using hge
     omega
    subst hi
    repeat'(first|(with_reducible first|refine zac _ _ ?_|refine zaD ?_|refine zaE ?_)|rw[zay]|simp only[zY,Int.reduceEq,Int.reduceBEq,Int.reduceBNe,Nat.reduceSub,Nat.reduceEqDiff,Nat.reduceAdd,Nat.reduceMul,Nat.reduceLeDiff,Nat.reduceLT,Nat.reduceBEq,reduceCtorEq]|refine zat ?_|refine zaa (fun hb=> ?_) (fun hb=> ?_)|(refine And.intro ?_ ?_;exact zI)|refine And.intro (fun hg=> ?_) (fun hg=> ?_)|exact zC|fail)
    rfl
theorem zs3 (s:St) (hs:Small s) (h:zbn s=false):CallOK Tryz.prog 15 [.f (.agg s.lent)] (fun r o=>r=[.one (.d (.v zd2)),ri 1]∧o=[]):=by
 refine zae zam mixed (T:=Ty) (n:=157) Tryz.func15 (c:=Tryz.f15.body.getD .skip) rfl Tryz.results15 Tryz.ntmps15 Tryz.call15 ?_
 simp only[Tryz.f15,Option.getD]
 have hm:=zgd s hs
 rw[h]at hm
 repeat'(first|(with_reducible first|refine zac _ _ ?_|refine zaD ?_|refine zaE ?_)|rw[zay]|simp only[zY,Int.reduceEq,Int.reduceBEq,Int.reduceBNe,Nat.reduceSub,Nat.reduceEqDiff,Nat.reduceAdd,Nat.reduceMul,Nat.reduceLeDiff,Nat.reduceLT,Nat.reduceBEq,reduceCtorEq]|((first|((try refine zaK ?_);apply zaU)|(apply zaT;intro _));(solve|exact(hm)|(refine CallOK.le (hm) ?_;exact zM)|fail);try case hn=>rfl)|refine zat ?_|refine zaa (fun hb=> ?_) (fun hb=> ?_)|(refine And.intro ?_ ?_;exact zI)|refine And.intro (fun hg=> ?_) (fun hg=> ?_)|exact zC|fail)
theorem zh5 (s:Sn) (hs:Small s.st) (h:zaZ s=false):CallOK Tryz.prog 18 [.f (.agg s.lent)] (fun r o=>r=[.one (.d (.v zd2)),ri 1]∧o=[]):=by
 refine zae zam mixed (T:=Ty) (n:=32) Tryz.func18 (c:=Tryz.f18.body.getD .skip) rfl Tryz.results18 Tryz.ntmps18 Tryz.call18 ?_
 simp only[Tryz.f18,Option.getD]
 have hm:=zdY s hs
 rw[h]at hm
 repeat'(first|(with_reducible first|refine zac _ _ ?_|refine zaD ?_|refine zaE ?_)|rw[zay]|simp only[zY,Int.reduceEq,Int.reduceBEq,Int.reduceBNe,Nat.reduceSub,Nat.reduceEqDiff,Nat.reduceAdd,Nat.reduceMul,Nat.reduceLeDiff,Nat.reduceLT,Nat.reduceBEq,reduceCtorEq]|((first|((try refine zaK ?_);apply zaU)|(apply zaT;intro _));(solve|exact(hm)|(refine CallOK.le (hm) ?_;exact zM)|fail);try case hn=>rfl)|refine zat ?_|refine zaa (fun hb=> ?_) (fun hb=> ?_)|(refine And.intro ?_ ?_;exact zI)|refine And.intro (fun hg=> ?_) (fun hg=> ?_)|exact zC|fail)
theorem zlV (s:Sn) (h:zaZ s=true):CallOK Tryz.prog 18 [.f (.agg s.lent)] (fun r o=>r=[.one (.own 1 (snI s).length (zab (snI s)) false),ri 0]∧o=[]):=by
 obtain⟨f1,f2,f3,f4⟩:=zfZ h
 refine zae zam mixed (T:=Ty) (n:=32) Tryz.func18 (c:=Tryz.f18.body.getD .skip) rfl Tryz.results18 Tryz.ntmps18 Tryz.call18 ?_
 simp only[Tryz.f18,Option.getD]
 have hm:=zdY s (zbJ f4)
 rw[h]at hm
 have hp:=zpI s.st f4
 have m1:=zch s.done f1
 have m2:=zch s.view f2
 have m3:=zch s.slot f3
 have hl:=zjS f4 s.st.memos.length
 have hml:=zf6 f4
 have hle:(24+(zcl s.st).length≤2^47)=True:=eq_true (by unfold zcl;omega)
 have t8:∀v:Int,(zab (zaX v)).take 8=zab (zaX v):=fun v=>List.take_of_length_le (by rw[zcg];decide)
 have t16:∀v w:Int,(zab (zaX v)++zab (zaX w)).take 16=zab (zaX v)++zab (zaX w):=fun v w=>List.take_of_length_le (by simp[zaH])
 have t24:∀v w x:Int,(zab (zaX v)++zab (zaX w)++zab (zaX x)).take 24=zab (zaX v)++zab (zaX w)++zab (zaX x):=fun v w x=>List.take_of_length_le (by simp[zaH])
 have hsl:(snI s).length=24+(zcl s.st).length:=by simp[snI,zaH];omega
 rw[hsl,show zab (snI s)=zab (zaX s.done)++zab (zaX s.view)++zab (zaX s.slot)++zab (zcl s.st) from by simp[snI,zab]]
 repeat'(first|(with_reducible first|refine zac _ _ ?_|refine zaD ?_|refine zaE ?_)|rw[zay]|simp only[t8,t16,t24,hle,zaB,List.length_map,zaH,zY,Int.reduceEq,Int.reduceBEq,Int.reduceBNe,Nat.reduceSub,Nat.reduceEqDiff,Nat.reduceAdd,Nat.reduceMul,Nat.reduceLeDiff,Nat.reduceLT,Nat.reduceBEq,reduceCtorEq]|((first|((try refine zaK ?_);apply zaU)|(apply zaT;intro _));(solve|exact(hm)|exact(m1)|exact(m2)|exact(m3)|exact(hp)|(refine CallOK.le (hm) ?_;exact zM)|(refine CallOK.le (m1) ?_;exact zM)|(refine CallOK.le (m2) ?_;exact zM)|(refine CallOK.le (m3) ?_;exact zM)|(refine CallOK.le (hp) ?_;exact zM)|fail);try case hn=>rfl)|refine zat ?_|refine zaa (fun hb=> ?_) (fun hb=> ?_)|(refine And.intro ?_ ?_;exact zI)|refine And.intro (fun hg=> ?_) (fun hg=> ?_)|exact zC|fail)
def zuq (a b:Sn):Bool:=(a.done==b.done)&&((a.view==b.view)&&(a.slot==b.slot))&&zpW a.st b.st
theorem zlm (a b:Sn) (ha:Small a.st) (hb:Small b.st):CallOK Tryz.prog 24 [.f (.agg a.lent), .f (.agg b.lent)] (fun r o=>r=[rb (zuq a b)]∧o=[]):=by
 refine zae zam mixed (T:=Ty) (n:=24) Tryz.func24 (c:=Tryz.f24.body.getD .skip) rfl Tryz.results24 Tryz.ntmps24 Tryz.call24 ?_
 simp only[Tryz.f24,Option.getD]
 have hs:=zgU a.st b.st ha hb
 repeat'(first|refine zq0 ?_|exact zd0|refine zc (hs) ?_|refine zg (hs) ?_|(refine zaa ?_ ?_<;>intro hb)|(refine And.intro ?_ ?_;exact zI)|(refine And.intro ?_ ?_<;>intro hg)|exact zC|fail)
 rfl
theorem zd6 {α:Type} {eq:α→α→Bool} (h:∀a,eq a a=true) (l:List α):sameL eq l l=true:=by
 unfold sameL
 simp only[beq_self_eq_true,Bool.true_and,List.all_eq_true]
 intro p hp
 obtain⟨j,h1,h2⟩:=List.getElem_of_mem hp
 rw[←h2,List.getElem_zip]
 exact h _
theorem zm0 (l:List Int):sameL zgh l l=true:=zd6 (fun x=>by simp[zgh]) l
theorem znY (l:List Grant):sameL zl2 l l=true:=zd6 (fun x=>by simp[zl2]) l
theorem zfy (s:St):zpW s s=true:=by
 unfold zpW
 rw[zd6 (fun a=>by simp[zj2]),zd6 (fun a=>by simp[eqLk,zm0]),zd6 (fun a=>by simp[eqMe,znY])]
 simp
theorem zp3 (s:Sn):zuq s s=true:=by simp[zuq,zfy]
abbrev Z27:List Int:=List.replicate 27 0
theorem zi5:zcl st0=Z27:=by kernel_rfl
theorem st0_small:Small st0:=zbJ zhl
theorem zth:BsOk Z27:=⟨by decide,by intro x hx;rw[List.mem_replicate]at hx;rw[hx.2];exact⟨by decide,by decide⟩⟩
theorem zur:dSt Z27 0=(st0,27,0):=by
 have h:=zpt (bs:=Z27) (p:=0) (s:=st0) (rest:=[]) (by rw[zi5];rfl) zhl
 rw[zi5]at h
 have h:zcB Z27 0= .ok (st0,((0+27:Nat):Int)):=h
 unfold dSt
 rw[h]
 rfl
set_option maxHeartbeats 2000000 in
theorem zm1:CallOK Tryz.prog 12 [] (fun r o=>r=[rb true]∧o=[]):=by
 refine zae zam mixed (T:=Ty) (n:=50) Tryz.func12 (c:=Tryz.f12.body.getD .skip) rfl Tryz.results12 Tryz.ntmps12 Tryz.call12 ?_
 simp only[Tryz.f12,Option.getD]
 have hp:=zgw st0 zhl
 rw[zi5]at hp
 have hp:CallOK Tryz.prog 14 [.f (.agg [di 0,di 0,di 0, .lent 0 [], .lent 0 [], .lent 0 []])] (fun r o=>r=[.one (.own 1 27 (zab Z27) false),ri 0]∧o=[]):=hp
 have hg:=ziS Z27 0 zth (by unfold i64;omega)
 rw[zur]at hg
 have hg:CallOK Tryz.prog 16 [.f (asl 27 (zab Z27)), .f (ai 0)] (fun r o=>r=[.agg [.d (iD 0), .d (iD 0), .d (iD 0), .d (.sl 0 []), .d (.sl 0 []), .d (.sl 0 [])],ri 27,ri 0]∧o=[]):=hg
 have hs:=zgU st0 st0 st0_small st0_small
 rw[zfy]at hs
 have hs:CallOK Tryz.prog 23 [.f (.agg [di 0,di 0,di 0, .lent 0 [], .lent 0 [], .lent 0 []]), .f (.agg [di 0,di 0,di 0, .lent 0 [], .lent 0 [], .lent 0 []])] (fun r o=>r=[rb true]∧o=[]):=hs
 have hq:=zgT st0 st0 st0_small st0_small
 rw[zfy]at hq
 have hq:CallOK Tryz.prog 22 [.f (.agg [di 0,di 0,di 0, .lent 0 [], .lent 0 [], .lent 0 []]), .f (.agg [di 0,di 0,di 0, .lent 0 [], .lent 0 [], .lent 0 []])] (fun r o=>r=[rb true]∧o=[]):=hq
 have hq1:=zgT st0 {st0 with num:=1} st0_small ⟨st0_small.sess,st0_small.locks,st0_small.memos,st0_small.line,st0_small.held⟩
 rw[show zpW st0 {st0 with num:=1}=false from rfl]at hq1
 have hq1:CallOK Tryz.prog 22 [.f (.agg [di 0,di 0,di 0, .lent 0 [], .lent 0 [], .lent 0 []]), .f (.agg [di 0,di 1,di 0, .lent 0 [], .lent 0 [], .lent 0 []])] (fun r o=>r=[rb false]∧o=[]):=hq1
 repeat'(first|(with_reducible first|refine zjf 2 ?_|refine zg0 2 ?_|refine zg1 2 ?_)|refine zu0 ?_|exact zd0|(with_reducible first|refine zac _ _ ?_)|refine zc (hp) ?_|refine zg (hp) ?_|(refine zaa ?_ ?_<;>intro hb)|(refine And.intro ?_ ?_;exact zI)|(refine And.intro ?_ ?_<;>intro hg)|exact zC|fail)
 refine zji (zdp (Gh.sealV 1 (x:= .own ⟨1,1,0⟩ 0 27) (d:= .sl 27 (zab Z27)) rfl (by simp only[zY,Nat.reduceSub,Nat.reduceEqDiff,Nat.reduceAdd,Nat.reduceMul,Nat.reduceLeDiff,Nat.reduceLT,Nat.reduceBEq,reduceCtorEq];rfl)) ?_)
 have hz1:bytesOf (zab Z27)=some (List.replicate 27 0):=rfl
 have hz2:bytesOf (zds [.int .u8 0] 27)=some [UInt8.ofNat 0,UInt8.ofNat 0,UInt8.ofNat 0,UInt8.ofNat 0,UInt8.ofNat 0,UInt8.ofNat 0,UInt8.ofNat 0,UInt8.ofNat 0,UInt8.ofNat 0,UInt8.ofNat 0,UInt8.ofNat 0,UInt8.ofNat 0,UInt8.ofNat 0,UInt8.ofNat 0,UInt8.ofNat 0,UInt8.ofNat 0,UInt8.ofNat 0,UInt8.ofNat 0,UInt8.ofNat 0,UInt8.ofNat 0,UInt8.ofNat 0,UInt8.ofNat 0,UInt8.ofNat 0,UInt8.ofNat 0,UInt8.ofNat 0,UInt8.ofNat 0,UInt8.ofNat 0]:=rfl
 have hz6:Int.toNat 27=27:=rfl
 have hz3:(zds [.int .u8 0] 27).take 27=zds [.int .u8 0] 27:=rfl
 have hz4:(zds [.int .u8 0] 27).length=27:=rfl
 have hz5:(zab Z27).length=27:=rfl
 repeat'(first|refine zq (I hz1 (I hz2 (I hz3 (I hz4 (I hz5 hz6))))) ?_|exact zd (I hz1 (I hz2 (I hz3 (I hz4 (I hz5 hz6)))))|refine zc (hg) ?_|refine zg (hg) ?_|refine zc (hs) ?_|refine zg (hs) ?_|refine zc (hq) ?_|refine zg (hq) ?_|refine zc (hq1) ?_|refine zg (hq1) ?_|(refine zaa ?_ ?_<;>intro hb)|(refine And.intro ?_ ?_;exact zI)|(refine And.intro ?_ ?_<;>intro hg)|exact zC|fail)
def NmS (s:St):Prop:=(∀k∈s.locks,k.name.size<2^62)∧∀m∈s.memos,∀g∈m.reply.held,g.name.size<2^62
theorem zhk {s:St} (hn:NmS s) (h:zgc s=false):Small s:=by
 unfold zgc at h
 split at h
 ·cases h
 ·rename_i h1
  split at h
  ·cases h
  ·rename_i h2
   simp only[Bool.or_eq_true,decide_eq_true_eq,not_or]at h1
   have h2':s.locks.any zs5=false:=by simpa using h2
   rw[List.any_eq_false]at h2' h
   refine⟨by omega,by omega,by omega,fun k hk=>⟨?_,hn.1 k hk⟩,fun m hm=>⟨?_,hn.2 m hm⟩⟩
   ·have:=h2' k hk
    unfold zs5 at this
    simp only[Bool.or_eq_true,decide_eq_true_eq,not_or]at this
    omega
   ·have:=h m hm
    unfold zs6 at this
    simp only[decide_eq_true_eq]at this
    omega
theorem znW (bs:List Int) (p:Int):Small (dSt bs p).1:=by
 unfold dSt
 cases h:zcB bs p with
 |ok y=>exact zbJ (zbP.1 (zcO h))
 |error e=>exact st0_small
theorem znX (bs:List Int) (p:Int):Small (dSn bs p).1.st:=by
 unfold dSn
 cases h:zjO bs p with
 |error e=>exact st0_small
 |ok y=>
  unfold zjO at h
  cases e1:zdt bs p with
  |error x=>rw[e1]at h;cases h
  |ok d=>
  rw[e1]at h;simp only at h
  cases e2:zdt bs d.2 with
  |error x=>rw[e2]at h;cases h
  |ok v=>
  rw[e2]at h;simp only at h
  cases e3:zdt bs v.2 with
  |error x=>rw[e3]at h;cases h
  |ok l=>
  rw[e3]at h;simp only at h
  cases e4:zcB bs l.2 with
  |error x=>rw[e4]at h;cases h
  |ok s=>
  rw[e4]at h;simp only at h
  split at h
  ·cases h
   exact zbJ (zbP.1 (zcO e4))
  ·cases h
abbrev zuU (s:Sn):AV:= .agg (di s.done::di s.view::di s.slot::(stE s.st).map C.d)
set_option maxHeartbeats 8000000 in
theorem zmZ (a:Sn) (ha:NmS a.st) (b:Sn) (hb:NmS b.st) (bs:List Int) (hbl:bs.length<2^60) (hbb:∀x∈bs,zbI x) (p:Int) (hp:i64 p):
  CallOK Tryz.prog 4 [.f (zuU a), .f (zuU b), .f (asl bs.length (zab bs)), .f (ai p)] (fun r o=>r=[rb true]∧o=[]):=by
 refine zae zam mixed (T:=Ty) (n:=174) Tryz.func4 (c:=Tryz.f4.body.getD .skip) rfl Tryz.results4 Tryz.ntmps4 Tryz.call4 ?_
 simp only[Tryz.f4,Option.getD]
 have haw:=zm1
 have g1:=zmQ a.st
 have g2:=zmQ b.st
 cases ea:zgc a.st
 case true=>
  rw[ea]at g1
  repeat'(first|(with_reducible first|refine zac _ _ ?_|refine zaD ?_|refine zaE ?_)|rw[zay]|simp only[zY,Int.reduceEq,Int.reduceBEq,Int.reduceBNe,Nat.reduceSub,Nat.reduceEqDiff,Nat.reduceAdd,Nat.reduceMul,Nat.reduceLeDiff,Nat.reduceLT,Nat.reduceBEq,reduceCtorEq]|((first|((try refine zaK ?_);apply zaU)|(apply zaT;intro _));(solve|exact(haw)|exact(g1)|(refine CallOK.le (haw) ?_;exact zM)|(refine CallOK.le (g1) ?_;exact zM)|fail);try case hn=>rfl)|refine zat ?_|refine zaa (fun hb=> ?_) (fun hb=> ?_)|(refine And.intro ?_ ?_;exact zI)|refine And.intro (fun hg=> ?_) (fun hg=> ?_)|exact zC|fail)
 case false=>
 rw[ea]at g1
 cases eb:zgc b.st
 case true=>
  rw[eb]at g2
  repeat'(first|(with_reducible first|refine zac _ _ ?_|refine zaD ?_|refine zaE ?_)|rw[zay]|simp only[zY,Int.reduceEq,Int.reduceBEq,Int.reduceBNe,Nat.reduceSub,Nat.reduceEqDiff,Nat.reduceAdd,Nat.reduceMul,Nat.reduceLeDiff,Nat.reduceLT,Nat.reduceBEq,reduceCtorEq]|((first|((try refine zaK ?_);apply zaU)|(apply zaT;intro _));(solve|exact(haw)|exact(g1)|exact(g2)|(refine CallOK.le (haw) ?_;exact zM)|(refine CallOK.le (g1) ?_;exact zM)|(refine CallOK.le (g2) ?_;exact zM)|fail);try case hn=>rfl)|refine zat ?_|refine zaa (fun hb=> ?_) (fun hb=> ?_)|(refine And.intro ?_ ?_;exact zI)|refine And.intro (fun hg=> ?_) (fun hg=> ?_)|exact zC|fail)
 case false=>
 rw[eb]at g2
 cases ec:decide ((bs.length:Int)>2000)
 case true=>
  repeat'(first|(with_reducible first|refine zac _ _ ?_|refine zaD ?_|refine zaE ?_)|rw[zay]|simp only[ec,zY,Int.reduceEq,Int.reduceBEq,Int.reduceBNe,Nat.reduceSub,Nat.reduceEqDiff,Nat.reduceAdd,Nat.reduceMul,Nat.reduceLeDiff,Nat.reduceLT,Nat.reduceBEq,reduceCtorEq]|((first|((try refine zaK ?_);apply zaU)|(apply zaT;intro _));(solve|exact(haw)|exact(g1)|exact(g2)|(refine CallOK.le (haw) ?_;exact zM)|(refine CallOK.le (g1) ?_;exact zM)|(refine CallOK.le (g2) ?_;exact zM)|fail);try case hn=>rfl)|refine zat ?_|refine zaa (fun hb=> ?_) (fun hb=> ?_)|(refine And.intro ?_ ?_;exact zI)|refine And.intro (fun hg=> ?_) (fun hg=> ?_)|exact zC|fail)
 case false=>
 have sa:=zhk ha ea
 have sb:=zhk hb eb
 have hbs:BsOk bs:=⟨hbl,hbb⟩
 have q1:=ziS bs p hbs hp
 have q2:=zpJ bs p hbs hp
 have q3:=zie bs p hbs hp
 have q4:=zlX bs p hbs hp
 have d1:=znW bs p
 have d2:=znX bs p
 have m1:=zeZ a sa
 have m2:=zdY a sa
 have k1:=zgT a.st b.st sa sb
 have k2:=zgU a.st b.st sa sb
 have k3:=zgT a.st a.st sa sa
 rw[zfy]at k3
 have k4:=zgU _ _ d1 d1
 rw[zfy]at k4
 have k5:=zlm _ _ d2 d2
 rw[zp3]at k5
 generalize dSt bs p=u at*
 generalize dSn bs p=w at*
 cases er:zbn a.st
 ·have em:zaZ a=false:=by unfold zaZ;rw[er];simp
  have p1:=znA a.st sa er
  have p2:=zs3 a.st sa er
  have p3:=ziR a sa em
  have p4:=zh5 a sa em
  repeat'(first|(with_reducible first|refine zac _ _ ?_|refine zaD ?_|refine zaE ?_)|rw[zay]|simp only[ec,bne_self_eq_false,beq_self_eq_true,zY,Int.reduceEq,Int.reduceBEq,Int.reduceBNe,Nat.reduceSub,Nat.reduceEqDiff,Nat.reduceAdd,Nat.reduceMul,Nat.reduceLeDiff,Nat.reduceLT,Nat.reduceBEq,reduceCtorEq]|((first|((try refine zaK ?_);apply zaU)|(apply zaT;intro _));(solve|exact(haw)|exact(g1)|exact(g2)|exact(p1)|exact(p2)|exact(q1)|exact(q2)|exact(p3)|exact(p4)|exact(q3)|exact(q4)|exact(m1)|exact(m2)|exact(k1)|exact(k2)|exact(k3)|exact(k4)|exact(k5)|(refine CallOK.le (haw) ?_;exact zM)|(refine CallOK.le (g1) ?_;exact zM)|(refine CallOK.le (g2) ?_;exact zM)|(refine CallOK.le (p1) ?_;exact zM)|(refine CallOK.le (p2) ?_;exact zM)|(refine CallOK.le (q1) ?_;exact zM)|(refine CallOK.le (q2) ?_;exact zM)|(refine CallOK.le (p3) ?_;exact zM)|(refine CallOK.le (p4) ?_;exact zM)|(refine CallOK.le (q3) ?_;exact zM)|(refine CallOK.le (q4) ?_;exact zM)|(refine CallOK.le (m1) ?_;exact zM)|(refine CallOK.le (m2) ?_;exact zM)|(refine CallOK.le (k1) ?_;exact zM)|(refine CallOK.le (k2) ?_;exact zM)|(refine CallOK.le (k3) ?_;exact zM)|(refine CallOK.le (k4) ?_;exact zM)|(refine CallOK.le (k5) ?_;exact zM)|fail);try case hn=>rfl)|refine zat ?_|refine zaa (fun hb=> ?_) (fun hb=> ?_)|(refine And.intro ?_ ?_;exact zI)|refine And.intro (fun hg=> ?_) (fun hg=> ?_)|exact zC|fail)
 ·have rs:=zbP.1 er
  have p1:=zgw a.st rs
  have p2:=zpI a.st rs
  obtain⟨L,hL⟩:∃L,bytesOf (zab (zcl a.st))=some L:=⟨_,zb8 _⟩
  cases em:zaZ a
  ·have p3:=ziR a sa em
   have p4:=zh5 a sa em
   repeat'(first|(with_reducible first|refine zac _ _ ?_|refine zaD ?_|refine zaE ?_)|rw[zay]|simp only[ec,bne_self_eq_false,beq_self_eq_true,zaB,hL,zY,Int.reduceEq,Int.reduceBEq,Int.reduceBNe,Nat.reduceSub,Nat.reduceEqDiff,Nat.reduceAdd,Nat.reduceMul,Nat.reduceLeDiff,Nat.reduceLT,Nat.reduceBEq,reduceCtorEq]|((first|((try refine zaK ?_);apply zaU)|(apply zaT;intro _));(solve|exact(haw)|exact(g1)|exact(g2)|exact(p1)|exact(p2)|exact(q1)|exact(q2)|exact(p3)|exact(p4)|exact(q3)|exact(q4)|exact(m1)|exact(m2)|exact(k1)|exact(k2)|exact(k3)|exact(k4)|exact(k5)|(refine CallOK.le (haw) ?_;exact zM)|(refine CallOK.le (g1) ?_;exact zM)|(refine CallOK.le (g2) ?_;exact zM)|(refine CallOK.le (p1) ?_;exact zM)|(refine CallOK.le (p2) ?_;exact zM)|(refine CallOK.le (q1) ?_;exact zM)|(refine CallOK.le (q2) ?_;exact zM)|(refine CallOK.le (p3) ?_;exact zM)|(refine CallOK.le (p4) ?_;exact zM)|(refine CallOK.le (q3) ?_;exact zM)|(refine CallOK.le (q4) ?_;exact zM)|(refine CallOK.le (m1) ?_;exact zM)|(refine CallOK.le (m2) ?_;exact zM)|(refine CallOK.le (k1) ?_;exact zM)|(refine CallOK.le (k2) ?_;exact zM)|(refine CallOK.le (k3) ?_;exact zM)|(refine CallOK.le (k4) ?_;exact zM)|(refine CallOK.le (k5) ?_;exact zM)|fail);try case hn=>rfl)|refine zat ?_|refine zaa (fun hb=> ?_) (fun hb=> ?_)|(refine And.intro ?_ ?_;exact zI)|refine And.intro (fun hg=> ?_) (fun hg=> ?_)|exact zC|fail)
  ·have p3:=znz a em
   have p4:=zlV a em
   obtain⟨M,hM⟩:∃M,bytesOf (zab (snI a))=some M:=⟨_,zb8 _⟩
   repeat'(first|(with_reducible first|refine zac _ _ ?_|refine zaD ?_|refine zaE ?_)|rw[zay]|simp only[ec,bne_self_eq_false,beq_self_eq_true,zaB,hL,hM,zY,Int.reduceEq,Int.reduceBEq,Int.reduceBNe,Nat.reduceSub,Nat.reduceEqDiff,Nat.reduceAdd,Nat.reduceMul,Nat.reduceLeDiff,Nat.reduceLT,Nat.reduceBEq,reduceCtorEq]|((first|((try refine zaK ?_);apply zaU)|(apply zaT;intro _));(solve|exact(haw)|exact(g1)|exact(g2)|exact(p1)|exact(p2)|exact(q1)|exact(q2)|exact(p3)|exact(p4)|exact(q3)|exact(q4)|exact(m1)|exact(m2)|exact(k1)|exact(k2)|exact(k3)|exact(k4)|exact(k5)|(refine CallOK.le (haw) ?_;exact zM)|(refine CallOK.le (g1) ?_;exact zM)|(refine CallOK.le (g2) ?_;exact zM)|(refine CallOK.le (p1) ?_;exact zM)|(refine CallOK.le (p2) ?_;exact zM)|(refine CallOK.le (q1) ?_;exact zM)|(refine CallOK.le (q2) ?_;exact zM)|(refine CallOK.le (p3) ?_;exact zM)|(refine CallOK.le (p4) ?_;exact zM)|(refine CallOK.le (q3) ?_;exact zM)|(refine CallOK.le (q4) ?_;exact zM)|(refine CallOK.le (m1) ?_;exact zM)|(refine CallOK.le (m2) ?_;exact zM)|(refine CallOK.le (k1) ?_;exact zM)|(refine CallOK.le (k2) ?_;exact zM)|(refine CallOK.le (k3) ?_;exact zM)|(refine CallOK.le (k4) ?_;exact zM)|(refine CallOK.le (k5) ?_;exact zM)|fail);try case hn=>rfl)|refine zat ?_|refine zaa (fun hb=> ?_) (fun hb=> ?_)|(refine And.intro ?_ ?_;exact zI)|refine And.intro (fun hg=> ?_) (fun hg=> ?_)|exact zC|fail)
theorem zuh {n:Int} (h:(Lit.int .i64 n).wf=true):i64 n:=by
 have h2:(decide (IntKind.i64.min≤n)&&decide (n≤IntKind.i64.max))=true:=h
 have e1:IntKind.i64.min= -9223372036854775808:=by decide
 have e2:IntKind.i64.max=9223372036854775807:=by decide
 rw[e1,e2]at h2
 simp only[Bool.and_eq_true,decide_eq_true_eq]at h2
 unfold i64
 omega
theorem zuR {n:Int} (h:(Lit.int .u8 n).wf=true):zbI n:=by
 have h2:(decide (IntKind.u8.min≤n)&&decide (n≤IntKind.u8.max))=true:=h
 have e1:IntKind.u8.min=0:=by decide
 have e2:IntKind.u8.max=255:=by decide
 rw[e1,e2]at h2
 simp only[Bool.and_eq_true,decide_eq_true_eq]at h2
 unfold zbI
 omega
theorem zl0 {α:Type} {enc:α→List D} {ok:α→Prop} {s:Sh} (h:∀ds,ShD s ds→∃x,ds=enc x∧ok x):∀xs:List (List D),(∀x∈xs,ShD s x)→∃l:List α,l.length=xs.length∧xs.flatten=l.flatMap enc∧∀x∈l,ok x
 |[],_=>⟨[],rfl,rfl,fun x hx=>by cases hx⟩
 |x::xs,hx=>by
  obtain⟨a,ha1,ha2⟩:=h x (hx x (by simp))
  obtain⟨l,h1,h2,h3⟩:=zl0 h xs fun y hy=>hx y (by simp[hy])
  refine⟨a::l,by simp[h1], ?_,fun y hy=> ?_⟩
  ·rw[List.flatten_cons,List.flatMap_cons,h2,ha1]
  ·rcases List.mem_cons.1 hy with rfl|hy
   ·exact ha2
   ·exact h3 y hy
theorem zpV:reachBytes<2^60:=by decide
theorem byte_of (ds:List D) (h:ShD (.int .u8) ds):∃x:Int,ds=[uD x]∧zbI x:=by
 simp only[ShD]at h
 obtain⟨n,rfl,hn⟩:=h
 exact⟨n,rfl,zuR hn⟩
theorem zcY (ds:List D) (h:ShD (.int .i64) ds):∃x:Int,ds=[iD x]∧i64 x:=by
 simp only[ShD]at h
 obtain⟨n,rfl,hn⟩:=h
 exact⟨n,rfl,zuh hn⟩
abbrev zxn:Sh:= .struct [.int .u8, .int .u8, .int .u8, .int .u8, .int .u8, .int .u8]
theorem zl1 (l:List Int):(l.flatMap fun n=>[uD n])=zab l:=by
 induction l with
 |nil=>rfl
 |cons a l ih=>simp[List.flatMap_cons,ih]
theorem zuS (ds:List D) (h:ShD (.slice 1 (.int .u8)) ds):∃l:List Int,ds=[.sl l.length (zab l)]∧l.length<2^60∧∀x∈l,zbI x:=by
 rw[ShD]at h
 obtain⟨xs,rfl,hx1,hx2⟩:=h
 obtain⟨l,l1,l2,l3⟩:=zl0 byte_of xs hx2
 have:=zpV
 rw[zl1]at l2
 exact⟨l,by rw[←l1,l2],by omega,l3⟩
def zxo (n:Int):Prop:=0≤n∧n<65536
abbrev wD (n:Int):D:= .v (.int .u16 n)
abbrev aw (n:Int):AV:= .one (.d (wD n))
abbrev zrn:Sh:= .struct [.int .i64, .int .i64, .int .i64]
abbrev zuT:Sh:= .struct [.str, .int .i64, .int .i64, .slice 8 (.int .i64)]
abbrev znS:Sh:= .struct [.str, .int .i64]
abbrev znT:Sh:= .struct [.int .i64, .int .i64, .int .i64, .slice 24 znS]
abbrev zro:Sh:= .struct [.int .i64, .int .i64,znT]
abbrev znU:Sh:= .struct [.int .i64, .int .i64, .int .i64, .slice 24 zrn, .slice 56 zuT, .slice 64 zro]
theorem zfx {α:Type} {enc:α→List D} {ok:α→Prop} {s:Sh} {z:Nat} (h0:∀ds,ShD s ds→∃x,ds=enc x∧ok x) (ds:List D) (h:ShD (.slice z s) ds):∃l:List α,ds=[.sl l.length (l.flatMap enc)]∧∀x∈l,ok x:=by
 rw[ShD]at h
 obtain⟨xs,rfl,hx1,hx2⟩:=h
 obtain⟨l,l1,l2,l3⟩:=zl0 h0 xs hx2
 exact⟨l,by rw[←l1,l2],l3⟩
theorem zr7 (ds:List D) (h:ShD zrn ds):∃x:Sess,ds=x.enc∧True:=by
 simp only[ShD,ShDs]at h
 obtain⟨_,_,rfl,⟨c,rfl,hc⟩,_,_,rfl,⟨q,rfl,hq⟩,_,_,rfl,⟨k,rfl,hk⟩,rfl⟩:=h
 exact⟨⟨c,q,k⟩,rfl,trivial⟩
theorem zw6 (ds:List D) (h:ShD (.int .i64) ds):∃x:Int,ds=[iD x]∧True:=by
 obtain⟨x,h1,_⟩:=zcY ds h
 exact⟨x,h1,trivial⟩
theorem zrp (ds:List D) (h:ShD .str ds):∃x:ByteArray,ds=[sD x]∧x.size<2^62:=by
 simp only[ShD]at h
 obtain⟨n,rfl,hn⟩:=h
 have:=zpV
 exact⟨n,rfl,by omega⟩
theorem zup (ds:List D) (h:ShD zuT ds):∃x:Lk,ds=x.enc∧x.name.size<2^62:=by
 rw[ShD]at h
 simp only[ShDs]at h
 obtain⟨_,_,rfl,h1,_,_,rfl,h2,_,_,rfl,h3,_,_,rfl,h4,rfl⟩:=h
 obtain⟨a,rfl,ha⟩:=zrp _ h1
 obtain⟨b,rfl,hb⟩:=zcY _ h2
 obtain⟨c,rfl,hc⟩:=zcY _ h3
 obtain⟨d,rfl,hd⟩:=zfx zw6 _ h4
 exact⟨⟨a,b,c,d⟩,rfl,ha⟩
theorem zp0 (ds:List D) (h:ShD znS ds):∃x:Grant,ds=x.enc∧x.name.size<2^62:=by
 rw[ShD]at h
 simp only[ShDs]at h
 obtain⟨_,_,rfl,h1,_,_,rfl,h2,rfl⟩:=h
 obtain⟨a,rfl,ha⟩:=zrp _ h1
 obtain⟨b,rfl,hb⟩:=zcY _ h2
 exact⟨⟨a,b⟩,rfl,ha⟩
theorem zp1 (ds:List D) (h:ShD znT ds):∃x:Reply,ds=x.enc∧∀g∈x.held,g.name.size<2^62:=by
 rw[ShD]at h
 simp only[ShDs]at h
 obtain⟨_,_,rfl,h1,_,_,rfl,h2,_,_,rfl,h3,_,_,rfl,h4,rfl⟩:=h
 obtain⟨a,rfl,ha⟩:=zcY _ h1
 obtain⟨b,rfl,hb⟩:=zcY _ h2
 obtain⟨c,rfl,hc⟩:=zcY _ h3
 obtain⟨d,rfl,hd⟩:=zfx zp0 _ h4
 exact⟨⟨a,b,c,d⟩,rfl,hd⟩
theorem zr8 (ds:List D) (h:ShD zro ds):∃x:Memo,ds=x.enc∧∀g∈x.reply.held,g.name.size<2^62:=by
 rw[ShD]at h
 simp only[ShDs]at h
 obtain⟨_,_,rfl,h1,_,_,rfl,h2,_,_,rfl,h3,rfl⟩:=h
 obtain⟨a,rfl,ha⟩:=zcY _ h1
 obtain⟨b,rfl,hb⟩:=zcY _ h2
 obtain⟨c,rfl,hc⟩:=zp1 _ h3
 exact⟨⟨a,b,c⟩,by simp[Memo.enc],hc⟩
theorem zp2 (ds:List D) (h:ShD znU ds):∃s:St,ds=stE s∧NmS s:=by
 rw[ShD]at h
 simp only[ShDs]at h
 obtain⟨_,_,rfl,h1,_,_,rfl,h2,_,_,rfl,h3,_,_,rfl,h4,_,_,rfl,h5,_,_,rfl,h6,rfl⟩:=h
 obtain⟨a,rfl,ha⟩:=zcY _ h1
 obtain⟨b,rfl,hb⟩:=zcY _ h2
 obtain⟨c,rfl,hc⟩:=zcY _ h3
 obtain⟨d,rfl,hd⟩:=zfx zr7 _ h4
 obtain⟨e,rfl,he⟩:=zfx zup _ h5
 obtain⟨f,rfl,hf⟩:=zfx zr8 _ h6
 exact⟨⟨a,b,c,d,e,f⟩,rfl,he,hf⟩
abbrev zhj:Sh:= .struct [.int .i64, .struct [.int .i64, .int .i64],znU]
theorem znV (ds:List D) (h:ShD zhj ds):∃s:Sn,ds=iD s.done::iD s.view::iD s.slot::stE s.st∧NmS s.st:=by
 rw[ShD]at h
 simp only[ShDs]at h
 obtain⟨_,_,rfl,h1,_,_,rfl,h2,_,_,rfl,h3,rfl⟩:=h
 obtain⟨a,rfl,ha⟩:=zcY _ h1
 rw[ShD]at h2
 simp only[ShDs]at h2
 obtain⟨_,_,rfl,h4,_,_,rfl,h5,rfl⟩:=h2
 obtain⟨b,rfl,hb⟩:=zcY _ h4
 obtain⟨c,rfl,hc⟩:=zcY _ h5
 obtain⟨d,rfl,hd⟩:=zp2 _ h3
 exact⟨⟨a,b,c,d⟩,by simp,hd⟩
end Go.Proofs.YtbpmcjeeeiffhaaGreat
