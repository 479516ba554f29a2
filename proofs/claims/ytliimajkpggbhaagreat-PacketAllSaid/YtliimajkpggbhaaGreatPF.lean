import Derived.Test.YtliimajkpggbhaaGreatL9
namespace Go.Proofs.YtliimajkpggbhaaGreat
open Go.Pk Tryz
set_option maxRecDepth 100000
set_option linter.unusedSimpArgs false
set_option linter.unusedVariables false
theorem zeq (v:Int) (h:0≤v∧v<4611686018427387904):CallOK prog 69 [.f (ai v)] (fun r o=>r=[.one (.own 1 8 (zaa (zaK v)) false)]∧o=[]):=by
 refine zh func69 results69 ntmps69 call69 ?_
 simp only[f69,Option.getD]
 have hp:=zc8 v h
 exact zW trivial (hp)
theorem zjE:∀ls:List (List Int),(ls.map zaa).flatten=zaa ls.flatten
 |[]=>rfl
 |l::ls=>by simp only[List.map_cons,List.flatten_cons,zjE ls,List.map_append]
theorem ze5 (ls:List (List Int)) (hl:ls.length<2^10) (hs:∀l∈ls,l.length≤2^12):
  CallOK prog 66 [.f (al ls.length (ls.map fun l=> .sl l.length (zaa l)))] (fun r o=>r=[.one (.own 1 ls.flatten.length (zaa ls.flatten) false)]∧o=[]):=by
 have h:=ziB (ls.map zaa) (by simpa using hl) (fun l h=>by
  obtain⟨x,hx,rfl⟩:=List.mem_map.1 h
  rw[List.length_map];exact hs x hx)
 rw[zjE,zba,List.length_map]at h
 have e:zry (ls.map zaa)=ls.map fun l=> .sl l.length (zaa l):=by
  rw[zry,List.map_map]
  exact List.map_congr_left fun l _=>by simp only[Function.comp,zba]
 rw[e]at h
 exact h
def zmY (x:Sess):List Int:=x.client::(zaK x.num++zaK x.renewed)
def lk0 (k:Lk):List Int:=zes k.name++(k.holder::(zaK k.token++[(k.line.length:Int)]))
def zoS (k:Lk):List Int:=lk0 k++k.line
def zkz (s:St):List Int:=zaK s.time++(zaK s.num++(zaK s.token++[(s.sess.length:Int)]))
def sb1 (s:St) (i:Nat):List Int:=zkz s++(s.sess.take i).flatMap zmY
def sb2 (s:St) (i:Nat):List Int:=(sb1 s s.sess.length++[(s.locks.length:Int)])++(s.locks.take i).flatMap zoS
def sb3 (s:St) (i:Nat):List Int:=(sb2 s s.locks.length++[(s.memos.length:Int)])++(s.memos.take i).flatMap za9
def zdJ (s:St):List Int:=sb3 s s.memos.length
theorem zcE {α:Type} (f:α→List Int) {l:List α} {i:Nat} (hi:i<l.length):(l.take (i+1)).flatMap f=(l.take i).flatMap f++f l[i]:=by
 rw[List.take_succ_eq_append_getElem hi,List.flatMap_append];simp
theorem zkA {s:St} {i:Nat} (hi:i<s.sess.length):sb1 s (i+1)=sb1 s i++zmY s.sess[i]:=by rw[sb1,zcE _ hi,sb1,List.append_assoc]
theorem zsL {s:St} {i:Nat} (hi:i<s.locks.length):sb2 s (i+1)=sb2 s i++zoS s.locks[i]:=by rw[sb2,zcE _ hi,sb2,←List.append_assoc]
theorem zhC {s:St} {i:Nat} (hi:i<s.memos.length):sb3 s (i+1)=sb3 s i++za9 s.memos[i]:=by rw[sb3,zcE _ hi,sb3,←List.append_assoc]
theorem zhD {s:St}:sb1 s 0=zkz s:=by simp[sb1]
theorem zhE {s:St}:sb2 s 0=sb1 s s.sess.length++[(s.locks.length:Int)]:=by simp[sb2]
theorem zhF {s:St}:sb3 s 0=sb2 s s.locks.length++[(s.memos.length:Int)]:=by simp[sb3]
theorem zdq {α:Type} (f:α→List Int) {k:Nat}:∀{l:List α},(∀x∈l,(f x).length≤k)→(l.flatMap f).length≤l.length*k
 |[],_=>by simp
 |x::l,h=>by
  rw[List.flatMap_cons,List.length_append,List.length_cons,Nat.add_mul]
  have:=h x (by simp)
  have:=zdq f (l:=l) fun y hy=>h y (by simp[hy])
  omega
theorem zgo (s:St):(zkz s).length=25:=by simp[zkz,zaz]
theorem zl4 (x:Sess):(zmY x).length=17:=by simp[zmY,zaz]
theorem zkB (k:Lk):(lk0 k).length=11+k.name.size:=by simp[lk0,zaz,zcp];omega
theorem zis (s:St) (i:Nat):(sb1 s i).length≤25+i*17:=by
 rw[sb1,List.length_append,zgo]
 have:=zdq zmY (l:=s.sess.take i) (k:=17) fun x _=>by rw[zl4];exact Nat.le_refl _
 have h2:(s.sess.take i).length≤i:=by rw[List.length_take];omega
 have:=Nat.mul_le_mul_right 17 h2
 omega
theorem zgU {s:St} (h:RightS s) {k:Lk} (hk:k∈s.locks):(zoS k).length≤26∧k.name.size≤12∧(0≤k.holder∧k.holder≤255)∧(0≤k.token∧k.token<4611686018427387904)∧k.line.length≤3∧∀c∈k.line,0≤c∧c≤255:=by
 have hH:zcT=2305843009213693952:=rfl
 obtain⟨a,_,b,_⟩:=h.lok k hk
 obtain⟨h1,h2,h3⟩:=znf.1 a
 obtain⟨l1,l2,_⟩:=zk2.1 b
 have hs:=zgH h1
 refine⟨?_,hs,by omega,by omega,l1,fun c hc=> ?_⟩
 ·rw[zoS,List.length_append,zkB];omega
 ·have:=l2 c hc
  simp only[isClient,Bool.and_eq_true,decide_eq_true_eq]at this
  omega
def zhf (s:St) (i:Nat) (k:Lk) (j:Nat):List Int:=(sb2 s i++lk0 k)++k.line.take j
theorem zit {s:St} {i:Nat} {k:Lk}:zhf s i k 0=sb2 s i++lk0 k:=by simp[zhf]
theorem zgp {s:St} {i:Nat} {k:Lk} {j:Nat} (hj:j<k.line.length):zhf s i k (j+1)=zhf s i k j++[k.line[j]]:=by
 rw[zhf,List.take_succ_eq_append_getElem hj,←List.append_assoc,zhf]
theorem zhG {s:St} {i:Nat} (hi:i<s.locks.length):zhf s i s.locks[i] s.locks[i].line.length=sb2 s (i+1):=by
 rw[zhf,List.take_length,zsL hi,zoS,List.append_assoc]
theorem ziu {s:St} (h:RightS s) (i:Nat):(sb2 s i).length≤115+i*26:=by
 rw[sb2,List.length_append,List.length_append]
 have:=zis s s.sess.length
 have:=h.sl
 have:=zdq zoS (l:=s.locks.take i) (k:=26) fun x hx=>(zgU h (List.mem_of_mem_take hx)).1
 have h2:(s.locks.take i).length≤i:=by rw[List.length_take];omega
 have:=Nat.mul_le_mul_right 26 h2
 simp only[List.length_singleton]
 omega
theorem zgq {s:St} (h:RightS s):s.memos.length≤8:=by
 have:=zgI (a:=0) (b:=8) (ztk.1 h.ms) (fun x hx=>by
  obtain⟨m,hm,rfl⟩:=List.mem_map.1 hx
  exact(zei (h.mok m hm)).1)
 rw[List.length_map]at this
 omega
theorem ziv {s:St} (h:RightS s) (i:Nat):(sb3 s i).length≤250+i*104:=by
 rw[sb3,List.length_append,List.length_append]
 have:=ziu h s.locks.length
 have:=h.ll
 have:=zdq za9 (l:=s.memos.take i) (k:=104) fun x hx=>zer (h.mok x (List.mem_of_mem_take hx))
 have h2:(s.memos.take i).length≤i:=by rw[List.length_take];omega
 have:=Nat.mul_le_mul_right 104 h2
 simp only[List.length_singleton]
 omega
theorem zah {l:List Int}:(zaa l).take l.length=zaa l:=List.take_of_length_le (by rw[zba];exact Nat.le_refl _)
set_option maxHeartbeats 4000000 in
theorem zoT (s:St) (h:RightS s):CallOK prog 68 [.f (.agg s.lent)] (fun r o=>r=[.one (.own 1 (zdJ s).length (zaa (zdJ s)) false),ri 0]∧o=[]):=by
 refine zh func68 results68 ntmps68 call68 ?_
 simp only[f68,Option.getD]
 have hri:=zjV s (zcU h)
 rw[zdY.2 h]at hri
 have hH:zcT=2305843009213693952:=rfl
 have ht:=h.time
 have hn:=h.num
 have hk:=h.token
 have hsl:=h.sl
 have hll:=h.ll
 have n1:=zeq s.time (by omega)
 have n2:=zeq s.num (by omega)
 have n3:=zeq s.token (by omega)
 have w1:IntKind.u8.wrap (s.sess.length:Int)=s.sess.length:=zbf (by omega) (by omega)
 have hcc:CallOK prog 66 [.f (al 4 [.sl 8 (zaa (zaK s.time)), .sl 8 (zaa (zaK s.num)), .sl 8 (zaa (zaK s.token)), .sl 1 (zaa [(s.sess.length:Int)])])] (fun x o=>x=[.one (.own 1 25 (zaa (zkz s)) false)]∧o=[]):=by
  have hc:=ze5 [zaK s.time,zaK s.num,zaK s.token,[(s.sess.length:Int)]] (by simp) (fun l hl=>by
   simp only[List.mem_cons,List.not_mem_nil,or_false]at hl
   rcases hl with rfl|rfl|rfl|rfl<;>simp[zaz])
  rw[show [zaK s.time,zaK s.num,zaK s.token,[(s.sess.length:Int)]].flatten=zkz s from by simp[zkz],zgo]at hc
  exact hc
 have t8:∀v:Int,(zaa (zaK v)).take 8=zaa (zaK v):=fun v=>List.take_of_length_le (by rw[zcj];decide)
 have t1:∀x:Int,toDs (sub 0 1 1 [C.d (uD x)])=some [uD x]:=fun _=>rfl
 refine zL (I t8 (I t1 w1)) (I (hri) (I (n1) (I (n2) (I (n3) (hcc))))) ?_
 refine zaf (τ:=Nat) (fun i=>⟨(dd::ptq 1::dq2 (.one (.own ⟨4,1,1⟩ 0 (sb1 s i).length)::zrQ (al s.sess.length (zaV s.sess)::ai s.sess.length::ai i::zto (zdO (zdO []))))),[(1,⟨2,[obq 1 [di s.time,di s.num,di s.token, .lent s.sess.length (zaV s.sess), .lent s.locks.length (zay s.locks), .lent s.memos.length (zaM s.memos)],none,none,none,none,none,none]⟩),(22,⟨2,[]⟩),(25,⟨2,[]⟩),(28,⟨2,[]⟩),(33,⟨2,[]⟩),(34,⟨2,[]⟩),(35,⟨2,[]⟩),(4,⟨2,[none,roq 1 1 (zaa (sb1 s i))]⟩),(6,⟨2,[]⟩),(47,⟨2,[]⟩),(50,⟨2,[]⟩),(53,⟨2,[]⟩),(54,⟨2,[]⟩),(55,⟨2,[]⟩)]⟩)
  (fun i=>i≤s.sess.length) (fun _=>()) (fun i=>s.sess.length - i) 0
  (Gh.canon [1,4] [6,47,50,53,54,55] [] (zk (I @zhD @zgo)) rfl (by rw[zhD];rfl)) (Nat.zero_le _) ?_
 intro i hi0 hF K hK
 refine zw ?_
 refine zab (fun hlt=> ?_) (fun hge=> ?_)
 ·have hi:i<s.sess.length:=by simpa using hlt
  have hat:=zbH hi
  have hw:=zai hi (by omega)
  obtain⟨f1,f2,f3⟩:=zi5.1 (h.sok _ (List.getElem_mem hi)).1
  simp only[isClient,Bool.and_eq_true,decide_eq_true_eq]at f1
  have wc:IntKind.u8.wrap s.sess[i].client=s.sess[i].client:=zbf (by omega) (by omega)
  have m1:=zeq s.sess[i].num (by omega)
  have m2:=zeq s.sess[i].renewed (by omega)
  have hb:=zis s i
  have hcc:CallOK prog 66 [.f (al 4 [.sl (sb1 s i).length (zaa (sb1 s i)), .sl 1 (zaa [s.sess[i].client]), .sl 8 (zaa (zaK s.sess[i].num)), .sl 8 (zaa (zaK s.sess[i].renewed))])] (fun x o=>x=[.one (.own 1 (sb1 s (i+1)).length (zaa (sb1 s (i+1))) false)]∧o=[]):=by
   have hc:=ze5 [sb1 s i,[s.sess[i].client],zaK s.sess[i].num,zaK s.sess[i].renewed] (by simp) (fun l hl=>by
    simp only[List.mem_cons,List.not_mem_nil,or_false]at hl
    rcases hl with rfl|rfl|rfl|rfl
    ·omega
    ·simp
    ·rw[zaz];decide
    ·rw[zaz];decide)
   rw[show [sb1 s i,[s.sess[i].client],zaK s.sess[i].num,zaK s.sess[i].renewed].flatten=sb1 s (i+1) from by rw[zkA hi];simp[zmY]]at hc
   exact hc
  refine zL (I hat (I @zat (I t8 (I t1 (I wc (I @zah zca)))))) (I (m1) (I (m2) (hcc))) ?_
  exact hK _ (i+1) (Gh.canon [1,4] [] [] (zk hw) rfl rfl) hi rfl (by omega)
 ·have hi:i=s.sess.length:=by
   have:¬(i:Int)<s.sess.length:=by simpa using hge
   omega
  subst hi
  clear hK
  have w2:IntKind.u8.wrap (s.locks.length:Int)=s.locks.length:=zbf (by omega) (by omega)
  have hb:=zis s s.sess.length
  have hle:((sb1 s s.sess.length).length+1≤2^47)=True:=eq_true (by omega)
  refine zL0 (I hle (I t1 (I w2 @zah))) ?_
  refine zaf (τ:=Nat) (fun i=>⟨(dd::ptq 1::dq2 (.one (.own ⟨4,1,1⟩ 0 (sb2 s i).length)::zrx (zdO (al s.locks.length (zay s.locks)::ai s.locks.length::ai i::zwa (zdO []))))),[(1,⟨2,[obq 1 [di s.time,di s.num,di s.token, .lent s.sess.length (zaV s.sess), .lent s.locks.length (zay s.locks), .lent s.memos.length (zaM s.memos)],none,none,none,none,none,none]⟩),(22,⟨2,[]⟩),(25,⟨2,[]⟩),(28,⟨2,[]⟩),(33,⟨2,[]⟩),(34,⟨2,[]⟩),(35,⟨2,[]⟩),(4,⟨2,[none,roq 1 1 (zaa (sb2 s i))]⟩),(6,⟨2,[]⟩),(47,⟨2,[]⟩),(50,⟨2,[]⟩),(53,⟨2,[]⟩),(54,⟨2,[]⟩),(55,⟨2,[]⟩),(62,⟨2,[]⟩),(8,⟨2,[]⟩),(9,⟨2,[]⟩),(74,⟨2,[]⟩),(82,⟨2,[]⟩),(85,⟨2,[]⟩),(90,⟨2,[]⟩),(91,⟨2,[]⟩),(92,⟨2,[]⟩),(103,⟨2,[]⟩),(104,⟨2,[]⟩)]⟩)
   (fun i=>i≤s.locks.length) (fun _=>()) (fun i=>s.locks.length - i) 0
   (Gh.canon [1,4] [8,9,74,82,85,90,91,92,103,104] [] (zk (I @zhE (I @List.length_append.{0} @List.length_singleton.{0}))) rfl (by rw[zhE];simp only[roq,zaa,List.map_append];rfl)) (Nat.zero_le _) ?_
  intro i hi0 hF K hK
  refine zw ?_
  refine zab (fun hlt=> ?_) (fun hge=> ?_)
  ·have hi:i<s.locks.length:=by simpa using hlt
   have hat:=zbo hi
   have hw:=zai hi (by omega)
   obtain⟨q0,q1,q2,q3,q4,q5⟩:=zgU h (List.getElem_mem hi)
   have wc:IntKind.u8.wrap s.locks[i].holder=s.locks[i].holder:=zbf (by omega) (by omega)
   have wl:IntKind.u8.wrap (s.locks[i].line.length:Int)=s.locks[i].line.length:=zbf (by omega) (by omega)
   have m1:=zgZ s.locks[i].name (by omega)
   have m2:=zeq s.locks[i].token (by omega)
   have hb:=ziu h i
   have tt:(zho s.locks[i].name).take (1+s.locks[i].name.size)=zho s.locks[i].name:=List.take_of_length_le (by rw[zgv];exact Nat.le_refl _)
   have hcc:CallOK prog 66 [.f (al 5 [.sl (sb2 s i).length (zaa (sb2 s i)), .sl (1+s.locks[i].name.size) (zho s.locks[i].name), .sl 1 (zaa [s.locks[i].holder]), .sl 8 (zaa (zaK s.locks[i].token)), .sl 1 (zaa [(s.locks[i].line.length:Int)])])] (fun x o=>x=[.one (.own 1 (zhf s i s.locks[i] 0).length (zaa (zhf s i s.locks[i] 0)) false)]∧o=[]):=by
    have hc:=ze5 [sb2 s i,zes s.locks[i].name,[s.locks[i].holder],zaK s.locks[i].token,[(s.locks[i].line.length:Int)]] (by simp) (fun l hl=>by
     simp only[List.mem_cons,List.not_mem_nil,or_false]at hl
     rcases hl with rfl|rfl|rfl|rfl|rfl
     ·omega
     ·rw[zcp];omega
     ·simp
     ·rw[zaz];decide
     ·simp)
    rw[show [sb2 s i,zes s.locks[i].name,[s.locks[i].holder],zaK s.locks[i].token,[(s.locks[i].line.length:Int)]].flatten=zhf s i s.locks[i] 0 from by rw[zit];simp[lk0]]at hc
    rw[←zcp,zm0]
    exact hc
   refine zL (I hat (I @zan (I t8 (I t1 (I wc (I wl (I tt (I @zah zca)))))))) (I (m1) (I (m2) (hcc))) ?_
   refine zaf (τ:=Nat) (fun j=>⟨(dd::ptq 1::dq2 (.one (.own ⟨4,1,1⟩ 0 (zhf s i s.locks[i] j).length)::zrx (zdO (al s.locks.length (zay s.locks)::ai s.locks.length::ai i::zuo (asl s.locks[i].line.length (za5 s.locks[i].line)::ai s.locks[i].line.length::ai j::zdO []))))),[(1,⟨2,[obq 1 [di s.time,di s.num,di s.token, .lent s.sess.length (zaV s.sess), .lent s.locks.length (zay s.locks), .lent s.memos.length (zaM s.memos)],none,none,none,none,none,none]⟩),(22,⟨2,[]⟩),(25,⟨2,[]⟩),(28,⟨2,[]⟩),(33,⟨2,[]⟩),(34,⟨2,[]⟩),(35,⟨2,[]⟩),(4,⟨2,[none,roq 1 1 (zaa (zhf s i s.locks[i] j))]⟩),(6,⟨2,[]⟩),(47,⟨2,[]⟩),(50,⟨2,[]⟩),(53,⟨2,[]⟩),(54,⟨2,[]⟩),(55,⟨2,[]⟩),(62,⟨2,[]⟩),(8,⟨2,[]⟩),(9,⟨2,[]⟩),(74,⟨2,[]⟩),(82,⟨2,[]⟩),(85,⟨2,[]⟩),(90,⟨2,[]⟩),(91,⟨2,[]⟩),(92,⟨2,[]⟩),(103,⟨2,[]⟩),(104,⟨2,[]⟩)]⟩)
    (fun j=>j≤s.locks[i].line.length) (fun _=>()) (fun j=>s.locks[i].line.length - j) 0
    (Gh.canon [1,4] [] [] zK rfl rfl) (Nat.zero_le _) ?_
   intro j hj0 hF2 K2 hK2
   refine zw ?_
   refine zab (fun hlt2=> ?_) (fun hge2=> ?_)
   ·have hj:j<s.locks[i].line.length:=by simpa using hlt2
    have hat2:=zce hj
    have hw2:=zai hj (by omega)
    have q6:=q5 _ (List.getElem_mem hj)
    have wd:IntKind.u8.wrap s.locks[i].line[j]=s.locks[i].line[j]:=zbf (by omega) (by omega)
    have hlj:(zhf s i s.locks[i] j).length≤300:=by
     rw[zhf,List.length_append,List.length_append,zkB,List.length_take];omega
    have hle3:((zhf s i s.locks[i] j).length+1≤2^47)=True:=eq_true (by omega)
    have hsl3:(zhf s i s.locks[i] (j+1)).length=(zhf s i s.locks[i] j).length+1:=by rw[zgp hj,List.length_append,List.length_singleton]
    refine zL0 (I hat2 (I @zaW (I t1 (I wd (I hle3 (I @zah zca)))))) ?_
    exact hK2 _ (j+1) (Gh.canon [1,4] [] [] (zk (I hw2 hsl3)) rfl (by rw[zgp hj];simp only[roq,zaa,List.map_append];rfl)) hj rfl (by omega)
   ·have hj:j=s.locks[i].line.length:=by
     have:¬(j:Int)<s.locks[i].line.length:=by simpa using hge2
     omega
    subst hj
    refine zL0 trivial ?_
    exact hK _ (i+1) (Gh.canon [1,4] [] [] (by simp only[hw,zhG hi,ddE,zbX,zdu,zbY,zcw,zcx,zcy,List.set_cons_zero,List.set_cons_succ,and_true,true_and,Int.natCast_zero,Int.cast_ofNat_Int,D.v.injEq,Value.int.injEq];try(repeat'(first|rfl|omega|with_reducible apply And.intro))) rfl (by rw[zhG hi];rfl)) hi rfl (by omega)
  ·have hi:i=s.locks.length:=by
    have:¬(i:Int)<s.locks.length:=by simpa using hge
    omega
   subst hi
   clear hK
   have hml:=zgq h
   have w3:IntKind.u8.wrap (s.memos.length:Int)=s.memos.length:=zbf (by omega) (by omega)
   have hb2:=ziu h s.locks.length
   have hle2:((sb2 s s.locks.length).length+1≤2^47)=True:=eq_true (by omega)
   refine zL0 (I hle2 (I t1 (I w3 @zah))) ?_
   refine zaf (τ:=Nat) (fun i=>⟨(dq4 (.one (.own ⟨4,1,1⟩ 0 (sb3 s i).length)::ztq (zdO (zdO (al s.memos.length (zaM s.memos)::ai s.memos.length::ai i::zvE []))))),[(1,⟨2,[]⟩),(22,⟨2,[]⟩),(25,⟨2,[]⟩),(28,⟨2,[]⟩),(33,⟨2,[]⟩),(34,⟨2,[]⟩),(35,⟨2,[]⟩),(4,⟨2,[none,roq 1 1 (zaa (sb3 s i))]⟩),(6,⟨2,[]⟩),(47,⟨2,[]⟩),(50,⟨2,[]⟩),(53,⟨2,[]⟩),(54,⟨2,[]⟩),(55,⟨2,[]⟩),(62,⟨2,[]⟩),(8,⟨2,[]⟩),(9,⟨2,[]⟩),(74,⟨2,[]⟩),(82,⟨2,[]⟩),(85,⟨2,[]⟩),(90,⟨2,[]⟩),(91,⟨2,[]⟩),(92,⟨2,[]⟩),(103,⟨2,[]⟩),(104,⟨2,[]⟩),(112,⟨2,[]⟩),(14,⟨2,[]⟩),(15,⟨2,[]⟩),(129,⟨2,[]⟩),(134,⟨2,[]⟩)]⟩)
    (fun i=>i≤s.memos.length) (fun _=>()) (fun i=>s.memos.length - i) 0
    (Gh.canon [4] [14,15,129,134] [] (zk (I @zhF (I @List.length_append.{0} @List.length_singleton.{0}))) rfl (by rw[zhF];simp only[roq,zaa,List.map_append];rfl)) (Nat.zero_le _) ?_
   intro i hi0 hF K hK
   refine zw ?_
   refine zab (fun hlt=> ?_) (fun hge=> ?_)
   ·have hi:i<s.memos.length:=by simpa using hlt
    have hat:=zcf hi
    have hw:=zai hi (by omega)
    have hma:=h.mok _ (List.getElem_mem hi)
    have hpa:=zhg s.memos[i] hma
    have hb3:=ziv h i
    have hal:=zer hma
    have hle3:((sb3 s i).length+(za9 s.memos[i]).length≤2^47)=True:=eq_true (by omega)
    have hsl3:(sb3 s (i+1)).length=(sb3 s i).length+(za9 s.memos[i]).length:=by rw[zhC hi,List.length_append]
    refine zL (I hat (I @zaw (I @zah (I hle3 (I @zba zca))))) (hpa) ?_
    exact hK _ (i+1) (Gh.canon [4] [] [] (zk (I hw hsl3)) rfl (by rw[zhC hi];simp only[roq,zaa,List.map_append];rfl)) hi rfl (by omega)
   ·have hi:i=s.memos.length:=by
     have:¬(i:Int)<s.memos.length:=by simpa using hge
     omega
    subst hi
    refine zL0 trivial ?_
    rfl
theorem zdV (l:List Int) (hl:l.length<2^62) (p:Int→Bool) (f:Nat) (caps:List C) (hc:lendAs [] (caps.map AV.one)=some (caps.map fun c=> .f (.one c))) (hc2:lendC.lendCs [] caps=some caps)
  (hp:∀x∈l,CallOK prog f (.f (zv1 x)::caps.map fun c=> .f (.one c)) (fun r o=>r=[rb (p x)]∧o=[])):
  CallOK prog 115 [.f (al l.length (za5 l)), .f (.one (.clos f caps))] (fun r o=>r=[rb (l.any p)]∧o=[]):=by
 refine zh func115 results115 ntmps115 call115 ?_
 simp only[f115,Option.getD]
 refine zw1 hc2 ?_
 refine zaC (zpx l hl p f caps hc hp) ?_
 refine zw ?_
 rw[zfX]
abbrev zw3:Req→AV:=fun x=> .agg (x.enc.map C.d)
theorem zq9 (l:List Req) (hl:l.length<2^62) (p:Req→Bool) (f:Nat) (caps:List C) (hc:lendAs [] (caps.map AV.one)=some (caps.map fun c=> .f (.one c)))
  (hp:∀x∈l,CallOK prog f (.f (zw3 x)::caps.map fun c=> .f (.one c)) (fun r o=>r=[rb (p x)]∧o=[])):
  CallOK prog 118 [.f (al l.length (zbu l)), .f (.one (.clos f caps))] (fun r o=>r=[ri (zfe p l 0)]∧o=[]):=by
 refine zh func118 results118 ntmps118 call118 ?_
 simp only[f118,Option.getD]
 refine zw ?_
 refine zaf (τ:=Nat) (fun i=>⟨(al l.length (zbu l):: .one (.clos f caps)::dq2 (ai 0::dd::al l.length (zbu l)::ai l.length::ai i::zmC [])),[]⟩) (fun i=>i≤l.length) (fun i=>zfe p (l.drop i) i) (fun i=>l.length - i) 0 (Gh.fgt ?_) (Nat.zero_le _) ?_
 ·simp only[ddE,zaQ,zaR,za8,Int.natCast_zero]
 intro i hi0 hF K hK
 refine zw ?_
 rw[zcY]
 refine⟨trivial,fun hlt=> ?_,fun hge=> ?_⟩
 ·have hi:i<l.length:=by simpa using hlt
  rw[List.drop_eq_getElem_cons hi,zfe]at hF
  have hat:=zdv hi
  simp only[List.cons_append,List.nil_append]at hat
  refine zw1 (I @zaD (I hat hc)) ?_
  refine⟨⟨Int.natCast_nonneg i,by omega⟩, ?_⟩
  refine zaC (hp _ (List.getElem_mem hi)) ?_
  refine zw ?_
  refine zab (fun hb=> ?_) (fun hb=> ?_)
  ·rw[if_pos hb]at hF
   refine zw ?_
   rw[hF];rfl
  ·rw[if_neg (by simp[hb])]at hF
   refine zw ?_
   refine hK _ (i+1) (Gh.fgt ?_) hi (by simp only[List.drop_eq_getElem_cons hi,zfe];rw[if_neg (by simp[hb])];rfl) (by omega)
   have hw:IntKind.i64.wrap ((i:Int)+1)=((i+1:Nat):Int):=by rw[wrap64 (by omega) (by omega)];rfl
   simp only[hw,ddE,zaQ,zaR,za8]
 ·have hi:i=l.length:=by
   have:¬(i:Int)<l.length:=by simpa using hge
   omega
  rw[hi,List.drop_length,zfe]at hF
  refine zw ?_
  rw[hF];rfl
theorem zmf (l:List Req) (hl:l.length<2^62) (p:Req→Bool) (f:Nat) (caps:List C) (hc:lendAs [] (caps.map AV.one)=some (caps.map fun c=> .f (.one c))) (hc2:lendC.lendCs [] caps=some caps)
  (hp:∀x∈l,CallOK prog f (.f (zw3 x)::caps.map fun c=> .f (.one c)) (fun r o=>r=[rb (p x)]∧o=[])):
  CallOK prog 77 [.f (al l.length (zbu l)), .f (.one (.clos f caps))] (fun r o=>r=[rb (l.any p)]∧o=[]):=by
 refine zh func77 results77 ntmps77 call77 ?_
 simp only[f77,Option.getD]
 refine zw1 hc2 ?_
 refine zaC (zq9 l hl p f caps hc hp) ?_
 refine zw ?_
 rw[zfX]
def bad (n:Int):Bool:=decide (n<0)||decide (n>zcT)
def inH (n:Int):Bool:=decide (n≥0)&&decide (n≤zcT)
theorem zra (n:Int):(!bad n)=inH n:=by unfold bad inH;rw[Bool.eq_iff_iff];simp
theorem zjR (n:Int):CallOK prog 117 [.f (ai n)] (fun r o=>r=[rb (bad n)]∧o=[]):=by
 refine zh func117 results117 ntmps117 call117 ?_
 simp only[f117,Option.getD]
 refine zxO trivial ?_
 rfl
theorem zjS (l:List Int) (hl:l.length<2^62):CallOK prog 76 [.f (al l.length (za5 l))] (fun r o=>r=[rb (!l.any bad)]∧o=[]):=by
 refine zh func76 results76 ntmps76 call76 ?_
 simp only[f76,Option.getD]
 repeat'(first|exact zC|refine za0 ?_|((first|((try refine zaB ?_);apply zaC)|(apply zaE;intro _));(solve|exact(zdV l hl bad _ [] rfl rfl (fun x _=>zjR x))|(refine CallOK.le (zdV l hl bad _ [] rfl rfl (fun x _=>zjR x)) ?_;exact zM)|fail);try case hn=>rfl)|(apply zab<;>intro hb)|(apply I;exact zI)|(apply I<;>intro hg))
theorem zef (v least:Int):CallOK prog 85 [.f (ai v), .f (ai least)] (fun r o=>r=[rb (decide (v≥least)&&decide (v≤zcT))]∧o=[]):=by
 refine zh func85 results85 ntmps85 call85 ?_
 simp only[f85,Option.getD]
 exact zwI trivial
def Tip.may (t:Tip):Bool:=inH t.view&&inH t.slot
theorem zmg (t:Tip):CallOK prog 86 [.f (.agg [di t.view,di t.slot])] (fun r o=>r=[rb (Tip.may t)]∧o=[]):=by
 refine zh func86 results86 ntmps86 call86 ?_
 simp only[f86,Option.getD]
 refine zxO trivial ?_
 simp[Tip.may,inH,Bool.and_assoc]
theorem zkQ (r q:Req):CallOK prog 78 [.f (.agg (r.enc.map C.d)), .f (.one (.elt q.enc))] (fun x o=>x=[rb (r.client==q.client)]∧o=[]):=by
 refine zh func78 results78 ntmps78 call78 ?_
 simp only[f78,Option.getD]
 exact zwI trivial
theorem zrb {l:List Req} {i:Nat} (hi:i≤l.length):(zbu l).take (i*5)=zbu (l.take i):=by
 have h:zbu l=zbu (l.take i)++zbu (l.drop i):=by rw[←List.flatMap_append,List.take_append_drop]
 rw[h,List.take_left' (by rw[zaD,List.length_take];congr 1;omega)]
def zcm (l:List Req):Nat→List Req→Bool
 |_,[]=>true
 |i,r::rest=>if(!Req.may r||(l.take i).any (fun o=>o.client==r.client))=true then false else zcm l (i+1) rest
def Batch.may (b:Batch):Bool:=
 if b.fill=true then b.view==0&&b.time==0&&(b.tip.view==0&&b.tip.slot==0)&&(b.reqs.length:Int)==0
 else if(!![b.view,b.time,b.tip.view,b.tip.slot].any bad||decide ((b.reqs.length:Int)>3))=true then false else zcm b.reqs 0 b.reqs
theorem zc0 (b:Batch) (hok:b.ok):CallOK prog 38 [.f (.agg b.lent)] (fun r o=>r=[rb (Batch.may b)]∧o=[]):=by
 have hlen:b.reqs.length<2^42:=hok.2.2.2.2.1
 have hreq:∀r∈b.reqs,r.ok:=hok.2.2.2.2.2
 refine zh func38 results38 ntmps38 call38 ?_
 simp only[f38,Option.getD]
 repeat'(first|exact zC|refine za0 ?_|((first|((try refine zaB ?_);apply zaC)|(apply zaE;intro _));(solve|exact(zjS [_,_,_,_] (by simp))|(refine CallOK.le (zjS [_,_,_,_] (by simp)) ?_;exact zM)|fail);try case hn=>rfl)|(apply zab<;>intro hb)|(apply I;exact zI)|(apply I<;>intro hg))
 ·rw[Batch.may,if_pos (by assumption)]
 ·rw[Batch.may,if_neg (by simp_all),if_pos (by assumption)]
 rename_i hf
 have hm:Batch.may b=zcm b.reqs 0 b.reqs:=by rw[Batch.may,if_neg (by simp[hf]),if_neg (by rw[hb];simp)]
 rw[hm]
 refine zw ?_
 refine zaf (τ:=Nat×Nat) (fun t=>⟨(dd:: .one (.ptr ⟨1,0,0⟩ 0)::ab false::dq4 (zdO (al b.reqs.length (zbu b.reqs)::ai b.reqs.length::ai t.1::zw9 []))),
  [(1,{next:=7,l:=[obq 0 [db b.fill,di b.view,di b.tip.view,di b.tip.slot,di b.time, .lent b.reqs.length (zbu b.reqs)],none,none,none,none,none,none]}),(37,⟨1,[]⟩),(4,⟨t.2,[]⟩)]⟩)
  (fun t=>t.1≤b.reqs.length) (fun t=>zcm b.reqs t.1 (b.reqs.drop t.1)) (fun t=>b.reqs.length - t.1) (0,0) (Gh.keep [1] [4] ?_ rfl) (Nat.zero_le _) ?_
 ·simp only[ddE,zaQ,zaR,za8,Int.natCast_zero]
 intro⟨i,e⟩ hi0 hF K hK
 simp only at hi0 hF hK⊢
 refine zw ?_
 rw[zcY]
 refine⟨trivial,fun hlt=> ?_,fun hge=> ?_⟩
 ·have hi:i<b.reqs.length:=by simpa using hlt
  rw[List.drop_eq_getElem_cons hi,zcm]at hF
  have hat:=zdv hi
  simp only[List.cons_append,List.nil_append]at hat
  have hro:=hreq _ (List.getElem_mem hi)
  have hlt':(b.reqs.take i).length=i:=by rw[List.length_take];omega
  have hc:=zmf (b.reqs.take i) (by omega) (fun o=>o.client==b.reqs[i].client) 78 [.elt b.reqs[i].enc] rfl rfl (fun x _=>zkQ x _)
  rw[hlt',←zrb hi0]at hc
  repeat'(first|exact zC|refine za (I @zaD (I hat (I @Int.toNat_zero (I @Int.toNat_natCast (I @Nat.sub_zero @Int.natCast_zero))))) ?_|((first|((try refine zaB ?_);apply zaC)|(apply zaE;intro _));(solve|exact(ze2 _ hro)|(refine CallOK.le (ze2 _ hro) ?_;exact zM)|fail);try case hn=>rfl)|refine zx (hc) ?_|(apply zab<;>intro hb)|(apply I;exact zI)|(apply I<;>intro hg))
  ·rw[if_pos hb,List.drop_zero]at hF
   rw[←hF]
  ·rw[if_neg (by rw[hb];simp)]at hF
   refine hK _ (i+1,_) (Gh.keep [1] [] ?_ rfl) hi (by simp only[List.drop_eq_getElem_cons hi,zcm];rw[if_neg (by rw[hb];simp)]) (by simp only;omega)
   simp only[zai hi (by omega),ddE,zaQ,zaR,za8]
 ·have hi:i=b.reqs.length:=by
   have:¬(i:Int)<b.reqs.length:=by simpa using hge
   omega
  rw[hi,List.drop_length,List.drop_zero,zcm]at hF
  refine zw ?_
  rw[←hF]
theorem zvu (l:List Req) (hl:l.length<2^42) (hreq:∀r∈l,r.ok):CallOK prog 87 [.f (al l.length (zbu l))] (fun r o=>r=[rb (if decide ((l.length:Int)>3)=true then false else zcm l 0 l)]∧o=[]):=by
 refine zh func87 results87 ntmps87 call87 ?_
 simp only[f87,Option.getD]
 refine zw ?_
 refine zab (fun hb=> ?_) (fun hb=> ?_)
 ·refine zw ?_
  rw[if_pos hb]
 rw[if_neg (by rw[hb];simp)]
 refine zw ?_
 refine zaf (τ:=Nat) (fun i=>⟨(al l.length (zbu l)::dd::ab false::ai i::zrQ []),[]⟩)
  (fun i=>i≤l.length) (fun i=>zcm l i (l.drop i)) (fun i=>l.length - i) 0 (Gh.fgt ?_) (Nat.zero_le _) ?_
 ·simp only[ddE,zaQ,zaR,za8,Int.natCast_zero]
 intro i hi0 hF K hK
 refine zw ?_
 refine zab (fun hlt=> ?_) (fun hge=> ?_)
 ·have hi:i<l.length:=by simpa using hlt
  rw[List.drop_eq_getElem_cons hi,zcm]at hF
  have hat:=zdv hi
  simp only[List.cons_append,List.nil_append]at hat
  have hro:=hreq _ (List.getElem_mem hi)
  repeat'(first|exact zC|refine za (I @zaD hat) ?_|((first|((try refine zaB ?_);apply zaC)|(apply zaE;intro _));(solve|exact(zfv _ hro)|(refine CallOK.le (zfv _ hro) ?_;exact zM)|fail);try case hn=>rfl)|(apply zab<;>intro hb)|(apply I;exact zI)|(apply I<;>intro hg))
  ·rw[if_pos (by rw[hb];rfl),List.drop_zero]at hF
   rw[←hF]
  rename_i hm
  have hm:Req.may l[i]=true:=by simpa using hb
  refine zw ?_
  refine zaf (τ:=Nat) (fun k=>⟨(al l.length (zbu l)::dd::ab false::ai i::ai k::zvH []),[]⟩)
   (fun k=>k≤i) (fun k=>((l.take i).drop k).any (fun o=>o.client==l[i].client)) (fun k=>i - k) 0 (Gh.fgt ?_) (Nat.zero_le _) ?_
  ·simp only[ddE,zaQ,zaR,za8,Int.natCast_zero]
  intro k hk0 hF2 K2 hK2
  refine zw ?_
  refine zab (fun hlt2=> ?_) (fun hge2=> ?_)
  ·have hk:k<i:=by simpa using hlt2
   have hkl:k<l.length:=by omega
   have hat2:=zdv hkl
   simp only[List.cons_append,List.nil_append]at hat2
   have hd:(l.take i).drop k=l[k]::(l.take i).drop (k+1):=by
    rw[List.drop_eq_getElem_cons (by rw[List.length_take];omega)]
    congr 1
    rw[List.getElem_take]
   rw[hd,List.any_cons,List.drop_zero]at hF2
   repeat'(first|exact zC|refine za (I @zaD (I hat hat2)) ?_|(apply zab<;>intro hb)|(apply I;exact zI)|(apply I<;>intro hg))
   ·rw[hb,Bool.true_or]at hF2
    rw[if_pos (by rw[←hF2,Bool.or_true]),List.drop_zero]at hF
    rw[←hF]
   ·rw[hb,Bool.false_or]at hF2
    refine hK2 _ (k+1) (Gh.fgt ?_) hk (by rw[hd,List.any_cons,hb,Bool.false_or]) (by omega)
    simp only[zai hk (by omega),ddE,zaQ,zaR,za8]
  ·have hk:k=i:=by
    have:¬(k:Int)<i:=by simpa using hge2
    omega
   rw[hk,List.drop_of_length_le (by rw[List.length_take];omega),List.any_nil,List.drop_zero]at hF2
   rw[if_neg (by rw[←hF2,hm];simp)]at hF
   refine zw ?_
   refine hK _ (i+1) (Gh.fgt ?_) hi (by simp only[List.drop_eq_getElem_cons hi,zcm];rw[if_neg (by rw[←hF2,hm];simp)]) (by omega)
   simp only[zai hi (by omega),ddE,zaQ,zaR,za8]
 ·have hi:i=l.length:=by
   have:¬(i:Int)<l.length:=by simpa using hge
   omega
  rw[hi,List.drop_length,List.drop_zero,zcm]at hF
  refine zw ?_
  rw[←hF]
theorem zc9 (b:Batch) (hok:b.ok):CallOK prog 46 [.f (.agg b.lent)] (fun r o=>r=[rb (Batch.may b)]∧o=[]):=by
 refine zh func46 results46 ntmps46 call46 ?_
 simp only[f46,Option.getD]
 repeat'(first|exact zC|refine za0 ?_|((first|((try refine zaB ?_);apply zaC)|(apply zaE;intro _));(solve|exact(zef _ _)|(refine CallOK.le (zef _ _) ?_;exact zM)|fail);try case hn=>rfl)|refine zx (zmg b.tip) ?_|refine zx (zvu b.reqs hok.2.2.2.2.1 hok.2.2.2.2.2) ?_|(apply zab<;>intro hb)|(apply I;exact zI)|(apply I<;>intro hg))
 ·rw[Batch.may,if_pos (by assumption)]
  refine congrArg (fun b=>[rb b]) ?_
  ac_rfl
 ·refine congrArg (fun b=>[rb b]) ?_
  have e:(![b.view,b.time,b.tip.view,b.tip.slot].any bad)=(inH b.view&&inH b.time&&Tip.may b.tip):=by
   simp[Tip.may,←zra,Bool.and_assoc]
  rw[Batch.may,if_neg (show¬b.fill=true by rw[hb];simp),e]
  show(inH b.view&&inH b.time&&Tip.may b.tip&&_)=_
  generalize (inH b.view&&inH b.time&&Tip.may b.tip)=q
  generalize decide ((b.reqs.length:Int)>3)=d
  cases q<;>cases d<;>rfl
def zmc (k n:Int) (s:ByteArray):List Int:=[k]++(zaK n++zes s)
def zhM (r:Req):List Int:=[r.client]++(zaK r.seq++zmc r.kind r.session r.name)
theorem zcZ {k n:Int} {s:ByteArray} (h:zlY k n s=true):1≤k∧k≤6∧0≤n∧n≤2305843009213693952∧s.size≤12:=by
 unfold zlY at h
 split at h
 ·cases h
 ·rename_i h1
  split at h
  ·cases h
  ·rename_i h2
   have hk:1≤k∧k≤6:=by simp at h1;omega
   have hn:0≤n∧n≤2305843009213693952:=by
    split at h
    ·simp at h;omega
    ·simp at h;omega
   refine⟨hk.1,hk.2,hn.1,hn.2, ?_⟩
   cases hc:(k==3||k==4||k==5)
   ·simp only[hc,Bool.false_and,Bool.false_or,Bool.not_false,Bool.true_and]at h2
    have:s.toList=(⟨#[]⟩:ByteArray).toList:=by simpa only[Bool.not_eq_true,Bool.not_eq_false',beq_iff_eq]using h2
    have:s.size=0:=by
     have:=congrArg List.length this
     rw[zdQ,zdQ,Array.length_toList]at this
     exact this
    omega
   ·simp only[hc,Bool.true_and,Bool.not_true,Bool.false_and,Bool.or_false]at h2
    have hn:nameP s=true:=by simpa using h2
    unfold nameP at hn
    simp only[Bool.and_eq_true,decide_eq_true_eq]at hn
    omega
theorem zhN (k n:Int) (s:ByteArray):(zmc k n s).length=10+s.size:=by simp[zmc,zaz,zcp];omega
theorem t8 (v:Int):(zaa (zaK v)).take 8=zaa (zaK v):=List.take_of_length_le (by rw[zcj];decide)
theorem zq8 (k n:Int) (s:ByteArray) (h:zlY k n s=true):CallOK prog 65 [.f (.agg [di k,di n,dS s])] (fun r o=>r=[.one (.own 1 (zmc k n s).length (zaa (zmc k n s)) false),ri 0]∧o=[]):=by
 refine zh func65 results65 ntmps65 call65 ?_
 simp only[f65,Option.getD]
 obtain⟨f1,f2,f3,f4,f5⟩:=zcZ h
 have hmy:=znY k n s (by omega)
 rw[h]at hmy
 have hpb:=zjL k (by omega)
 have hpn:=zc8 n (by omega)
 have hpt:=zgZ s (by omega)
 rw[zm0]at hpt
 have hcc:CallOK prog 66 [.f (al 3 [.sl 1 (zaa [k]), .sl 8 (zaa (zaK n)), .sl (1+s.size) (zaa (zes s))])] (fun r o=>r=[.one (.own 1 (zmc k n s).length (zaa (zmc k n s)) false)]∧o=[]):=by
  have hc:=ze5 [[k],zaK n,zes s] (by simp) (fun l hl=>by
   simp only[List.mem_cons,List.not_mem_nil,or_false]at hl
   rcases hl with rfl|rfl|rfl
   ·simp
   ·rw[zaz];decide
   ·rw[zcp];omega)
  rw[show [[k],zaK n,zes s].flatten=zmc k n s from by simp[zmc]]at hc
  rw[←zcp s]
  exact hc
 have t2:(zaa (zes s)).take (1+s.size)=zaa (zes s):=by rw[←zcp s];exact zah
 exact zW (I t8 t2) (I (hmy) (I (hpb) (I (hpn) (I (hpt) (hcc)))))
theorem zee {r:Req} (h:Req.may r=true):(0≤r.client∧r.client<8)∧(1≤r.seq∧r.seq≤2305843009213693952)∧zlY r.kind r.session r.name=true∧r.ok:=by
 unfold Req.may at h
 have hH:zcT=2305843009213693952:=rfl
 simp only[Bool.and_eq_true,decide_eq_true_eq]at h
 have f:=zcZ h.2
 refine⟨⟨h.1.1.1.1,h.1.1.1.2⟩,⟨h.1.1.2,by omega⟩,h.2, ?_⟩
 unfold Req.ok i64
 omega
theorem zhO {r:Req} (h:Req.may r=true):(zhM r).length=19+r.name.size∧r.name.size≤12:=by
 have f:=zcZ (zee h).2.2.1
 refine⟨?_,f.2.2.2.2⟩
 simp[zhM,zaz,zhN];omega
theorem zme (r:Req) (h:Req.may r=true):CallOK prog 22 [.f (.agg (r.enc.map C.d))] (fun x o=>x=[.one (.own 1 (zhM r).length (zaa (zhM r)) false),ri 0]∧o=[]):=by
 refine zh func22 results22 ntmps22 call22 ?_
 simp only[f22,Option.getD]
 obtain⟨e1,e2,e3,e4⟩:=zee h
 have hmy:=ze2 r e4
 rw[h]at hmy
 have f:=zcZ e3
 have hpb:=zjL r.client (by omega)
 have hpn:=zc8 r.seq (by omega)
 have hpt:=zq8 r.kind r.session r.name e3
 have hcc:CallOK prog 66 [.f (al 3 [.sl 1 (zaa [r.client]), .sl 8 (zaa (zaK r.seq)), .sl (zmc r.kind r.session r.name).length (zaa (zmc r.kind r.session r.name))])] (fun x o=>x=[.one (.own 1 (zhM r).length (zaa (zhM r)) false)]∧o=[]):=by
  have hc:=ze5 [[r.client],zaK r.seq,zmc r.kind r.session r.name] (by simp) (fun l hl=>by
   simp only[List.mem_cons,List.not_mem_nil,or_false]at hl
   rcases hl with rfl|rfl|rfl
   ·simp
   ·rw[zaz];decide
   ·rw[zhN];omega)
  rw[show [[r.client],zaK r.seq,zmc r.kind r.session r.name].flatten=zhM r from by simp[zhM]]at hc
  exact hc
 exact zW (I t8 @zah) (I (hmy) (I (hpb) (I (hpn) (I (hpt) (hcc)))))
def zaJ (l:List Int):List Int:=l.flatMap zaK
theorem zbU {l:List Int}:(zaJ l).length=8*l.length:=by
 induction l with
 |nil=>rfl
 |cons x l ih=>simp only[zaJ,List.flatMap_cons,List.length_append,List.length_cons,zaz]at ih⊢;omega
theorem zg2 {l:List Int} {i:Nat} (hi:i<l.length):zaJ (l.take (i+1))=zaJ (l.take i)++zaK l[i]:=zcE _ hi
theorem zfb (l:List Int) (hl:l.length≤10) (h:∀v∈l,0≤v∧v<4611686018427387904):CallOK prog 24 [.f (al l.length (za5 l))] (fun r o=>r=[.one (.own 1 (zaJ l).length (zaa (zaJ l)) false)]∧o=[]):=by
 refine zh func24 results24 ntmps24 call24 ?_
 simp only[f24,Option.getD]
 refine zL0 trivial ?_
 refine zaf (τ:=Nat) (fun i=>⟨(dq3 (.one (.own ⟨3,1,1⟩ 0 (zaJ (l.take i)).length)::dq4 (al l.length (za5 l)::ai l.length::ai i::zrv []))),[(3,⟨2,[none,roq 1 1 (zaa (zaJ (l.take i)))]⟩),(6,⟨2,[]⟩),(16,⟨2,[]⟩),(21,⟨2,[]⟩)]⟩)
  (fun i=>i≤l.length) (fun _=>()) (fun i=>l.length - i) 0
  ((Gh.nil (i:=3) (s:=3) (sz:=1) rfl).trans (Gh.canon [3] [6,16,21] [] zK rfl rfl)) (Nat.zero_le _) ?_
 intro i hi0 hF K hK
 refine zw ?_
 refine zab (fun hlt=> ?_) (fun hge=> ?_)
 ·have hi:i<l.length:=by simpa using hlt
  have hat:=zce hi
  have hw:=zai hi (by omega)
  have hpn:=zc8 l[i] (h _ (List.getElem_mem hi))
  have hle0:(zaJ (l.take i)).length≤80:=by rw[zbU,List.length_take];omega
  have hle:((zaJ (l.take i)).length+8≤2^47)=True:=eq_true (by omega)
  have hsl:(zaJ (l.take (i+1))).length=(zaJ (l.take i)).length+8:=by rw[zg2 hi,List.length_append,zaz]
  refine zL (I hat (I @zaW (I hle (I t8 (I @zah (I @List.length_map.{0,0} (I @zaz zca))))))) (hpn) ?_
  exact hK _ (i+1) (Gh.canon [3] [] [] (zk (I hw hsl)) rfl (by rw[zg2 hi];simp only[roq,zaa,List.map_append];rfl)) hi rfl (by omega)
 ·have hi:i=l.length:=by
   have:¬(i:Int)<l.length:=by simpa using hge
   omega
  subst hi
  rw[List.take_length]
  exact zW0 trivial
theorem zm7 {l:List Req}:∀{i:Nat},i≤l.length→(zcm l i (l.drop i)=true↔∀j (hj:j<l.length),i≤j→Req.may l[j]=true∧∀k (hk:k<j),l[k].client≠l[j].client):=by
 intro i hi
 obtain⟨n,hn⟩:∃n,n=l.length - i:=⟨_,rfl⟩
 induction n generalizing i with
 |zero=>
  have:i=l.length:=by omega
  rw[this,List.drop_length,zcm]
  simp only[true_iff]
  intro j hj hij;omega
 |succ n ih=>
  have hil:i<l.length:=by omega
  rw[List.drop_eq_getElem_cons hil,zcm]
  have ih:=ih (i:=i+1) (by omega) (by omega)
  have hany:(l.take i).any (fun o=>o.client==l[i].client)=false↔∀k (hk:k<i),l[k].client≠l[i].client:=by
   rw[List.any_eq_false]
   constructor
   ·intro h k hk
    have:=h (l[k]) (by rw[List.mem_take_iff_getElem];exact⟨k,by omega,rfl⟩)
    simpa using this
   ·intro h o ho
    obtain⟨k,hk,rfl⟩:=List.mem_take_iff_getElem.1 ho
    simpa using h k (by omega)
  constructor
  ·intro h
   split at h
   ·cases h
   ·rename_i hc
    have hc:(!Req.may l[i]||(l.take i).any (fun o=>o.client==l[i].client))=false:=by simpa using hc
    rw[Bool.or_eq_false_iff]at hc
    intro j hj hij
    by_cases hji:j=i
    ·subst hji
     exact⟨by simpa using hc.1,hany.1 hc.2⟩
    ·exact ih.1 h j hj (by omega)
  ·intro h
   obtain⟨h1,h2⟩:=h i hil (Nat.le_refl _)
   rw[if_neg (by rw[h1,hany.2 h2];simp)]
   exact ih.2 fun j hj hij=>h j hj (by omega)
theorem zm8 {l:List Req} (h:zcm l 0 l=true):(∀r∈l,Req.may r=true)∧l.Pairwise fun a b=>a.client≠b.client:=by
 have h:=(zm7 (l:=l) (i:=0) (Nat.zero_le _)).1 (by rw[List.drop_zero];exact h)
 refine⟨fun r hr=> ?_,List.pairwise_iff_getElem.2 fun i j hi hj hij=>(h j hj (Nat.zero_le _)).2 i hij⟩
 obtain⟨j,hj,rfl⟩:=List.getElem_of_mem hr
 exact(h j hj (Nat.zero_le _)).1
theorem ziN {b:Batch} (h:Batch.may b=true) (hf:b.fill=false):(0≤b.view∧b.view≤zcT)∧(0≤b.time∧b.time≤zcT)∧(0≤b.tip.view∧b.tip.view≤zcT)∧(0≤b.tip.slot∧b.tip.slot≤zcT)∧b.reqs.length≤3∧
  (∀r∈b.reqs,Req.may r=true)∧b.reqs.Pairwise fun a b=>a.client≠b.client:=by
 unfold Batch.may at h
 rw[if_neg (by rw[hf];simp)]at h
 split at h
 ·cases h
 ·rename_i hc
  have hc:(!![b.view,b.time,b.tip.view,b.tip.slot].any bad||decide ((b.reqs.length:Int)>3))=false:=by simpa using hc
  rw[Bool.or_eq_false_iff]at hc
  obtain⟨c1,c2⟩:=hc
  have hb:∀n:Int,bad n=false→0≤n∧n≤zcT:=fun n hn=>by unfold bad at hn;simp at hn;omega
  have c1:[b.view,b.time,b.tip.view,b.tip.slot].any bad=false:=by simpa using c1
  simp only[List.any_cons,List.any_nil,Bool.or_false,Bool.or_eq_false_iff]at c1
  obtain⟨q1,q2,q3,q4⟩:=c1
  obtain⟨g1,g2⟩:=zm8 h
  exact⟨hb _ q1,hb _ q2,hb _ q3,hb _ q4,by simp at c2;omega,g1,g2⟩
abbrev zmb (b:Batch):List Int:=[b.view,b.tip.view,b.tip.slot,b.time]
def bp0 (b:Batch) (i:Nat):List Int:=[0]++zaJ ((zmb b).take i)
def bp1 (b:Batch) (i:Nat):List Int:=(bp0 b 4++[(b.reqs.length:Int)])++(b.reqs.take i).flatMap zhM
def zey (b:Batch):List Int:=if b.fill=true then [1]else bp1 b b.reqs.length
theorem zkO (b:Batch) {i:Nat} (hi:i≤4):(bp0 b i).length=1+8*i:=by
 rw[bp0,List.length_append,zbU,List.length_take];simp;omega
theorem zs7 (b:Batch) {i:Nat} (hi:i<(zmb b).length):bp0 b (i+1)=bp0 b i++zaK (zmb b)[i]:=by
 rw[bp0,zg2 hi,bp0,List.append_assoc]
theorem zhK {b:Batch} {i:Nat} (hi:i<b.reqs.length):bp1 b (i+1)=bp1 b i++zhM b.reqs[i]:=by
 rw[bp1,zcE _ hi,bp1,←List.append_assoc]
theorem zhL {b:Batch}:bp1 b 0=bp0 b 4++[(b.reqs.length:Int)]:=by simp[bp1]
theorem zm6 {b:Batch} (h:∀r∈b.reqs,Req.may r=true) (i:Nat):(bp1 b i).length≤34+i*31:=by
 have:=zdq zhM (l:=b.reqs.take i) (k:=31) fun r hr=>by
  have:=zhO (h r (List.mem_of_mem_take hr));omega
 have h2:(b.reqs.take i).length*31≤i*31:=Nat.mul_le_mul_right _ (by rw[List.length_take];omega)
 rw[bp1,List.length_append,List.length_append,zkO b (by omega)]
 simp only[List.length_singleton]
 omega
theorem zfa {b:Batch} (h:Batch.may b=true):b.reqs.length≤3∧∀r∈b.reqs,Req.may r=true:=by
 cases hf:b.fill
 ·have f:=ziN h hf
  exact⟨f.2.2.2.2.1,f.2.2.2.2.2.1⟩
 ·unfold Batch.may at h
  rw[if_pos hf]at h
  simp only[Bool.and_eq_true,beq_iff_eq]at h
  have:b.reqs=[]:=List.length_eq_zero_iff.1 (by omega)
  rw[this]
  exact⟨by simp,by simp⟩
theorem ziL {b:Batch} (h:Batch.may b=true):∀v∈zmb b,0≤v∧v≤2305843009213693952:=by
 have hH:zcT=2305843009213693952:=rfl
 intro v hv
 cases hf:b.fill
 ·obtain⟨a1,a2,a3,a4,_⟩:=ziN h hf
  simp only[zmb,List.mem_cons,List.not_mem_nil,or_false]at hv
  rcases hv with rfl|rfl|rfl|rfl<;>omega
 ·unfold Batch.may at h
  rw[if_pos hf]at h
  simp only[Bool.and_eq_true,beq_iff_eq]at h
  simp only[zmb,List.mem_cons,List.not_mem_nil,or_false]at hv
  rcases hv with rfl|rfl|rfl|rfl<;>omega
theorem zkP {b:Batch} (h:Batch.may b=true):b.ok:=by
 obtain⟨h1,h2⟩:=zfa h
 have hn:=ziL h
 have n1:=hn b.view (by simp)
 have n2:=hn b.tip.view (by simp)
 have n3:=hn b.tip.slot (by simp)
 have n4:=hn b.time (by simp)
 unfold Batch.ok i64
 refine⟨by omega,by omega,by omega,by omega,by omega,fun r hr=>(zee (h2 r hr)).2.2.2⟩
set_option maxHeartbeats 1000000 in
theorem ziM (b:Batch) (h:Batch.may b=true):CallOK prog 26 [.f (.agg b.lent)] (fun x o=>x=[.one (.own 1 (zey b).length (zaa (zey b)) false),ri 0]∧o=[]):=by
 refine zh func26 results26 ntmps26 call26 ?_
 simp only[f26,Option.getD]
 have hmy:=zc0 b (zkP h)
 rw[h]at hmy
 obtain⟨h1,h2⟩:=zfa h
 have hn:=ziL h
 cases hf:b.fill
 ·rw[zey,if_neg (by rw[hf];simp)]
  rw[show b.lent=[db false,di b.view,di b.tip.view,di b.tip.slot,di b.time, .lent b.reqs.length (zbu b.reqs)] from by rw[←hf]]at hmy
  have hagg:∀(Z:List Nat) (r:Rs) (xs ys:List AV),fgc Z r (AV.agg [di b.view,di b.tip.view,di b.tip.slot,di b.time]::xs) (AV.agg [di b.view,di b.tip.view,di b.tip.slot,di b.time]::ys)=fgc Z r xs ys:=fun Z r xs ys=>zhr rfl rfl
  refine zL hf (hmy) ?_
  refine zaf (τ:=Nat) (fun i=>⟨(dd::ptq 1::dq2 (.one (.own ⟨4,1,1⟩ 0 (bp0 b i).length)::zvG (.agg [di b.view,di b.tip.view,di b.tip.slot,di b.time]::ai i::zup []))),[(1,⟨2,[obq 1 [db false,di b.view,di b.tip.view,di b.tip.slot,di b.time, .lent b.reqs.length (zbu b.reqs)],none,none,none,none,none,none]⟩),(19,⟨2,[]⟩),(4,⟨2,[none,roq 1 1 (zaa (bp0 b i))]⟩),(7,⟨2,[]⟩),(36,⟨2,[]⟩),(41,⟨2,[]⟩)]⟩)
   (fun i=>i≤4) (fun _=>()) (fun i=>4 - i) 0
   (Gh.canon [1,4] [7,36,41] [] (zk hagg) rfl rfl) (Nat.zero_le _) ?_
  intro i hi0 hF K hK
  refine zw ?_
  refine zab (fun hlt=> ?_) (fun hge=> ?_)
  ·have hi:i<4:=by simp at hlt;omega
   have hw:IntKind.i64.wrap ((i:Int)+1)=((i+1:Nat):Int):=zai hi (by omega)
   have hpn:=zc8 ((zmb b)[i]'hi) (by have:=hn _ (List.getElem_mem (l:=zmb b) hi);omega)
   have hle:((bp0 b i).length+8≤2^47)=True:=eq_true (by rw[zkO b hi0];omega)
   have hsu:=zs7 b (i:=i) hi
   have hsl:(bp0 b (i+1)).length=(bp0 b i).length+8:=by rw[hsu,List.length_append,zaz]
   obtain⟨j,hj⟩:∃j,i+1=j:=⟨_,rfl⟩
   rw[hj]at hw hsu hsl
   rcases(show i=0∨i=1∨i=2∨i=3 by omega)with rfl|rfl|rfl|rfl
   all_goals
    refine zL (I hle (I t8 (I @zah (I @List.length_map.{0,0} (I @zaz zca))))) (hpn) ?_
    exact hK _ j (Gh.canon [1,4] [] [] (zk (I hw (I hsl hagg))) rfl (by rw[hsu];simp only[roq,zaa,List.map_append];rfl)) (by omega) rfl (by omega)
  ·have hi:i=4:=by
    have:¬(i:Int)<4:=by simpa using hge
    omega
   subst hi
   have w3:IntKind.u8.wrap (b.reqs.length:Int)=b.reqs.length:=zbf (by omega) (by omega)
   have hle:((bp0 b 4).length+1≤2^47)=True:=eq_true (by rw[zkO b (Nat.le_refl _)];omega)
   have hz:(bp1 b 0).length=(bp0 b 4).length+1:=by rw[zhL,List.length_append,List.length_singleton]
   refine zL0 (I w3 (I hle (I @zah @List.length_map.{0,0}))) ?_
   refine zaf (τ:=Nat) (fun i=>⟨(dq4 (.one (.own ⟨4,1,1⟩ 0 (bp1 b i).length)::dq6 (zdO (al b.reqs.length (zbu b.reqs)::ai b.reqs.length::ai i::zrv [])))),[(1,⟨2,[]⟩),(19,⟨2,[]⟩),(4,⟨2,[none,roq 1 1 (zaa (bp1 b i))]⟩),(7,⟨2,[]⟩),(36,⟨2,[]⟩),(41,⟨2,[]⟩),(48,⟨2,[]⟩),(10,⟨2,[]⟩),(11,⟨2,[]⟩),(59,⟨2,[]⟩),(64,⟨2,[]⟩)]⟩)
    (fun i=>i≤b.reqs.length) (fun _=>()) (fun i=>b.reqs.length - i) 0
    (Gh.canon [4] [10,11,59,64] [] (zk hz) rfl (by rw[zhL];simp only[roq,zaa,List.map_append];rfl)) (Nat.zero_le _) ?_
   intro i hi0 hF K hK
   refine zw ?_
   refine zab (fun hlt=> ?_) (fun hge=> ?_)
   ·have hi:i<b.reqs.length:=by simpa using hlt
    have hat:=zdv hi
    have hw:=zai hi (by omega)
    have hm:=h2 _ (List.getElem_mem hi)
    have hpt:=zme b.reqs[i] hm
    have hl0:=zm6 h2 i
    have hl1:=zhO hm
    have hle:((bp1 b i).length+(zhM b.reqs[i]).length≤2^47)=True:=eq_true (by omega)
    have hsl:(bp1 b (i+1)).length=(bp1 b i).length+(zhM b.reqs[i]).length:=by rw[zhK hi,List.length_append]
    refine zL (I hat (I @zaD (I hle (I @zah (I @List.length_map.{0,0} zca))))) (hpt) ?_
    exact hK _ (i+1) (Gh.canon [4] [] [] (zk (I hw hsl)) rfl (by rw[zhK hi];simp only[roq,zaa,List.map_append];rfl)) hi rfl (by omega)
   ·have hi:i=b.reqs.length:=by
     have:¬(i:Int)<b.reqs.length:=by simpa using hge
     omega
    subst hi
    exact zW0 trivial
 ·rw[zey,if_pos hf]
  rw[show b.lent=[db true,di b.view,di b.tip.view,di b.tip.slot,di b.time, .lent b.reqs.length (zbu b.reqs)] from by rw[←hf]]at hmy
  exact zW hf (hmy)
theorem zmo (n:Int):CallOK prog 116 [.f (ai n)] (fun r o=>r=[rb (bad n)]∧o=[]):=by
 refine zh func116 results116 ntmps116 call116 ?_
 simp only[f116,Option.getD]
 refine zxO trivial ?_
 rfl
theorem zhQ (l:List Int) (hl:l.length<2^62):CallOK prog 75 [.f (al l.length (za5 l))] (fun r o=>r=[rb (!l.any bad)]∧o=[]):=by
 refine zh func75 results75 ntmps75 call75 ?_
 simp only[f75,Option.getD]
 repeat'(first|exact zC|refine za0 ?_|((first|((try refine zaB ?_);apply zaC)|(apply zaE;intro _));(solve|exact(zdV l hl bad _ [] rfl rfl (fun x _=>zmo x))|(refine CallOK.le (zdV l hl bad _ [] rfl rfl (fun x _=>zmo x)) ?_;exact zM)|fail);try case hn=>rfl)|(apply zab<;>intro hb)|(apply I;exact zI)|(apply I<;>intro hg))
theorem b1 {q a b:Bool} (hg:(q==false)=false):(q||a||b)=true:=by cases q<;>simp_all
theorem b2 {q a b c:Bool} (h:(q|| !!a||b)=c):(q||a||b)=c:=by simpa using h
theorem b3 {q b:Bool} (hg:(q==false)=false) (hb:(q||b)=false):False:=by cases q<;>simp_all
theorem zAM {x y:Int}:[x,y].any bad=(bad x||bad y):=by simp
def zb0 (done:Int):Int→List Vote→Bool
 |_,[]=>true
 |last,v::rest=>if(decide (v.slot≤last)||decide (v.slot - done>9)||(bad v.slot||bad v.ballot)|| !Batch.may v.batch)=true then false else zb0 done v.slot rest
def Prom.may (p:Prom):Bool:=
 if(decide (p.src<0)||decide (p.src≥7)||[p.done,p.tip.view,p.tip.slot,p.time].any bad||decide ((p.votes.length:Int)>9))=true then false else zb0 p.done p.done p.votes
theorem zo8 (p:Prom) (hok:p.ok):CallOK prog 37 [.f (.agg p.lent)] (fun r o=>r=[rb (Prom.may p)]∧o=[]):=by
 have hlen:p.votes.length<2^42:=hok.2.2.2.2.2.1
 have hv:∀v∈p.votes,v.ok:=hok.2.2.2.2.2.2
 refine zh func37 results37 ntmps37 call37 ?_
 simp only[f37,Option.getD]
 repeat'(first|exact zC|refine za0 ?_|((first|((try refine zaB ?_);apply zaC)|(apply zaE;intro _));(solve|exact(zhQ [_,_,_,_] (by simp))|(refine CallOK.le (zhQ [_,_,_,_] (by simp)) ?_;exact zM)|fail);try case hn=>rfl)|(apply zab<;>intro hb)|(apply I;exact zI)|(apply I<;>intro hg))
 ·rw[Prom.may,if_pos (b2 hb)]
 rotate_left
 ·rw[Prom.may,if_pos (b1 hg)]
 ·exact(b3 hg hb).elim
 have hc:¬(decide (p.src<0)||decide (p.src≥7)||[p.done,p.tip.view,p.tip.slot,p.time].any bad||decide ((p.votes.length:Int)>9))=true:=by
  rw[b2 hb];simp
 have hdone:0≤p.done:=by
  simp[bad]at hc
  omega
 have hm:Prom.may p=zb0 p.done p.done p.votes:=by rw[Prom.may,if_neg hc]
 rw[hm]
 refine zw ?_
 refine zaf (τ:=Nat×Int×Nat×Nat) (fun t=>⟨(dd:: .one (.ptr ⟨1,0,0⟩ 0)::ab false::ai t.2.1::zxc (al p.votes.length (zbe p.votes)::ai p.votes.length::ai t.1::zxb [])),
  [(1,{next:=7,l:=[obq 0 [di p.src,di p.done,di p.tip.view,di p.tip.slot,di p.time, .lent p.votes.length (zbe p.votes)],none,none,none,none,none,none]}),(25,⟨1,[]⟩),(5,⟨t.2.2.1,[]⟩),(61,⟨t.2.2.2,[]⟩)]⟩)
  (fun t=>t.1≤p.votes.length∧p.done≤t.2.1) (fun t=>zb0 p.done t.2.1 (p.votes.drop t.1)) (fun t=>p.votes.length - t.1) (0,p.done,0,0) (Gh.keep [1] [5,61] ?_ rfl) ⟨Nat.zero_le _,Int.le_refl _⟩ ?_
 ·simp only[ddE,zaQ,zaR,za8,Int.natCast_zero]
 intro⟨i,last,e5,e61⟩ ⟨hi0,hl0⟩ hF K hK
 simp only at hi0 hl0 hF hK⊢
 refine zw ?_
 refine zab (fun hlt=> ?_) (fun hge=> ?_)
 ·have hi:i<p.votes.length:=by simpa using hlt
  rw[List.drop_eq_getElem_cons hi,zb0]at hF
  have hat:=zdP hi
  simp only[List.cons_append,List.nil_append]at hat
  have hvo:=hv _ (List.getElem_mem hi)
  have hw:(decide (p.votes[i].slot≤last)||decide (IntKind.i64.wrap (p.votes[i].slot - p.done)>9))=(decide (p.votes[i].slot≤last)||decide (p.votes[i].slot - p.done>9)):=by
   by_cases h:p.votes[i].slot≤last
   ·simp[h]
   ·have:=hvo.1
    unfold i64 at this
    rw[wrap64 (by omega) (by omega)]
  repeat'(first|exact zC|refine za (I @zaA hat) ?_|((first|((try refine zaB ?_);apply zaC)|(apply zaE;intro _));(solve|exact(zhQ [_,_] (by simp))|(refine CallOK.le (zhQ [_,_] (by simp)) ?_;exact zM)|fail);try case hn=>rfl)|((first|((try refine zaB ?_);apply zaC)|(apply zaE;intro _));(solve|exact(zc0 _ hvo.2.2)|(refine CallOK.le (zc0 _ hvo.2.2) ?_;exact zM)|fail);try case hn=>rfl)|(apply zab<;>intro hb)|(apply I;exact zI)|(apply I<;>intro hg))
  all_goals rw[hw]at hb hg
  ·rw[if_pos (by rw[←zAM];exact b2 hb),List.drop_zero]at hF
   rw[←hF]
  ·have hb':=b2 hb
   rw[zAM]at hb'
   rw[if_neg (by rw[hb'];simp)]at hF
   have hsl:last<p.votes[i].slot:=by
    simp only[Bool.or_eq_false_iff,decide_eq_false_iff_not]at hb'
    omega
   refine hK _ (i+1,p.votes[i].slot,_,_) (Gh.keep [1] [] ?_ rfl) ⟨hi,by simp only;omega⟩ (by simp only[List.drop_eq_getElem_cons hi,zb0];rw[if_neg (by rw[hb'];simp)]) (by simp only;omega)
   simp only[zai hi (by omega),ddE,zaQ,zaR,za8]
  ·rw[if_pos (b1 hg),List.drop_zero]at hF
   rw[←hF]
  ·exact(b3 hg hb).elim
 ·have hi:i=p.votes.length:=by
   have:¬(i:Int)<p.votes.length:=by simpa using hge
   omega
  rw[hi,List.drop_length,List.drop_zero,zb0]at hF
  refine zw ?_
  rw[←hF]
theorem ztc (p:Prom):(decide (p.src<0)||decide (p.src≥7)||[p.done,p.tip.view,p.tip.slot,p.time].any bad||decide ((p.votes.length:Int)>9))=
  (decide (p.src<0)||decide (p.src≥7)|| !(decide (p.done≥0)&&decide (p.done≤zcT))|| !Tip.may p.tip|| !(decide (p.time≥0)&&decide (p.time≤zcT))||decide ((p.votes.length:Int)>9)):=by
 have h:∀n:Int,bad n= !(decide (n≥0)&&decide (n≤zcT)):=fun n=>by rw[←Bool.not_not (b:=bad n),zra];rfl
 simp only[List.any_cons,List.any_nil,Bool.or_false,Tip.may,inH,h,Bool.not_and,Bool.or_assoc]
theorem ztd {done s s' q L bl:Int} {i:Nat} {m:Bool} (hd:0≤done) (hl0:done≤L) (hwr:s≤done∨q=s - done) (hlast:L=if i=0 then done else s'):
  (!(decide (s≥1)&&decide (s≤zcT))||decide (s≤done)||decide (q>9)||decide ((i:Int)>0)&&decide (s≤s')|| !(decide (bl≥0)&&decide (bl≤zcT))|| !m)=
   (decide (s≤L)||decide (s - done>9)||(bad s||bad bl)|| !m):=by
 rw[Bool.eq_iff_iff]
 cases m<;>simp[bad,zcT]
 split at hlast<;>omega
def lastOf (p:Prom) (i:Nat):Int:=if i=0 then p.done else(p.votes[i - 1]?.map Vote.slot).getD 0
theorem znb (p:Prom) (hok:p.ok):CallOK prog 45 [.f (.agg p.lent)] (fun r o=>r=[rb (Prom.may p)]∧o=[]):=by
 have hlen:p.votes.length<2^42:=hok.2.2.2.2.2.1
 have hv:∀v∈p.votes,v.ok:=hok.2.2.2.2.2.2
 refine zh func45 results45 ntmps45 call45 ?_
 simp only[f45,Option.getD]
 repeat'(first|exact zC|refine za0 ?_|((first|((try refine zaB ?_);apply zaC)|(apply zaE;intro _));(solve|exact(zef _ _)|(refine CallOK.le (zef _ _) ?_;exact zM)|fail);try case hn=>rfl)|refine zx (zmg p.tip) ?_|(apply zab<;>intro hb)|(apply I;exact zI)|(apply I<;>intro hg))
 all_goals have hC:(decide (p.src<0)||decide (p.src≥7)||[p.done,p.tip.view,p.tip.slot,p.time].any bad||decide ((p.votes.length:Int)>9))=_:=((ztc p).trans hb)
 ·rw[Prom.may,if_pos hC]
 have hm:Prom.may p=zb0 p.done p.done p.votes:=by rw[Prom.may,if_neg (by rw[hC];simp)]
 have hdone:0≤p.done:=by
  simp[bad]at hC
  omega
 rw[hm]
 refine zw ?_
 refine zaf (τ:=Nat×Nat) (fun t=>⟨(dd:: .one (.ptr ⟨1,0,0⟩ 0)::ab false::ai t.1::zom (zdO (zdO []))),
  [(1,{next:=7,l:=[obq 0 [di p.src,di p.done,di p.tip.view,di p.tip.slot,di p.time, .lent p.votes.length (zbe p.votes)],none,none,none,none,none,none]}),(4,⟨t.2,[]⟩)]⟩)
  (fun t=>t.1≤p.votes.length∧p.done≤lastOf p t.1) (fun t=>zb0 p.done (lastOf p t.1) (p.votes.drop t.1)) (fun t=>p.votes.length - t.1) (0,0) (Gh.keep [1] [4] ?_ rfl) ⟨Nat.zero_le _,Int.le_refl _⟩ ?_
 ·simp only[ddE,zaQ,zaR,za8,Int.natCast_zero]
 intro⟨i,e⟩ ⟨hi0,hl0⟩ hF K hK
 simp only at hi0 hl0 hF hK⊢
 refine zw ?_
 refine zab (fun hlt=> ?_) (fun hge=> ?_)
 ·have hi:i<p.votes.length:=by simpa using hlt
  rw[List.drop_eq_getElem_cons hi,zb0]at hF
  have hat:=zdP hi
  have hat2:=zdP (show i - 1<p.votes.length by omega)
  simp only[List.cons_append,List.nil_append]at hat hat2
  have hvo:=hv _ (List.getElem_mem hi)
  have hw1:IntKind.i64.wrap ((i:Int) - 1)=(i:Int) - 1:=wrap64 (by omega) (by omega)
  have hw2:((i:Int) - 1).toNat=i - 1:=by omega
  have hwr:p.votes[i].slot≤p.done∨IntKind.i64.wrap (p.votes[i].slot - p.done)=p.votes[i].slot - p.done:=by
   by_cases h:p.votes[i].slot≤p.done
   ·exact .inl h
   ·have:=hvo.1
    unfold i64 at this
    exact .inr (wrap64 (by omega) (by omega))
  have hlast:lastOf p i=if i=0 then p.done else p.votes[i - 1].slot:=by
   unfold lastOf
   split
   ·rfl
   ·rw[List.getElem?_eq_getElem (by omega)];rfl
  have hCC:=ztd (m:=Batch.may p.votes[i].batch) (bl:=p.votes[i].ballot) hdone hl0 hwr hlast
  repeat'(first|exact zC|refine za (I @zaA (I hat (I hat2 (I hw1 hw2)))) ?_|((first|((try refine zaB ?_);apply zaC)|(apply zaE;intro _));(solve|exact(zef _ _)|(refine CallOK.le (zef _ _) ?_;exact zM)|fail);try case hn=>rfl)|((first|((try refine zaB ?_);apply zaC)|(apply zaE;intro _));(solve|exact(zc9 _ hvo.2.2)|(refine CallOK.le (zc9 _ hvo.2.2) ?_;exact zM)|fail);try case hn=>rfl)|(apply zab<;>intro hb)|(apply I;exact zI)|(apply I<;>intro hg))
  all_goals rw[hCC]at hb
  ·rw[if_pos hb,List.drop_zero,show lastOf p 0=p.done from rfl]at hF
   rw[←hF]
  ·rw[if_neg (by rw[hb];simp)]at hF
   have hl1:lastOf p (i+1)=p.votes[i].slot:=by simp[lastOf,hi]
   refine hK _ (i+1,_) (Gh.keep [1] [] ?_ rfl) ⟨hi, ?_⟩ (by simp only[List.drop_eq_getElem_cons hi,zb0];rw[if_neg (by rw[hb];simp),hl1]) (by simp only;omega)
   ·simp only[zai hi (by omega),ddE,zaQ,zaR,za8]
   ·show p.done≤lastOf p (i+1)
    rw[hl1]
    simp only[Bool.or_eq_false_iff,decide_eq_false_iff_not]at hb
    omega
 ·have hi:i=p.votes.length:=by
   have:¬(i:Int)<p.votes.length:=by simpa using hge
   omega
  rw[hi,List.drop_length,List.drop_zero,zb0,show lastOf p 0=p.done from rfl]at hF
  refine zw ?_
  rw[←hF]
theorem bad_false {n:Int} (h:bad n=false):0≤n∧n≤2305843009213693952:=by
 simp[bad]at h
 omega
theorem ziR {done:Int}:∀{last:Int} {l:List Vote},done≤last→zb0 done last l=true→∀v∈l,done<v.slot∧v.slot≤done+9∧bad v.slot=false∧bad v.ballot=false∧Batch.may v.batch=true
 |last,[],_,_,v,hv=>by cases hv
 |last,w::l,hd,h,v,hv=>by
  rw[zb0]at h
  split at h
  ·cases h
  ·rename_i hc
   simp only[Bool.or_eq_true,Bool.not_eq_true',not_or,decide_eq_true_eq,Bool.not_eq_true,Bool.not_eq_false]at hc
   obtain⟨⟨⟨h1,h2⟩,h3,h4⟩,h5⟩:=hc
   rcases List.mem_cons.1 hv with rfl|hv
   ·exact⟨by omega,by omega,h3,h4,h5⟩
   ·exact ziR (by omega) h v hv
structure MayP (p:Prom):Prop where
 src:0≤p.src∧p.src<7
 done:0≤p.done∧p.done≤2305843009213693952
 view:0≤p.tip.view∧p.tip.view≤2305843009213693952
 slot:0≤p.tip.slot∧p.tip.slot≤2305843009213693952
 time:0≤p.time∧p.time≤2305843009213693952
 len:p.votes.length≤9
 may:zb0 p.done p.done p.votes=true
 votes:∀v∈p.votes,p.done<v.slot∧v.slot≤p.done+9∧bad v.slot=false∧bad v.ballot=false∧Batch.may v.batch=true
theorem zrl {p:Prom} (h:Prom.may p=true):MayP p:=by
 unfold Prom.may at h
 split at h
 ·cases h
 ·rename_i hc
  simp only[List.any_cons,List.any_nil,Bool.or_false,Bool.or_eq_true,not_or,decide_eq_true_eq,Bool.not_eq_true]at hc
  obtain⟨⟨⟨h1,h2⟩,h3,h4,h5,h6⟩,h7⟩:=hc
  exact⟨by omega,bad_false h3,bad_false h4,bad_false h5,bad_false h6,by omega,h,ziR (Int.le_refl _) h⟩
def zx1:Batch:=⟨true,0,⟨0,0⟩,0,[]⟩
def u8 (n:Int):Prop:=0≤n∧n<256
abbrev ru (n:Int):AV:= .one (.d (.v (.int .u8 n)))
def nameOf (k:Nat):ByteArray:=
 match k with
 |0=>⟨#[97]⟩|1=>⟨#[98]⟩|2=>⟨#[99]⟩|3=>⟨#[100]⟩|4=>⟨#[107,101,121,45,49]⟩|_=>⟨#[116,104,101,45,108,97,115,116,45,111,110,101]⟩
def zx2 (a b c:Int):Int×Int×ByteArray:=
 let k:Int:=1+((a.toNat % 6:Nat):Int)
 (k,if k=1 then 0 else 1+((b.toNat % 7:Nat):Int),if k=3∨k=4∨k=5 then nameOf (c.toNat % 6)else .empty)
def zAJ (c q a b d:Int):Req:=⟨((c.toNat % 8:Nat):Int),1+q,(zx2 a b d).1,(zx2 a b d).2.1,(zx2 a b d).2.2⟩
def zw7 (l:List Int) (acc:List Req):Nat→Nat→List Req
 |0,_=>acc
 |n+1,i=>if i+4<l.length∧acc.length<3 then
   let r:=zAJ (l.getD i 0) (l.getD (i+1) 0) (l.getD (i+2) 0) (l.getD (i+3) 0) (l.getD (i+4) 0)
   zw7 l (if acc.any (fun o=>o.client==r.client)=true then acc else acc++[r]) n (i+5)else acc
abbrev zx3 (b:Batch):RF:= .agg [.d (bD b.fill), .d (iD b.view), .d (iD b.tip.view), .d (iD b.tip.slot), .d (iD b.time), .own 5 b.reqs.length (zbu b.reqs) false]
def zrj (l:List Int):Batch:=
 if l.length<4∨l.getD 0 0=255 then zx1
 else⟨false,(((l.getD 2 0).toNat % 8:Nat):Int),⟨(((l.getD 0 0).toNat % 4:Nat):Int),(((l.getD 1 0).toNat % 6:Nat):Int)⟩,l.getD 3 0,zw7 l [] l.length 4⟩
structure NVote where
 slot:Int
 ballot:Int
 ns:List Int
abbrev NVote.enc (v:NVote):List D:=[uD v.slot,uD v.ballot, .sl v.ns.length (zaa v.ns)]
def NVote.ok (v:NVote):Prop:=u8 v.slot∧u8 v.ballot∧v.ns.length<2^60∧∀x∈v.ns,u8 x
abbrev zrk (l:List NVote):List D:=l.flatMap NVote.enc
structure NTold where
 done:Int
 view:Int
 slot:Int
 time:Int
 votes:List NVote
abbrev NTold.enc (v:NTold):List D:=[uD v.done,uD v.view,uD v.slot,uD v.time, .sl v.votes.length (zrk v.votes)]
def NTold.ok (v:NTold):Prop:=u8 v.done∧u8 v.view∧u8 v.slot∧u8 v.time∧v.votes.length<2^60∧∀x∈v.votes,x.ok
abbrev zAK (l:List NTold):List D:=l.flatMap NTold.enc
def m8 (x:Int) (m:Nat):Int:=((x.toNat % m:Nat):Int)
def zw8 (s:Nat) (v:NVote):Bool:=m8 v.slot 9+1==(s:Int)
def zua (done:Int) (l:List NVote) (acc:List Vote):Nat→Nat→List Vote
 |0,_=>acc
 |n+1,s=>zua done l (match l.find? (zw8 s)with|some v=>acc++[⟨done+s,m8 v.ballot 9,zrj v.ns⟩]|none=>acc) n (s+1)
def zx4 (i:Int) (t:NTold):Prom:=⟨i,m8 t.done 8,⟨m8 t.view 4,m8 t.slot 6⟩,t.time,zua (m8 t.done 8) t.votes [] 9 1⟩
abbrev zAL (p:Prom):RF:= .agg [.d (iD p.src), .d (iD p.done), .d (iD p.tip.view), .d (iD p.tip.slot), .d (iD p.time), .own 8 p.votes.length (zbe p.votes) false]
end Go.Proofs.YtliimajkpggbhaaGreat
