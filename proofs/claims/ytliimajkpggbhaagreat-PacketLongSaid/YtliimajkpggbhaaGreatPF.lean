import Derived.Test.YtliimajkpggbhaaGreatL9
namespace Go.Proofs.YtliimajkpggbhaaGreat
open Go.Pk
set_option maxRecDepth 100000
set_option linter.unusedSimpArgs false
set_option linter.unusedVariables false
theorem zdN (v:Int) (h:0≤v∧v<4611686018427387904):CallOK Tryz.prog 69 [.f (ai v)] (fun r o=>r=[.one (.own 1 8 (zad (zbI v)) false)]∧o=[]):=by
 refine zh Tryz.func69 Tryz.results69 Tryz.ntmps69 Tryz.call69 ?_
 simp only[Tryz.f69,Option.getD]
 have hp:=zcz v h
 repeat'(first|exact zC|refine zq0 ?_|refine zx (hp) ?_|(apply zaa<;>intro hb)|(apply I;exact zI)|(apply I<;>intro hg))
theorem ziu:∀ls:List (List Int),(ls.map zad).flatten=zad ls.flatten
 |[]=>rfl
 |l::ls=>by simp only[List.map_cons,List.flatten_cons,ziu ls,List.map_append]
theorem zep (ls:List (List Int)) (hl:ls.length<2^10) (hs:∀l∈ls,l.length≤2^12):
  CallOK Tryz.prog 66 [.f (al ls.length (ls.map fun l=> .sl l.length (zad l)))] (fun r o=>r=[.one (.own 1 ls.flatten.length (zad ls.flatten) false)]∧o=[]):=by
 have h:=zhf (ls.map zad) (by simpa using hl) (fun l h=>by
  obtain⟨x,hx,rfl⟩:=List.mem_map.1 h
  rw[List.length_map];exact hs x hx)
 rw[ziu,zaV,List.length_map]at h
 have e:zp2 (ls.map zad)=ls.map fun l=> .sl l.length (zad l):=by
  rw[zp2,List.map_map]
  exact List.map_congr_left fun l _=>by simp only[Function.comp,zaV]
 rw[e]at h
 exact h
def znv (x:Sess):List Int:=x.client::(zbI x.num++zbI x.renewed)
def lk0 (k:Lk):List Int:=zeS k.name++(k.holder::(zbI k.token++[(k.line.length:Int)]))
def znw (k:Lk):List Int:=lk0 k++k.line
def zlG (s:St):List Int:=zbI s.time++(zbI s.num++(zbI s.token++[(s.sess.length:Int)]))
def sb1 (s:St) (i:Nat):List Int:=zlG s++(s.sess.take i).flatMap znv
def sb2 (s:St) (i:Nat):List Int:=(sb1 s s.sess.length++[(s.locks.length:Int)])++(s.locks.take i).flatMap znw
def sb3 (s:St) (i:Nat):List Int:=(sb2 s s.locks.length++[(s.memos.length:Int)])++(s.memos.take i).flatMap zbJ
def zfI (s:St):List Int:=sb3 s s.memos.length
theorem zb6 {α:Type} (f:α→List Int) {l:List α} {i:Nat} (hi:i<l.length):(l.take (i+1)).flatMap f=(l.take i).flatMap f++f l[i]:=by
 rw[List.take_succ_eq_append_getElem hi,List.flatMap_append];simp
theorem zre {s:St} {i:Nat} (hi:i<s.sess.length):sb1 s (i+1)=sb1 s i++znv s.sess[i]:=by rw[sb1,zb6 _ hi,sb1,List.append_assoc]
theorem zrf {s:St} {i:Nat} (hi:i<s.locks.length):sb2 s (i+1)=sb2 s i++znw s.locks[i]:=by rw[sb2,zb6 _ hi,sb2,←List.append_assoc]
theorem zmG {s:St} {i:Nat} (hi:i<s.memos.length):sb3 s (i+1)=sb3 s i++zbJ s.memos[i]:=by rw[sb3,zb6 _ hi,sb3,←List.append_assoc]
theorem zmH {s:St}:sb1 s 0=zlG s:=by simp[sb1]
theorem zmI {s:St}:sb2 s 0=sb1 s s.sess.length++[(s.locks.length:Int)]:=by simp[sb2]
theorem zmJ {s:St}:sb3 s 0=sb2 s s.locks.length++[(s.memos.length:Int)]:=by simp[sb3]
theorem zcV {α:Type} (f:α→List Int) {k:Nat}:∀{l:List α},(∀x∈l,(f x).length≤k)→(l.flatMap f).length≤l.length*k
 |[],_=>by simp
 |x::l,h=>by
  rw[List.flatMap_cons,List.length_append,List.length_cons,Nat.add_mul]
  have:=h x (by simp)
  have:=zcV f (l:=l) fun y hy=>h y (by simp[hy])
  omega
theorem zhr (s:St):(zlG s).length=25:=by simp[zlG,zbz]
theorem zpx (x:Sess):(znv x).length=17:=by simp[znv,zbz]
theorem zpy (k:Lk):(lk0 k).length=11+k.name.size:=by simp[lk0,zbz,zci];omega
theorem zlH (s:St) (i:Nat):(sb1 s i).length≤25+i*17:=by
 rw[sb1,List.length_append,zhr]
 have:=zcV znv (l:=s.sess.take i) (k:=17) fun x _=>by rw[zpx];exact Nat.le_refl _
 have h2:(s.sess.take i).length≤i:=by rw[List.length_take];omega
 have:=Nat.mul_le_mul_right 17 h2
 omega
theorem ziv {s:St} (h:RightS s) {k:Lk} (hk:k∈s.locks):(znw k).length≤26∧k.name.size≤12∧(0≤k.holder∧k.holder≤255)∧(0≤k.token∧k.token<4611686018427387904)∧k.line.length≤3∧∀c∈k.line,0≤c∧c≤255:=by
 have hH:zdU=2305843009213693952:=rfl
 obtain⟨a,_,b,_⟩:=h.lok k hk
 obtain⟨h1,h2,h3⟩:=zmx.1 a
 obtain⟨l1,l2,_⟩:=zkx.1 b
 have hs:=zfZ h1
 refine⟨?_,hs,by omega,by omega,l1,fun c hc=> ?_⟩
 ·rw[znw,List.length_append,zpy];omega
 ·have:=l2 c hc
  simp only[isClient,Bool.and_eq_true,decide_eq_true_eq]at this
  omega
def zjG (s:St) (i:Nat) (k:Lk) (j:Nat):List Int:=(sb2 s i++lk0 k)++k.line.take j
theorem zpz {s:St} {i:Nat} {k:Lk}:zjG s i k 0=sb2 s i++lk0 k:=by simp[zjG]
theorem zkL {s:St} {i:Nat} {k:Lk} {j:Nat} (hj:j<k.line.length):zjG s i k (j+1)=zjG s i k j++[k.line[j]]:=by
 rw[zjG,List.take_succ_eq_append_getElem hj,←List.append_assoc,zjG]
theorem zmK {s:St} {i:Nat} (hi:i<s.locks.length):zjG s i s.locks[i] s.locks[i].line.length=sb2 s (i+1):=by
 rw[zjG,List.take_length,zrf hi,znw,List.append_assoc]
theorem zlI {s:St} (h:RightS s) (i:Nat):(sb2 s i).length≤115+i*26:=by
 rw[sb2,List.length_append,List.length_append]
 have:=zlH s s.sess.length
 have:=h.sl
 have:=zcV znw (l:=s.locks.take i) (k:=26) fun x hx=>(ziv h (List.mem_of_mem_take hx)).1
 have h2:(s.locks.take i).length≤i:=by rw[List.length_take];omega
 have:=Nat.mul_le_mul_right 26 h2
 simp only[List.length_singleton]
 omega
theorem zju {s:St} (h:RightS s):s.memos.length≤8:=by
 have:=zf0 (a:=0) (b:=8) (zsd.1 h.ms) (fun x hx=>by
  obtain⟨m,hm,rfl⟩:=List.mem_map.1 hx
  exact(zdK (h.mok m hm)).1)
 rw[List.length_map]at this
 omega
theorem zlJ {s:St} (h:RightS s) (i:Nat):(sb3 s i).length≤250+i*104:=by
 rw[sb3,List.length_append,List.length_append]
 have:=zlI h s.locks.length
 have:=h.ll
 have:=zcV zbJ (l:=s.memos.take i) (k:=104) fun x hx=>zfd (h.mok x (List.mem_of_mem_take hx))
 have h2:(s.memos.take i).length≤i:=by rw[List.length_take];omega
 have:=Nat.mul_le_mul_right 104 h2
 simp only[List.length_singleton]
 omega
theorem zao {l:List Int}:(zad l).take l.length=zad l:=List.take_of_length_le (by rw[zaV];exact Nat.le_refl _)
set_option maxHeartbeats 4000000 in
theorem znx (s:St) (h:RightS s):CallOK Tryz.prog 68 [.f (.agg s.lent)] (fun r o=>r=[.one (.own 1 (zfI s).length (zad (zfI s)) false),ri 0]∧o=[]):=by
 refine zh Tryz.func68 Tryz.results68 Tryz.ntmps68 Tryz.call68 ?_
 simp only[Tryz.f68,Option.getD]
 have hri:=zjj s (zdL h)
 rw[zeM.2 h]at hri
 have hH:zdU=2305843009213693952:=rfl
 have ht:=h.time
 have hn:=h.num
 have hk:=h.token
 have hsl:=h.sl
 have hll:=h.ll
 have n1:=zdN s.time (by omega)
 have n2:=zdN s.num (by omega)
 have n3:=zdN s.token (by omega)
 have w1:IntKind.u8.wrap (s.sess.length:Int)=s.sess.length:=zcH (by omega) (by omega)
 have hcc:CallOK Tryz.prog 66 [.f (al 4 [.sl 8 (zad (zbI s.time)), .sl 8 (zad (zbI s.num)), .sl 8 (zad (zbI s.token)), .sl 1 (zad [(s.sess.length:Int)])])] (fun x o=>x=[.one (.own 1 25 (zad (zlG s)) false)]∧o=[]):=by
  have hc:=zep [zbI s.time,zbI s.num,zbI s.token,[(s.sess.length:Int)]] (by simp) (fun l hl=>by
   simp only[List.mem_cons,List.not_mem_nil,or_false]at hl
   rcases hl with rfl|rfl|rfl|rfl<;>simp[zbz])
  rw[show [zbI s.time,zbI s.num,zbI s.token,[(s.sess.length:Int)]].flatten=zlG s from by simp[zlG],zhr]at hc
  exact hc
 have t8:∀v:Int,(zad (zbI v)).take 8=zad (zbI v):=fun v=>List.take_of_length_le (by rw[zdi];decide)
 have t1:∀x:Int,toDs (sub 0 1 1 [C.d (uD x)])=some [uD x]:=fun _=>rfl
 repeat'(first|exact zC|refine zq (I t8 (I t1 w1)) ?_|refine zx (hri) ?_|refine zx (n1) ?_|refine zx (n2) ?_|refine zx (n3) ?_|refine zx (hcc) ?_|(apply zaa<;>intro hb)|(apply I;exact zI)|(apply I<;>intro hg))
 refine zai (τ:=Nat) (fun i=>⟨(dd::ptq 1::dq2 (.one (.own ⟨4,1,1⟩ 0 (sb1 s i).length)::zsn (al s.sess.length (za9 s.sess)::ai s.sess.length::ai i::ztN (zgv (zgv []))))),[(1,⟨2,[obq 1 [di s.time,di s.num,di s.token, .lent s.sess.length (za9 s.sess), .lent s.locks.length (zax s.locks), .lent s.memos.length (zaO s.memos)],none,none,none,none,none,none]⟩),(22,⟨2,[]⟩),(25,⟨2,[]⟩),(28,⟨2,[]⟩),(33,⟨2,[]⟩),(34,⟨2,[]⟩),(35,⟨2,[]⟩),(4,⟨2,[none,roq 1 1 (zad (sb1 s i))]⟩),(6,⟨2,[]⟩),(47,⟨2,[]⟩),(50,⟨2,[]⟩),(53,⟨2,[]⟩),(54,⟨2,[]⟩),(55,⟨2,[]⟩)]⟩)
  (fun i=>i≤s.sess.length) (fun _=>()) (fun i=>s.sess.length - i) 0
  (Gh.canon [1,4] [6,47,50,53,54,55] [] (zk (I @zmH @zhr)) rfl (by rw[zmH];rfl)) (Nat.zero_le _) ?_
 intro i hi0 hF K hK
 refine zw ?_
 refine zaa (fun hlt=> ?_) (fun hge=> ?_)
 ·have hi:i<s.sess.length:=by simpa using hlt
  have hat:=zcj hi
  have hw:=zan hi (by omega)
  obtain⟨f1,f2,f3⟩:=zng.1 (h.sok _ (List.getElem_mem hi)).1
  simp only[isClient,Bool.and_eq_true,decide_eq_true_eq]at f1
  have wc:IntKind.u8.wrap s.sess[i].client=s.sess[i].client:=zcH (by omega) (by omega)
  have m1:=zdN s.sess[i].num (by omega)
  have m2:=zdN s.sess[i].renewed (by omega)
  have hb:=zlH s i
  have hcc:CallOK Tryz.prog 66 [.f (al 4 [.sl (sb1 s i).length (zad (sb1 s i)), .sl 1 (zad [s.sess[i].client]), .sl 8 (zad (zbI s.sess[i].num)), .sl 8 (zad (zbI s.sess[i].renewed))])] (fun x o=>x=[.one (.own 1 (sb1 s (i+1)).length (zad (sb1 s (i+1))) false)]∧o=[]):=by
   have hc:=zep [sb1 s i,[s.sess[i].client],zbI s.sess[i].num,zbI s.sess[i].renewed] (by simp) (fun l hl=>by
    simp only[List.mem_cons,List.not_mem_nil,or_false]at hl
    rcases hl with rfl|rfl|rfl|rfl
    ·omega
    ·simp
    ·rw[zbz];decide
    ·rw[zbz];decide)
   rw[show [sb1 s i,[s.sess[i].client],zbI s.sess[i].num,zbI s.sess[i].renewed].flatten=sb1 s (i+1) from by rw[zre hi];simp[znv]]at hc
   exact hc
  repeat'(first|exact zC|refine zq (I hat (I @zaA (I t8 (I t1 (I wc (I @zao zca)))))) ?_|refine zx (m1) ?_|refine zx (m2) ?_|refine zx (hcc) ?_|(apply zaa<;>intro hb)|(apply I;exact zI)|(apply I<;>intro hg))
  exact hK _ (i+1) (Gh.canon [1,4] [] [] (zk hw) rfl rfl) hi rfl (by omega)
 ·have hi:i=s.sess.length:=by
   have:¬(i:Int)<s.sess.length:=by simpa using hge
   omega
  subst hi
  clear hK
  have w2:IntKind.u8.wrap (s.locks.length:Int)=s.locks.length:=zcH (by omega) (by omega)
  have hb:=zlH s s.sess.length
  have hle:((sb1 s s.sess.length).length+1≤2^47)=True:=eq_true (by omega)
  repeat'(first|exact zC|refine zq (I hle (I t1 (I w2 @zao))) ?_|(apply zaa<;>intro hb)|(apply I;exact zI)|(apply I<;>intro hg))
  refine zai (τ:=Nat) (fun i=>⟨(dd::ptq 1::dq2 (.one (.own ⟨4,1,1⟩ 0 (sb2 s i).length)::zp6 (zgv (al s.locks.length (zax s.locks)::ai s.locks.length::ai i::ztQ (zgv []))))),[(1,⟨2,[obq 1 [di s.time,di s.num,di s.token, .lent s.sess.length (za9 s.sess), .lent s.locks.length (zax s.locks), .lent s.memos.length (zaO s.memos)],none,none,none,none,none,none]⟩),(22,⟨2,[]⟩),(25,⟨2,[]⟩),(28,⟨2,[]⟩),(33,⟨2,[]⟩),(34,⟨2,[]⟩),(35,⟨2,[]⟩),(4,⟨2,[none,roq 1 1 (zad (sb2 s i))]⟩),(6,⟨2,[]⟩),(47,⟨2,[]⟩),(50,⟨2,[]⟩),(53,⟨2,[]⟩),(54,⟨2,[]⟩),(55,⟨2,[]⟩),(62,⟨2,[]⟩),(8,⟨2,[]⟩),(9,⟨2,[]⟩),(74,⟨2,[]⟩),(82,⟨2,[]⟩),(85,⟨2,[]⟩),(90,⟨2,[]⟩),(91,⟨2,[]⟩),(92,⟨2,[]⟩),(103,⟨2,[]⟩),(104,⟨2,[]⟩)]⟩)
   (fun i=>i≤s.locks.length) (fun _=>()) (fun i=>s.locks.length - i) 0
   (Gh.canon [1,4] [8,9,74,82,85,90,91,92,103,104] [] (zk (I @zmI (I @List.length_append.{0} @List.length_singleton.{0}))) rfl (by rw[zmI];simp only[roq,zad,List.map_append];rfl)) (Nat.zero_le _) ?_
  intro i hi0 hF K hK
  refine zw ?_
  refine zaa (fun hlt=> ?_) (fun hge=> ?_)
  ·have hi:i<s.locks.length:=by simpa using hlt
   have hat:=zb8 hi
   have hw:=zan hi (by omega)
   obtain⟨q0,q1,q2,q3,q4,q5⟩:=ziv h (List.getElem_mem hi)
   have wc:IntKind.u8.wrap s.locks[i].holder=s.locks[i].holder:=zcH (by omega) (by omega)
   have wl:IntKind.u8.wrap (s.locks[i].line.length:Int)=s.locks[i].line.length:=zcH (by omega) (by omega)
   have m1:=zfY s.locks[i].name (by omega)
   have m2:=zdN s.locks[i].token (by omega)
   have hb:=zlI h i
   have tt:(zgr s.locks[i].name).take (1+s.locks[i].name.size)=zgr s.locks[i].name:=List.take_of_length_le (by rw[zfz];exact Nat.le_refl _)
   have hcc:CallOK Tryz.prog 66 [.f (al 5 [.sl (sb2 s i).length (zad (sb2 s i)), .sl (1+s.locks[i].name.size) (zgr s.locks[i].name), .sl 1 (zad [s.locks[i].holder]), .sl 8 (zad (zbI s.locks[i].token)), .sl 1 (zad [(s.locks[i].line.length:Int)])])] (fun x o=>x=[.one (.own 1 (zjG s i s.locks[i] 0).length (zad (zjG s i s.locks[i] 0)) false)]∧o=[]):=by
    have hc:=zep [sb2 s i,zeS s.locks[i].name,[s.locks[i].holder],zbI s.locks[i].token,[(s.locks[i].line.length:Int)]] (by simp) (fun l hl=>by
     simp only[List.mem_cons,List.not_mem_nil,or_false]at hl
     rcases hl with rfl|rfl|rfl|rfl|rfl
     ·omega
     ·rw[zci];omega
     ·simp
     ·rw[zbz];decide
     ·simp)
    rw[show [sb2 s i,zeS s.locks[i].name,[s.locks[i].holder],zbI s.locks[i].token,[(s.locks[i].line.length:Int)]].flatten=zjG s i s.locks[i] 0 from by rw[zpz];simp[lk0]]at hc
    rw[←zci,zlM]
    exact hc
   repeat'(first|exact zC|refine zq (I hat (I @zaz (I t8 (I t1 (I wc (I wl (I tt (I @zao zca)))))))) ?_|refine zx (m1) ?_|refine zx (m2) ?_|refine zx (hcc) ?_|(apply zaa<;>intro hb)|(apply I;exact zI)|(apply I<;>intro hg))
   refine zai (τ:=Nat) (fun j=>⟨(dd::ptq 1::dq2 (.one (.own ⟨4,1,1⟩ 0 (zjG s i s.locks[i] j).length)::zp6 (zgv (al s.locks.length (zax s.locks)::ai s.locks.length::ai i::ztx (asl s.locks[i].line.length (za1 s.locks[i].line)::ai s.locks[i].line.length::ai j::zgv []))))),[(1,⟨2,[obq 1 [di s.time,di s.num,di s.token, .lent s.sess.length (za9 s.sess), .lent s.locks.length (zax s.locks), .lent s.memos.length (zaO s.memos)],none,none,none,none,none,none]⟩),(22,⟨2,[]⟩),(25,⟨2,[]⟩),(28,⟨2,[]⟩),(33,⟨2,[]⟩),(34,⟨2,[]⟩),(35,⟨2,[]⟩),(4,⟨2,[none,roq 1 1 (zad (zjG s i s.locks[i] j))]⟩),(6,⟨2,[]⟩),(47,⟨2,[]⟩),(50,⟨2,[]⟩),(53,⟨2,[]⟩),(54,⟨2,[]⟩),(55,⟨2,[]⟩),(62,⟨2,[]⟩),(8,⟨2,[]⟩),(9,⟨2,[]⟩),(74,⟨2,[]⟩),(82,⟨2,[]⟩),(85,⟨2,[]⟩),(90,⟨2,[]⟩),(91,⟨2,[]⟩),(92,⟨2,[]⟩),(103,⟨2,[]⟩),(104,⟨2,[]⟩)]⟩)
    (fun j=>j≤s.locks[i].line.length) (fun _=>()) (fun j=>s.locks[i].line.length - j) 0
    (Gh.canon [1,4] [] [] zK rfl rfl) (Nat.zero_le _) ?_
   intro j hj0 hF2 K2 hK2
   refine zw ?_
   refine zaa (fun hlt2=> ?_) (fun hge2=> ?_)
   ·have hj:j<s.locks[i].line.length:=by simpa using hlt2
    have hat2:=zcP hj
    have hw2:=zan hj (by omega)
    have q6:=q5 _ (List.getElem_mem hj)
    have wd:IntKind.u8.wrap s.locks[i].line[j]=s.locks[i].line[j]:=zcH (by omega) (by omega)
    have hlj:(zjG s i s.locks[i] j).length≤300:=by
     rw[zjG,List.length_append,List.length_append,zpy,List.length_take];omega
    have hle3:((zjG s i s.locks[i] j).length+1≤2^47)=True:=eq_true (by omega)
    have hsl3:(zjG s i s.locks[i] (j+1)).length=(zjG s i s.locks[i] j).length+1:=by rw[zkL hj,List.length_append,List.length_singleton]
    repeat'(first|exact zC|refine zq (I hat2 (I @zbf (I t1 (I wd (I hle3 (I @zao zca)))))) ?_|(apply zaa<;>intro hb)|(apply I;exact zI)|(apply I<;>intro hg))
    exact hK2 _ (j+1) (Gh.canon [1,4] [] [] (zk (I hw2 hsl3)) rfl (by rw[zkL hj];simp only[roq,zad,List.map_append];rfl)) hj rfl (by omega)
   ·have hj:j=s.locks[i].line.length:=by
     have:¬(j:Int)<s.locks[i].line.length:=by simpa using hge2
     omega
    subst hj
    repeat'(first|exact zC|refine zq0 ?_|(apply zaa<;>intro hb)|(apply I;exact zI)|(apply I<;>intro hg))
    exact hK _ (i+1) (Gh.canon [1,4] [] [] (by simp only[hw,zmK hi,ddE,ziK,znR,ziL,zlb,zlc,zld,List.set_cons_zero,List.set_cons_succ,and_true,true_and,Int.natCast_zero,Int.cast_ofNat_Int,D.v.injEq,Value.int.injEq];try(repeat'(first|rfl|omega|with_reducible apply And.intro))) rfl (by rw[zmK hi];rfl)) hi rfl (by omega)
  ·have hi:i=s.locks.length:=by
    have:¬(i:Int)<s.locks.length:=by simpa using hge
    omega
   subst hi
   clear hK
   have hml:=zju h
   have w3:IntKind.u8.wrap (s.memos.length:Int)=s.memos.length:=zcH (by omega) (by omega)
   have hb2:=zlI h s.locks.length
   have hle2:((sb2 s s.locks.length).length+1≤2^47)=True:=eq_true (by omega)
   repeat'(first|exact zC|refine zq (I hle2 (I t1 (I w3 @zao))) ?_|(apply zaa<;>intro hb)|(apply I;exact zI)|(apply I<;>intro hg))
   refine zai (τ:=Nat) (fun i=>⟨(dq4 (.one (.own ⟨4,1,1⟩ 0 (sb3 s i).length)::zty (zgv (zgv (al s.memos.length (zaO s.memos)::ai s.memos.length::ai i::ztO []))))),[(1,⟨2,[]⟩),(22,⟨2,[]⟩),(25,⟨2,[]⟩),(28,⟨2,[]⟩),(33,⟨2,[]⟩),(34,⟨2,[]⟩),(35,⟨2,[]⟩),(4,⟨2,[none,roq 1 1 (zad (sb3 s i))]⟩),(6,⟨2,[]⟩),(47,⟨2,[]⟩),(50,⟨2,[]⟩),(53,⟨2,[]⟩),(54,⟨2,[]⟩),(55,⟨2,[]⟩),(62,⟨2,[]⟩),(8,⟨2,[]⟩),(9,⟨2,[]⟩),(74,⟨2,[]⟩),(82,⟨2,[]⟩),(85,⟨2,[]⟩),(90,⟨2,[]⟩),(91,⟨2,[]⟩),(92,⟨2,[]⟩),(103,⟨2,[]⟩),(104,⟨2,[]⟩),(112,⟨2,[]⟩),(14,⟨2,[]⟩),(15,⟨2,[]⟩),(129,⟨2,[]⟩),(134,⟨2,[]⟩)]⟩)
    (fun i=>i≤s.memos.length) (fun _=>()) (fun i=>s.memos.length - i) 0
    (Gh.canon [4] [14,15,129,134] [] (zk (I @zmJ (I @List.length_append.{0} @List.length_singleton.{0}))) rfl (by rw[zmJ];simp only[roq,zad,List.map_append];rfl)) (Nat.zero_le _) ?_
   intro i hi0 hF K hK
   refine zw ?_
   refine zaa (fun hlt=> ?_) (fun hge=> ?_)
   ·have hi:i<s.memos.length:=by simpa using hlt
    have hat:=zde hi
    have hw:=zan hi (by omega)
    have hma:=h.mok _ (List.getElem_mem hi)
    have hpa:=zgm s.memos[i] hma
    have hb3:=zlJ h i
    have hal:=zfd hma
    have hle3:((sb3 s i).length+(zbJ s.memos[i]).length≤2^47)=True:=eq_true (by omega)
    have hsl3:(sb3 s (i+1)).length=(sb3 s i).length+(zbJ s.memos[i]).length:=by rw[zmG hi,List.length_append]
    repeat'(first|exact zC|refine zq (I hat (I @zaF (I @zao (I hle3 (I @zaV zca))))) ?_|refine zx (hpa) ?_|(apply zaa<;>intro hb)|(apply I;exact zI)|(apply I<;>intro hg))
    exact hK _ (i+1) (Gh.canon [4] [] [] (zk (I hw hsl3)) rfl (by rw[zmG hi];simp only[roq,zad,List.map_append];rfl)) hi rfl (by omega)
   ·have hi:i=s.memos.length:=by
     have:¬(i:Int)<s.memos.length:=by simpa using hge
     omega
    subst hi
    repeat'(first|exact zC|refine zq0 ?_|(apply zaa<;>intro hb)|(apply I;exact zI)|(apply I<;>intro hg))
    rfl
theorem zdn (l:List Int) (hl:l.length<2^62) (p:Int→Bool) (f:Nat) (caps:List C) (hc:lendAs [] (caps.map AV.one)=some (caps.map fun c=> .f (.one c))) (hc2:lendC.lendCs [] caps=some caps)
  (hp:∀x∈l,CallOK Tryz.prog f (.f (zuH x)::caps.map fun c=> .f (.one c)) (fun r o=>r=[rb (p x)]∧o=[])):
  CallOK Tryz.prog 115 [.f (al l.length (za1 l)), .f (.one (.clos f caps))] (fun r o=>r=[rb (l.any p)]∧o=[]):=by
 refine zh Tryz.func115 Tryz.results115 Tryz.ntmps115 Tryz.call115 ?_
 simp only[Tryz.f115,Option.getD]
 refine zw1 hc2 ?_
 refine za4 (zpj l hl p f caps hc hp) ?_
 refine zw ?_
 rw[zfB]
abbrev zuV:Req→AV:=fun x=> .agg (x.enc.map C.d)
theorem zpK (l:List Req) (hl:l.length<2^62) (p:Req→Bool) (f:Nat) (caps:List C) (hc:lendAs [] (caps.map AV.one)=some (caps.map fun c=> .f (.one c)))
  (hp:∀x∈l,CallOK Tryz.prog f (.f (zuV x)::caps.map fun c=> .f (.one c)) (fun r o=>r=[rb (p x)]∧o=[])):
  CallOK Tryz.prog 118 [.f (al l.length (zbA l)), .f (.one (.clos f caps))] (fun r o=>r=[ri (zeN p l 0)]∧o=[]):=by
 refine zh Tryz.func118 Tryz.results118 Tryz.ntmps118 Tryz.call118 ?_
 simp only[Tryz.f118,Option.getD]
 refine zw ?_
 refine zai (τ:=Nat) (fun i=>⟨(al l.length (zbA l):: .one (.clos f caps)::dq2 (ai 0::dd::al l.length (zbA l)::ai l.length::ai i::zlf [])),[]⟩) (fun i=>i≤l.length) (fun i=>zeN p (l.drop i) i) (fun i=>l.length - i) 0 (Gh.fgt ?_) (Nat.zero_le _) ?_
 ·simp only[ddE,za2,za3,zbC,Int.natCast_zero]
 intro i hi0 hF K hK
 refine zw ?_
 rw[zcn]
 refine⟨trivial,fun hlt=> ?_,fun hge=> ?_⟩
 ·have hi:i<l.length:=by simpa using hlt
  rw[List.drop_eq_getElem_cons hi,zeN]at hF
  have hat:=ze3 hi
  simp only[List.cons_append,List.nil_append]at hat
  refine zw1 (I @zaP (I hat hc)) ?_
  refine⟨⟨Int.natCast_nonneg i,by omega⟩, ?_⟩
  refine za4 (hp _ (List.getElem_mem hi)) ?_
  refine zw ?_
  refine zaa (fun hb=> ?_) (fun hb=> ?_)
  ·rw[if_pos hb]at hF
   refine zw ?_
   rw[hF];rfl
  ·rw[if_neg (by simp[hb])]at hF
   refine zw ?_
   refine hK _ (i+1) (Gh.fgt ?_) hi (by simp only[List.drop_eq_getElem_cons hi,zeN];rw[if_neg (by simp[hb])];rfl) (by omega)
   have hw:IntKind.i64.wrap ((i:Int)+1)=((i+1:Nat):Int):=by rw[wrap64 (by omega) (by omega)];rfl
   simp only[hw,ddE,za2,za3,zbC]
 ·have hi:i=l.length:=by
   have:¬(i:Int)<l.length:=by simpa using hge
   omega
  rw[hi,List.drop_length,zeN]at hF
  refine zw ?_
  rw[hF];rfl
theorem zkV (l:List Req) (hl:l.length<2^62) (p:Req→Bool) (f:Nat) (caps:List C) (hc:lendAs [] (caps.map AV.one)=some (caps.map fun c=> .f (.one c))) (hc2:lendC.lendCs [] caps=some caps)
  (hp:∀x∈l,CallOK Tryz.prog f (.f (zuV x)::caps.map fun c=> .f (.one c)) (fun r o=>r=[rb (p x)]∧o=[])):
  CallOK Tryz.prog 77 [.f (al l.length (zbA l)), .f (.one (.clos f caps))] (fun r o=>r=[rb (l.any p)]∧o=[]):=by
 refine zh Tryz.func77 Tryz.results77 Tryz.ntmps77 Tryz.call77 ?_
 simp only[Tryz.f77,Option.getD]
 refine zw1 hc2 ?_
 refine za4 (zpK l hl p f caps hc hp) ?_
 refine zw ?_
 rw[zfB]
def bad (n:Int):Bool:=decide (n<0)||decide (n>zdU)
def inH (n:Int):Bool:=decide (n≥0)&&decide (n≤zdU)
theorem ziE (n:Int):CallOK Tryz.prog 117 [.f (ai n)] (fun r o=>r=[rb (bad n)]∧o=[]):=by
 refine zh Tryz.func117 Tryz.results117 Tryz.ntmps117 Tryz.call117 ?_
 simp only[Tryz.f117,Option.getD]
 repeat'(first|exact zC|refine za0 ?_|(apply zaa<;>intro hb)|(apply I;exact zI)|(apply I<;>intro hg))
 rfl
theorem ziF (l:List Int) (hl:l.length<2^62):CallOK Tryz.prog 76 [.f (al l.length (za1 l))] (fun r o=>r=[rb (!l.any bad)]∧o=[]):=by
 refine zh Tryz.func76 Tryz.results76 Tryz.ntmps76 Tryz.call76 ?_
 simp only[Tryz.f76,Option.getD]
 repeat'(first|exact zC|refine za0 ?_|((first|((try refine zbi ?_);apply za4)|(apply zbM;intro _));(solve|exact(zdn l hl bad _ [] rfl rfl (fun x _=>ziE x))|(refine CallOK.le (zdn l hl bad _ [] rfl rfl (fun x _=>ziE x)) ?_;exact zM)|fail);try case hn=>rfl)|(apply zaa<;>intro hb)|(apply I;exact zI)|(apply I<;>intro hg))
def Tip.may (t:Tip):Bool:=inH t.view&&inH t.slot
theorem zjE (r q:Req):CallOK Tryz.prog 78 [.f (.agg (r.enc.map C.d)), .f (.one (.elt q.enc))] (fun x o=>x=[rb (r.client==q.client)]∧o=[]):=by
 refine zh Tryz.func78 Tryz.results78 Tryz.ntmps78 Tryz.call78 ?_
 simp only[Tryz.f78,Option.getD]
 repeat'(first|exact zC|refine za0 ?_|(apply zaa<;>intro hb)|(apply I;exact zI)|(apply I<;>intro hg))
theorem zpL {l:List Req} {i:Nat} (hi:i≤l.length):(zbA l).take (i*5)=zbA (l.take i):=by
 have h:zbA l=zbA (l.take i)++zbA (l.drop i):=by rw[←List.flatMap_append,List.take_append_drop]
 rw[h,List.take_left' (by rw[zaP,List.length_take];congr 1;omega)]
def zdd (l:List Req):Nat→List Req→Bool
 |_,[]=>true
 |i,r::rest=>if(!Req.may r||(l.take i).any (fun o=>o.client==r.client))=true then false else zdd l (i+1) rest
def Batch.may (b:Batch):Bool:=
 if b.fill=true then b.view==0&&b.time==0&&(b.tip.view==0&&b.tip.slot==0)&&(b.reqs.length:Int)==0
 else if(!![b.view,b.time,b.tip.view,b.tip.slot].any bad||decide ((b.reqs.length:Int)>3))=true then false else zdd b.reqs 0 b.reqs
theorem zcq (b:Batch) (hok:b.ok):CallOK Tryz.prog 38 [.f (.agg b.lent)] (fun r o=>r=[rb (Batch.may b)]∧o=[]):=by
 have hlen:b.reqs.length<2^42:=hok.2.2.2.2.1
 have hreq:∀r∈b.reqs,r.ok:=hok.2.2.2.2.2
 refine zh Tryz.func38 Tryz.results38 Tryz.ntmps38 Tryz.call38 ?_
 simp only[Tryz.f38,Option.getD]
 repeat'(first|exact zC|refine za0 ?_|((first|((try refine zbi ?_);apply za4)|(apply zbM;intro _));(solve|exact(ziF [_,_,_,_] (by simp))|(refine CallOK.le (ziF [_,_,_,_] (by simp)) ?_;exact zM)|fail);try case hn=>rfl)|(apply zaa<;>intro hb)|(apply I;exact zI)|(apply I<;>intro hg))
 ·rw[Batch.may,if_pos (by assumption)]
 ·rw[Batch.may,if_neg (by simp_all),if_pos (by assumption)]
 rename_i hf
 have hm:Batch.may b=zdd b.reqs 0 b.reqs:=by rw[Batch.may,if_neg (by simp[hf]),if_neg (by rw[hb];simp)]
 rw[hm]
 refine zw ?_
 refine zai (τ:=Nat×Nat) (fun t=>⟨(dd:: .one (.ptr ⟨1,0,0⟩ 0)::ab false::dq4 (zgv (al b.reqs.length (zbA b.reqs)::ai b.reqs.length::ai t.1::zu4 []))),
  [(1,{next:=7,l:=[obq 0 [db b.fill,di b.view,di b.tip.view,di b.tip.slot,di b.time, .lent b.reqs.length (zbA b.reqs)],none,none,none,none,none,none]}),(37,⟨1,[]⟩),(4,⟨t.2,[]⟩)]⟩)
  (fun t=>t.1≤b.reqs.length) (fun t=>zdd b.reqs t.1 (b.reqs.drop t.1)) (fun t=>b.reqs.length - t.1) (0,0) (Gh.keep [1] [4] ?_ rfl) (Nat.zero_le _) ?_
 ·simp only[ddE,za2,za3,zbC,Int.natCast_zero]
 intro⟨i,e⟩ hi0 hF K hK
 simp only at hi0 hF hK⊢
 refine zw ?_
 rw[zcn]
 refine⟨trivial,fun hlt=> ?_,fun hge=> ?_⟩
 ·have hi:i<b.reqs.length:=by simpa using hlt
  rw[List.drop_eq_getElem_cons hi,zdd]at hF
  have hat:=ze3 hi
  simp only[List.cons_append,List.nil_append]at hat
  have hro:=hreq _ (List.getElem_mem hi)
  have hlt':(b.reqs.take i).length=i:=by rw[List.length_take];omega
  have hc:=zkV (b.reqs.take i) (by omega) (fun o=>o.client==b.reqs[i].client) 78 [.elt b.reqs[i].enc] rfl rfl (fun x _=>zjE x _)
  rw[hlt',←zpL hi0]at hc
  repeat'(first|exact zC|refine za (I @zaP (I hat (I @Int.toNat_zero (I @Int.toNat_natCast (I @Nat.sub_zero @Int.natCast_zero))))) ?_|((first|((try refine zbi ?_);apply za4)|(apply zbM;intro _));(solve|exact(zel _ hro)|(refine CallOK.le (zel _ hro) ?_;exact zM)|fail);try case hn=>rfl)|refine zx (hc) ?_|(apply zaa<;>intro hb)|(apply I;exact zI)|(apply I<;>intro hg))
  ·rw[if_pos hb,List.drop_zero]at hF
   rw[←hF]
  ·rw[if_neg (by rw[hb];simp)]at hF
   refine hK _ (i+1,_) (Gh.keep [1] [] ?_ rfl) hi (by simp only[List.drop_eq_getElem_cons hi,zdd];rw[if_neg (by rw[hb];simp)]) (by simp only;omega)
   simp only[zan hi (by omega),ddE,za2,za3,zbC]
 ·have hi:i=b.reqs.length:=by
   have:¬(i:Int)<b.reqs.length:=by simpa using hge
   omega
  rw[hi,List.drop_length,List.drop_zero,zdd]at hF
  refine zw ?_
  rw[←hF]
def znC (k n:Int) (s:ByteArray):List Int:=[k]++(zbI n++zeS s)
def zkT (r:Req):List Int:=[r.client]++(zbI r.seq++znC r.kind r.session r.name)
theorem zdF {k n:Int} {s:ByteArray} (h:znk k n s=true):1≤k∧k≤6∧0≤n∧n≤2305843009213693952∧s.size≤12:=by
 unfold znk at h
 split at h
 ·cases h
 ·rename_i h1
  split at h
  ·cases h
  ·rename_i h2
   have hk:1≤k∧k≤6:=by simp at h1;omega
   have hn:0≤n∧n≤2305843009213693952:=by
    split at h
    ·simp at h;omega
    ·simp at h;omega
   refine⟨hk.1,hk.2,hn.1,hn.2, ?_⟩
   cases hc:(k==3||k==4||k==5)
   ·simp only[hc,Bool.false_and,Bool.false_or,Bool.not_false,Bool.true_and]at h2
    have:s.toList=(⟨#[]⟩:ByteArray).toList:=by simpa only[Bool.not_eq_true,Bool.not_eq_false',beq_iff_eq]using h2
    have:s.size=0:=by
     have:=congrArg List.length this
     rw[zdf,zdf,Array.length_toList]at this
     exact this
    omega
   ·simp only[hc,Bool.true_and,Bool.not_true,Bool.false_and,Bool.or_false]at h2
    have hn:nameP s=true:=by simpa using h2
    unfold nameP at hn
    simp only[Bool.and_eq_true,decide_eq_true_eq]at hn
    omega
theorem zmQ (k n:Int) (s:ByteArray):(znC k n s).length=10+s.size:=by simp[znC,zbz,zci];omega
theorem t8 (v:Int):(zad (zbI v)).take 8=zad (zbI v):=List.take_of_length_le (by rw[zdi];decide)
theorem zpJ (k n:Int) (s:ByteArray) (h:znk k n s=true):CallOK Tryz.prog 65 [.f (.agg [di k,di n,dS s])] (fun r o=>r=[.one (.own 1 (znC k n s).length (zad (znC k n s)) false),ri 0]∧o=[]):=by
 refine zh Tryz.func65 Tryz.results65 Tryz.ntmps65 Tryz.call65 ?_
 simp only[Tryz.f65,Option.getD]
 obtain⟨f1,f2,f3,f4,f5⟩:=zdF h
 have hmy:=zmC k n s (by omega)
 rw[h]at hmy
 have hpb:=zin k (by omega)
 have hpn:=zcz n (by omega)
 have hpt:=zfY s (by omega)
 rw[zlM]at hpt
 have hcc:CallOK Tryz.prog 66 [.f (al 3 [.sl 1 (zad [k]), .sl 8 (zad (zbI n)), .sl (1+s.size) (zad (zeS s))])] (fun r o=>r=[.one (.own 1 (znC k n s).length (zad (znC k n s)) false)]∧o=[]):=by
  have hc:=zep [[k],zbI n,zeS s] (by simp) (fun l hl=>by
   simp only[List.mem_cons,List.not_mem_nil,or_false]at hl
   rcases hl with rfl|rfl|rfl
   ·simp
   ·rw[zbz];decide
   ·rw[zci];omega)
  rw[show [[k],zbI n,zeS s].flatten=znC k n s from by simp[znC]]at hc
  rw[←zci s]
  exact hc
 have t2:(zad (zeS s)).take (1+s.size)=zad (zeS s):=by rw[←zci s];exact zao
 repeat'(first|exact zC|refine zq (I t8 t2) ?_|refine zx (hmy) ?_|refine zx (hpb) ?_|refine zx (hpn) ?_|refine zx (hpt) ?_|refine zx (hcc) ?_|(apply zaa<;>intro hb)|(apply I;exact zI)|(apply I<;>intro hg))
theorem zes {r:Req} (h:Req.may r=true):(0≤r.client∧r.client<8)∧(1≤r.seq∧r.seq≤2305843009213693952)∧znk r.kind r.session r.name=true∧r.ok:=by
 unfold Req.may at h
 have hH:zdU=2305843009213693952:=rfl
 simp only[Bool.and_eq_true,decide_eq_true_eq]at h
 have f:=zdF h.2
 refine⟨⟨h.1.1.1.1,h.1.1.1.2⟩,⟨h.1.1.2,by omega⟩,h.2, ?_⟩
 unfold Req.ok i64
 omega
theorem zjD {r:Req} (h:Req.may r=true):(zkT r).length=19+r.name.size∧r.name.size≤12:=by
 have f:=zdF (zes h).2.2.1
 refine⟨?_,f.2.2.2.2⟩
 simp[zkT,zbz,zmQ];omega
theorem zkU (r:Req) (h:Req.may r=true):CallOK Tryz.prog 22 [.f (.agg (r.enc.map C.d))] (fun x o=>x=[.one (.own 1 (zkT r).length (zad (zkT r)) false),ri 0]∧o=[]):=by
 refine zh Tryz.func22 Tryz.results22 Tryz.ntmps22 Tryz.call22 ?_
 simp only[Tryz.f22,Option.getD]
 obtain⟨e1,e2,e3,e4⟩:=zes h
 have hmy:=zel r e4
 rw[h]at hmy
 have f:=zdF e3
 have hpb:=zin r.client (by omega)
 have hpn:=zcz r.seq (by omega)
 have hpt:=zpJ r.kind r.session r.name e3
 have hcc:CallOK Tryz.prog 66 [.f (al 3 [.sl 1 (zad [r.client]), .sl 8 (zad (zbI r.seq)), .sl (znC r.kind r.session r.name).length (zad (znC r.kind r.session r.name))])] (fun x o=>x=[.one (.own 1 (zkT r).length (zad (zkT r)) false)]∧o=[]):=by
  have hc:=zep [[r.client],zbI r.seq,znC r.kind r.session r.name] (by simp) (fun l hl=>by
   simp only[List.mem_cons,List.not_mem_nil,or_false]at hl
   rcases hl with rfl|rfl|rfl
   ·simp
   ·rw[zbz];decide
   ·rw[zmQ];omega)
  rw[show [[r.client],zbI r.seq,znC r.kind r.session r.name].flatten=zkT r from by simp[zkT]]at hc
  exact hc
 repeat'(first|exact zC|refine zq (I t8 @zao) ?_|refine zx (hmy) ?_|refine zx (hpb) ?_|refine zx (hpn) ?_|refine zx (hpt) ?_|refine zx (hcc) ?_|(apply zaa<;>intro hb)|(apply I;exact zI)|(apply I<;>intro hg))
def zaH (l:List Int):List Int:=l.flatMap zbI
theorem zbG {l:List Int}:(zaH l).length=8*l.length:=by
 induction l with
 |nil=>rfl
 |cons x l ih=>simp only[zaH,List.flatMap_cons,List.length_append,List.length_cons,zbz]at ih⊢;omega
theorem zga {l:List Int} {i:Nat} (hi:i<l.length):zaH (l.take (i+1))=zaH (l.take i)++zbI l[i]:=zb6 _ hi
theorem zet (l:List Int) (hl:l.length≤10) (h:∀v∈l,0≤v∧v<4611686018427387904):CallOK Tryz.prog 24 [.f (al l.length (za1 l))] (fun r o=>r=[.one (.own 1 (zaH l).length (zad (zaH l)) false)]∧o=[]):=by
 refine zh Tryz.func24 Tryz.results24 Tryz.ntmps24 Tryz.call24 ?_
 simp only[Tryz.f24,Option.getD]
 repeat'(first|exact zC|refine zq0 ?_|(apply zaa<;>intro hb)|(apply I;exact zI)|(apply I<;>intro hg))
 refine zai (τ:=Nat) (fun i=>⟨(dq3 (.one (.own ⟨3,1,1⟩ 0 (zaH (l.take i)).length)::dq4 (al l.length (za1 l)::ai l.length::ai i::zp1 []))),[(3,⟨2,[none,roq 1 1 (zad (zaH (l.take i)))]⟩),(6,⟨2,[]⟩),(16,⟨2,[]⟩),(21,⟨2,[]⟩)]⟩)
  (fun i=>i≤l.length) (fun _=>()) (fun i=>l.length - i) 0
  ((Gh.nil (i:=3) (s:=3) (sz:=1) rfl).trans (Gh.canon [3] [6,16,21] [] zK rfl rfl)) (Nat.zero_le _) ?_
 intro i hi0 hF K hK
 refine zw ?_
 refine zaa (fun hlt=> ?_) (fun hge=> ?_)
 ·have hi:i<l.length:=by simpa using hlt
  have hat:=zcP hi
  have hw:=zan hi (by omega)
  have hpn:=zcz l[i] (h _ (List.getElem_mem hi))
  have hle0:(zaH (l.take i)).length≤80:=by rw[zbG,List.length_take];omega
  have hle:((zaH (l.take i)).length+8≤2^47)=True:=eq_true (by omega)
  have hsl:(zaH (l.take (i+1))).length=(zaH (l.take i)).length+8:=by rw[zga hi,List.length_append,zbz]
  repeat'(first|exact zC|refine zq (I hat (I @zbf (I hle (I t8 (I @zao (I @List.length_map.{0,0} (I @zbz zca))))))) ?_|refine zx (hpn) ?_|(apply zaa<;>intro hb)|(apply I;exact zI)|(apply I<;>intro hg))
  exact hK _ (i+1) (Gh.canon [3] [] [] (zk (I hw hsl)) rfl (by rw[zga hi];simp only[roq,zad,List.map_append];rfl)) hi rfl (by omega)
 ·have hi:i=l.length:=by
   have:¬(i:Int)<l.length:=by simpa using hge
   omega
  subst hi
  rw[List.take_length]
  repeat'(first|exact zC|refine zq0 ?_|(apply zaa<;>intro hb)|(apply I;exact zI)|(apply I<;>intro hg))
theorem zlP {l:List Req}:∀{i:Nat},i≤l.length→(zdd l i (l.drop i)=true↔∀j (hj:j<l.length),i≤j→Req.may l[j]=true∧∀k (hk:k<j),l[k].client≠l[j].client):=by
 intro i hi
 obtain⟨n,hn⟩:∃n,n=l.length - i:=⟨_,rfl⟩
 induction n generalizing i with
 |zero=>
  have:i=l.length:=by omega
  rw[this,List.drop_length,zdd]
  simp only[true_iff]
  intro j hj hij;omega
 |succ n ih=>
  have hil:i<l.length:=by omega
  rw[List.drop_eq_getElem_cons hil,zdd]
  have ih:=ih (i:=i+1) (by omega) (by omega)
  have hany:(l.take i).any (fun o=>o.client==l[i].client)=false↔∀k (hk:k<i),l[k].client≠l[i].client:=by
   rw[List.any_eq_false]
   constructor
   ·intro h k hk
    have:=h (l[k]) (by rw[List.mem_take_iff_getElem];exact⟨k,by omega,rfl⟩)
    simpa using this
   ·intro h o ho
    obtain⟨k,hk,rfl⟩:=List.mem_take_iff_getElem.1 ho
    simpa using h k (by omega)
  constructor
  ·intro h
   split at h
   ·cases h
   ·rename_i hc
    have hc:(!Req.may l[i]||(l.take i).any (fun o=>o.client==l[i].client))=false:=by simpa using hc
    rw[Bool.or_eq_false_iff]at hc
    intro j hj hij
    by_cases hji:j=i
    ·subst hji
     exact⟨by simpa using hc.1,hany.1 hc.2⟩
    ·exact ih.1 h j hj (by omega)
  ·intro h
   obtain⟨h1,h2⟩:=h i hil (Nat.le_refl _)
   rw[if_neg (by rw[h1,hany.2 h2];simp)]
   exact ih.2 fun j hj hij=>h j hj (by omega)
theorem zlQ {l:List Req} (h:zdd l 0 l=true):(∀r∈l,Req.may r=true)∧l.Pairwise fun a b=>a.client≠b.client:=by
 have h:=(zlP (l:=l) (i:=0) (Nat.zero_le _)).1 (by rw[List.drop_zero];exact h)
 refine⟨fun r hr=> ?_,List.pairwise_iff_getElem.2 fun i j hi hj hij=>(h j hj (Nat.zero_le _)).2 i hij⟩
 obtain⟨j,hj,rfl⟩:=List.getElem_of_mem hr
 exact(h j hj (Nat.zero_le _)).1
theorem zhC {b:Batch} (h:Batch.may b=true) (hf:b.fill=false):(0≤b.view∧b.view≤zdU)∧(0≤b.time∧b.time≤zdU)∧(0≤b.tip.view∧b.tip.view≤zdU)∧(0≤b.tip.slot∧b.tip.slot≤zdU)∧b.reqs.length≤3∧
  (∀r∈b.reqs,Req.may r=true)∧b.reqs.Pairwise fun a b=>a.client≠b.client:=by
 unfold Batch.may at h
 rw[if_neg (by rw[hf];simp)]at h
 split at h
 ·cases h
 ·rename_i hc
  have hc:(!![b.view,b.time,b.tip.view,b.tip.slot].any bad||decide ((b.reqs.length:Int)>3))=false:=by simpa using hc
  rw[Bool.or_eq_false_iff]at hc
  obtain⟨c1,c2⟩:=hc
  have hb:∀n:Int,bad n=false→0≤n∧n≤zdU:=fun n hn=>by unfold bad at hn;simp at hn;omega
  have c1:[b.view,b.time,b.tip.view,b.tip.slot].any bad=false:=by simpa using c1
  simp only[List.any_cons,List.any_nil,Bool.or_false,Bool.or_eq_false_iff]at c1
  obtain⟨q1,q2,q3,q4⟩:=c1
  obtain⟨g1,g2⟩:=zlQ h
  exact⟨hb _ q1,hb _ q2,hb _ q3,hb _ q4,by simp at c2;omega,g1,g2⟩
abbrev zkR (b:Batch):List Int:=[b.view,b.tip.view,b.tip.slot,b.time]
def bp0 (b:Batch) (i:Nat):List Int:=[0]++zaH ((zkR b).take i)
def bp1 (b:Batch) (i:Nat):List Int:=(bp0 b 4++[(b.reqs.length:Int)])++(b.reqs.take i).flatMap zkT
def zfO (b:Batch):List Int:=if b.fill=true then [1]else bp1 b b.reqs.length
theorem zlO (b:Batch) {i:Nat} (hi:i≤4):(bp0 b i).length=1+8*i:=by
 rw[bp0,List.length_append,zbG,List.length_take];simp;omega
theorem zrn (b:Batch) {i:Nat} (hi:i<(zkR b).length):bp0 b (i+1)=bp0 b i++zbI (zkR b)[i]:=by
 rw[bp0,zga hi,bp0,List.append_assoc]
theorem zmN {b:Batch} {i:Nat} (hi:i<b.reqs.length):bp1 b (i+1)=bp1 b i++zkT b.reqs[i]:=by
 rw[bp1,zb6 _ hi,bp1,←List.append_assoc]
theorem zmO {b:Batch}:bp1 b 0=bp0 b 4++[(b.reqs.length:Int)]:=by simp[bp1]
theorem zpI {b:Batch} (h:∀r∈b.reqs,Req.may r=true) (i:Nat):(bp1 b i).length≤34+i*31:=by
 have:=zcV zkT (l:=b.reqs.take i) (k:=31) fun r hr=>by
  have:=zjD (h r (List.mem_of_mem_take hr));omega
 have h2:(b.reqs.take i).length*31≤i*31:=Nat.mul_le_mul_right _ (by rw[List.length_take];omega)
 rw[bp1,List.length_append,List.length_append,zlO b (by omega)]
 simp only[List.length_singleton]
 omega
theorem zfP {b:Batch} (h:Batch.may b=true):b.reqs.length≤3∧∀r∈b.reqs,Req.may r=true:=by
 cases hf:b.fill
 ·have f:=zhC h hf
  exact⟨f.2.2.2.2.1,f.2.2.2.2.2.1⟩
 ·unfold Batch.may at h
  rw[if_pos hf]at h
  simp only[Bool.and_eq_true,beq_iff_eq]at h
  have:b.reqs=[]:=List.length_eq_zero_iff.1 (by omega)
  rw[this]
  exact⟨by simp,by simp⟩
theorem zkS {b:Batch} (h:Batch.may b=true):∀v∈zkR b,0≤v∧v≤2305843009213693952:=by
 have hH:zdU=2305843009213693952:=rfl
 intro v hv
 cases hf:b.fill
 ·obtain⟨a1,a2,a3,a4,_⟩:=zhC h hf
  simp only[zkR,List.mem_cons,List.not_mem_nil,or_false]at hv
  rcases hv with rfl|rfl|rfl|rfl<;>omega
 ·unfold Batch.may at h
  rw[if_pos hf]at h
  simp only[Bool.and_eq_true,beq_iff_eq]at h
  simp only[zkR,List.mem_cons,List.not_mem_nil,or_false]at hv
  rcases hv with rfl|rfl|rfl|rfl<;>omega
theorem zmP {b:Batch} (h:Batch.may b=true):b.ok:=by
 obtain⟨h1,h2⟩:=zfP h
 have hn:=zkS h
 have n1:=hn b.view (by simp)
 have n2:=hn b.tip.view (by simp)
 have n3:=hn b.tip.slot (by simp)
 have n4:=hn b.time (by simp)
 unfold Batch.ok i64
 refine⟨by omega,by omega,by omega,by omega,by omega,fun r hr=>(zes (h2 r hr)).2.2.2⟩
set_option maxHeartbeats 1000000 in
theorem zhB (b:Batch) (h:Batch.may b=true):CallOK Tryz.prog 26 [.f (.agg b.lent)] (fun x o=>x=[.one (.own 1 (zfO b).length (zad (zfO b)) false),ri 0]∧o=[]):=by
 refine zh Tryz.func26 Tryz.results26 Tryz.ntmps26 Tryz.call26 ?_
 simp only[Tryz.f26,Option.getD]
 have hmy:=zcq b (zmP h)
 rw[h]at hmy
 obtain⟨h1,h2⟩:=zfP h
 have hn:=zkS h
 cases hf:b.fill
 ·rw[zfO,if_neg (by rw[hf];simp)]
  rw[show b.lent=[db false,di b.view,di b.tip.view,di b.tip.slot,di b.time, .lent b.reqs.length (zbA b.reqs)] from by rw[←hf]]at hmy
  have hagg:∀(Z:List Nat) (r:Rs) (xs ys:List AV),fgc Z r (AV.agg [di b.view,di b.tip.view,di b.tip.slot,di b.time]::xs) (AV.agg [di b.view,di b.tip.view,di b.tip.slot,di b.time]::ys)=fgc Z r xs ys:=fun Z r xs ys=>zgu rfl rfl
  repeat'(first|exact zC|refine zq hf ?_|refine zx (hmy) ?_|(apply zaa<;>intro hb)|(apply I;exact zI)|(apply I<;>intro hg))
  refine zai (τ:=Nat) (fun i=>⟨(dd::ptq 1::dq2 (.one (.own ⟨4,1,1⟩ 0 (bp0 b i).length)::zu6 (.agg [di b.view,di b.tip.view,di b.tip.slot,di b.time]::ai i::zso []))),[(1,⟨2,[obq 1 [db false,di b.view,di b.tip.view,di b.tip.slot,di b.time, .lent b.reqs.length (zbA b.reqs)],none,none,none,none,none,none]⟩),(19,⟨2,[]⟩),(4,⟨2,[none,roq 1 1 (zad (bp0 b i))]⟩),(7,⟨2,[]⟩),(36,⟨2,[]⟩),(41,⟨2,[]⟩)]⟩)
   (fun i=>i≤4) (fun _=>()) (fun i=>4 - i) 0
   (Gh.canon [1,4] [7,36,41] [] (zk hagg) rfl rfl) (Nat.zero_le _) ?_
  intro i hi0 hF K hK
  refine zw ?_
  refine zaa (fun hlt=> ?_) (fun hge=> ?_)
  ·have hi:i<4:=by simp at hlt;omega
   have hw:IntKind.i64.wrap ((i:Int)+1)=((i+1:Nat):Int):=zan hi (by omega)
   have hpn:=zcz ((zkR b)[i]'hi) (by have:=hn _ (List.getElem_mem (l:=zkR b) hi);omega)
   have hle:((bp0 b i).length+8≤2^47)=True:=eq_true (by rw[zlO b hi0];omega)
   have hsu:=zrn b (i:=i) hi
   have hsl:(bp0 b (i+1)).length=(bp0 b i).length+8:=by rw[hsu,List.length_append,zbz]
   obtain⟨j,hj⟩:∃j,i+1=j:=⟨_,rfl⟩
   rw[hj]at hw hsu hsl
   rcases(show i=0∨i=1∨i=2∨i=3 by omega)with rfl|rfl|rfl|rfl
   all_goals
    repeat'(first|exact zC|refine zq (I hle (I t8 (I @zao (I @List.length_map.{0,0} (I @zbz zca))))) ?_|refine zx (hpn) ?_|(apply zaa<;>intro hb)|(apply I;exact zI)|(apply I<;>intro hg))
    exact hK _ j (Gh.canon [1,4] [] [] (zk (I hw (I hsl hagg))) rfl (by rw[hsu];simp only[roq,zad,List.map_append];rfl)) (by omega) rfl (by omega)
  ·have hi:i=4:=by
    have:¬(i:Int)<4:=by simpa using hge
    omega
   subst hi
   have w3:IntKind.u8.wrap (b.reqs.length:Int)=b.reqs.length:=zcH (by omega) (by omega)
   have hle:((bp0 b 4).length+1≤2^47)=True:=eq_true (by rw[zlO b (Nat.le_refl _)];omega)
   have hz:(bp1 b 0).length=(bp0 b 4).length+1:=by rw[zmO,List.length_append,List.length_singleton]
   repeat'(first|exact zC|refine zq (I w3 (I hle (I @zao @List.length_map.{0,0}))) ?_|(apply zaa<;>intro hb)|(apply I;exact zI)|(apply I<;>intro hg))
   refine zai (τ:=Nat) (fun i=>⟨(dq4 (.one (.own ⟨4,1,1⟩ 0 (bp1 b i).length)::dq6 (zgv (al b.reqs.length (zbA b.reqs)::ai b.reqs.length::ai i::zp1 [])))),[(1,⟨2,[]⟩),(19,⟨2,[]⟩),(4,⟨2,[none,roq 1 1 (zad (bp1 b i))]⟩),(7,⟨2,[]⟩),(36,⟨2,[]⟩),(41,⟨2,[]⟩),(48,⟨2,[]⟩),(10,⟨2,[]⟩),(11,⟨2,[]⟩),(59,⟨2,[]⟩),(64,⟨2,[]⟩)]⟩)
    (fun i=>i≤b.reqs.length) (fun _=>()) (fun i=>b.reqs.length - i) 0
    (Gh.canon [4] [10,11,59,64] [] (zk hz) rfl (by rw[zmO];simp only[roq,zad,List.map_append];rfl)) (Nat.zero_le _) ?_
   intro i hi0 hF K hK
   refine zw ?_
   refine zaa (fun hlt=> ?_) (fun hge=> ?_)
   ·have hi:i<b.reqs.length:=by simpa using hlt
    have hat:=ze3 hi
    have hw:=zan hi (by omega)
    have hm:=h2 _ (List.getElem_mem hi)
    have hpt:=zkU b.reqs[i] hm
    have hl0:=zpI h2 i
    have hl1:=zjD hm
    have hle:((bp1 b i).length+(zkT b.reqs[i]).length≤2^47)=True:=eq_true (by omega)
    have hsl:(bp1 b (i+1)).length=(bp1 b i).length+(zkT b.reqs[i]).length:=by rw[zmN hi,List.length_append]
    repeat'(first|exact zC|refine zq (I hat (I @zaP (I hle (I @zao (I @List.length_map.{0,0} zca))))) ?_|refine zx (hpt) ?_|(apply zaa<;>intro hb)|(apply I;exact zI)|(apply I<;>intro hg))
    exact hK _ (i+1) (Gh.canon [4] [] [] (zk (I hw hsl)) rfl (by rw[zmN hi];simp only[roq,zad,List.map_append];rfl)) hi rfl (by omega)
   ·have hi:i=b.reqs.length:=by
     have:¬(i:Int)<b.reqs.length:=by simpa using hge
     omega
    subst hi
    repeat'(first|exact zC|refine zq0 ?_|(apply zaa<;>intro hb)|(apply I;exact zI)|(apply I<;>intro hg))
 ·rw[zfO,if_pos hf]
  rw[show b.lent=[db true,di b.view,di b.tip.view,di b.tip.slot,di b.time, .lent b.reqs.length (zbA b.reqs)] from by rw[←hf]]at hmy
  repeat'(first|exact zC|refine zq hf ?_|refine zx (hmy) ?_|(apply zaa<;>intro hb)|(apply I;exact zI)|(apply I<;>intro hg))
theorem zk2 (n:Int):CallOK Tryz.prog 116 [.f (ai n)] (fun r o=>r=[rb (bad n)]∧o=[]):=by
 refine zh Tryz.func116 Tryz.results116 Tryz.ntmps116 Tryz.call116 ?_
 simp only[Tryz.f116,Option.getD]
 repeat'(first|exact zC|refine za0 ?_|(apply zaa<;>intro hb)|(apply I;exact zI)|(apply I<;>intro hg))
 rfl
theorem zgI (l:List Int) (hl:l.length<2^62):CallOK Tryz.prog 75 [.f (al l.length (za1 l))] (fun r o=>r=[rb (!l.any bad)]∧o=[]):=by
 refine zh Tryz.func75 Tryz.results75 Tryz.ntmps75 Tryz.call75 ?_
 simp only[Tryz.f75,Option.getD]
 repeat'(first|exact zC|refine za0 ?_|((first|((try refine zbi ?_);apply za4)|(apply zbM;intro _));(solve|exact(zdn l hl bad _ [] rfl rfl (fun x _=>zk2 x))|(refine CallOK.le (zdn l hl bad _ [] rfl rfl (fun x _=>zk2 x)) ?_;exact zM)|fail);try case hn=>rfl)|(apply zaa<;>intro hb)|(apply I;exact zI)|(apply I<;>intro hg))
theorem b1 {q a b:Bool} (hg:(q==false)=false):(q||a||b)=true:=by cases q<;>simp_all
theorem b2 {q a b c:Bool} (h:(q|| !!a||b)=c):(q||a||b)=c:=by simpa using h
theorem b3 {q b:Bool} (hg:(q==false)=false) (hb:(q||b)=false):False:=by cases q<;>simp_all
theorem zyB {x y:Int}:[x,y].any bad=(bad x||bad y):=by simp
def zcw (done:Int):Int→List Vote→Bool
 |_,[]=>true
 |last,v::rest=>if(decide (v.slot≤last)||decide (v.slot - done>9)||(bad v.slot||bad v.ballot)|| !Batch.may v.batch)=true then false else zcw done v.slot rest
def Prom.may (p:Prom):Bool:=
 if(decide (p.src<0)||decide (p.src≥7)||[p.done,p.tip.view,p.tip.slot,p.time].any bad||decide ((p.votes.length:Int)>9))=true then false else zcw p.done p.done p.votes
theorem znL (p:Prom) (hok:p.ok):CallOK Tryz.prog 37 [.f (.agg p.lent)] (fun r o=>r=[rb (Prom.may p)]∧o=[]):=by
 have hlen:p.votes.length<2^42:=hok.2.2.2.2.2.1
 have hv:∀v∈p.votes,v.ok:=hok.2.2.2.2.2.2
 refine zh Tryz.func37 Tryz.results37 Tryz.ntmps37 Tryz.call37 ?_
 simp only[Tryz.f37,Option.getD]
 repeat'(first|exact zC|refine za0 ?_|((first|((try refine zbi ?_);apply za4)|(apply zbM;intro _));(solve|exact(zgI [_,_,_,_] (by simp))|(refine CallOK.le (zgI [_,_,_,_] (by simp)) ?_;exact zM)|fail);try case hn=>rfl)|(apply zaa<;>intro hb)|(apply I;exact zI)|(apply I<;>intro hg))
 ·rw[Prom.may,if_pos (b2 hb)]
 rotate_left
 ·rw[Prom.may,if_pos (b1 hg)]
 ·exact(b3 hg hb).elim
 have hc:¬(decide (p.src<0)||decide (p.src≥7)||[p.done,p.tip.view,p.tip.slot,p.time].any bad||decide ((p.votes.length:Int)>9))=true:=by
  rw[b2 hb];simp
 have hdone:0≤p.done:=by
  simp[bad]at hc
  omega
 have hm:Prom.may p=zcw p.done p.done p.votes:=by rw[Prom.may,if_neg hc]
 rw[hm]
 refine zw ?_
 refine zai (τ:=Nat×Int×Nat×Nat) (fun t=>⟨(dd:: .one (.ptr ⟨1,0,0⟩ 0)::ab false::ai t.2.1::zu9 (al p.votes.length (za7 p.votes)::ai p.votes.length::ai t.1::zu8 [])),
  [(1,{next:=7,l:=[obq 0 [di p.src,di p.done,di p.tip.view,di p.tip.slot,di p.time, .lent p.votes.length (za7 p.votes)],none,none,none,none,none,none]}),(25,⟨1,[]⟩),(5,⟨t.2.2.1,[]⟩),(61,⟨t.2.2.2,[]⟩)]⟩)
  (fun t=>t.1≤p.votes.length∧p.done≤t.2.1) (fun t=>zcw p.done t.2.1 (p.votes.drop t.1)) (fun t=>p.votes.length - t.1) (0,p.done,0,0) (Gh.keep [1] [5,61] ?_ rfl) ⟨Nat.zero_le _,Int.le_refl _⟩ ?_
 ·simp only[ddE,za2,za3,zbC,Int.natCast_zero]
 intro⟨i,last,e5,e61⟩ ⟨hi0,hl0⟩ hF K hK
 simp only at hi0 hl0 hF hK⊢
 refine zw ?_
 refine zaa (fun hlt=> ?_) (fun hge=> ?_)
 ·have hi:i<p.votes.length:=by simpa using hlt
  rw[List.drop_eq_getElem_cons hi,zcw]at hF
  have hat:=zgw hi
  simp only[List.cons_append,List.nil_append]at hat
  have hvo:=hv _ (List.getElem_mem hi)
  have hw:(decide (p.votes[i].slot≤last)||decide (IntKind.i64.wrap (p.votes[i].slot - p.done)>9))=(decide (p.votes[i].slot≤last)||decide (p.votes[i].slot - p.done>9)):=by
   by_cases h:p.votes[i].slot≤last
   ·simp[h]
   ·have:=hvo.1
    unfold i64 at this
    rw[wrap64 (by omega) (by omega)]
  repeat'(first|exact zC|refine za (I @zaR hat) ?_|((first|((try refine zbi ?_);apply za4)|(apply zbM;intro _));(solve|exact(zgI [_,_] (by simp))|(refine CallOK.le (zgI [_,_] (by simp)) ?_;exact zM)|fail);try case hn=>rfl)|((first|((try refine zbi ?_);apply za4)|(apply zbM;intro _));(solve|exact(zcq _ hvo.2.2)|(refine CallOK.le (zcq _ hvo.2.2) ?_;exact zM)|fail);try case hn=>rfl)|(apply zaa<;>intro hb)|(apply I;exact zI)|(apply I<;>intro hg))
  all_goals rw[hw]at hb hg
  ·rw[if_pos (by rw[←zyB];exact b2 hb),List.drop_zero]at hF
   rw[←hF]
  ·have hb':=b2 hb
   rw[zyB]at hb'
   rw[if_neg (by rw[hb'];simp)]at hF
   have hsl:last<p.votes[i].slot:=by
    simp only[Bool.or_eq_false_iff,decide_eq_false_iff_not]at hb'
    omega
   refine hK _ (i+1,p.votes[i].slot,_,_) (Gh.keep [1] [] ?_ rfl) ⟨hi,by simp only;omega⟩ (by simp only[List.drop_eq_getElem_cons hi,zcw];rw[if_neg (by rw[hb'];simp)]) (by simp only;omega)
   simp only[zan hi (by omega),ddE,za2,za3,zbC]
  ·rw[if_pos (b1 hg),List.drop_zero]at hF
   rw[←hF]
  ·exact(b3 hg hb).elim
 ·have hi:i=p.votes.length:=by
   have:¬(i:Int)<p.votes.length:=by simpa using hge
   omega
  rw[hi,List.drop_length,List.drop_zero,zcw]at hF
  refine zw ?_
  rw[←hF]
def lastOf (p:Prom) (i:Nat):Int:=if i=0 then p.done else(p.votes[i - 1]?.map Vote.slot).getD 0
theorem bad_false {n:Int} (h:bad n=false):0≤n∧n≤2305843009213693952:=by
 simp[bad]at h
 omega
theorem zhF {done:Int}:∀{last:Int} {l:List Vote},done≤last→zcw done last l=true→∀v∈l,done<v.slot∧v.slot≤done+9∧bad v.slot=false∧bad v.ballot=false∧Batch.may v.batch=true
 |last,[],_,_,v,hv=>by cases hv
 |last,w::l,hd,h,v,hv=>by
  rw[zcw]at h
  split at h
  ·cases h
  ·rename_i hc
   simp only[Bool.or_eq_true,Bool.not_eq_true',not_or,decide_eq_true_eq,Bool.not_eq_true,Bool.not_eq_false]at hc
   obtain⟨⟨⟨h1,h2⟩,h3,h4⟩,h5⟩:=hc
   rcases List.mem_cons.1 hv with rfl|hv
   ·exact⟨by omega,by omega,h3,h4,h5⟩
   ·exact zhF (by omega) h v hv
structure MayP (p:Prom):Prop where
 src:0≤p.src∧p.src<7
 done:0≤p.done∧p.done≤2305843009213693952
 view:0≤p.tip.view∧p.tip.view≤2305843009213693952
 slot:0≤p.tip.slot∧p.tip.slot≤2305843009213693952
 time:0≤p.time∧p.time≤2305843009213693952
 len:p.votes.length≤9
 may:zcw p.done p.done p.votes=true
 votes:∀v∈p.votes,p.done<v.slot∧v.slot≤p.done+9∧bad v.slot=false∧bad v.ballot=false∧Batch.may v.batch=true
theorem zsj {p:Prom} (h:Prom.may p=true):MayP p:=by
 unfold Prom.may at h
 split at h
 ·cases h
 ·rename_i hc
  simp only[List.any_cons,List.any_nil,Bool.or_false,Bool.or_eq_true,not_or,decide_eq_true_eq,Bool.not_eq_true]at hc
  obtain⟨⟨⟨h1,h2⟩,h3,h4,h5,h6⟩,h7⟩:=hc
  exact⟨by omega,bad_false h3,bad_false h4,bad_false h5,bad_false h6,by omega,h,zhF (Int.le_refl _) h⟩
def zvS:Batch:=⟨true,0,⟨0,0⟩,0,[]⟩
def u8 (n:Int):Prop:=0≤n∧n<256
abbrev ru (n:Int):AV:= .one (.d (.v (.int .u8 n)))
def nameOf (k:Nat):ByteArray:=
 match k with
 |0=>⟨#[97]⟩|1=>⟨#[98]⟩|2=>⟨#[99]⟩|3=>⟨#[100]⟩|4=>⟨#[107,101,121,45,49]⟩|_=>⟨#[116,104,101,45,108,97,115,116,45,111,110,101]⟩
def zvT (a b c:Int):Int×Int×ByteArray:=
 let k:Int:=1+((a.toNat % 6:Nat):Int)
 (k,if k=1 then 0 else 1+((b.toNat % 7:Nat):Int),if k=3∨k=4∨k=5 then nameOf (c.toNat % 6)else .empty)
def zyX (c q a b d:Int):Req:=⟨((c.toNat % 8:Nat):Int),1+q,(zvT a b d).1,(zvT a b d).2.1,(zvT a b d).2.2⟩
def zuZ (l:List Int) (acc:List Req):Nat→Nat→List Req
 |0,_=>acc
 |n+1,i=>if i+4<l.length∧acc.length<3 then
   let r:=zyX (l.getD i 0) (l.getD (i+1) 0) (l.getD (i+2) 0) (l.getD (i+3) 0) (l.getD (i+4) 0)
   zuZ l (if acc.any (fun o=>o.client==r.client)=true then acc else acc++[r]) n (i+5)else acc
abbrev zvU (b:Batch):RF:= .agg [.d (bD b.fill), .d (iD b.view), .d (iD b.tip.view), .d (iD b.tip.slot), .d (iD b.time), .own 5 b.reqs.length (zbA b.reqs) false]
def zu1 (l:List Int):Batch:=
 if l.length<4∨l.getD 0 0=255 then zvS
 else⟨false,(((l.getD 2 0).toNat % 8:Nat):Int),⟨(((l.getD 0 0).toNat % 4:Nat):Int),(((l.getD 1 0).toNat % 6:Nat):Int)⟩,l.getD 3 0,zuZ l [] l.length 4⟩
structure NVote where
 slot:Int
 ballot:Int
 ns:List Int
abbrev NVote.enc (v:NVote):List D:=[uD v.slot,uD v.ballot, .sl v.ns.length (zad v.ns)]
def NVote.ok (v:NVote):Prop:=u8 v.slot∧u8 v.ballot∧v.ns.length<2^60∧∀x∈v.ns,u8 x
abbrev ztv (l:List NVote):List D:=l.flatMap NVote.enc
structure NTold where
 done:Int
 view:Int
 slot:Int
 time:Int
 votes:List NVote
abbrev NTold.enc (v:NTold):List D:=[uD v.done,uD v.view,uD v.slot,uD v.time, .sl v.votes.length (ztv v.votes)]
def NTold.ok (v:NTold):Prop:=u8 v.done∧u8 v.view∧u8 v.slot∧u8 v.time∧v.votes.length<2^60∧∀x∈v.votes,x.ok
abbrev zyz (l:List NTold):List D:=l.flatMap NTold.enc
def m8 (x:Int) (m:Nat):Int:=((x.toNat % m:Nat):Int)
def zu3 (s:Nat) (v:NVote):Bool:=m8 v.slot 9+1==(s:Int)
def zsi (done:Int) (l:List NVote) (acc:List Vote):Nat→Nat→List Vote
 |0,_=>acc
 |n+1,s=>zsi done l (match l.find? (zu3 s)with|some v=>acc++[⟨done+s,m8 v.ballot 9,zu1 v.ns⟩]|none=>acc) n (s+1)
def zyY (i:Int) (t:NTold):Prom:=⟨i,m8 t.done 8,⟨m8 t.view 4,m8 t.slot 6⟩,t.time,zsi (m8 t.done 8) t.votes [] 9 1⟩
abbrev zyA (p:Prom):RF:= .agg [.d (iD p.src), .d (iD p.done), .d (iD p.tip.view), .d (iD p.tip.slot), .d (iD p.time), .own 8 p.votes.length (za7 p.votes) false]
end Go.Proofs.YtliimajkpggbhaaGreat
