import Derived.Test.YtliimajkpggbhaaGreatL9
namespace Go.Proofs.YtliimajkpggbhaaGreat
open Go.Pk Tryz
set_option maxRecDepth 100000
set_option linter.unusedSimpArgs false
set_option linter.unusedVariables false
theorem zfp (v:Int) (h:0≤v∧v<4611686018427387904):CallOK prog 69 [.f (ai v)] (fun r o=>r=[.one (.own 1 8 (zad (zbz v)) false)]∧o=[]):=by
 refine zh func69 results69 ntmps69 call69 ?_
 simp only[f69,Option.getD]
 have hp:=zdP v h
 exact zW trivial (hp)
theorem zlI:∀ls:List (List Int),(ls.map zad).flatten=zad ls.flatten
 |[]=>rfl
 |l::ls=>by simp only[List.map_cons,List.flatten_cons,zlI ls,List.map_append]
theorem zga (ls:List (List Int)) (hl:ls.length<2^10) (hs:∀l∈ls,l.length≤2^12):
  CallOK prog 66 [.f (al ls.length (ls.map fun l=> .sl l.length (zad l)))] (fun r o=>r=[.one (.own 1 ls.flatten.length (zad ls.flatten) false)]∧o=[]):=by
 have h:=zkg (ls.map zad) (by simpa using hl) (fun l h=>by
  obtain⟨x,hx,rfl⟩:=List.mem_map.1 h
  rw[List.length_map];exact hs x hx)
 rw[zlI,za8,List.length_map]at h
 have e:zvV (ls.map zad)=ls.map fun l=> .sl l.length (zad l):=by
  rw[zvV,List.map_map]
  exact List.map_congr_left fun l _=>by simp only[Function.comp,za8]
 rw[e]at h
 exact h
def zi1 (x:Sess):List Int:=x.client::(zbz x.num++zbz x.renewed)
def lk0 (k:Lk):List Int:=zdZ k.name++(k.holder::(zbz k.token++[(k.line.length:Int)]))
def zio (k:Lk):List Int:=lk0 k++k.line
def zkY (s:St):List Int:=zbz s.time++(zbz s.num++(zbz s.token++[(s.sess.length:Int)]))
def sb1 (s:St) (i:Nat):List Int:=zkY s++(s.sess.take i).flatMap zi1
def sb2 (s:St) (i:Nat):List Int:=(sb1 s s.sess.length++[(s.locks.length:Int)])++(s.locks.take i).flatMap zio
def sb3 (s:St) (i:Nat):List Int:=(sb2 s s.locks.length++[(s.memos.length:Int)])++(s.memos.take i).flatMap zbd
def zd4 (s:St):List Int:=sb3 s s.memos.length
theorem zdc {α:Type} (f:α→List Int) {l:List α} {i:Nat} (hi:i<l.length):(l.take (i+1)).flatMap f=(l.take i).flatMap f++f l[i]:=by
 rw[List.take_succ_eq_append_getElem hi,List.flatMap_append];simp
theorem zw6 {s:St} {i:Nat} (hi:i<s.sess.length):sb1 s (i+1)=sb1 s i++zi1 s.sess[i]:=by rw[sb1,zdc _ hi,sb1,List.append_assoc]
theorem zw7 {s:St} {i:Nat} (hi:i<s.locks.length):sb2 s (i+1)=sb2 s i++zio s.locks[i]:=by rw[sb2,zdc _ hi,sb2,←List.append_assoc]
theorem zqX {s:St} {i:Nat} (hi:i<s.memos.length):sb3 s (i+1)=sb3 s i++zbd s.memos[i]:=by rw[sb3,zdc _ hi,sb3,←List.append_assoc]
theorem zqY {s:St}:sb1 s 0=zkY s:=by simp[sb1]
theorem zqZ {s:St}:sb2 s 0=sb1 s s.sess.length++[(s.locks.length:Int)]:=by simp[sb2]
theorem zq1 {s:St}:sb3 s 0=sb2 s s.locks.length++[(s.memos.length:Int)]:=by simp[sb3]
theorem zef {α:Type} (f:α→List Int) {k:Nat}:∀{l:List α},(∀x∈l,(f x).length≤k)→(l.flatMap f).length≤l.length*k
 |[],_=>by simp
 |x::l,h=>by
  rw[List.flatMap_cons,List.length_append,List.length_cons,Nat.add_mul]
  have:=h x (by simp)
  have:=zef f (l:=l) fun y hy=>h y (by simp[hy])
  omega
theorem zj9 (s:St):(zkY s).length=25:=by simp[zkY,zaY]
theorem zoi (x:Sess):(zi1 x).length=17:=by simp[zi1,zaY]
theorem zpu (k:Lk):(lk0 k).length=11+k.name.size:=by simp[lk0,zaY,zcj];omega
theorem zpv (s:St) (i:Nat):(sb1 s i).length≤25+i*17:=by
 rw[sb1,List.length_append,zj9]
 have:=zef zi1 (l:=s.sess.take i) (k:=17) fun x _=>by rw[zoi];exact Nat.le_refl _
 have h2:(s.sess.take i).length≤i:=by rw[List.length_take];omega
 have:=Nat.mul_le_mul_right 17 h2
 omega
theorem zgC {s:St} (h:RightS s) {k:Lk} (hk:k∈s.locks):(zio k).length≤26∧k.name.size≤12∧(0≤k.holder∧k.holder≤255)∧(0≤k.token∧k.token<4611686018427387904)∧k.line.length≤3∧∀c∈k.line,0≤c∧c≤255:=by
 have hH:zbE=2305843009213693952:=rfl
 obtain⟨a,_,b,_⟩:=h.lok k hk
 obtain⟨h1,h2,h3⟩:=zc3.1 a
 obtain⟨l1,l2,_⟩:=zb1.1 b
 have hs:=ziu h1
 refine⟨?_,hs,by omega,by omega,l1,fun c hc=> ?_⟩
 ·rw[zio,List.length_append,zpu];omega
 ·have:=l2 c hc
  simp only[isClient,Bool.and_eq_true,decide_eq_true_eq]at this
  omega
def znl (s:St) (i:Nat) (k:Lk) (j:Nat):List Int:=(sb2 s i++lk0 k)++k.line.take j
theorem zue {s:St} {i:Nat} {k:Lk}:znl s i k 0=sb2 s i++lk0 k:=by simp[znl]
theorem zoj {s:St} {i:Nat} {k:Lk} {j:Nat} (hj:j<k.line.length):znl s i k (j+1)=znl s i k j++[k.line[j]]:=by
 rw[znl,List.take_succ_eq_append_getElem hj,←List.append_assoc,znl]
theorem zq2 {s:St} {i:Nat} (hi:i<s.locks.length):znl s i s.locks[i] s.locks[i].line.length=sb2 s (i+1):=by
 rw[znl,List.take_length,zw7 hi,zio,List.append_assoc]
theorem zpw {s:St} (h:RightS s) (i:Nat):(sb2 s i).length≤115+i*26:=by
 rw[sb2,List.length_append,List.length_append]
 have:=zpv s s.sess.length
 have:=h.sl
 have:=zef zio (l:=s.locks.take i) (k:=26) fun x hx=>(zgC h (List.mem_of_mem_take hx)).1
 have h2:(s.locks.take i).length≤i:=by rw[List.length_take];omega
 have:=Nat.mul_le_mul_right 26 h2
 simp only[List.length_singleton]
 omega
theorem zhQ {s:St} (h:RightS s):s.memos.length≤8:=by
 have:=ziv (a:=0) (b:=8) (zq7.1 h.ms) (fun x hx=>by
  obtain⟨m,hm,rfl⟩:=List.mem_map.1 hx
  exact(zdr (h.mok m hm)).1)
 rw[List.length_map]at this
 omega
theorem zpx {s:St} (h:RightS s) (i:Nat):(sb3 s i).length≤250+i*104:=by
 rw[sb3,List.length_append,List.length_append]
 have:=zpw h s.locks.length
 have:=h.ll
 have:=zef zbd (l:=s.memos.take i) (k:=104) fun x hx=>zg9 (h.mok x (List.mem_of_mem_take hx))
 have h2:(s.memos.take i).length≤i:=by rw[List.length_take];omega
 have:=Nat.mul_le_mul_right 104 h2
 simp only[List.length_singleton]
 omega
theorem zau {l:List Int}:(zad l).take l.length=zad l:=List.take_of_length_le (by rw[za8];exact Nat.le_refl _)
set_option maxHeartbeats 4000000 in
theorem zrY (s:St) (h:RightS s):CallOK prog 68 [.f (.agg s.lent)] (fun r o=>r=[.one (.own 1 (zd4 s).length (zad (zd4 s)) false),ri 0]∧o=[]):=by
 refine zh func68 results68 ntmps68 call68 ?_
 simp only[f68,Option.getD]
 have hri:=zmK s (zcr h)
 rw[zdE.2 h]at hri
 have hH:zbE=2305843009213693952:=rfl
 have ht:=h.time
 have hn:=h.num
 have hk:=h.token
 have hsl:=h.sl
 have hll:=h.ll
 have n1:=zfp s.time (by omega)
 have n2:=zfp s.num (by omega)
 have n3:=zfp s.token (by omega)
 have w1:IntKind.u8.wrap (s.sess.length:Int)=s.sess.length:=zd0 (by omega) (by omega)
 have hcc:CallOK prog 66 [.f (al 4 [.sl 8 (zad (zbz s.time)), .sl 8 (zad (zbz s.num)), .sl 8 (zad (zbz s.token)), .sl 1 (zad [(s.sess.length:Int)])])] (fun x o=>x=[.one (.own 1 25 (zad (zkY s)) false)]∧o=[]):=by
  have hc:=zga [zbz s.time,zbz s.num,zbz s.token,[(s.sess.length:Int)]] (by simp) (fun l hl=>by
   simp only[List.mem_cons,List.not_mem_nil,or_false]at hl
   rcases hl with rfl|rfl|rfl|rfl<;>simp[zaY])
  rw[show [zbz s.time,zbz s.num,zbz s.token,[(s.sess.length:Int)]].flatten=zkY s from by simp[zkY],zj9]at hc
  exact hc
 have t8:∀v:Int,(zad (zbz v)).take 8=zad (zbz v):=fun v=>List.take_of_length_le (by rw[zeM];decide)
 have t1:∀x:Int,toDs (sub 0 1 1 [C.d (uD x)])=some [uD x]:=fun _=>rfl
 refine zL (I t8 (I t1 w1)) (I (hri) (I (n1) (I (n2) (I (n3) (hcc))))) ?_
 refine zaf (τ:=Nat) (fun i=>⟨(dd::ptq 1::dq2 (.one (.own ⟨4,1,1⟩ 0 (sb1 s i).length)::zx7 (al s.sess.length (za1 s.sess)::ai s.sess.length::ai i::zy1 (zec (zec []))))),[(1,⟨2,[obq 1 [di s.time,di s.num,di s.token, .lent s.sess.length (za1 s.sess), .lent s.locks.length (zaj s.locks), .lent s.memos.length (zaM s.memos)],none,none,none,none,none,none]⟩),(22,⟨2,[]⟩),(25,⟨2,[]⟩),(28,⟨2,[]⟩),(33,⟨2,[]⟩),(34,⟨2,[]⟩),(35,⟨2,[]⟩),(4,⟨2,[none,roq 1 1 (zad (sb1 s i))]⟩),(6,⟨2,[]⟩),(47,⟨2,[]⟩),(50,⟨2,[]⟩),(53,⟨2,[]⟩),(54,⟨2,[]⟩),(55,⟨2,[]⟩)]⟩)
  (fun i=>i≤s.sess.length) (fun _=>()) (fun i=>s.sess.length - i) 0
  (Gh.canon [1,4] [6,47,50,53,54,55] [] (zk (I @zqY @zj9)) rfl (by rw[zqY];rfl)) (Nat.zero_le _) ?_
 intro i hi0 hF K hK
 refine zw ?_
 refine zaa (fun hlt=> ?_) (fun hge=> ?_)
 ·have hi:i<s.sess.length:=by simpa using hlt
  have hat:=zco hi
  have hw:=zai hi (by omega)
  obtain⟨f1,f2,f3⟩:=zcA.1 (h.sok _ (List.getElem_mem hi)).1
  simp only[isClient,Bool.and_eq_true,decide_eq_true_eq]at f1
  have wc:IntKind.u8.wrap s.sess[i].client=s.sess[i].client:=zd0 (by omega) (by omega)
  have m1:=zfp s.sess[i].num (by omega)
  have m2:=zfp s.sess[i].renewed (by omega)
  have hb:=zpv s i
  have hcc:CallOK prog 66 [.f (al 4 [.sl (sb1 s i).length (zad (sb1 s i)), .sl 1 (zad [s.sess[i].client]), .sl 8 (zad (zbz s.sess[i].num)), .sl 8 (zad (zbz s.sess[i].renewed))])] (fun x o=>x=[.one (.own 1 (sb1 s (i+1)).length (zad (sb1 s (i+1))) false)]∧o=[]):=by
   have hc:=zga [sb1 s i,[s.sess[i].client],zbz s.sess[i].num,zbz s.sess[i].renewed] (by simp) (fun l hl=>by
    simp only[List.mem_cons,List.not_mem_nil,or_false]at hl
    rcases hl with rfl|rfl|rfl|rfl
    ·omega
    ·simp
    ·rw[zaY];decide
    ·rw[zaY];decide)
   rw[show [sb1 s i,[s.sess[i].client],zbz s.sess[i].num,zbz s.sess[i].renewed].flatten=sb1 s (i+1) from by rw[zw6 hi];simp[zi1]]at hc
   exact hc
  refine zL (I hat (I @zax (I t8 (I t1 (I wc (I @zau zca)))))) (I (m1) (I (m2) (hcc))) ?_
  exact hK _ (i+1) (Gh.canon [1,4] [] [] (zk hw) rfl rfl) hi rfl (by omega)
 ·have hi:i=s.sess.length:=by
   have:¬(i:Int)<s.sess.length:=by simpa using hge
   omega
  subst hi
  clear hK
  have w2:IntKind.u8.wrap (s.locks.length:Int)=s.locks.length:=zd0 (by omega) (by omega)
  have hb:=zpv s s.sess.length
  have hle:((sb1 s s.sess.length).length+1≤2^47)=True:=eq_true (by omega)
  refine zL0 (I hle (I t1 (I w2 @zau))) ?_
  refine zaf (τ:=Nat) (fun i=>⟨(dd::ptq 1::dq2 (.one (.own ⟨4,1,1⟩ 0 (sb2 s i).length)::zs7 (zec (al s.locks.length (zaj s.locks)::ai s.locks.length::ai i::zy3 (zec []))))),[(1,⟨2,[obq 1 [di s.time,di s.num,di s.token, .lent s.sess.length (za1 s.sess), .lent s.locks.length (zaj s.locks), .lent s.memos.length (zaM s.memos)],none,none,none,none,none,none]⟩),(22,⟨2,[]⟩),(25,⟨2,[]⟩),(28,⟨2,[]⟩),(33,⟨2,[]⟩),(34,⟨2,[]⟩),(35,⟨2,[]⟩),(4,⟨2,[none,roq 1 1 (zad (sb2 s i))]⟩),(6,⟨2,[]⟩),(47,⟨2,[]⟩),(50,⟨2,[]⟩),(53,⟨2,[]⟩),(54,⟨2,[]⟩),(55,⟨2,[]⟩),(62,⟨2,[]⟩),(8,⟨2,[]⟩),(9,⟨2,[]⟩),(74,⟨2,[]⟩),(82,⟨2,[]⟩),(85,⟨2,[]⟩),(90,⟨2,[]⟩),(91,⟨2,[]⟩),(92,⟨2,[]⟩),(103,⟨2,[]⟩),(104,⟨2,[]⟩)]⟩)
   (fun i=>i≤s.locks.length) (fun _=>()) (fun i=>s.locks.length - i) 0
   (Gh.canon [1,4] [8,9,74,82,85,90,91,92,103,104] [] (zk (I @zqZ (I @List.length_append.{0} @List.length_singleton.{0}))) rfl (by rw[zqZ];simp only[roq,zad,List.map_append];rfl)) (Nat.zero_le _) ?_
  intro i hi0 hF K hK
  refine zw ?_
  refine zaa (fun hlt=> ?_) (fun hge=> ?_)
  ·have hi:i<s.locks.length:=by simpa using hlt
   have hat:=zbn hi
   have hw:=zai hi (by omega)
   obtain⟨q0,q1,q2,q3,q4,q5⟩:=zgC h (List.getElem_mem hi)
   have wc:IntKind.u8.wrap s.locks[i].holder=s.locks[i].holder:=zd0 (by omega) (by omega)
   have wl:IntKind.u8.wrap (s.locks[i].line.length:Int)=s.locks[i].line.length:=zd0 (by omega) (by omega)
   have m1:=zit s.locks[i].name (by omega)
   have m2:=zfp s.locks[i].token (by omega)
   have hb:=zpw h i
   have tt:(zi2 s.locks[i].name).take (1+s.locks[i].name.size)=zi2 s.locks[i].name:=List.take_of_length_le (by rw[zhT];exact Nat.le_refl _)
   have hcc:CallOK prog 66 [.f (al 5 [.sl (sb2 s i).length (zad (sb2 s i)), .sl (1+s.locks[i].name.size) (zi2 s.locks[i].name), .sl 1 (zad [s.locks[i].holder]), .sl 8 (zad (zbz s.locks[i].token)), .sl 1 (zad [(s.locks[i].line.length:Int)])])] (fun x o=>x=[.one (.own 1 (znl s i s.locks[i] 0).length (zad (znl s i s.locks[i] 0)) false)]∧o=[]):=by
    have hc:=zga [sb2 s i,zdZ s.locks[i].name,[s.locks[i].holder],zbz s.locks[i].token,[(s.locks[i].line.length:Int)]] (by simp) (fun l hl=>by
     simp only[List.mem_cons,List.not_mem_nil,or_false]at hl
     rcases hl with rfl|rfl|rfl|rfl|rfl
     ·omega
     ·rw[zcj];omega
     ·simp
     ·rw[zaY];decide
     ·simp)
    rw[show [sb2 s i,zdZ s.locks[i].name,[s.locks[i].holder],zbz s.locks[i].token,[(s.locks[i].line.length:Int)]].flatten=znl s i s.locks[i] 0 from by rw[zue];simp[lk0]]at hc
    rw[←zcj,zpz]
    exact hc
   refine zL (I hat (I @zah (I t8 (I t1 (I wc (I wl (I tt (I @zau zca)))))))) (I (m1) (I (m2) (hcc))) ?_
   refine zaf (τ:=Nat) (fun j=>⟨(dd::ptq 1::dq2 (.one (.own ⟨4,1,1⟩ 0 (znl s i s.locks[i] j).length)::zs7 (zec (al s.locks.length (zaj s.locks)::ai s.locks.length::ai i::zx6 (asl s.locks[i].line.length (zaF s.locks[i].line)::ai s.locks[i].line.length::ai j::zec []))))),[(1,⟨2,[obq 1 [di s.time,di s.num,di s.token, .lent s.sess.length (za1 s.sess), .lent s.locks.length (zaj s.locks), .lent s.memos.length (zaM s.memos)],none,none,none,none,none,none]⟩),(22,⟨2,[]⟩),(25,⟨2,[]⟩),(28,⟨2,[]⟩),(33,⟨2,[]⟩),(34,⟨2,[]⟩),(35,⟨2,[]⟩),(4,⟨2,[none,roq 1 1 (zad (znl s i s.locks[i] j))]⟩),(6,⟨2,[]⟩),(47,⟨2,[]⟩),(50,⟨2,[]⟩),(53,⟨2,[]⟩),(54,⟨2,[]⟩),(55,⟨2,[]⟩),(62,⟨2,[]⟩),(8,⟨2,[]⟩),(9,⟨2,[]⟩),(74,⟨2,[]⟩),(82,⟨2,[]⟩),(85,⟨2,[]⟩),(90,⟨2,[]⟩),(91,⟨2,[]⟩),(92,⟨2,[]⟩),(103,⟨2,[]⟩),(104,⟨2,[]⟩)]⟩)
    (fun j=>j≤s.locks[i].line.length) (fun _=>()) (fun j=>s.locks[i].line.length - j) 0
    (Gh.canon [1,4] [] [] zK rfl rfl) (Nat.zero_le _) ?_
   intro j hj0 hF2 K2 hK2
   refine zw ?_
   refine zaa (fun hlt2=> ?_) (fun hge2=> ?_)
   ·have hj:j<s.locks[i].line.length:=by simpa using hlt2
    have hat2:=zcI hj
    have hw2:=zai hj (by omega)
    have q6:=q5 _ (List.getElem_mem hj)
    have wd:IntKind.u8.wrap s.locks[i].line[j]=s.locks[i].line[j]:=zd0 (by omega) (by omega)
    have hlj:(znl s i s.locks[i] j).length≤300:=by
     rw[znl,List.length_append,List.length_append,zpu,List.length_take];omega
    have hle3:((znl s i s.locks[i] j).length+1≤2^47)=True:=eq_true (by omega)
    have hsl3:(znl s i s.locks[i] (j+1)).length=(znl s i s.locks[i] j).length+1:=by rw[zoj hj,List.length_append,List.length_singleton]
    refine zL0 (I hat2 (I @zaD (I t1 (I wd (I hle3 (I @zau zca)))))) ?_
    exact hK2 _ (j+1) (Gh.canon [1,4] [] [] (zk (I hw2 hsl3)) rfl (by rw[zoj hj];simp only[roq,zad,List.map_append];rfl)) hj rfl (by omega)
   ·have hj:j=s.locks[i].line.length:=by
     have:¬(j:Int)<s.locks[i].line.length:=by simpa using hge2
     omega
    subst hj
    refine zL0 trivial ?_
    exact hK _ (i+1) (Gh.canon [1,4] [] [] (by simp only[hw,zq2 hi,ddE,zhs,znx,zht,zjF,zjG,zjH,List.set_cons_zero,List.set_cons_succ,and_true,true_and,Int.natCast_zero,Int.cast_ofNat_Int,D.v.injEq,Value.int.injEq];try(repeat'(first|rfl|omega|with_reducible apply And.intro))) rfl (by rw[zq2 hi];rfl)) hi rfl (by omega)
  ·have hi:i=s.locks.length:=by
    have:¬(i:Int)<s.locks.length:=by simpa using hge
    omega
   subst hi
   clear hK
   have hml:=zhQ h
   have w3:IntKind.u8.wrap (s.memos.length:Int)=s.memos.length:=zd0 (by omega) (by omega)
   have hb2:=zpw h s.locks.length
   have hle2:((sb2 s s.locks.length).length+1≤2^47)=True:=eq_true (by omega)
   refine zL0 (I hle2 (I t1 (I w3 @zau))) ?_
   refine zaf (τ:=Nat) (fun i=>⟨(dq4 (.one (.own ⟨4,1,1⟩ 0 (sb3 s i).length)::zy4 (zec (zec (al s.memos.length (zaM s.memos)::ai s.memos.length::ai i::zAr []))))),[(1,⟨2,[]⟩),(22,⟨2,[]⟩),(25,⟨2,[]⟩),(28,⟨2,[]⟩),(33,⟨2,[]⟩),(34,⟨2,[]⟩),(35,⟨2,[]⟩),(4,⟨2,[none,roq 1 1 (zad (sb3 s i))]⟩),(6,⟨2,[]⟩),(47,⟨2,[]⟩),(50,⟨2,[]⟩),(53,⟨2,[]⟩),(54,⟨2,[]⟩),(55,⟨2,[]⟩),(62,⟨2,[]⟩),(8,⟨2,[]⟩),(9,⟨2,[]⟩),(74,⟨2,[]⟩),(82,⟨2,[]⟩),(85,⟨2,[]⟩),(90,⟨2,[]⟩),(91,⟨2,[]⟩),(92,⟨2,[]⟩),(103,⟨2,[]⟩),(104,⟨2,[]⟩),(112,⟨2,[]⟩),(14,⟨2,[]⟩),(15,⟨2,[]⟩),(129,⟨2,[]⟩),(134,⟨2,[]⟩)]⟩)
    (fun i=>i≤s.memos.length) (fun _=>()) (fun i=>s.memos.length - i) 0
    (Gh.canon [4] [14,15,129,134] [] (zk (I @zq1 (I @List.length_append.{0} @List.length_singleton.{0}))) rfl (by rw[zq1];simp only[roq,zad,List.map_append];rfl)) (Nat.zero_le _) ?_
   intro i hi0 hF K hK
   refine zw ?_
   refine zaa (fun hlt=> ?_) (fun hge=> ?_)
   ·have hi:i<s.memos.length:=by simpa using hlt
    have hat:=zdI hi
    have hw:=zai hi (by omega)
    have hma:=h.mok _ (List.getElem_mem hi)
    have hpa:=ziP s.memos[i] hma
    have hb3:=zpx h i
    have hal:=zg9 hma
    have hle3:((sb3 s i).length+(zbd s.memos[i]).length≤2^47)=True:=eq_true (by omega)
    have hsl3:(sb3 s (i+1)).length=(sb3 s i).length+(zbd s.memos[i]).length:=by rw[zqX hi,List.length_append]
    refine zL (I hat (I @zaC (I @zau (I hle3 (I @za8 zca))))) (hpa) ?_
    exact hK _ (i+1) (Gh.canon [4] [] [] (zk (I hw hsl3)) rfl (by rw[zqX hi];simp only[roq,zad,List.map_append];rfl)) hi rfl (by omega)
   ·have hi:i=s.memos.length:=by
     have:¬(i:Int)<s.memos.length:=by simpa using hge
     omega
    subst hi
    refine zL0 trivial ?_
    rfl
theorem zeS (l:List Int) (hl:l.length<2^62) (p:Int→Bool) (f:Nat) (caps:List C) (hc:lendAs [] (caps.map AV.one)=some (caps.map fun c=> .f (.one c))) (hc2:lendC.lendCs [] caps=some caps)
  (hp:∀x∈l,CallOK prog f (.f (zBr x)::caps.map fun c=> .f (.one c)) (fun r o=>r=[rb (p x)]∧o=[])):
  CallOK prog 115 [.f (al l.length (zaF l)), .f (.one (.clos f caps))] (fun r o=>r=[rb (l.any p)]∧o=[]):=by
 refine zh func115 results115 ntmps115 call115 ?_
 simp only[f115,Option.getD]
 refine zw1 hc2 ?_
 refine zaX (zuW l hl p f caps hc hp) ?_
 refine zw ?_
 rw[zgF]
abbrev zBz:Req→AV:=fun x=> .agg (x.enc.map C.d)
theorem zvp (l:List Req) (hl:l.length<2^62) (p:Req→Bool) (f:Nat) (caps:List C) (hc:lendAs [] (caps.map AV.one)=some (caps.map fun c=> .f (.one c)))
  (hp:∀x∈l,CallOK prog f (.f (zBz x)::caps.map fun c=> .f (.one c)) (fun r o=>r=[rb (p x)]∧o=[])):
  CallOK prog 118 [.f (al l.length (zbW l)), .f (.one (.clos f caps))] (fun r o=>r=[ri (zdg p l 0)]∧o=[]):=by
 refine zh func118 results118 ntmps118 call118 ?_
 simp only[f118,Option.getD]
 refine zw ?_
 refine zaf (τ:=Nat) (fun i=>⟨(al l.length (zbW l):: .one (.clos f caps)::dq2 (ai 0::dd::al l.length (zbW l)::ai l.length::ai i::zpe [])),[]⟩) (fun i=>i≤l.length) (fun i=>zdg p (l.drop i) i) (fun i=>l.length - i) 0 (Gh.fgt ?_) (Nat.zero_le _) ?_
 ·simp only[ddE,zbw,zbx,zb4,Int.natCast_zero]
 intro i hi0 hF K hK
 refine zw ?_
 rw[zdC]
 refine⟨trivial,fun hlt=> ?_,fun hge=> ?_⟩
 ·have hi:i<l.length:=by simpa using hlt
  rw[List.drop_eq_getElem_cons hi,zdg]at hF
  have hat:=zfL hi
  simp only[List.cons_append,List.nil_append]at hat
  refine zw1 (I @zaP (I hat hc)) ?_
  refine⟨⟨Int.natCast_nonneg i,by omega⟩, ?_⟩
  refine zaX (hp _ (List.getElem_mem hi)) ?_
  refine zw ?_
  refine zaa (fun hb=> ?_) (fun hb=> ?_)
  ·rw[if_pos hb]at hF
   refine zw ?_
   rw[hF];rfl
  ·rw[if_neg (by simp[hb])]at hF
   refine zw ?_
   refine hK _ (i+1) (Gh.fgt ?_) hi (by simp only[List.drop_eq_getElem_cons hi,zdg];rw[if_neg (by simp[hb])];rfl) (by omega)
   have hw:IntKind.i64.wrap ((i:Int)+1)=((i+1:Nat):Int):=by rw[wrap64 (by omega) (by omega)];rfl
   simp only[hw,ddE,zbw,zbx,zb4]
 ·have hi:i=l.length:=by
   have:¬(i:Int)<l.length:=by simpa using hge
   omega
  rw[hi,List.drop_length,zdg]at hF
  refine zw ?_
  rw[hF];rfl
theorem zoQ (l:List Req) (hl:l.length<2^62) (p:Req→Bool) (f:Nat) (caps:List C) (hc:lendAs [] (caps.map AV.one)=some (caps.map fun c=> .f (.one c))) (hc2:lendC.lendCs [] caps=some caps)
  (hp:∀x∈l,CallOK prog f (.f (zBz x)::caps.map fun c=> .f (.one c)) (fun r o=>r=[rb (p x)]∧o=[])):
  CallOK prog 77 [.f (al l.length (zbW l)), .f (.one (.clos f caps))] (fun r o=>r=[rb (l.any p)]∧o=[]):=by
 refine zh func77 results77 ntmps77 call77 ?_
 simp only[f77,Option.getD]
 refine zw1 hc2 ?_
 refine zaX (zvp l hl p f caps hc hp) ?_
 refine zw ?_
 rw[zgF]
def bad (n:Int):Bool:=decide (n<0)||decide (n>zbE)
def inH (n:Int):Bool:=decide (n≥0)&&decide (n≤zbE)
theorem zl2 (n:Int):CallOK prog 117 [.f (ai n)] (fun r o=>r=[rb (bad n)]∧o=[]):=by
 refine zh func117 results117 ntmps117 call117 ?_
 simp only[f117,Option.getD]
 refine zCb trivial ?_
 rfl
theorem zl3 (l:List Int) (hl:l.length<2^62):CallOK prog 76 [.f (al l.length (zaF l))] (fun r o=>r=[rb (!l.any bad)]∧o=[]):=by
 refine zh func76 results76 ntmps76 call76 ?_
 simp only[f76,Option.getD]
 repeat'(first|exact zC|refine za0 ?_|((first|((try refine zaV ?_);apply zaX)|(apply zba;intro _));(solve|exact(zeS l hl bad _ [] rfl rfl (fun x _=>zl2 x))|(refine CallOK.le (zeS l hl bad _ [] rfl rfl (fun x _=>zl2 x)) ?_;exact zM)|fail);try case hn=>rfl)|(apply zaa<;>intro hb)|(apply I;exact zI)|(apply I<;>intro hg))
def Tip.may (t:Tip):Bool:=inH t.view&&inH t.slot
theorem zna (r q:Req):CallOK prog 78 [.f (.agg (r.enc.map C.d)), .f (.one (.elt q.enc))] (fun x o=>x=[rb (r.client==q.client)]∧o=[]):=by
 refine zh func78 results78 ntmps78 call78 ?_
 simp only[f78,Option.getD]
 exact zBR trivial
theorem zvq {l:List Req} {i:Nat} (hi:i≤l.length):(zbW l).take (i*5)=zbW (l.take i):=by
 have h:zbW l=zbW (l.take i)++zbW (l.drop i):=by rw[←List.flatMap_append,List.take_append_drop]
 rw[h,List.take_left' (by rw[zaP,List.length_take];congr 1;omega)]
def zdG (l:List Req):Nat→List Req→Bool
 |_,[]=>true
 |i,r::rest=>if(!Req.may r||(l.take i).any (fun o=>o.client==r.client))=true then false else zdG l (i+1) rest
def Batch.may (b:Batch):Bool:=
 if b.fill=true then b.view==0&&b.time==0&&(b.tip.view==0&&b.tip.slot==0)&&(b.reqs.length:Int)==0
 else if(!![b.view,b.time,b.tip.view,b.tip.slot].any bad||decide ((b.reqs.length:Int)>3))=true then false else zdG b.reqs 0 b.reqs
theorem zdH (b:Batch) (hok:b.ok):CallOK prog 38 [.f (.agg b.lent)] (fun r o=>r=[rb (Batch.may b)]∧o=[]):=by
 have hlen:b.reqs.length<2^42:=hok.2.2.2.2.1
 have hreq:∀r∈b.reqs,r.ok:=hok.2.2.2.2.2
 refine zh func38 results38 ntmps38 call38 ?_
 simp only[f38,Option.getD]
 repeat'(first|exact zC|refine za0 ?_|((first|((try refine zaV ?_);apply zaX)|(apply zba;intro _));(solve|exact(zl3 [_,_,_,_] (by simp))|(refine CallOK.le (zl3 [_,_,_,_] (by simp)) ?_;exact zM)|fail);try case hn=>rfl)|(apply zaa<;>intro hb)|(apply I;exact zI)|(apply I<;>intro hg))
 ·rw[Batch.may,if_pos (by assumption)]
 ·rw[Batch.may,if_neg (by simp_all),if_pos (by assumption)]
 rename_i hf
 have hm:Batch.may b=zdG b.reqs 0 b.reqs:=by rw[Batch.may,if_neg (by simp[hf]),if_neg (by rw[hb];simp)]
 rw[hm]
 refine zw ?_
 refine zaf (τ:=Nat×Nat) (fun t=>⟨(dd:: .one (.ptr ⟨1,0,0⟩ 0)::ab false::dq4 (zec (al b.reqs.length (zbW b.reqs)::ai b.reqs.length::ai t.1::zBF []))),
  [(1,{next:=7,l:=[obq 0 [db b.fill,di b.view,di b.tip.view,di b.tip.slot,di b.time, .lent b.reqs.length (zbW b.reqs)],none,none,none,none,none,none]}),(37,⟨1,[]⟩),(4,⟨t.2,[]⟩)]⟩)
  (fun t=>t.1≤b.reqs.length) (fun t=>zdG b.reqs t.1 (b.reqs.drop t.1)) (fun t=>b.reqs.length - t.1) (0,0) (Gh.keep [1] [4] ?_ rfl) (Nat.zero_le _) ?_
 ·simp only[ddE,zbw,zbx,zb4,Int.natCast_zero]
 intro⟨i,e⟩ hi0 hF K hK
 simp only at hi0 hF hK⊢
 refine zw ?_
 rw[zdC]
 refine⟨trivial,fun hlt=> ?_,fun hge=> ?_⟩
 ·have hi:i<b.reqs.length:=by simpa using hlt
  rw[List.drop_eq_getElem_cons hi,zdG]at hF
  have hat:=zfL hi
  simp only[List.cons_append,List.nil_append]at hat
  have hro:=hreq _ (List.getElem_mem hi)
  have hlt':(b.reqs.take i).length=i:=by rw[List.length_take];omega
  have hc:=zoQ (b.reqs.take i) (by omega) (fun o=>o.client==b.reqs[i].client) 78 [.elt b.reqs[i].enc] rfl rfl (fun x _=>zna x _)
  rw[hlt',←zvq hi0]at hc
  repeat'(first|exact zC|refine za (I @zaP (I hat (I @Int.toNat_zero (I @Int.toNat_natCast (I @Nat.sub_zero @Int.natCast_zero))))) ?_|((first|((try refine zaV ?_);apply zaX)|(apply zba;intro _));(solve|exact(zgd _ hro)|(refine CallOK.le (zgd _ hro) ?_;exact zM)|fail);try case hn=>rfl)|refine zx (hc) ?_|(apply zaa<;>intro hb)|(apply I;exact zI)|(apply I<;>intro hg))
  ·rw[if_pos hb,List.drop_zero]at hF
   rw[←hF]
  ·rw[if_neg (by rw[hb];simp)]at hF
   refine hK _ (i+1,_) (Gh.keep [1] [] ?_ rfl) hi (by simp only[List.drop_eq_getElem_cons hi,zdG];rw[if_neg (by rw[hb];simp)]) (by simp only;omega)
   simp only[zai hi (by omega),ddE,zbw,zbx,zb4]
 ·have hi:i=b.reqs.length:=by
   have:¬(i:Int)<b.reqs.length:=by simpa using hge
   omega
  rw[hi,List.drop_length,List.drop_zero,zdG]at hF
  refine zw ?_
  rw[←hF]
def zoO (k n:Int) (s:ByteArray):List Int:=[k]++(zbz n++zdZ s)
def ziA (r:Req):List Int:=[r.client]++(zbz r.seq++zoO r.kind r.session r.name)
theorem zdF {k n:Int} {s:ByteArray} (h:zk1 k n s=true):1≤k∧k≤6∧0≤n∧n≤2305843009213693952∧s.size≤12:=by
 unfold zk1 at h
 split at h
 ·cases h
 ·rename_i h1
  split at h
  ·cases h
  ·rename_i h2
   have hk:1≤k∧k≤6:=by simp at h1;omega
   have hn:0≤n∧n≤2305843009213693952:=by
    split at h
    ·simp at h;omega
    ·simp at h;omega
   refine⟨hk.1,hk.2,hn.1,hn.2, ?_⟩
   cases hc:(k==3||k==4||k==5)
   ·simp only[hc,Bool.false_and,Bool.false_or,Bool.not_false,Bool.true_and]at h2
    have:s.toList=(⟨#[]⟩:ByteArray).toList:=by simpa only[Bool.not_eq_true,Bool.not_eq_false',beq_iff_eq]using h2
    have:s.size=0:=by
     have:=congrArg List.length this
     rw[zcE,zcE,Array.length_toList]at this
     exact this
    omega
   ·simp only[hc,Bool.true_and,Bool.not_true,Bool.false_and,Bool.or_false]at h2
    have hn:nameP s=true:=by simpa using h2
    unfold nameP at hn
    simp only[Bool.and_eq_true,decide_eq_true_eq]at hn
    omega
theorem zm8 (k n:Int) (s:ByteArray):(zoO k n s).length=10+s.size:=by simp[zoO,zaY,zcj];omega
theorem t8 (v:Int):(zad (zbz v)).take 8=zad (zbz v):=List.take_of_length_le (by rw[zeM];decide)
theorem zvo (k n:Int) (s:ByteArray) (h:zk1 k n s=true):CallOK prog 65 [.f (.agg [di k,di n,dS s])] (fun r o=>r=[.one (.own 1 (zoO k n s).length (zad (zoO k n s)) false),ri 0]∧o=[]):=by
 refine zh func65 results65 ntmps65 call65 ?_
 simp only[f65,Option.getD]
 obtain⟨f1,f2,f3,f4,f5⟩:=zdF h
 have hmy:=zrd k n s (by omega)
 rw[h]at hmy
 have hpb:=zlT k (by omega)
 have hpn:=zdP n (by omega)
 have hpt:=zit s (by omega)
 rw[zpz]at hpt
 have hcc:CallOK prog 66 [.f (al 3 [.sl 1 (zad [k]), .sl 8 (zad (zbz n)), .sl (1+s.size) (zad (zdZ s))])] (fun r o=>r=[.one (.own 1 (zoO k n s).length (zad (zoO k n s)) false)]∧o=[]):=by
  have hc:=zga [[k],zbz n,zdZ s] (by simp) (fun l hl=>by
   simp only[List.mem_cons,List.not_mem_nil,or_false]at hl
   rcases hl with rfl|rfl|rfl
   ·simp
   ·rw[zaY];decide
   ·rw[zcj];omega)
  rw[show [[k],zbz n,zdZ s].flatten=zoO k n s from by simp[zoO]]at hc
  rw[←zcj s]
  exact hc
 have t2:(zad (zdZ s)).take (1+s.size)=zad (zdZ s):=by rw[←zcj s];exact zau
 exact zW (I t8 t2) (I (hmy) (I (hpb) (I (hpn) (I (hpt) (hcc)))))
theorem zeD {r:Req} (h:Req.may r=true):(0≤r.client∧r.client<8)∧(1≤r.seq∧r.seq≤2305843009213693952)∧zk1 r.kind r.session r.name=true∧r.ok:=by
 unfold Req.may at h
 have hH:zbE=2305843009213693952:=rfl
 simp only[Bool.and_eq_true,decide_eq_true_eq]at h
 have f:=zdF h.2
 refine⟨⟨h.1.1.1.1,h.1.1.1.2⟩,⟨h.1.1.2,by omega⟩,h.2, ?_⟩
 unfold Req.ok i64
 omega
theorem zm9 {r:Req} (h:Req.may r=true):(ziA r).length=19+r.name.size∧r.name.size≤12:=by
 have f:=zdF (zeD h).2.2.1
 refine⟨?_,f.2.2.2.2⟩
 simp[ziA,zaY,zm8];omega
theorem zoP (r:Req) (h:Req.may r=true):CallOK prog 22 [.f (.agg (r.enc.map C.d))] (fun x o=>x=[.one (.own 1 (ziA r).length (zad (ziA r)) false),ri 0]∧o=[]):=by
 refine zh func22 results22 ntmps22 call22 ?_
 simp only[f22,Option.getD]
 obtain⟨e1,e2,e3,e4⟩:=zeD h
 have hmy:=zgd r e4
 rw[h]at hmy
 have f:=zdF e3
 have hpb:=zlT r.client (by omega)
 have hpn:=zdP r.seq (by omega)
 have hpt:=zvo r.kind r.session r.name e3
 have hcc:CallOK prog 66 [.f (al 3 [.sl 1 (zad [r.client]), .sl 8 (zad (zbz r.seq)), .sl (zoO r.kind r.session r.name).length (zad (zoO r.kind r.session r.name))])] (fun x o=>x=[.one (.own 1 (ziA r).length (zad (ziA r)) false)]∧o=[]):=by
  have hc:=zga [[r.client],zbz r.seq,zoO r.kind r.session r.name] (by simp) (fun l hl=>by
   simp only[List.mem_cons,List.not_mem_nil,or_false]at hl
   rcases hl with rfl|rfl|rfl
   ·simp
   ·rw[zaY];decide
   ·rw[zm8];omega)
  rw[show [[r.client],zbz r.seq,zoO r.kind r.session r.name].flatten=ziA r from by simp[ziA]]at hc
  exact hc
 exact zW (I t8 @zau) (I (hmy) (I (hpb) (I (hpn) (I (hpt) (hcc)))))
def zaL (l:List Int):List Int:=l.flatMap zbz
theorem zbA {l:List Int}:(zaL l).length=8*l.length:=by
 induction l with
 |nil=>rfl
 |cons x l ih=>simp only[zaL,List.flatMap_cons,List.length_append,List.length_cons,zaY]at ih⊢;omega
theorem ziB {l:List Int} {i:Nat} (hi:i<l.length):zaL (l.take (i+1))=zaL (l.take i)++zbz l[i]:=zdc _ hi
theorem zge (l:List Int) (hl:l.length≤10) (h:∀v∈l,0≤v∧v<4611686018427387904):CallOK prog 24 [.f (al l.length (zaF l))] (fun r o=>r=[.one (.own 1 (zaL l).length (zad (zaL l)) false)]∧o=[]):=by
 refine zh func24 results24 ntmps24 call24 ?_
 simp only[f24,Option.getD]
 refine zL0 trivial ?_
 refine zaf (τ:=Nat) (fun i=>⟨(dq3 (.one (.own ⟨3,1,1⟩ 0 (zaL (l.take i)).length)::dq4 (al l.length (zaF l)::ai l.length::ai i::zs6 []))),[(3,⟨2,[none,roq 1 1 (zad (zaL (l.take i)))]⟩),(6,⟨2,[]⟩),(16,⟨2,[]⟩),(21,⟨2,[]⟩)]⟩)
  (fun i=>i≤l.length) (fun _=>()) (fun i=>l.length - i) 0
  ((Gh.nil (i:=3) (s:=3) (sz:=1) rfl).trans (Gh.canon [3] [6,16,21] [] zK rfl rfl)) (Nat.zero_le _) ?_
 intro i hi0 hF K hK
 refine zw ?_
 refine zaa (fun hlt=> ?_) (fun hge=> ?_)
 ·have hi:i<l.length:=by simpa using hlt
  have hat:=zcI hi
  have hw:=zai hi (by omega)
  have hpn:=zdP l[i] (h _ (List.getElem_mem hi))
  have hle0:(zaL (l.take i)).length≤80:=by rw[zbA,List.length_take];omega
  have hle:((zaL (l.take i)).length+8≤2^47)=True:=eq_true (by omega)
  have hsl:(zaL (l.take (i+1))).length=(zaL (l.take i)).length+8:=by rw[ziB hi,List.length_append,zaY]
  refine zL (I hat (I @zaD (I hle (I t8 (I @zau (I @List.length_map.{0,0} (I @zaY zca))))))) (hpn) ?_
  exact hK _ (i+1) (Gh.canon [3] [] [] (zk (I hw hsl)) rfl (by rw[ziB hi];simp only[roq,zad,List.map_append];rfl)) hi rfl (by omega)
 ·have hi:i=l.length:=by
   have:¬(i:Int)<l.length:=by simpa using hge
   omega
  subst hi
  rw[List.take_length]
  exact zW0 trivial
theorem zpT {l:List Req}:∀{i:Nat},i≤l.length→(zdG l i (l.drop i)=true↔∀j (hj:j<l.length),i≤j→Req.may l[j]=true∧∀k (hk:k<j),l[k].client≠l[j].client):=by
 intro i hi
 obtain⟨n,hn⟩:∃n,n=l.length - i:=⟨_,rfl⟩
 induction n generalizing i with
 |zero=>
  have:i=l.length:=by omega
  rw[this,List.drop_length,zdG]
  simp only[true_iff]
  intro j hj hij;omega
 |succ n ih=>
  have hil:i<l.length:=by omega
  rw[List.drop_eq_getElem_cons hil,zdG]
  have ih:=ih (i:=i+1) (by omega) (by omega)
  have hany:(l.take i).any (fun o=>o.client==l[i].client)=false↔∀k (hk:k<i),l[k].client≠l[i].client:=by
   rw[List.any_eq_false]
   constructor
   ·intro h k hk
    have:=h (l[k]) (by rw[List.mem_take_iff_getElem];exact⟨k,by omega,rfl⟩)
    simpa using this
   ·intro h o ho
    obtain⟨k,hk,rfl⟩:=List.mem_take_iff_getElem.1 ho
    simpa using h k (by omega)
  constructor
  ·intro h
   split at h
   ·cases h
   ·rename_i hc
    have hc:(!Req.may l[i]||(l.take i).any (fun o=>o.client==l[i].client))=false:=by simpa using hc
    rw[Bool.or_eq_false_iff]at hc
    intro j hj hij
    by_cases hji:j=i
    ·subst hji
     exact⟨by simpa using hc.1,hany.1 hc.2⟩
    ·exact ih.1 h j hj (by omega)
  ·intro h
   obtain⟨h1,h2⟩:=h i hil (Nat.le_refl _)
   rw[if_neg (by rw[h1,hany.2 h2];simp)]
   exact ih.2 fun j hj hij=>h j hj (by omega)
theorem zpU {l:List Req} (h:zdG l 0 l=true):(∀r∈l,Req.may r=true)∧l.Pairwise fun a b=>a.client≠b.client:=by
 have h:=(zpT (l:=l) (i:=0) (Nat.zero_le _)).1 (by rw[List.drop_zero];exact h)
 refine⟨fun r hr=> ?_,List.pairwise_iff_getElem.2 fun i j hi hj hij=>(h j hj (Nat.zero_le _)).2 i hij⟩
 obtain⟨j,hj,rfl⟩:=List.getElem_of_mem hr
 exact(h j hj (Nat.zero_le _)).1
theorem zkC {b:Batch} (h:Batch.may b=true) (hf:b.fill=false):(0≤b.view∧b.view≤zbE)∧(0≤b.time∧b.time≤zbE)∧(0≤b.tip.view∧b.tip.view≤zbE)∧(0≤b.tip.slot∧b.tip.slot≤zbE)∧b.reqs.length≤3∧
  (∀r∈b.reqs,Req.may r=true)∧b.reqs.Pairwise fun a b=>a.client≠b.client:=by
 unfold Batch.may at h
 rw[if_neg (by rw[hf];simp)]at h
 split at h
 ·cases h
 ·rename_i hc
  have hc:(!![b.view,b.time,b.tip.view,b.tip.slot].any bad||decide ((b.reqs.length:Int)>3))=false:=by simpa using hc
  rw[Bool.or_eq_false_iff]at hc
  obtain⟨c1,c2⟩:=hc
  have hb:∀n:Int,bad n=false→0≤n∧n≤zbE:=fun n hn=>by unfold bad at hn;simp at hn;omega
  have c1:[b.view,b.time,b.tip.view,b.tip.slot].any bad=false:=by simpa using c1
  simp only[List.any_cons,List.any_nil,Bool.or_false,Bool.or_eq_false_iff]at c1
  obtain⟨q1,q2,q3,q4⟩:=c1
  obtain⟨g1,g2⟩:=zpU h
  exact⟨hb _ q1,hb _ q2,hb _ q3,hb _ q4,by simp at c2;omega,g1,g2⟩
abbrev zfG (b:Batch):List Int:=[b.view,b.tip.view,b.tip.slot,b.time]
def bp0 (b:Batch) (i:Nat):List Int:=[0]++zaL ((zfG b).take i)
def bp1 (b:Batch) (i:Nat):List Int:=(bp0 b 4++[(b.reqs.length:Int)])++(b.reqs.take i).flatMap ziA
def zeR (b:Batch):List Int:=if b.fill=true then [1]else bp1 b b.reqs.length
theorem zm7 (b:Batch) {i:Nat} (hi:i≤4):(bp0 b i).length=1+8*i:=by
 rw[bp0,List.length_append,zbA,List.length_take];simp;omega
theorem zxz (b:Batch) {i:Nat} (hi:i<(zfG b).length):bp0 b (i+1)=bp0 b i++zbz (zfG b)[i]:=by
 rw[bp0,ziB hi,bp0,List.append_assoc]
theorem zrj {b:Batch} {i:Nat} (hi:i<b.reqs.length):bp1 b (i+1)=bp1 b i++ziA b.reqs[i]:=by
 rw[bp1,zdc _ hi,bp1,←List.append_assoc]
theorem zrk {b:Batch}:bp1 b 0=bp0 b 4++[(b.reqs.length:Int)]:=by simp[bp1]
theorem zvn {b:Batch} (h:∀r∈b.reqs,Req.may r=true) (i:Nat):(bp1 b i).length≤34+i*31:=by
 have:=zef ziA (l:=b.reqs.take i) (k:=31) fun r hr=>by
  have:=zm9 (h r (List.mem_of_mem_take hr));omega
 have h2:(b.reqs.take i).length*31≤i*31:=Nat.mul_le_mul_right _ (by rw[List.length_take];omega)
 rw[bp1,List.length_append,List.length_append,zm7 b (by omega)]
 simp only[List.length_singleton]
 omega
theorem zeC {b:Batch} (h:Batch.may b=true):b.reqs.length≤3∧∀r∈b.reqs,Req.may r=true:=by
 cases hf:b.fill
 ·have f:=zkC h hf
  exact⟨f.2.2.2.2.1,f.2.2.2.2.2.1⟩
 ·unfold Batch.may at h
  rw[if_pos hf]at h
  simp only[Bool.and_eq_true,beq_iff_eq]at h
  have:b.reqs=[]:=List.length_eq_zero_iff.1 (by omega)
  rw[this]
  exact⟨by simp,by simp⟩
theorem zkA {b:Batch} (h:Batch.may b=true):∀v∈zfG b,0≤v∧v≤2305843009213693952:=by
 have hH:zbE=2305843009213693952:=rfl
 intro v hv
 cases hf:b.fill
 ·obtain⟨a1,a2,a3,a4,_⟩:=zkC h hf
  simp only[zfG,List.mem_cons,List.not_mem_nil,or_false]at hv
  rcases hv with rfl|rfl|rfl|rfl<;>omega
 ·unfold Batch.may at h
  rw[if_pos hf]at h
  simp only[Bool.and_eq_true,beq_iff_eq]at h
  simp only[zfG,List.mem_cons,List.not_mem_nil,or_false]at hv
  rcases hv with rfl|rfl|rfl|rfl<;>omega
theorem zrl {b:Batch} (h:Batch.may b=true):b.ok:=by
 obtain⟨h1,h2⟩:=zeC h
 have hn:=zkA h
 have n1:=hn b.view (by simp)
 have n2:=hn b.tip.view (by simp)
 have n3:=hn b.tip.slot (by simp)
 have n4:=hn b.time (by simp)
 unfold Batch.ok i64
 refine⟨by omega,by omega,by omega,by omega,by omega,fun r hr=>(zeD (h2 r hr)).2.2.2⟩
set_option maxHeartbeats 1000000 in
theorem zkB (b:Batch) (h:Batch.may b=true):CallOK prog 26 [.f (.agg b.lent)] (fun x o=>x=[.one (.own 1 (zeR b).length (zad (zeR b)) false),ri 0]∧o=[]):=by
 refine zh func26 results26 ntmps26 call26 ?_
 simp only[f26,Option.getD]
 have hmy:=zdH b (zrl h)
 rw[h]at hmy
 obtain⟨h1,h2⟩:=zeC h
 have hn:=zkA h
 cases hf:b.fill
 ·rw[zeR,if_neg (by rw[hf];simp)]
  rw[show b.lent=[db false,di b.view,di b.tip.view,di b.tip.slot,di b.time, .lent b.reqs.length (zbW b.reqs)] from by rw[←hf]]at hmy
  have hagg:∀(Z:List Nat) (r:Rs) (xs ys:List AV),fgc Z r (AV.agg [di b.view,di b.tip.view,di b.tip.slot,di b.time]::xs) (AV.agg [di b.view,di b.tip.view,di b.tip.slot,di b.time]::ys)=fgc Z r xs ys:=fun Z r xs ys=>zjb rfl rfl
  refine zL hf (hmy) ?_
  refine zaf (τ:=Nat) (fun i=>⟨(dd::ptq 1::dq2 (.one (.own ⟨4,1,1⟩ 0 (bp0 b i).length)::zAR (.agg [di b.view,di b.tip.view,di b.tip.slot,di b.time]::ai i::zy5 []))),[(1,⟨2,[obq 1 [db false,di b.view,di b.tip.view,di b.tip.slot,di b.time, .lent b.reqs.length (zbW b.reqs)],none,none,none,none,none,none]⟩),(19,⟨2,[]⟩),(4,⟨2,[none,roq 1 1 (zad (bp0 b i))]⟩),(7,⟨2,[]⟩),(36,⟨2,[]⟩),(41,⟨2,[]⟩)]⟩)
   (fun i=>i≤4) (fun _=>()) (fun i=>4 - i) 0
   (Gh.canon [1,4] [7,36,41] [] (zk hagg) rfl rfl) (Nat.zero_le _) ?_
  intro i hi0 hF K hK
  refine zw ?_
  refine zaa (fun hlt=> ?_) (fun hge=> ?_)
  ·have hi:i<4:=by simp at hlt;omega
   have hw:IntKind.i64.wrap ((i:Int)+1)=((i+1:Nat):Int):=zai hi (by omega)
   have hpn:=zdP ((zfG b)[i]'hi) (by have:=hn _ (List.getElem_mem (l:=zfG b) hi);omega)
   have hle:((bp0 b i).length+8≤2^47)=True:=eq_true (by rw[zm7 b hi0];omega)
   have hsu:=zxz b (i:=i) hi
   have hsl:(bp0 b (i+1)).length=(bp0 b i).length+8:=by rw[hsu,List.length_append,zaY]
   obtain⟨j,hj⟩:∃j,i+1=j:=⟨_,rfl⟩
   rw[hj]at hw hsu hsl
   rcases(show i=0∨i=1∨i=2∨i=3 by omega)with rfl|rfl|rfl|rfl
   all_goals
    refine zL (I hle (I t8 (I @zau (I @List.length_map.{0,0} (I @zaY zca))))) (hpn) ?_
    exact hK _ j (Gh.canon [1,4] [] [] (zk (I hw (I hsl hagg))) rfl (by rw[hsu];simp only[roq,zad,List.map_append];rfl)) (by omega) rfl (by omega)
  ·have hi:i=4:=by
    have:¬(i:Int)<4:=by simpa using hge
    omega
   subst hi
   have w3:IntKind.u8.wrap (b.reqs.length:Int)=b.reqs.length:=zd0 (by omega) (by omega)
   have hle:((bp0 b 4).length+1≤2^47)=True:=eq_true (by rw[zm7 b (Nat.le_refl _)];omega)
   have hz:(bp1 b 0).length=(bp0 b 4).length+1:=by rw[zrk,List.length_append,List.length_singleton]
   refine zL0 (I w3 (I hle (I @zau @List.length_map.{0,0}))) ?_
   refine zaf (τ:=Nat) (fun i=>⟨(dq4 (.one (.own ⟨4,1,1⟩ 0 (bp1 b i).length)::dq6 (zec (al b.reqs.length (zbW b.reqs)::ai b.reqs.length::ai i::zs6 [])))),[(1,⟨2,[]⟩),(19,⟨2,[]⟩),(4,⟨2,[none,roq 1 1 (zad (bp1 b i))]⟩),(7,⟨2,[]⟩),(36,⟨2,[]⟩),(41,⟨2,[]⟩),(48,⟨2,[]⟩),(10,⟨2,[]⟩),(11,⟨2,[]⟩),(59,⟨2,[]⟩),(64,⟨2,[]⟩)]⟩)
    (fun i=>i≤b.reqs.length) (fun _=>()) (fun i=>b.reqs.length - i) 0
    (Gh.canon [4] [10,11,59,64] [] (zk hz) rfl (by rw[zrk];simp only[roq,zad,List.map_append];rfl)) (Nat.zero_le _) ?_
   intro i hi0 hF K hK
   refine zw ?_
   refine zaa (fun hlt=> ?_) (fun hge=> ?_)
   ·have hi:i<b.reqs.length:=by simpa using hlt
    have hat:=zfL hi
    have hw:=zai hi (by omega)
    have hm:=h2 _ (List.getElem_mem hi)
    have hpt:=zoP b.reqs[i] hm
    have hl0:=zvn h2 i
    have hl1:=zm9 hm
    have hle:((bp1 b i).length+(ziA b.reqs[i]).length≤2^47)=True:=eq_true (by omega)
    have hsl:(bp1 b (i+1)).length=(bp1 b i).length+(ziA b.reqs[i]).length:=by rw[zrj hi,List.length_append]
    refine zL (I hat (I @zaP (I hle (I @zau (I @List.length_map.{0,0} zca))))) (hpt) ?_
    exact hK _ (i+1) (Gh.canon [4] [] [] (zk (I hw hsl)) rfl (by rw[zrj hi];simp only[roq,zad,List.map_append];rfl)) hi rfl (by omega)
   ·have hi:i=b.reqs.length:=by
     have:¬(i:Int)<b.reqs.length:=by simpa using hge
     omega
    subst hi
    exact zW0 trivial
 ·rw[zeR,if_pos hf]
  rw[show b.lent=[db true,di b.view,di b.tip.view,di b.tip.slot,di b.time, .lent b.reqs.length (zbW b.reqs)] from by rw[←hf]]at hmy
  exact zW hf (hmy)
theorem zoZ (n:Int):CallOK prog 116 [.f (ai n)] (fun r o=>r=[rb (bad n)]∧o=[]):=by
 refine zh func116 results116 ntmps116 call116 ?_
 simp only[f116,Option.getD]
 refine zCb trivial ?_
 rfl
theorem zjt (l:List Int) (hl:l.length<2^62):CallOK prog 75 [.f (al l.length (zaF l))] (fun r o=>r=[rb (!l.any bad)]∧o=[]):=by
 refine zh func75 results75 ntmps75 call75 ?_
 simp only[f75,Option.getD]
 repeat'(first|exact zC|refine za0 ?_|((first|((try refine zaV ?_);apply zaX)|(apply zba;intro _));(solve|exact(zeS l hl bad _ [] rfl rfl (fun x _=>zoZ x))|(refine CallOK.le (zeS l hl bad _ [] rfl rfl (fun x _=>zoZ x)) ?_;exact zM)|fail);try case hn=>rfl)|(apply zaa<;>intro hb)|(apply I;exact zI)|(apply I<;>intro hg))
theorem b1 {q a b:Bool} (hg:(q==false)=false):(q||a||b)=true:=by cases q<;>simp_all
theorem b2 {q a b c:Bool} (h:(q|| !!a||b)=c):(q||a||b)=c:=by simpa using h
theorem b3 {q b:Bool} (hg:(q==false)=false) (hb:(q||b)=false):False:=by cases q<;>simp_all
theorem zEV {x y:Int}:[x,y].any bad=(bad x||bad y):=by simp
def zcQ (done:Int):Int→List Vote→Bool
 |_,[]=>true
 |last,v::rest=>if(decide (v.slot≤last)||decide (v.slot - done>9)||(bad v.slot||bad v.ballot)|| !Batch.may v.batch)=true then false else zcQ done v.slot rest
def Prom.may (p:Prom):Bool:=
 if(decide (p.src<0)||decide (p.src≥7)||[p.done,p.tip.view,p.tip.slot,p.time].any bad||decide ((p.votes.length:Int)>9))=true then false else zcQ p.done p.done p.votes
theorem zsD (p:Prom) (hok:p.ok):CallOK prog 37 [.f (.agg p.lent)] (fun r o=>r=[rb (Prom.may p)]∧o=[]):=by
 have hlen:p.votes.length<2^42:=hok.2.2.2.2.2.1
 have hv:∀v∈p.votes,v.ok:=hok.2.2.2.2.2.2
 refine zh func37 results37 ntmps37 call37 ?_
 simp only[f37,Option.getD]
 repeat'(first|exact zC|refine za0 ?_|((first|((try refine zaV ?_);apply zaX)|(apply zba;intro _));(solve|exact(zjt [_,_,_,_] (by simp))|(refine CallOK.le (zjt [_,_,_,_] (by simp)) ?_;exact zM)|fail);try case hn=>rfl)|(apply zaa<;>intro hb)|(apply I;exact zI)|(apply I<;>intro hg))
 ·rw[Prom.may,if_pos (b2 hb)]
 rotate_left
 ·rw[Prom.may,if_pos (b1 hg)]
 ·exact(b3 hg hb).elim
 have hc:¬(decide (p.src<0)||decide (p.src≥7)||[p.done,p.tip.view,p.tip.slot,p.time].any bad||decide ((p.votes.length:Int)>9))=true:=by
  rw[b2 hb];simp
 have hdone:0≤p.done:=by
  simp[bad]at hc
  omega
 have hm:Prom.may p=zcQ p.done p.done p.votes:=by rw[Prom.may,if_neg hc]
 rw[hm]
 refine zw ?_
 refine zaf (τ:=Nat×Int×Nat×Nat) (fun t=>⟨(dd:: .one (.ptr ⟨1,0,0⟩ 0)::ab false::ai t.2.1::zBI (al p.votes.length (zbv p.votes)::ai p.votes.length::ai t.1::zBH [])),
  [(1,{next:=7,l:=[obq 0 [di p.src,di p.done,di p.tip.view,di p.tip.slot,di p.time, .lent p.votes.length (zbv p.votes)],none,none,none,none,none,none]}),(25,⟨1,[]⟩),(5,⟨t.2.2.1,[]⟩),(61,⟨t.2.2.2,[]⟩)]⟩)
  (fun t=>t.1≤p.votes.length∧p.done≤t.2.1) (fun t=>zcQ p.done t.2.1 (p.votes.drop t.1)) (fun t=>p.votes.length - t.1) (0,p.done,0,0) (Gh.keep [1] [5,61] ?_ rfl) ⟨Nat.zero_le _,Int.le_refl _⟩ ?_
 ·simp only[ddE,zbw,zbx,zb4,Int.natCast_zero]
 intro⟨i,last,e5,e61⟩ ⟨hi0,hl0⟩ hF K hK
 simp only at hi0 hl0 hF hK⊢
 refine zw ?_
 refine zaa (fun hlt=> ?_) (fun hge=> ?_)
 ·have hi:i<p.votes.length:=by simpa using hlt
  rw[List.drop_eq_getElem_cons hi,zcQ]at hF
  have hat:=zjc hi
  simp only[List.cons_append,List.nil_append]at hat
  have hvo:=hv _ (List.getElem_mem hi)
  have hw:(decide (p.votes[i].slot≤last)||decide (IntKind.i64.wrap (p.votes[i].slot - p.done)>9))=(decide (p.votes[i].slot≤last)||decide (p.votes[i].slot - p.done>9)):=by
   by_cases h:p.votes[i].slot≤last
   ·simp[h]
   ·have:=hvo.1
    unfold i64 at this
    rw[wrap64 (by omega) (by omega)]
  repeat'(first|exact zC|refine za (I @zaO hat) ?_|((first|((try refine zaV ?_);apply zaX)|(apply zba;intro _));(solve|exact(zjt [_,_] (by simp))|(refine CallOK.le (zjt [_,_] (by simp)) ?_;exact zM)|fail);try case hn=>rfl)|((first|((try refine zaV ?_);apply zaX)|(apply zba;intro _));(solve|exact(zdH _ hvo.2.2)|(refine CallOK.le (zdH _ hvo.2.2) ?_;exact zM)|fail);try case hn=>rfl)|(apply zaa<;>intro hb)|(apply I;exact zI)|(apply I<;>intro hg))
  all_goals rw[hw]at hb hg
  ·rw[if_pos (by rw[←zEV];exact b2 hb),List.drop_zero]at hF
   rw[←hF]
  ·have hb':=b2 hb
   rw[zEV]at hb'
   rw[if_neg (by rw[hb'];simp)]at hF
   have hsl:last<p.votes[i].slot:=by
    simp only[Bool.or_eq_false_iff,decide_eq_false_iff_not]at hb'
    omega
   refine hK _ (i+1,p.votes[i].slot,_,_) (Gh.keep [1] [] ?_ rfl) ⟨hi,by simp only;omega⟩ (by simp only[List.drop_eq_getElem_cons hi,zcQ];rw[if_neg (by rw[hb'];simp)]) (by simp only;omega)
   simp only[zai hi (by omega),ddE,zbw,zbx,zb4]
  ·rw[if_pos (b1 hg),List.drop_zero]at hF
   rw[←hF]
  ·exact(b3 hg hb).elim
 ·have hi:i=p.votes.length:=by
   have:¬(i:Int)<p.votes.length:=by simpa using hge
   omega
  rw[hi,List.drop_length,List.drop_zero,zcQ]at hF
  refine zw ?_
  rw[←hF]
def lastOf (p:Prom) (i:Nat):Int:=if i=0 then p.done else(p.votes[i - 1]?.map Vote.slot).getD 0
theorem bad_false {n:Int} (h:bad n=false):0≤n∧n≤2305843009213693952:=by
 simp[bad]at h
 omega
theorem zkH {done:Int}:∀{last:Int} {l:List Vote},done≤last→zcQ done last l=true→∀v∈l,done<v.slot∧v.slot≤done+9∧bad v.slot=false∧bad v.ballot=false∧Batch.may v.batch=true
 |last,[],_,_,v,hv=>by cases hv
 |last,w::l,hd,h,v,hv=>by
  rw[zcQ]at h
  split at h
  ·cases h
  ·rename_i hc
   simp only[Bool.or_eq_true,Bool.not_eq_true',not_or,decide_eq_true_eq,Bool.not_eq_true,Bool.not_eq_false]at hc
   obtain⟨⟨⟨h1,h2⟩,h3,h4⟩,h5⟩:=hc
   rcases List.mem_cons.1 hv with rfl|hv
   ·exact⟨by omega,by omega,h3,h4,h5⟩
   ·exact zkH (by omega) h v hv
structure MayP (p:Prom):Prop where
 src:0≤p.src∧p.src<7
 done:0≤p.done∧p.done≤2305843009213693952
 view:0≤p.tip.view∧p.tip.view≤2305843009213693952
 slot:0≤p.tip.slot∧p.tip.slot≤2305843009213693952
 time:0≤p.time∧p.time≤2305843009213693952
 len:p.votes.length≤9
 may:zcQ p.done p.done p.votes=true
 votes:∀v∈p.votes,p.done<v.slot∧v.slot≤p.done+9∧bad v.slot=false∧bad v.ballot=false∧Batch.may v.batch=true
theorem zl5 {p:Prom} (h:Prom.may p=true):MayP p:=by
 unfold Prom.may at h
 split at h
 ·cases h
 ·rename_i hc
  simp only[List.any_cons,List.any_nil,Bool.or_false,Bool.or_eq_true,not_or,decide_eq_true_eq,Bool.not_eq_true]at hc
  obtain⟨⟨⟨h1,h2⟩,h3,h4,h5,h6⟩,h7⟩:=hc
  exact⟨by omega,bad_false h3,bad_false h4,bad_false h5,bad_false h6,by omega,h,zkH (Int.le_refl _) h⟩
end Go.Proofs.YtliimajkpggbhaaGreat
