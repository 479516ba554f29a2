import Derived.Test.YtbpmcjeeeiffhaaGreatK8
import Derived.Test.YtbpmcjeeeiffhaaGreatL7
namespace Go.Proofs.YtbpmcjeeeiffhaaGreat
open Go.Pk
set_option maxRecDepth 100000
set_option linter.unusedSimpArgs false
set_option linter.unusedVariables false
theorem zpL {l:List Grant} {i:Nat} (hi:i<l.length):zbA (l.take (i+1))=zbA (l.take i)++(zeC l[i].name++zcp l[i].token):=by
 rw[List.take_succ_eq_append_getElem hi,zbA,List.flatMap_append];simp[zbA,zjP]
def zk0 (r:Reply):List Int:=[r.code]++(zcp r.session++[r.ahead,(r.held.length:Int)])
def ziL (r:Reply) (i:Nat):List Int:=zk0 r++zbA (r.held.take i)
theorem zmN {r:Reply} {i:Nat} (hi:i<r.held.length):ziL r (i+1)=(ziL r i++zeC r.held[i].name)++zcp r.held[i].token:=by
 rw[ziL,zpL hi,ziL];simp
theorem zmO {r:Reply}:ziL r 0=zk0 r:=by simp[ziL,zbA]
theorem ztQ {r:Reply}:ziL r r.held.length=zb7 r:=by simp[ziL,zk0,zb7]
theorem ziF (r:Reply):(zk0 r).length=11:=by simp[zk0,zby]
set_option maxHeartbeats 1000000 in
theorem znD (r:Reply) (h:zbV r=true):CallOK Tryz.prog 77 [.f (.agg r.lent)] (fun x o=>x=[.one (.own 1 (zb7 r).length (zao (zb7 r)) false),ri 0]∧o=[]):=by
 obtain⟨f1,f2,f3,f4,f5⟩:=zcB h
 have hgr:=zcQ h
 refine zac zak mixed (T:=Ty) (n:=63) Tryz.func77 (c:=Tryz.f77.body.getD .skip) rfl Tryz.results77 Tryz.ntmps77 Tryz.call77 ?_
 simp only[Tryz.f77,Option.getD]
 have hmy:=zeq r ⟨by omega,fun g hg=>by have:=(hgr g hg).1;omega⟩
 rw[h]at hmy
 have hpn:=zgl r.session (by omega)
 have w1:IntKind.u8.wrap r.code=r.code:=zho (by omega) (by omega)
 have w2:IntKind.u8.wrap r.ahead=r.ahead:=zho (by omega) (by omega)
 have w3:IntKind.u8.wrap (r.held.length:Int)=r.held.length:=zho (by omega) (by omega)
 have hcc:CallOK Tryz.prog 30 [.f (al 3 [.sl 1 (zao [r.code]), .sl 8 (zao (zcp r.session)), .sl 2 (zao [r.ahead,(r.held.length:Int)])])] (fun x o=>x=[.one (.own 1 11 (zao (zk0 r)) false)]∧o=[]):=by
  have hc:=zia [zao [r.code],zao (zcp r.session),zao [r.ahead,(r.held.length:Int)]] (by simp) (fun l hl=>by
   simp only[List.mem_cons,List.not_mem_nil,or_false]at hl
   rcases hl with rfl|rfl|rfl
   ·simp
   ·rw[zfk];decide
   ·simp)
  rw[show [zao [r.code],zao (zcp r.session),zao [r.ahead,(r.held.length:Int)]].flatten=zao (zk0 r) from by simp[zk0,zao]]at hc
  rw[show(zao (zk0 r)).length=11 from by rw[List.length_map,ziF]]at hc
  exact hc
 have t1:(zao (zcp r.session)).take 8=zao (zcp r.session):=List.take_of_length_le (by rw[zfk];decide)
 have t2:toDs (sub 0 2 1 [C.d (uD r.ahead),C.d (uD (r.held.length:Int))])=some [uD r.ahead,uD (r.held.length:Int)]:=rfl
 repeat'(first|refine zq (I t1 (I t2 (I w1 (I w2 w3)))) ?_|exact zd (I t1 (I t2 (I w1 (I w2 w3))))|refine zc (hmy) ?_|refine zg (hmy) ?_|refine zc (hpn) ?_|refine zg (hpn) ?_|refine zc (hcc) ?_|refine zg (hcc) ?_|(refine zaa ?_ ?_<;>intro hb)|(refine And.intro ?_ ?_;exact zI)|(refine And.intro ?_ ?_<;>intro hg)|exact zC|fail)
 refine zam (τ:=Nat) (fun i=>⟨[dd, .one (.ptr ⟨1,0,1⟩ 0),dd,dd,dd,dd, .one (.own ⟨6,1,1⟩ 0 (ziL r i).length),dd,dd,dd,dd,dd,dd,dd,dd,dd,dd,dd,dd,dd,dd,dd,dd,dd,dd,dd,dd,dd,dd,dd,dd,dd,dd,dd,dd,dd,dd,dd,al r.held.length (zaD r.held),ai r.held.length,ai i,dd,dd,dd,dd,dd,dd,dd,dd,dd,dd,dd,dd,dd,dd,dd,dd,dd,dd,dd,dd,dd,dd],[(1,{next:=2,l:=[some {e:=1,var:=true,fz:=false,sz:=0,cells:=[di r.code,di r.session,di r.ahead, .lent r.held.length (zaD r.held)]},none,none,none,none]}),(19,⟨2,[]⟩),(4,⟨2,[]⟩),(25,⟨2,[]⟩),(34,⟨2,[]⟩),(35,⟨2,[]⟩),(36,⟨2,[]⟩),(6,{next:=2,l:=[none,some {e:=1,var:=false,fz:=false,sz:=1,cells:=(zao (ziL r i)).map C.d}]}),(8,⟨2,[]⟩),(9,⟨2,[]⟩),(11,⟨2,[]⟩),(47,⟨2,[]⟩),(53,⟨2,[]⟩),(58,⟨2,[]⟩),(60,⟨2,[]⟩)]⟩)
  (fun i=>i≤r.held.length) (fun _=>()) (fun i=>r.held.length - i) 0
  (Gh.canon [1,6] [8,9,11,47,53,58,60] [] (zk (I @zmO @ziF)) rfl (by rw[zmO];rfl)) (Nat.zero_le _) ?_
 intro i hi0 hF K hK
 refine zw ?_
 refine zaa (fun hlt=> ?_) (fun hge=> ?_)
 ·have hi:i<r.held.length:=by simpa using hlt
  have hat:=zb3 hi
  have hw:=zal hi (by omega)
  have hg:=hgr _ (List.getElem_mem hi)
  have hpt:=zju r.held[i].name (by omega)
  have hpm:=zgl r.held[i].token hg.2
  have hlb:(ziL r i).length≤11+4*21:=by
   rw[ziL,List.length_append,ziF]
   have:=zfX (l:=r.held.take i) (k:=12) fun g hx=>(hgr g (List.mem_of_mem_take hx)).1
   have:(r.held.take i).length≤4:=by rw[List.length_take];omega
   omega
  have hle:((ziL r i).length+(1+r.held[i].name.size)≤2^47)=True:=eq_true (by omega)
  have hle2:((ziL r i).length+(1+r.held[i].name.size)+8≤2^47)=True:=eq_true (by omega)
  have k1:(zhp r.held[i].name).take (1+r.held[i].name.size)=zhp r.held[i].name:=List.take_of_length_le (by rw[zeY];exact Nat.le_refl _)
  have k2:(zao (zcp r.held[i].token)).take 8=zao (zcp r.held[i].token):=List.take_of_length_le (by rw[zfk];decide)
  have k3:(zao (ziL r i)).take (ziL r i).length=zao (ziL r i):=List.take_of_length_le (by rw[List.length_map];exact Nat.le_refl _)
  have k4:(zao (ziL r i)++zhp r.held[i].name).take ((ziL r i).length+(1+r.held[i].name.size))=zao (ziL r i)++zhp r.held[i].name:=List.take_of_length_le (by rw[List.length_append,List.length_map,zeY];exact Nat.le_refl _)
  have hsl:(ziL r (i+1)).length=(ziL r i).length+(1+r.held[i].name.size)+8:=by rw[zmN hi,List.length_append,List.length_append,zcP,zby]
  repeat'(first|refine zq (I hat (I @zaC (I hle (I hle2 (I k1 (I k2 (I k3 (I k4 (I @zeY (I @List.length_map.{0,0} (I @zby zca))))))))))) ?_|exact zd (I hat (I @zaC (I hle (I hle2 (I k1 (I k2 (I k3 (I k4 (I @zeY (I @List.length_map.{0,0} (I @zby zca)))))))))))|refine zc (hpt) ?_|refine zg (hpt) ?_|refine zc (hpm) ?_|refine zg (hpm) ?_|(refine zaa ?_ ?_<;>intro hb)|(refine And.intro ?_ ?_;exact zI)|(refine And.intro ?_ ?_<;>intro hg)|exact zC|fail)
  exact hK _ (i+1) (Gh.canon [1,6] [] [] (zk (I hw hsl)) rfl (by rw[zmN hi,zr7];simp only[zao,List.map_append];rfl)) hi rfl (by omega)
 ·have hi:i=r.held.length:=by
   have:¬(i:Int)<r.held.length:=by simpa using hge
   omega
  subst hi
  repeat'(first|refine zq0 ?_|exact zd0|(refine zaa ?_ ?_<;>intro hb)|(refine And.intro ?_ ?_;exact zI)|(refine And.intro ?_ ?_<;>intro hg)|exact zC|fail)
  rw[ztQ]
theorem zjO {r:Reply} (h:zbV r=true):(zb7 r).length≤95:=by
 have hgr:=zcQ h
 have hf:=(zcB h).2.2.2.1
 have:=zfX (l:=r.held) (k:=12) fun g hg=>(hgr g hg).1
 have e:(zb7 r).length=11+(zbA r.held).length:=by simp[zb7,zby];omega
 omega
theorem ziE {m:Memo} (h:answerB m=true):(zbm m).length≤104:=by
 have:=zjO (zcl h).2.2
 have e:(zbm m).length=9+(zb7 m.reply).length:=by simp[zbm,zby];omega
 omega
theorem znC {m:Memo} (h:answerB m=true):zb1 m.reply:=by
 have hgr:=zcQ (zcl h).2.2
 have hf:=(zcB (zcl h).2.2).2.2.2.1
 exact⟨by omega,fun g hg=>by have:=(hgr g hg).1;omega⟩
theorem zmM (m:Memo) (h:answerB m=true):CallOK Tryz.prog 34 [.f (.agg m.lent)] (fun x o=>x=[.one (.own 1 (zbm m).length (zao (zbm m)) false),ri 0]∧o=[]):=by
 refine zac zak mixed (T:=Ty) (n:=31) Tryz.func34 (c:=Tryz.f34.body.getD .skip) rfl Tryz.results34 Tryz.ntmps34 Tryz.call34 ?_
 simp only[Tryz.f34,Option.getD]
 obtain⟨f1,f2,f3⟩:=zcl h
 have hmy:=zdM m (znC h)
 rw[h]at hmy
 have hpn:=zgl m.seq (by omega)
 have hpr:=znD m.reply f3
 have hrl:=zjO f3
 have w1:IntKind.u8.wrap m.client=m.client:=zho (by omega) (by omega)
 have hcc:CallOK Tryz.prog 30 [.f (al 3 [.sl 1 (zao [m.client]), .sl 8 (zao (zcp m.seq)), .sl (zb7 m.reply).length (zao (zb7 m.reply))])] (fun x o=>x=[.one (.own 1 (zbm m).length (zao (zbm m)) false)]∧o=[]):=by
  have hc:=zia [zao [m.client],zao (zcp m.seq),zao (zb7 m.reply)] (by simp) (fun l hl=>by
   simp only[List.mem_cons,List.not_mem_nil,or_false]at hl
   rcases hl with rfl|rfl|rfl
   ·simp
   ·rw[zfk];decide
   ·rw[List.length_map];omega)
  rw[show [zao [m.client],zao (zcp m.seq),zao (zb7 m.reply)].flatten=zao (zbm m) from by simp[zbm,zao]]at hc
  simp only[zso,List.map_cons,List.map_nil,List.length_map,List.length_cons,List.length_nil,zby]at hc
  exact hc
 have t1:(zao (zcp m.seq)).take 8=zao (zcp m.seq):=List.take_of_length_le (by rw[zfk];decide)
 have t2:(zao (zb7 m.reply)).take (zb7 m.reply).length=zao (zb7 m.reply):=List.take_of_length_le (by rw[List.length_map];exact Nat.le_refl _)
 repeat'(first|refine zq (I t1 (I t2 w1)) ?_|exact zd (I t1 (I t2 w1))|refine zc (hmy) ?_|refine zg (hmy) ?_|refine zc (hpn) ?_|refine zg (hpn) ?_|refine zc (hpr) ?_|refine zg (hpr) ?_|refine zc (hcc) ?_|refine zg (hcc) ?_|(refine zaa ?_ ?_<;>intro hb)|(refine And.intro ?_ ?_;exact zI)|(refine And.intro ?_ ?_<;>intro hg)|exact zC|fail)
theorem zg1 (v:Int) (h:0≤v∧v<4611686018427387904):CallOK Tryz.prog 31 [.f (ai v)] (fun r o=>r=[.one (.own 1 8 (zao (zcp v)) false)]∧o=[]):=by
 refine zac zak mixed (T:=Ty) (n:=11) Tryz.func31 (c:=Tryz.f31.body.getD .skip) rfl Tryz.results31 Tryz.ntmps31 Tryz.call31 ?_
 simp only[Tryz.f31,Option.getD]
 have hp:=zgl v h
 repeat'(first|refine zq0 ?_|exact zd0|refine zc (hp) ?_|refine zg (hp) ?_|(refine zaa ?_ ?_<;>intro hb)|(refine And.intro ?_ ?_;exact zI)|(refine And.intro ?_ ?_<;>intro hg)|exact zC|fail)
theorem zjM:∀ls:List (List Int),(ls.map zao).flatten=zao ls.flatten
 |[]=>rfl
 |l::ls=>by simp only[List.map_cons,List.flatten_cons,zjM ls,List.map_append]
theorem zny (ls:List (List Int)) (hl:ls.length<2^10) (hs:∀l∈ls,l.length≤2^12):
  CallOK Tryz.prog 30 [.f (al ls.length (ls.map fun l=> .sl l.length (zao l)))] (fun r o=>r=[.one (.own 1 ls.flatten.length (zao ls.flatten) false)]∧o=[]):=by
 have h:=zia (ls.map zao) (by simpa using hl) (fun l h=>by
  obtain⟨x,hx,rfl⟩:=List.mem_map.1 h
  rw[List.length_map];exact hs x hx)
 rw[zjM,za4,List.length_map]at h
 have e:zso (ls.map zao)=ls.map fun l=> .sl l.length (zao l):=by
  rw[zso,List.map_map]
  exact List.map_congr_left fun l _=>by simp only[Function.comp,za4]
 rw[e]at h
 exact h
def zhq (x:Sess):List Int:=x.client::(zcp x.num++zcp x.renewed)
def lk0 (k:Lk):List Int:=zeC k.name++(k.holder::(zcp k.token++[(k.line.length:Int)]))
def zg2 (k:Lk):List Int:=lk0 k++k.line
def ziT (s:St):List Int:=zcp s.time++(zcp s.num++(zcp s.token++[(s.sess.length:Int)]))
def sb1 (s:St) (i:Nat):List Int:=ziT s++(s.sess.take i).flatMap zhq
def sb2 (s:St) (i:Nat):List Int:=(sb1 s s.sess.length++[(s.locks.length:Int)])++(s.locks.take i).flatMap zg2
def sb3 (s:St) (i:Nat):List Int:=(sb2 s s.locks.length++[(s.memos.length:Int)])++(s.memos.take i).flatMap zbm
def zb6 (s:St):List Int:=sb3 s s.memos.length
theorem ze1 {α:Type} (f:α→List Int) {l:List α} {i:Nat} (hi:i<l.length):(l.take (i+1)).flatMap f=(l.take i).flatMap f++f l[i]:=by
 rw[List.take_succ_eq_append_getElem hi,List.flatMap_append];simp
theorem ztO {s:St} {i:Nat} (hi:i<s.sess.length):sb1 s (i+1)=sb1 s i++zhq s.sess[i]:=by rw[sb1,ze1 _ hi,sb1,List.append_assoc]
theorem ztP {s:St} {i:Nat} (hi:i<s.locks.length):sb2 s (i+1)=sb2 s i++zg2 s.locks[i]:=by rw[sb2,ze1 _ hi,sb2,←List.append_assoc]
theorem zoH {s:St} {i:Nat} (hi:i<s.memos.length):sb3 s (i+1)=sb3 s i++zbm s.memos[i]:=by rw[sb3,ze1 _ hi,sb3,←List.append_assoc]
theorem zoI {s:St}:sb1 s 0=ziT s:=by simp[sb1]
theorem zoJ {s:St}:sb2 s 0=sb1 s s.sess.length++[(s.locks.length:Int)]:=by simp[sb2]
theorem zoK {s:St}:sb3 s 0=sb2 s s.locks.length++[(s.memos.length:Int)]:=by simp[sb3]
theorem zfs {α:Type} (f:α→List Int) {k:Nat}:∀{l:List α},(∀x∈l,(f x).length≤k)→(l.flatMap f).length≤l.length*k
 |[],_=>by simp
 |x::l,h=>by
  rw[List.flatMap_cons,List.length_append,List.length_cons,Nat.add_mul]
  have:=h x (by simp)
  have:=zfs f (l:=l) fun y hy=>h y (by simp[hy])
  omega
theorem ziD (s:St):(ziT s).length=25:=by simp[ziT,zby]
theorem zmK (x:Sess):(zhq x).length=17:=by simp[zhq,zby]
theorem znz (k:Lk):(lk0 k).length=11+k.name.size:=by simp[lk0,zby,zcP];omega
theorem znA (s:St) (i:Nat):(sb1 s i).length≤25+i*17:=by
 rw[sb1,List.length_append,ziD]
 have:=zfs zhq (l:=s.sess.take i) (k:=17) fun x _=>by rw[zmK];exact Nat.le_refl _
 have h2:(s.sess.take i).length≤i:=by rw[List.length_take];omega
 have:=Nat.mul_le_mul_right 17 h2
 omega
theorem zft {s:St} (h:RightS s) {k:Lk} (hk:k∈s.locks):(zg2 k).length≤26∧k.name.size≤12∧(0≤k.holder∧k.holder≤255)∧(0≤k.token∧k.token<4611686018427387904)∧k.line.length≤3∧∀c∈k.line,0≤c∧c≤255:=by
 have hH:zbg=2305843009213693952:=rfl
 obtain⟨a,_,b,_⟩:=h.lok k hk
 obtain⟨h1,h2,h3⟩:=zcu.1 a
 obtain⟨l1,l2,_⟩:=zbG.1 b
 have hs:=zgO h1
 refine⟨?_,hs,by omega,by omega,l1,fun c hc=> ?_⟩
 ·rw[zg2,List.length_append,znz];omega
 ·have:=l2 c hc
  simp only[isClient,Bool.and_eq_true,decide_eq_true_eq]at this
  omega
def zla (s:St) (i:Nat) (k:Lk) (j:Nat):List Int:=(sb2 s i++lk0 k)++k.line.take j
theorem zr5 {s:St} {i:Nat} {k:Lk}:zla s i k 0=sb2 s i++lk0 k:=by simp[zla]
theorem zmL {s:St} {i:Nat} {k:Lk} {j:Nat} (hj:j<k.line.length):zla s i k (j+1)=zla s i k j++[k.line[j]]:=by
 rw[zla,List.take_succ_eq_append_getElem hj,←List.append_assoc,zla]
theorem zoL {s:St} {i:Nat} (hi:i<s.locks.length):zla s i s.locks[i] s.locks[i].line.length=sb2 s (i+1):=by
 rw[zla,List.take_length,ztP hi,zg2,List.append_assoc]
theorem znB {s:St} (h:RightS s) (i:Nat):(sb2 s i).length≤115+i*26:=by
 rw[sb2,List.length_append,List.length_append]
 have:=znA s s.sess.length
 have:=h.sl
 have:=zfs zg2 (l:=s.locks.take i) (k:=26) fun x hx=>(zft h (List.mem_of_mem_take hx)).1
 have h2:(s.locks.take i).length≤i:=by rw[List.length_take];omega
 have:=Nat.mul_le_mul_right 26 h2
 simp only[List.length_singleton]
 omega
theorem zhJ {s:St} (h:RightS s):s.memos.length≤8:=by
 have:=zgP (a:=0) (b:=8) (zou.1 h.ms) (fun x hx=>by
  obtain⟨m,hm,rfl⟩:=List.mem_map.1 hx
  exact(zcI (h.mok m hm)).1)
 rw[List.length_map]at this
 omega
theorem zr6 {s:St} (h:RightS s) (i:Nat):(sb3 s i).length≤250+i*104:=by
 rw[sb3,List.length_append,List.length_append]
 have:=znB h s.locks.length
 have:=h.ll
 have:=zfs zbm (l:=s.memos.take i) (k:=104) fun x hx=>ziE (h.mok x (List.mem_of_mem_take hx))
 have h2:(s.memos.take i).length≤i:=by rw[List.length_take];omega
 have:=Nat.mul_le_mul_right 104 h2
 simp only[List.length_singleton]
 omega
theorem zbe {l:List Int}:(zao l).take l.length=zao l:=List.take_of_length_le (by rw[za4];exact Nat.le_refl _)
set_option maxHeartbeats 4000000 in
theorem zjN (s:St) (h:RightS s):CallOK Tryz.prog 14 [.f (.agg s.lent)] (fun r o=>r=[.one (.own 1 (zb6 s).length (zao (zb6 s)) false),ri 0]∧o=[]):=by
 refine zac zak mixed (T:=Ty) (n:=137) Tryz.func14 (c:=Tryz.f14.body.getD .skip) rfl Tryz.results14 Tryz.ntmps14 Tryz.call14 ?_
 simp only[Tryz.f14,Option.getD]
 have hri:=zor s (zb0 h)
 rw[zgS.2 h]at hri
 have hH:zbg=2305843009213693952:=rfl
 have ht:=h.time
 have hn:=h.num
 have hk:=h.token
 have hsl:=h.sl
 have hll:=h.ll
 have n1:=zg1 s.time (by omega)
 have n2:=zg1 s.num (by omega)
 have n3:=zg1 s.token (by omega)
 have w1:IntKind.u8.wrap (s.sess.length:Int)=s.sess.length:=zho (by omega) (by omega)
 have hcc:CallOK Tryz.prog 30 [.f (al 4 [.sl 8 (zao (zcp s.time)), .sl 8 (zao (zcp s.num)), .sl 8 (zao (zcp s.token)), .sl 1 (zao [(s.sess.length:Int)])])] (fun x o=>x=[.one (.own 1 25 (zao (ziT s)) false)]∧o=[]):=by
  have hc:=zny [zcp s.time,zcp s.num,zcp s.token,[(s.sess.length:Int)]] (by simp) (fun l hl=>by
   simp only[List.mem_cons,List.not_mem_nil,or_false]at hl
   rcases hl with rfl|rfl|rfl|rfl<;>simp[zby])
  rw[show [zcp s.time,zcp s.num,zcp s.token,[(s.sess.length:Int)]].flatten=ziT s from by simp[ziT],ziD]at hc
  exact hc
 have t8:∀v:Int,(zao (zcp v)).take 8=zao (zcp v):=fun v=>List.take_of_length_le (by rw[zfk];decide)
 have t1:∀x:Int,toDs (sub 0 1 1 [C.d (uD x)])=some [uD x]:=fun _=>rfl
 repeat'(first|refine zq (I t8 (I t1 w1)) ?_|exact zd (I t8 (I t1 w1))|refine zc (hri) ?_|refine zg (hri) ?_|refine zc (n1) ?_|refine zg (n1) ?_|refine zc (n2) ?_|refine zg (n2) ?_|refine zc (n3) ?_|refine zg (n3) ?_|refine zc (hcc) ?_|refine zg (hcc) ?_|(refine zaa ?_ ?_<;>intro hb)|(refine And.intro ?_ ?_;exact zI)|(refine And.intro ?_ ?_<;>intro hg)|exact zC|fail)
 refine zam (τ:=Nat) (fun i=>⟨[dd, .one (.ptr ⟨1,0,1⟩ 0),dd,dd, .one (.own ⟨4,1,1⟩ 0 (sb1 s i).length),dd,dd,dd,dd,dd,dd,dd,dd,dd,dd,dd,dd,dd,dd,dd,dd,dd,dd,dd,dd,dd,dd,dd,dd,dd,dd,dd,dd,dd,dd,dd,dd,al s.sess.length (zaF s.sess),ai s.sess.length,ai i,dd,dd,dd,dd,dd,dd,dd,dd,dd,dd,dd,dd,dd,dd,dd,dd,dd,dd,dd,dd,dd,dd,dd,dd,dd,dd,dd,dd,dd,dd,dd,dd,dd,dd,dd,dd,dd,dd,dd,dd,dd,dd,dd,dd,dd,dd,dd,dd,dd,dd,dd,dd,dd,dd,dd,dd,dd,dd,dd,dd,dd,dd,dd,dd,dd,dd,dd,dd,dd,dd,dd,dd,dd,dd,dd,dd,dd,dd,dd,dd,dd,dd,dd,dd,dd,dd,dd,dd,dd,dd,dd,dd,dd,dd,dd,dd,dd],[(1,{next:=2,l:=[some {e:=1,var:=true,fz:=false,sz:=0,cells:=[di s.time,di s.num,di s.token, .lent s.sess.length (zaF s.sess), .lent s.locks.length (zah s.locks), .lent s.memos.length (zaz s.memos)]},none,none,none,none,none,none]}),(22,⟨2,[]⟩),(25,⟨2,[]⟩),(28,⟨2,[]⟩),(33,⟨2,[]⟩),(34,⟨2,[]⟩),(35,⟨2,[]⟩),(4,{next:=2,l:=[none,some {e:=1,var:=false,fz:=false,sz:=1,cells:=(zao (sb1 s i)).map C.d}]}),(6,⟨2,[]⟩),(47,⟨2,[]⟩),(50,⟨2,[]⟩),(53,⟨2,[]⟩),(54,⟨2,[]⟩),(55,⟨2,[]⟩)]⟩)
  (fun i=>i≤s.sess.length) (fun _=>()) (fun i=>s.sess.length - i) 0
  (Gh.canon [1,4] [6,47,50,53,54,55] [] (zk (I @zoI @ziD)) rfl (by rw[zoI];rfl)) (Nat.zero_le _) ?_
 intro i hi0 hF K hK
 refine zw ?_
 refine zaa (fun hlt=> ?_) (fun hge=> ?_)
 ·have hi:i<s.sess.length:=by simpa using hlt
  have hat:=zbv hi
  have hw:=zal hi (by omega)
  obtain⟨f1,f2,f3⟩:=zbU.1 (h.sok _ (List.getElem_mem hi)).1
  simp only[isClient,Bool.and_eq_true,decide_eq_true_eq]at f1
  have wc:IntKind.u8.wrap s.sess[i].client=s.sess[i].client:=zho (by omega) (by omega)
  have m1:=zg1 s.sess[i].num (by omega)
  have m2:=zg1 s.sess[i].renewed (by omega)
  have hb:=znA s i
  have hcc:CallOK Tryz.prog 30 [.f (al 4 [.sl (sb1 s i).length (zao (sb1 s i)), .sl 1 (zao [s.sess[i].client]), .sl 8 (zao (zcp s.sess[i].num)), .sl 8 (zao (zcp s.sess[i].renewed))])] (fun x o=>x=[.one (.own 1 (sb1 s (i+1)).length (zao (sb1 s (i+1))) false)]∧o=[]):=by
   have hc:=zny [sb1 s i,[s.sess[i].client],zcp s.sess[i].num,zcp s.sess[i].renewed] (by simp) (fun l hl=>by
    simp only[List.mem_cons,List.not_mem_nil,or_false]at hl
    rcases hl with rfl|rfl|rfl|rfl
    ·omega
    ·simp
    ·rw[zby];decide
    ·rw[zby];decide)
   rw[show [sb1 s i,[s.sess[i].client],zcp s.sess[i].num,zcp s.sess[i].renewed].flatten=sb1 s (i+1) from by rw[ztO hi];simp[zhq]]at hc
   exact hc
  repeat'(first|refine zq (I hat (I @zai (I t8 (I t1 (I wc (I @zbe zca)))))) ?_|exact zd (I hat (I @zai (I t8 (I t1 (I wc (I @zbe zca))))))|refine zc (m1) ?_|refine zg (m1) ?_|refine zc (m2) ?_|refine zg (m2) ?_|refine zc (hcc) ?_|refine zg (hcc) ?_|(refine zaa ?_ ?_<;>intro hb)|(refine And.intro ?_ ?_;exact zI)|(refine And.intro ?_ ?_<;>intro hg)|exact zC|fail)
  exact hK _ (i+1) (Gh.canon [1,4] [] [] (zk hw) rfl rfl) hi rfl (by omega)
 ·have hi:i=s.sess.length:=by
   have:¬(i:Int)<s.sess.length:=by simpa using hge
   omega
  subst hi
  clear hK
  have w2:IntKind.u8.wrap (s.locks.length:Int)=s.locks.length:=zho (by omega) (by omega)
  have hb:=znA s s.sess.length
  have hle:((sb1 s s.sess.length).length+1≤2^47)=True:=eq_true (by omega)
  repeat'(first|refine zq (I hle (I t1 (I w2 @zbe))) ?_|exact zd (I hle (I t1 (I w2 @zbe)))|(refine zaa ?_ ?_<;>intro hb)|(refine And.intro ?_ ?_;exact zI)|(refine And.intro ?_ ?_<;>intro hg)|exact zC|fail)
  refine zam (τ:=Nat) (fun i=>⟨[dd, .one (.ptr ⟨1,0,1⟩ 0),dd,dd, .one (.own ⟨4,1,1⟩ 0 (sb2 s i).length),dd,dd,dd,dd,dd,dd,dd,dd,dd,dd,dd,dd,dd,dd,dd,dd,dd,dd,dd,dd,dd,dd,dd,dd,dd,dd,dd,dd,dd,dd,dd,dd,dd,dd,dd,dd,dd,dd,dd,dd,dd,dd,dd,dd,dd,dd,dd,dd,dd,dd,dd,dd,dd,dd,dd,dd,dd,dd,dd,dd,al s.locks.length (zah s.locks),ai s.locks.length,ai i,dd,dd,dd,dd,dd,dd,dd,dd,dd,dd,dd,dd,dd,dd,dd,dd,dd,dd,dd,dd,dd,dd,dd,dd,dd,dd,dd,dd,dd,dd,dd,dd,dd,dd,dd,dd,dd,dd,dd,dd,dd,dd,dd,dd,dd,dd,dd,dd,dd,dd,dd,dd,dd,dd,dd,dd,dd,dd,dd,dd,dd,dd,dd,dd,dd,dd,dd,dd,dd],[(1,{next:=2,l:=[some {e:=1,var:=true,fz:=false,sz:=0,cells:=[di s.time,di s.num,di s.token, .lent s.sess.length (zaF s.sess), .lent s.locks.length (zah s.locks), .lent s.memos.length (zaz s.memos)]},none,none,none,none,none,none]}),(22,⟨2,[]⟩),(25,⟨2,[]⟩),(28,⟨2,[]⟩),(33,⟨2,[]⟩),(34,⟨2,[]⟩),(35,⟨2,[]⟩),(4,{next:=2,l:=[none,some {e:=1,var:=false,fz:=false,sz:=1,cells:=(zao (sb2 s i)).map C.d}]}),(6,⟨2,[]⟩),(47,⟨2,[]⟩),(50,⟨2,[]⟩),(53,⟨2,[]⟩),(54,⟨2,[]⟩),(55,⟨2,[]⟩),(62,⟨2,[]⟩),(8,⟨2,[]⟩),(9,⟨2,[]⟩),(74,⟨2,[]⟩),(82,⟨2,[]⟩),(85,⟨2,[]⟩),(90,⟨2,[]⟩),(91,⟨2,[]⟩),(92,⟨2,[]⟩),(103,⟨2,[]⟩),(104,⟨2,[]⟩)]⟩)
   (fun i=>i≤s.locks.length) (fun _=>()) (fun i=>s.locks.length - i) 0
   (Gh.canon [1,4] [8,9,74,82,85,90,91,92,103,104] [] (zk (I @zoJ (I @List.length_append.{0} @List.length_singleton.{0}))) rfl (by rw[zoJ];simp only[zao,List.map_append];rfl)) (Nat.zero_le _) ?_
  intro i hi0 hF K hK
  refine zw ?_
  refine zaa (fun hlt=> ?_) (fun hge=> ?_)
  ·have hi:i<s.locks.length:=by simpa using hlt
   have hat:=zaK hi
   have hw:=zal hi (by omega)
   obtain⟨q0,q1,q2,q3,q4,q5⟩:=zft h (List.getElem_mem hi)
   have wc:IntKind.u8.wrap s.locks[i].holder=s.locks[i].holder:=zho (by omega) (by omega)
   have wl:IntKind.u8.wrap (s.locks[i].line.length:Int)=s.locks[i].line.length:=zho (by omega) (by omega)
   have m1:=zju s.locks[i].name (by omega)
   have m2:=zg1 s.locks[i].token (by omega)
   have hb:=znB h i
   have tt:(zhp s.locks[i].name).take (1+s.locks[i].name.size)=zhp s.locks[i].name:=List.take_of_length_le (by rw[zeY];exact Nat.le_refl _)
   have hcc:CallOK Tryz.prog 30 [.f (al 5 [.sl (sb2 s i).length (zao (sb2 s i)), .sl (1+s.locks[i].name.size) (zhp s.locks[i].name), .sl 1 (zao [s.locks[i].holder]), .sl 8 (zao (zcp s.locks[i].token)), .sl 1 (zao [(s.locks[i].line.length:Int)])])] (fun x o=>x=[.one (.own 1 (zla s i s.locks[i] 0).length (zao (zla s i s.locks[i] 0)) false)]∧o=[]):=by
    have hc:=zny [sb2 s i,zeC s.locks[i].name,[s.locks[i].holder],zcp s.locks[i].token,[(s.locks[i].line.length:Int)]] (by simp) (fun l hl=>by
     simp only[List.mem_cons,List.not_mem_nil,or_false]at hl
     rcases hl with rfl|rfl|rfl|rfl|rfl
     ·omega
     ·rw[zcP];omega
     ·simp
     ·rw[zby];decide
     ·simp)
    rw[show [sb2 s i,zeC s.locks[i].name,[s.locks[i].holder],zcp s.locks[i].token,[(s.locks[i].line.length:Int)]].flatten=zla s i s.locks[i] 0 from by rw[zr5];simp[lk0]]at hc
    rw[←zcP,zr7]
    exact hc
   repeat'(first|refine zq (I hat (I @zad (I t8 (I t1 (I wc (I wl (I tt (I @zbe zca)))))))) ?_|exact zd (I hat (I @zad (I t8 (I t1 (I wc (I wl (I tt (I @zbe zca))))))))|refine zc (m1) ?_|refine zg (m1) ?_|refine zc (m2) ?_|refine zg (m2) ?_|refine zc (hcc) ?_|refine zg (hcc) ?_|(refine zaa ?_ ?_<;>intro hb)|(refine And.intro ?_ ?_;exact zI)|(refine And.intro ?_ ?_<;>intro hg)|exact zC|fail)
   refine zam (τ:=Nat) (fun j=>⟨[dd, .one (.ptr ⟨1,0,1⟩ 0),dd,dd, .one (.own ⟨4,1,1⟩ 0 (zla s i s.locks[i] j).length),dd,dd,dd,dd,dd,dd,dd,dd,dd,dd,dd,dd,dd,dd,dd,dd,dd,dd,dd,dd,dd,dd,dd,dd,dd,dd,dd,dd,dd,dd,dd,dd,dd,dd,dd,dd,dd,dd,dd,dd,dd,dd,dd,dd,dd,dd,dd,dd,dd,dd,dd,dd,dd,dd,dd,dd,dd,dd,dd,dd,al s.locks.length (zah s.locks),ai s.locks.length,ai i,dd,dd,dd,dd,dd,dd,dd,dd,dd,dd,dd,dd,dd,dd,dd,dd,dd,dd,dd,dd,dd,dd,dd,dd,dd,dd,asl s.locks[i].line.length (zaw s.locks[i].line),ai s.locks[i].line.length,ai j,dd,dd,dd,dd,dd,dd,dd,dd,dd,dd,dd,dd,dd,dd,dd,dd,dd,dd,dd,dd,dd,dd,dd,dd,dd,dd,dd,dd,dd,dd,dd,dd,dd,dd,dd,dd,dd,dd,dd,dd],[(1,{next:=2,l:=[some {e:=1,var:=true,fz:=false,sz:=0,cells:=[di s.time,di s.num,di s.token, .lent s.sess.length (zaF s.sess), .lent s.locks.length (zah s.locks), .lent s.memos.length (zaz s.memos)]},none,none,none,none,none,none]}),(22,⟨2,[]⟩),(25,⟨2,[]⟩),(28,⟨2,[]⟩),(33,⟨2,[]⟩),(34,⟨2,[]⟩),(35,⟨2,[]⟩),(4,{next:=2,l:=[none,some {e:=1,var:=false,fz:=false,sz:=1,cells:=(zao (zla s i s.locks[i] j)).map C.d}]}),(6,⟨2,[]⟩),(47,⟨2,[]⟩),(50,⟨2,[]⟩),(53,⟨2,[]⟩),(54,⟨2,[]⟩),(55,⟨2,[]⟩),(62,⟨2,[]⟩),(8,⟨2,[]⟩),(9,⟨2,[]⟩),(74,⟨2,[]⟩),(82,⟨2,[]⟩),(85,⟨2,[]⟩),(90,⟨2,[]⟩),(91,⟨2,[]⟩),(92,⟨2,[]⟩),(103,⟨2,[]⟩),(104,⟨2,[]⟩)]⟩)
    (fun j=>j≤s.locks[i].line.length) (fun _=>()) (fun j=>s.locks[i].line.length - j) 0
    (Gh.canon [1,4] [] [] zK rfl rfl) (Nat.zero_le _) ?_
   intro j hj0 hF2 K2 hK2
   refine zw ?_
   refine zaa (fun hlt2=> ?_) (fun hge2=> ?_)
   ·have hj:j<s.locks[i].line.length:=by simpa using hlt2
    have hat2:=zce hj
    have hw2:=zal hj (by omega)
    have q6:=q5 _ (List.getElem_mem hj)
    have wd:IntKind.u8.wrap s.locks[i].line[j]=s.locks[i].line[j]:=zho (by omega) (by omega)
    have hlj:(zla s i s.locks[i] j).length≤300:=by
     rw[zla,List.length_append,List.length_append,znz,List.length_take];omega
    have hle3:((zla s i s.locks[i] j).length+1≤2^47)=True:=eq_true (by omega)
    have hsl3:(zla s i s.locks[i] (j+1)).length=(zla s i s.locks[i] j).length+1:=by rw[zmL hj,List.length_append,List.length_singleton]
    repeat'(first|refine zq (I hat2 (I @zaf (I t1 (I wd (I hle3 (I @zbe zca)))))) ?_|exact zd (I hat2 (I @zaf (I t1 (I wd (I hle3 (I @zbe zca))))))|(refine zaa ?_ ?_<;>intro hb)|(refine And.intro ?_ ?_;exact zI)|(refine And.intro ?_ ?_<;>intro hg)|exact zC|fail)
    exact hK2 _ (j+1) (Gh.canon [1,4] [] [] (zk (I hw2 hsl3)) rfl (by rw[zmL hj];simp only[zao,List.map_append];rfl)) hj rfl (by omega)
   ·have hj:j=s.locks[i].line.length:=by
     have:¬(j:Int)<s.locks[i].line.length:=by simpa using hge2
     omega
    subst hj
    repeat'(first|refine zq0 ?_|exact zd0|(refine zaa ?_ ?_<;>intro hb)|(refine And.intro ?_ ?_;exact zI)|(refine And.intro ?_ ?_<;>intro hg)|exact zC|fail)
    exact hK _ (i+1) (Gh.canon [1,4] [] [] (by simp only[hw,zoL hi,zj3,zp6,zj4,zmX,zmY,zmZ,List.set_cons_zero,List.set_cons_succ,and_true,true_and,Int.natCast_zero,Int.cast_ofNat_Int,D.v.injEq,Value.int.injEq];try(repeat'(first|rfl|omega|with_reducible apply And.intro))) rfl (by rw[zoL hi];rfl)) hi rfl (by omega)
  ·have hi:i=s.locks.length:=by
    have:¬(i:Int)<s.locks.length:=by simpa using hge
    omega
   subst hi
   clear hK
   have hml:=zhJ h
   have w3:IntKind.u8.wrap (s.memos.length:Int)=s.memos.length:=zho (by omega) (by omega)
   have hb2:=znB h s.locks.length
   have hle2:((sb2 s s.locks.length).length+1≤2^47)=True:=eq_true (by omega)
   repeat'(first|refine zq (I hle2 (I t1 (I w3 @zbe))) ?_|exact zd (I hle2 (I t1 (I w3 @zbe)))|(refine zaa ?_ ?_<;>intro hb)|(refine And.intro ?_ ?_;exact zI)|(refine And.intro ?_ ?_<;>intro hg)|exact zC|fail)
   refine zam (τ:=Nat) (fun i=>⟨[dd,dd,dd,dd, .one (.own ⟨4,1,1⟩ 0 (sb3 s i).length),dd,dd,dd,dd,dd,dd,dd,dd,dd,dd,dd,dd,dd,dd,dd,dd,dd,dd,dd,dd,dd,dd,dd,dd,dd,dd,dd,dd,dd,dd,dd,dd,dd,dd,dd,dd,dd,dd,dd,dd,dd,dd,dd,dd,dd,dd,dd,dd,dd,dd,dd,dd,dd,dd,dd,dd,dd,dd,dd,dd,dd,dd,dd,dd,dd,dd,dd,dd,dd,dd,dd,dd,dd,dd,dd,dd,dd,dd,dd,dd,dd,dd,dd,dd,dd,dd,dd,dd,dd,dd,dd,dd,dd,dd,dd,dd,dd,dd,dd,dd,dd,dd,dd,dd,dd,dd,dd,dd,dd,dd,al s.memos.length (zaz s.memos),ai s.memos.length,ai i,dd,dd,dd,dd,dd,dd,dd,dd,dd,dd,dd,dd,dd,dd,dd,dd,dd,dd,dd],[(1,⟨2,[]⟩),(22,⟨2,[]⟩),(25,⟨2,[]⟩),(28,⟨2,[]⟩),(33,⟨2,[]⟩),(34,⟨2,[]⟩),(35,⟨2,[]⟩),(4,{next:=2,l:=[none,some {e:=1,var:=false,fz:=false,sz:=1,cells:=(zao (sb3 s i)).map C.d}]}),(6,⟨2,[]⟩),(47,⟨2,[]⟩),(50,⟨2,[]⟩),(53,⟨2,[]⟩),(54,⟨2,[]⟩),(55,⟨2,[]⟩),(62,⟨2,[]⟩),(8,⟨2,[]⟩),(9,⟨2,[]⟩),(74,⟨2,[]⟩),(82,⟨2,[]⟩),(85,⟨2,[]⟩),(90,⟨2,[]⟩),(91,⟨2,[]⟩),(92,⟨2,[]⟩),(103,⟨2,[]⟩),(104,⟨2,[]⟩),(112,⟨2,[]⟩),(14,⟨2,[]⟩),(15,⟨2,[]⟩),(129,⟨2,[]⟩),(134,⟨2,[]⟩)]⟩)
    (fun i=>i≤s.memos.length) (fun _=>()) (fun i=>s.memos.length - i) 0
    (Gh.canon [4] [14,15,129,134] [] (zk (I @zoK (I @List.length_append.{0} @List.length_singleton.{0}))) rfl (by rw[zoK];simp only[zao,List.map_append];rfl)) (Nat.zero_le _) ?_
   intro i hi0 hF K hK
   refine zw ?_
   refine zaa (fun hlt=> ?_) (fun hge=> ?_)
   ·have hi:i<s.memos.length:=by simpa using hlt
    have hat:=zbB hi
    have hw:=zal hi (by omega)
    have hma:=h.mok _ (List.getElem_mem hi)
    have hpa:=zmM s.memos[i] hma
    have hb3:=zr6 h i
    have hal:=ziE hma
    have hle3:((sb3 s i).length+(zbm s.memos[i]).length≤2^47)=True:=eq_true (by omega)
    have hsl3:(sb3 s (i+1)).length=(sb3 s i).length+(zbm s.memos[i]).length:=by rw[zoH hi,List.length_append]
    repeat'(first|refine zq (I hat (I @zan (I @zbe (I hle3 (I @za4 zca))))) ?_|exact zd (I hat (I @zan (I @zbe (I hle3 (I @za4 zca)))))|refine zc (hpa) ?_|refine zg (hpa) ?_|(refine zaa ?_ ?_<;>intro hb)|(refine And.intro ?_ ?_;exact zI)|(refine And.intro ?_ ?_<;>intro hg)|exact zC|fail)
    exact hK _ (i+1) (Gh.canon [4] [] [] (zk (I hw hsl3)) rfl (by rw[zoH hi];simp only[zao,List.map_append];rfl)) hi rfl (by omega)
   ·have hi:i=s.memos.length:=by
     have:¬(i:Int)<s.memos.length:=by simpa using hge
     omega
    subst hi
    repeat'(first|refine zq0 ?_|exact zd0|(refine zaa ?_ ?_<;>intro hb)|(refine And.intro ?_ ?_;exact zI)|(refine And.intro ?_ ?_<;>intro hg)|exact zC|fail)
    rfl
abbrev rds (bs:List Int) (p:Int):List RO:=rdr bs.length (zao bs) p
abbrev zp1 (e:Int):Value:=zfH 83 e
abbrev Rr (α:Type):=Except Int (α×Int)
def rOf {α:Type} (x:α×Int×Int):Rr α:=if x.2.2=0 then .ok (x.1,x.2.1)else .error x.2.2
theorem zfG {α:Type} {x:α×Int×Int} {y:α×Int} (h:rOf x= .ok y):x.2.2=0∧y=(x.1,x.2.1):=by
 unfold rOf at h
 split at h
 ·rename_i h0;cases h;exact⟨h0,rfl⟩
 ·cases h
theorem zkY {α:Type} {x:α×Int×Int} {e:Int} (h:rOf x= .error e):x.2.2=e∧e≠0:=by
 unfold rOf at h
 split at h
 ·cases h
 ·rename_i h0;cases h;exact⟨rfl,h0⟩
def ziR (bs:List Int) (p:Int):Rr Int:=rOf (zfw bs p)
def zdF (bs:List Int) (p:Int):Rr Int:=rOf (zbM bs p)
def zkZ (bs:List Int) (p:Int):Rr ByteArray:=rOf (zco bs p 12)
def ziS (bs:List Int) (p:Int):Rr Memo:=rOf (ze2 bs p)
def zcX (bs:List Int) (p most:Int):Rr Int:=match zdF bs p with
 | .error e=> .error e
 | .ok (n,q)=>if n>most then .error 4 else .ok (n,q)
theorem zdN:CallOK Tryz.prog 93 [.f (ai 0)] (fun r o=>r=[]∧o=[]):=by
 refine zac zak mixed (T:=Ty) (n:=7) Tryz.func93 (c:=Tryz.f93.body.getD .skip) rfl Tryz.results93 Tryz.ntmps93 Tryz.call93 ?_
 simp only[Tryz.f93,Option.getD]
 repeat'(first|refine zq0 ?_|exact zd0|(refine zaa ?_ ?_<;>intro hb)|(refine And.intro ?_ ?_;exact zI)|(refine And.intro ?_ ?_<;>intro hg)|exact zC|fail)
theorem zgz (e:Int) (h:e≠0):zcr Tryz.prog 93 [.f (ai e)] (zp1 e):=by
 refine zc9 zak mixed (T:=Ty) (n:=7) Tryz.func93 (c:=Tryz.f93.body.getD .skip) rfl Tryz.ntmps93 Tryz.call93 ?_
 simp only[Tryz.f93,Option.getD]
 have h1:(e !=0)=true:=by simpa using h
 repeat'(first|refine zq (I h1 @zaj) ?_|exact zd (I h1 @zaj)|(refine zaa ?_ ?_<;>intro hb)|(refine And.intro ?_ ?_;exact zI)|(refine And.intro ?_ ?_<;>intro hg)|exact zC|fail)
theorem zfq (bs:List Int) (p:Int) (h:BsOk bs) (hp:i64 p) {y:Int×Int} (hy:ziR bs p= .ok y):
  CallOK Tryz.prog 42 [.obj (rds bs p)] (fun r o=>r=[ri y.1]∧o=[rds bs y.2]):=by
 obtain⟨h0,rfl⟩:=zfG hy
 refine zac zak mixed (T:=Ty) (n:=26) Tryz.func42 (c:=Tryz.f42.body.getD .skip) rfl Tryz.results42 Tryz.ntmps42 Tryz.call42 ?_
 simp only[Tryz.f42,Option.getD]
 have h1:=ziH bs p h hp
 rw[h0]at h1
 repeat'(first|refine zq0 ?_|exact zd0|refine zc (h1) ?_|refine zg (h1) ?_|refine zc (zdN) ?_|refine zg (zdN) ?_|(refine zaa ?_ ?_<;>intro hb)|(refine And.intro ?_ ?_;exact zI)|(refine And.intro ?_ ?_<;>intro hg)|exact zC|fail)
theorem zec (bs:List Int) (p:Int) (h:BsOk bs) (hp:i64 p) {e:Int} (hy:ziR bs p= .error e):
  zcr Tryz.prog 42 [.obj (rds bs p)] (zp1 e):=by
 obtain⟨h0,h2⟩:=zkY hy
 refine zc9 zak mixed (T:=Ty) (n:=26) Tryz.func42 (c:=Tryz.f42.body.getD .skip) rfl Tryz.ntmps42 Tryz.call42 ?_
 simp only[Tryz.f42,Option.getD]
 have h1:=ziH bs p h hp
 rw[h0]at h1
 repeat'(first|refine zq0 ?_|exact zd0|refine zc (h1) ?_|refine zg (h1) ?_|(refine zaa ?_ ?_<;>intro hb)|(refine And.intro ?_ ?_;exact zI)|(refine And.intro ?_ ?_<;>intro hg)|exact zC|fail)
 refine zhv (zgz e h2) rfl ?_
 first|refine zs @zaj ?_|exact zt @zaj
theorem zgA (bs:List Int) (p:Int) (h:BsOk bs) (hp:i64 p) {y:Int×Int} (hy:zdF bs p= .ok y):
  CallOK Tryz.prog 85 [.obj (rds bs p)] (fun r o=>r=[ri y.1]∧o=[rds bs y.2]):=by
 obtain⟨h0,rfl⟩:=zfG hy
 refine zac zak mixed (T:=Ty) (n:=26) Tryz.func85 (c:=Tryz.f85.body.getD .skip) rfl Tryz.results85 Tryz.ntmps85 Tryz.call85 ?_
 simp only[Tryz.f85,Option.getD]
 have h1:=zfu bs p h hp
 rw[h0]at h1
 repeat'(first|refine zq0 ?_|exact zd0|refine zc (h1) ?_|refine zg (h1) ?_|refine zc (zdN) ?_|refine zg (zdN) ?_|(refine zaa ?_ ?_<;>intro hb)|(refine And.intro ?_ ?_;exact zI)|(refine And.intro ?_ ?_<;>intro hg)|exact zC|fail)
theorem zgB (bs:List Int) (p:Int) (h:BsOk bs) (hp:i64 p) {e:Int} (hy:zdF bs p= .error e):
  zcr Tryz.prog 85 [.obj (rds bs p)] (zp1 e):=by
 obtain⟨h0,h2⟩:=zkY hy
 refine zc9 zak mixed (T:=Ty) (n:=26) Tryz.func85 (c:=Tryz.f85.body.getD .skip) rfl Tryz.ntmps85 Tryz.call85 ?_
 simp only[Tryz.f85,Option.getD]
 have h1:=zfu bs p h hp
 rw[h0]at h1
 repeat'(first|refine zq0 ?_|exact zd0|refine zc (h1) ?_|refine zg (h1) ?_|(refine zaa ?_ ?_<;>intro hb)|(refine And.intro ?_ ?_;exact zI)|(refine And.intro ?_ ?_<;>intro hg)|exact zC|fail)
 refine zhv (zgz e h2) rfl ?_
 first|refine zs @zaj ?_|exact zt @zaj
theorem zr3 (bs:List Int) (p:Int) (h:BsOk bs) (hp:i64 p) {y:ByteArray×Int} (hy:zkZ bs p= .ok y):
  CallOK Tryz.prog 136 [.obj (rds bs p)] (fun r o=>r=[.one (.d (sD y.1))]∧o=[rds bs y.2]):=by
 obtain⟨h0,rfl⟩:=zfG hy
 refine zac zak mixed (T:=Ty) (n:=26) Tryz.func136 (c:=Tryz.f136.body.getD .skip) rfl Tryz.results136 Tryz.ntmps136 Tryz.call136 ?_
 simp only[Tryz.f136,Option.getD]
 have h1:=zk2 bs p 12 h hp
 rw[h0]at h1
 repeat'(first|refine zq0 ?_|exact zd0|refine zc (h1) ?_|refine zg (h1) ?_|refine zc (zdN) ?_|refine zg (zdN) ?_|(refine zaa ?_ ?_<;>intro hb)|(refine And.intro ?_ ?_;exact zI)|(refine And.intro ?_ ?_<;>intro hg)|exact zC|fail)
theorem zpI (bs:List Int) (p:Int) (h:BsOk bs) (hp:i64 p) {e:Int} (hy:zkZ bs p= .error e):
  zcr Tryz.prog 136 [.obj (rds bs p)] (zp1 e):=by
 obtain⟨h0,h2⟩:=zkY hy
 refine zc9 zak mixed (T:=Ty) (n:=26) Tryz.func136 (c:=Tryz.f136.body.getD .skip) rfl Tryz.ntmps136 Tryz.call136 ?_
 simp only[Tryz.f136,Option.getD]
 have h1:=zk2 bs p 12 h hp
 rw[h0]at h1
 repeat'(first|refine zq0 ?_|exact zd0|refine zc (h1) ?_|refine zg (h1) ?_|(refine zaa ?_ ?_<;>intro hb)|(refine And.intro ?_ ?_;exact zI)|(refine And.intro ?_ ?_<;>intro hg)|exact zC|fail)
 refine zhv (zgz e h2) rfl ?_
 first|refine zs @zaj ?_|exact zt @zaj
theorem zr4 (bs:List Int) (p:Int) (h:BsOk bs) (hp:i64 p) {y:Memo×Int} (hy:ziS bs p= .ok y):
  CallOK Tryz.prog 87 [.obj (rds bs p)] (fun r o=>r=[zuL y.1]∧o=[rds bs y.2]):=by
 obtain⟨h0,rfl⟩:=zfG hy
 refine zac zak mixed (T:=Ty) (n:=32) Tryz.func87 (c:=Tryz.f87.body.getD .skip) rfl Tryz.results87 Tryz.ntmps87 Tryz.call87 ?_
 simp only[Tryz.f87,Option.getD]
 have h1:=zhi bs p h hp
 rw[h0]at h1
 repeat'(first|refine zq0 ?_|exact zd0|refine zc (h1) ?_|refine zg (h1) ?_|refine zc (zdN) ?_|refine zg (zdN) ?_|(refine zaa ?_ ?_<;>intro hb)|(refine And.intro ?_ ?_;exact zI)|(refine And.intro ?_ ?_<;>intro hg)|exact zC|fail)
 rfl
theorem zpJ (bs:List Int) (p:Int) (h:BsOk bs) (hp:i64 p) {e:Int} (hy:ziS bs p= .error e):
  zcr Tryz.prog 87 [.obj (rds bs p)] (zp1 e):=by
 obtain⟨h0,h2⟩:=zkY hy
 refine zc9 zak mixed (T:=Ty) (n:=32) Tryz.func87 (c:=Tryz.f87.body.getD .skip) rfl Tryz.ntmps87 Tryz.call87 ?_
 simp only[Tryz.f87,Option.getD]
 have h1:=zhi bs p h hp
 rw[h0]at h1
 repeat'(first|refine zq0 ?_|exact zd0|refine zc (h1) ?_|refine zg (h1) ?_|(refine zaa ?_ ?_<;>intro hb)|(refine And.intro ?_ ?_;exact zI)|(refine And.intro ?_ ?_<;>intro hg)|exact zC|fail)
 refine zhv (zgz e h2) rfl ?_
 first|refine zs @zaj ?_|exact zt @zaj
theorem zmJ {bs:List Int} {p most:Int} {y:Int×Int} (hy:zcX bs p most= .ok y):zdF bs p= .ok y∧y.1≤most:=by
 unfold zcX at hy
 cases hz:zdF bs p with
 |error e=>rw[hz]at hy;cases hy
 |ok z=>
  rw[hz]at hy
  simp only at hy
  split at hy
  ·cases hy
  ·rename_i hgt
   cases hy
   exact⟨rfl,by simp only;omega⟩
theorem zpK {bs:List Int} {p most:Int} {e:Int} (hy:zcX bs p most= .error e):zdF bs p= .error e∨∃z,zdF bs p= .ok z∧z.1>most∧e=4:=by
 unfold zcX at hy
 cases hz:zdF bs p with
 |error e=>rw[hz]at hy;cases hy;exact .inl rfl
 |ok z=>
  rw[hz]at hy
  simp only at hy
  split at hy
  ·rename_i hgt;cases hy;exact .inr ⟨z,rfl,hgt,rfl⟩
  ·cases hy
theorem zfr (bs:List Int) (p most:Int) (h:BsOk bs) (hp:i64 p) {y:Int×Int} (hy:zcX bs p most= .ok y):
  CallOK Tryz.prog 84 [.obj (rds bs p), .f (ai most)] (fun r o=>r=[ri y.1]∧o=[rds bs y.2]):=by
 obtain⟨hz,hle⟩:=zmJ hy
 have h1:=zgA bs p h hp hz
 have h2:decide (y.1>most)=false:=by simpa using hle
 refine zac zak mixed (T:=Ty) (n:=14) Tryz.func84 (c:=Tryz.f84.body.getD .skip) rfl Tryz.results84 Tryz.ntmps84 Tryz.call84 ?_
 simp only[Tryz.f84,Option.getD]
 repeat'(first|refine zq0 ?_|exact zd0|(refine zaa ?_ ?_<;>intro hb)|(refine And.intro ?_ ?_;exact zI)|(refine And.intro ?_ ?_<;>intro hg)|exact zC|fail)
 refine zj (h1) ?_
 repeat'(first|refine zq h2 ?_|exact zd h2|(refine zaa ?_ ?_<;>intro hb)|(refine And.intro ?_ ?_;exact zI)|(refine And.intro ?_ ?_<;>intro hg)|exact zC|fail)
theorem zeu (bs:List Int) (p most:Int) (h:BsOk bs) (hp:i64 p) {e:Int} (hy:zcX bs p most= .error e):
  zcr Tryz.prog 84 [.obj (rds bs p), .f (ai most)] (zp1 e):=by
 refine zc9 zak mixed (T:=Ty) (n:=14) Tryz.func84 (c:=Tryz.f84.body.getD .skip) rfl Tryz.ntmps84 Tryz.call84 ?_
 simp only[Tryz.f84,Option.getD]
 rcases zpK hy with hz|⟨z,hz,hgt,rfl⟩
 ·have h1:=zgB bs p h hp hz
  repeat'(first|refine zq0 ?_|exact zd0|(refine zaa ?_ ?_<;>intro hb)|(refine And.intro ?_ ?_;exact zI)|(refine And.intro ?_ ?_<;>intro hg)|exact zC|fail)
  refine zp (rds bs p) (h1) ?_
  first|refine zs @zaj ?_|exact zt @zaj
 ·have h1:=zgA bs p h hp hz
  have h2:decide (z.1>most)=true:=by simpa using hgt
  repeat'(first|refine zq0 ?_|exact zd0|(refine zaa ?_ ?_<;>intro hb)|(refine And.intro ?_ ?_;exact zI)|(refine And.intro ?_ ?_<;>intro hg)|exact zC|fail)
  refine zj (h1) ?_
  repeat'(first|refine zq (I h2 @zaj) ?_|exact zd (I h2 @zaj)|(refine zaa ?_ ?_<;>intro hb)|(refine And.intro ?_ ?_;exact zI)|(refine And.intro ?_ ?_<;>intro hg)|exact zC|fail)
def zgZ (bs:List Int):Nat→Int→List Int→Rr (List Int)
 |0,p,acc=> .ok (acc,p)
 |n+1,p,acc=>match zdF bs p with
  | .error e=> .error e
  | .ok x=>zgZ bs n x.2 (acc++[x.1])
def zg0 (bs:List Int) (p:Int):Rr Lk:=match zkZ bs p with
 | .error e=> .error e
 | .ok nm=>match zdF bs nm.2 with
  | .error e=> .error e
  | .ok hd=>match ziR bs hd.2 with
   | .error e=> .error e
   | .ok tk=>match zcX bs tk.2 3 with
    | .error e=> .error e
    | .ok n=>match zgZ bs n.1.toNat n.2 []with
     | .error e=> .error e
     | .ok l=> .ok (⟨nm.1,hd.1,tk.1,l.1⟩,l.2)
theorem zcc {bs:List Int} {p:Int} {y:Int×Int} (h:BsOk bs) (hy:ziR bs p= .ok y):i64 y.2:=by
 obtain⟨_,rfl⟩:=zfG hy
 exact zeA h.l ze3
theorem zc6 {bs:List Int} {p:Int} {y:Int×Int} (h:BsOk bs) (hy:zdF bs p= .ok y):i64 y.2:=by
 obtain⟨_,rfl⟩:=zfG hy
 exact zeA h.l zdp
theorem zr1 {bs:List Int} {p:Int} {y:Int×Int} (h:BsOk bs) (hy:zdF bs p= .ok y):0≤y.1∧y.1<256:=by
 obtain⟨_,rfl⟩:=zfG hy
 exact ziG h
theorem zjL {bs:List Int} {p:Int} {y:ByteArray×Int} (h:BsOk bs) (hy:zkZ bs p= .ok y):i64 y.2:=by
 obtain⟨_,rfl⟩:=zfG hy
 exact zeA h.l (zjT h)
theorem zdD {bs:List Int} {p m:Int} {y:Int×Int} (h:BsOk bs) (hy:zcX bs p m= .ok y):i64 y.2∧0≤y.1∧y.1≤m:=by
 obtain⟨h1,h2⟩:=zmJ hy
 exact⟨zc6 h h1,(zr1 h h1).1,h2⟩
abbrev zwU (bs:List Int) (q:Int) (nx:Nat):Nat×RS:=(0,{next:=nx,l:=[some {e:=0,var:=true,fz:=false,bor:=true,sz:=0,cells:=[.d (.sl bs.length (zao bs)),di q]},none,none]})
abbrev zzf (k:Lk):RF:= .agg [.d (sD k.name), .d (iD k.holder), .d (iD k.token), .own 1 k.line.length (zaw k.line) false]
set_option maxHeartbeats 2000000 in
theorem ziB (bs:List Int) (p:Int) (h:BsOk bs) (hp:i64 p) (b:Bool) (y:Lk×Int) (e:Int) (hy:zwS b y e (zg0 bs p)):
  (b=true→CallOK Tryz.prog 86 [.obj (rds bs p)] (fun r o=>r=[zzf y.1]∧o=[rds bs y.2]))∧(b=false→zcr Tryz.prog 86 [.obj (rds bs p)] (zp1 e)):=by
 refine znX zak mixed (T:=Ty) (n:=26) Tryz.func86 (c:=Tryz.f86.body.getD .skip) rfl Tryz.results86 Tryz.ntmps86 Tryz.call86 ?_
 simp only[Tryz.f86,Option.getD]
 unfold zg0 at hy
 cases e1:zkZ bs p with
 |error x=>
  rw[e1]at hy
  obtain⟨rfl,rfl⟩:=zbC hy
  have h1:=zpI bs p h hp e1
  repeat'(first|refine zq0 ?_|exact zd0|(refine zaa ?_ ?_<;>intro hb)|(refine And.intro ?_ ?_;exact zI)|(refine And.intro ?_ ?_<;>intro hg)|exact zC|fail)
  refine zp (rds bs p) (h1) ?_
  first|refine zs (I @zaW @zaj) ?_|exact zt (I @zaW @zaj)
 |ok nm=>
 have h1:=zr3 bs p h hp e1
 rw[e1]at hy
 simp only at hy
 repeat'(first|refine zq0 ?_|exact zd0|(refine zaa ?_ ?_<;>intro hb)|(refine And.intro ?_ ?_;exact zI)|(refine And.intro ?_ ?_<;>intro hg)|exact zC|fail)
 refine zj (h1) ?_
 cases e2:zdF bs nm.2 with
 |error x=>
  rw[e2]at hy
  obtain⟨rfl,rfl⟩:=zbC hy
  have h2:=zgB bs _ h (zjL h e1) e2
  repeat'(first|refine zq0 ?_|exact zd0|(refine zaa ?_ ?_<;>intro hb)|(refine And.intro ?_ ?_;exact zI)|(refine And.intro ?_ ?_<;>intro hg)|exact zC|fail)
  refine zp (rds bs p) (h2) ?_
  first|refine zs (I @zaW @zaj) ?_|exact zt (I @zaW @zaj)
 |ok hd=>
 have h2:=zgA bs _ h (zjL h e1) e2
 rw[e2]at hy
 simp only at hy
 repeat'(first|refine zq0 ?_|exact zd0|(refine zaa ?_ ?_<;>intro hb)|(refine And.intro ?_ ?_;exact zI)|(refine And.intro ?_ ?_<;>intro hg)|exact zC|fail)
 refine zj (h2) ?_
 cases e3:ziR bs hd.2 with
 |error x=>
  rw[e3]at hy
  obtain⟨rfl,rfl⟩:=zbC hy
  have h3:=zec bs _ h (zc6 h e2) e3
  repeat'(first|refine zq0 ?_|exact zd0|(refine zaa ?_ ?_<;>intro hb)|(refine And.intro ?_ ?_;exact zI)|(refine And.intro ?_ ?_<;>intro hg)|exact zC|fail)
  refine zp (rds bs p) (h3) ?_
  first|refine zs (I @zaW @zaj) ?_|exact zt (I @zaW @zaj)
 |ok tk=>
 have h3:=zfq bs _ h (zc6 h e2) e3
 rw[e3]at hy
 simp only at hy
 repeat'(first|refine zq0 ?_|exact zd0|(refine zaa ?_ ?_<;>intro hb)|(refine And.intro ?_ ?_;exact zI)|(refine And.intro ?_ ?_<;>intro hg)|exact zC|fail)
 refine zj (h3) ?_
 cases e4:zcX bs tk.2 3 with
 |error x=>
  rw[e4]at hy
  obtain⟨rfl,rfl⟩:=zbC hy
  have h4:=zeu bs _ 3 h (zcc h e3) e4
  repeat'(first|refine zq0 ?_|exact zd0|(refine zaa ?_ ?_<;>intro hb)|(refine And.intro ?_ ?_;exact zI)|(refine And.intro ?_ ?_<;>intro hg)|exact zC|fail)
  refine zp (rds bs p) (h4) ?_
  first|refine zs (I @zaW @zaj) ?_|exact zt (I @zaW @zaj)
 |ok n=>
 have h4:=zfr bs _ 3 h (zcc h e3) e4
 obtain⟨hn1,hn2,hn3⟩:=zdD h e4
 rw[e4]at hy
 simp only at hy
 repeat'(first|refine zq0 ?_|exact zd0|(refine zaa ?_ ?_<;>intro hb)|(refine And.intro ?_ ?_;exact zI)|(refine And.intro ?_ ?_<;>intro hg)|exact zC|fail)
 refine zj (h4) ?_
 repeat'(first|refine zq0 ?_|exact zd0|(refine zaa ?_ ?_<;>intro hb)|(refine And.intro ?_ ?_;exact zI)|(refine And.intro ?_ ?_<;>intro hg)|exact zC|fail)
 refine zam (τ:=Nat×Int×List Int×Nat) (fun t=>⟨[.one (.ptr ⟨0,0,0⟩ 0),dd, .one (.ptr ⟨2,0,1⟩ 0), .one (.ptr ⟨3,0,1⟩ 0),dd,dd,dd,dd,dd,dd,dd,dd,dd,dd,ai n.1,ai t.1,dd,dd,dd,dd,dd,dd,dd,dd,dd,dd],[zwU bs t.2.1 t.2.2.2,(2,{next:=2,l:=[some {e:=1,var:=true,fz:=false,sz:=0,cells:=[dS .empty,di 0,di 0, .d (.v (.slice none 0 0))]},none,none,none,none]}),(3,{next:=2,l:=[some {e:=1,var:=true,fz:=false,sz:=0,cells:=[dS nm.1,di hd.1,di tk.1, .own ⟨3,4,1⟩ 0 t.2.2.1.length]},none,none,none,some {e:=1,var:=false,fz:=false,sz:=1,cells:=(zaw t.2.2.1).map C.d}]}),(21,⟨2,[]⟩),(22,⟨2,[]⟩)]⟩)
  (fun t=>t.1≤n.1.toNat∧i64 t.2.1∧t.2.2.1.length=t.1) (fun t=>zgZ bs (n.1.toNat - t.1) t.2.1 t.2.2.1) (fun t=>n.1.toNat - t.1) (0,n.2,[],5)
  ((Gh.nilF 3 3 1 rfl).trans (Gh.canon [0,2,3] [21,22] [0] zK rfl rfl)) ⟨Nat.zero_le _,hn1,rfl⟩ ?_
 intro⟨i,q,acc,nx⟩ ⟨hi0,hq,ha⟩ hF K hK
 simp only[Nat.sub_zero]at hi0 hq ha hF hK⊢
 rw[←hF]at hy
 refine zw ?_
 refine zaa (fun hlt=> ?_) (fun hge=> ?_)
 ·have hi:i<n.1.toNat:=by simp at hlt;omega
  have hw:=zal hi (by omega)
  have hst:n.1.toNat - i=(n.1.toNat - (i+1))+1:=by omega
  rw[hst,zgZ]at hy
  cases hx:zdF bs q with
  |error x=>
   rw[hx]at hy
   obtain⟨rfl,rfl⟩:=zbC hy
   have hr:=zgB bs q h hq hx
   first|refine zs0 ?_|exact zt0
   refine zej _ _ (zka zak mixed 3 [false,false,false,true,true,true,true,true] (zp1 e) (fun g=> ?_) ?_)
   ·first|refine zs (I @zaW @zaj) ?_|exact zt (I @zaW @zaj)
   ·simp only[zm0,zm1,zhS]
    repeat'(first|refine zq0 ?_|exact zd0|(refine zaa ?_ ?_<;>intro hb)|(refine And.intro ?_ ?_;exact zI)|(refine And.intro ?_ ?_<;>intro hg)|exact zC|fail)
    exact zn (rds bs q) (hr)
  |ok x=>
   have hF2:zgZ bs (n.1.toNat - (i+1)) x.2 (acc++[x.1])=zgZ bs (n.1.toNat - i) q acc:=by rw[hst,zgZ,hx]
   have hr:=zgA bs q h hq hx
   repeat'(first|refine zq0 ?_|exact zd0|(refine zaa ?_ ?_<;>intro hb)|(refine And.intro ?_ ?_;exact zI)|(refine And.intro ?_ ?_<;>intro hg)|exact zC|fail)
   refine zj (hr) ?_
   repeat'(first|refine zq @zaf ?_|exact zd @zaf|(refine zaa ?_ ?_<;>intro hb)|(refine And.intro ?_ ?_;exact zI)|(refine And.intro ?_ ?_<;>intro hg)|exact zC|fail)
   refine hK _ (i+1,x.2,acc++[x.1],nx+1) (Gh.canon [0,2,3] [] [0] (zk (I hw (I @List.length_append.{0} @List.length_singleton.{0}))) rfl (by simp only[List.length_append,List.length_singleton];rw[ze6];rfl)) ⟨hi,zc6 h hx,by simp only[List.length_append,List.length_singleton];omega⟩ hF2 (by simp only;omega)
 ·have hi:i=n.1.toNat:=by
   have:¬(i:Int)<n.1:=by simpa using hge
   omega
  rw[hi,Nat.sub_self,zgZ]at hy
  obtain⟨rfl,rfl⟩:=zqk hy
  repeat'(first|refine zq @zkb ?_|exact zd @zkb|(refine zaa ?_ ?_<;>intro hb)|(refine And.intro ?_ ?_;exact zI)|(refine And.intro ?_ ?_<;>intro hg)|exact zC|fail)
theorem zr2 (bs:List Int) (p:Int) (h:BsOk bs) (hp:i64 p) {y:Lk×Int} (hy:zg0 bs p= .ok y):CallOK Tryz.prog 86 [.obj (rds bs p)] (fun r o=>r=[zzf y.1]∧o=[rds bs y.2]):=
 (ziB bs p h hp true y 0 hy).1 rfl
theorem zpG (bs:List Int) (p:Int) (h:BsOk bs) (hp:i64 p) {e:Int} (hy:zg0 bs p= .error e):zcr Tryz.prog 86 [.obj (rds bs p)] (zp1 e):=
 (ziB bs p h hp false (⟨.empty,0,0,[]⟩,0) e hy).2 rfl
theorem ziC {bs:List Int} (h:BsOk bs):∀{n:Nat} {p:Int} {acc:List Int} {y:List Int×Int},i64 p→zgZ bs n p acc= .ok y→i64 y.2∧y.1.length=acc.length+n
 |0,p,acc,y,hp,hy=>by cases hy;exact⟨hp,rfl⟩
 |n+1,p,acc,y,hp,hy=>by
  rw[zgZ]at hy
  cases hx:zdF bs p with
  |error x=>rw[hx]at hy;cases hy
  |ok x=>
   rw[hx]at hy
   have:=ziC h (zc6 h hx) hy
   rw[List.length_append,List.length_singleton]at this
   exact⟨this.1,by omega⟩
theorem zpH {bs:List Int} {p:Int} {y:ByteArray×Int} (hy:zkZ bs p= .ok y):y.1.size≤bs.length:=by
 obtain⟨_,rfl⟩:=zfG hy
 exact zjS
theorem znx {bs:List Int} (h:BsOk bs) {p:Int} {y:Lk×Int} (hy:zg0 bs p= .ok y):i64 y.2∧y.1.line.length≤3∧y.1.name.size≤bs.length:=by
 unfold zg0 at hy
 cases e1:zkZ bs p with
 |error x=>rw[e1]at hy;cases hy
 |ok nm=>
 rw[e1]at hy;simp only at hy
 cases e2:zdF bs nm.2 with
 |error x=>rw[e2]at hy;cases hy
 |ok hd=>
 rw[e2]at hy;simp only at hy
 cases e3:ziR bs hd.2 with
 |error x=>rw[e3]at hy;cases hy
 |ok tk=>
 rw[e3]at hy;simp only at hy
 cases e4:zcX bs tk.2 3 with
 |error x=>rw[e4]at hy;cases hy
 |ok n=>
 rw[e4]at hy;simp only at hy
 obtain⟨hn1,hn2,hn3⟩:=zdD h e4
 cases e5:zgZ bs n.1.toNat n.2 []with
 |error x=>rw[e5]at hy;cases hy
 |ok l=>
 rw[e5]at hy;simp only at hy
 obtain⟨f1,f2⟩:=ziC h hn1 e5
 cases hy
 simp only[List.length_nil]at f2
 exact⟨f1,by simp only;omega,zpH e1⟩
end Go.Proofs.YtbpmcjeeeiffhaaGreat
