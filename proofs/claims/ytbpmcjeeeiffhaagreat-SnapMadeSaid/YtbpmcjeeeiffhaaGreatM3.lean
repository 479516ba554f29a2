import Derived.Test.YtbpmcjeeeiffhaaGreatK8
import Derived.Test.YtbpmcjeeeiffhaaGreatL7
namespace Go.Proofs.YtbpmcjeeeiffhaaGreat
open Go.Pk
set_option maxRecDepth 100000
set_option linter.unusedSimpArgs false
set_option linter.unusedVariables false
theorem zpU {l:List Grant} {i:Nat} (hi:i<l.length):zbJ (l.take (i+1))=zbJ (l.take i)++(zeC l[i].name++za8 l[i].token):=by
 rw[List.take_succ_eq_append_getElem hi,zbJ,List.flatMap_append];simp[zbJ,zkf]
def zlj (r:Reply):List Int:=[r.code]++(za8 r.session++[r.ahead,(r.held.length:Int)])
def zeG (r:Reply) (i:Nat):List Int:=zlj r++zbJ (r.held.take i)
theorem zhh {r:Reply} {i:Nat} (hi:i<r.held.length):zeG r (i+1)=(zeG r i++zeC r.held[i].name)++za8 r.held[i].token:=by
 rw[zeG,zpU hi,zeG];simp
theorem zhi {r:Reply}:zeG r 0=zlj r:=by simp[zeG,zbJ]
theorem zoN {r:Reply}:zeG r r.held.length=zby r:=by simp[zeG,zlj,zby]
theorem zfw (r:Reply):(zlj r).length=11:=by simp[zlj,zaR]
set_option maxHeartbeats 1000000 in
theorem znJ (r:Reply) (h:zbI r=true):CallOK Tryz.prog 77 [.f (.agg r.lent)] (fun x o=>x=[.one (.own 1 (zby r).length (zad (zby r)) false),ri 0]∧o=[]):=by
 obtain⟨f1,f2,f3,f4,f5⟩:=zb6 h
 have hgr:=zcb h
 refine zac zao mixed (T:=Ty) (n:=63) Tryz.func77 (c:=Tryz.f77.body.getD .skip) rfl Tryz.results77 Tryz.ntmps77 Tryz.call77 ?_
 simp only[Tryz.f77,Option.getD]
 have hmy:=zeN r ⟨by omega,fun g hg=>by have:=(hgr g hg).1;omega⟩
 rw[h]at hmy
 have hpn:=zgV r.session (by omega)
 have w1:IntKind.u8.wrap r.code=r.code:=zdt (by omega) (by omega)
 have w2:IntKind.u8.wrap r.ahead=r.ahead:=zdt (by omega) (by omega)
 have w3:IntKind.u8.wrap (r.held.length:Int)=r.held.length:=zdt (by omega) (by omega)
 have hcc:CallOK Tryz.prog 30 [.f (al 3 [.sl 1 (zad [r.code]), .sl 8 (zad (za8 r.session)), .sl 2 (zad [r.ahead,(r.held.length:Int)])])] (fun x o=>x=[.one (.own 1 11 (zad (zlj r)) false)]∧o=[]):=by
  have hc:=ziM [zad [r.code],zad (za8 r.session),zad [r.ahead,(r.held.length:Int)]] (by simp) (fun l hl=>by
   simp only[List.mem_cons,List.not_mem_nil,or_false]at hl
   rcases hl with rfl|rfl|rfl
   ·simp
   ·rw[zcF];decide
   ·simp)
  rw[show [zad [r.code],zad (za8 r.session),zad [r.ahead,(r.held.length:Int)]].flatten=zad (zlj r) from by simp[zlj,zad]]at hc
  rw[show(zad (zlj r)).length=11 from by rw[List.length_map,zfw]]at hc
  exact hc
 have t1:(zad (za8 r.session)).take 8=zad (za8 r.session):=List.take_of_length_le (by rw[zcF];decide)
 have t2:toDs (sub 0 2 1 [C.d (uD r.ahead),C.d (uD (r.held.length:Int))])=some [uD r.ahead,uD (r.held.length:Int)]:=rfl
 repeat'(first|refine zq (I t1 (I t2 (I w1 (I w2 w3)))) ?_|exact zd (I t1 (I t2 (I w1 (I w2 w3))))|refine zc (hmy) ?_|refine zg (hmy) ?_|refine zc (hpn) ?_|refine zg (hpn) ?_|refine zc (hcc) ?_|refine zg (hcc) ?_|(refine zaa ?_ ?_<;>intro hb)|(refine And.intro ?_ ?_;exact zI)|(refine And.intro ?_ ?_<;>intro hg)|exact zC|fail)
 refine zai (τ:=Nat) (fun i=>⟨[dd, .one (.ptr ⟨1,0,1⟩ 0),dd,dd,dd,dd, .one (.own ⟨6,1,1⟩ 0 (zeG r i).length),dd,dd,dd,dd,dd,dd,dd,dd,dd,dd,dd,dd,dd,dd,dd,dd,dd,dd,dd,dd,dd,dd,dd,dd,dd,dd,dd,dd,dd,dd,dd,al r.held.length (zaL r.held),ai r.held.length,ai i,dd,dd,dd,dd,dd,dd,dd,dd,dd,dd,dd,dd,dd,dd,dd,dd,dd,dd,dd,dd,dd,dd],[(1,{next:=2,l:=[some {e:=1,var:=true,fz:=false,sz:=0,cells:=[di r.code,di r.session,di r.ahead, .lent r.held.length (zaL r.held)]},none,none,none,none]}),(19,⟨2,[]⟩),(4,⟨2,[]⟩),(25,⟨2,[]⟩),(34,⟨2,[]⟩),(35,⟨2,[]⟩),(36,⟨2,[]⟩),(6,{next:=2,l:=[none,some {e:=1,var:=false,fz:=false,sz:=1,cells:=(zad (zeG r i)).map C.d}]}),(8,⟨2,[]⟩),(9,⟨2,[]⟩),(11,⟨2,[]⟩),(47,⟨2,[]⟩),(53,⟨2,[]⟩),(58,⟨2,[]⟩),(60,⟨2,[]⟩)]⟩)
  (fun i=>i≤r.held.length) (fun _=>()) (fun i=>r.held.length - i) 0
  (Gh.canon [1,6] [8,9,11,47,53,58,60] [] (zk (I @zhi @zfw)) rfl (by rw[zhi];rfl)) (Nat.zero_le _) ?_
 intro i hi0 hF K hK
 refine zw ?_
 refine zaa (fun hlt=> ?_) (fun hge=> ?_)
 ·have hi:i<r.held.length:=by simpa using hlt
  have hat:=zce hi
  have hw:=zak hi (by omega)
  have hg:=hgr _ (List.getElem_mem hi)
  have hpt:=zj2 r.held[i].name (by omega)
  have hpm:=zgV r.held[i].token hg.2
  have hlb:(zeG r i).length≤11+4*21:=by
   rw[zeG,List.length_append,zfw]
   have:=zeT (l:=r.held.take i) (k:=12) fun g hx=>(hgr g (List.mem_of_mem_take hx)).1
   have:(r.held.take i).length≤4:=by rw[List.length_take];omega
   omega
  have hle:((zeG r i).length+(1+r.held[i].name.size)≤2^47)=True:=eq_true (by omega)
  have hle2:((zeG r i).length+(1+r.held[i].name.size)+8≤2^47)=True:=eq_true (by omega)
  have k1:(zhV r.held[i].name).take (1+r.held[i].name.size)=zhV r.held[i].name:=List.take_of_length_le (by rw[zfq];exact Nat.le_refl _)
  have k2:(zad (za8 r.held[i].token)).take 8=zad (za8 r.held[i].token):=List.take_of_length_le (by rw[zcF];decide)
  have k3:(zad (zeG r i)).take (zeG r i).length=zad (zeG r i):=List.take_of_length_le (by rw[List.length_map];exact Nat.le_refl _)
  have k4:(zad (zeG r i)++zhV r.held[i].name).take ((zeG r i).length+(1+r.held[i].name.size))=zad (zeG r i)++zhV r.held[i].name:=List.take_of_length_le (by rw[List.length_append,List.length_map,zfq];exact Nat.le_refl _)
  have hsl:(zeG r (i+1)).length=(zeG r i).length+(1+r.held[i].name.size)+8:=by rw[zhh hi,List.length_append,List.length_append,zcD,zaR]
  repeat'(first|refine zq (I hat (I @zaB (I hle (I hle2 (I k1 (I k2 (I k3 (I k4 (I @zfq (I @List.length_map.{0,0} (I @zaR zca))))))))))) ?_|exact zd (I hat (I @zaB (I hle (I hle2 (I k1 (I k2 (I k3 (I k4 (I @zfq (I @List.length_map.{0,0} (I @zaR zca)))))))))))|refine zc (hpt) ?_|refine zg (hpt) ?_|refine zc (hpm) ?_|refine zg (hpm) ?_|(refine zaa ?_ ?_<;>intro hb)|(refine And.intro ?_ ?_;exact zI)|(refine And.intro ?_ ?_<;>intro hg)|exact zC|fail)
  exact hK _ (i+1) (Gh.canon [1,6] [] [] (zk (I hw hsl)) rfl (by rw[zhh hi,zse];simp only[zad,List.map_append];rfl)) hi rfl (by omega)
 ·have hi:i=r.held.length:=by
   have:¬(i:Int)<r.held.length:=by simpa using hge
   omega
  subst hi
  repeat'(first|refine zq0 ?_|exact zd0|(refine zaa ?_ ?_<;>intro hb)|(refine And.intro ?_ ?_;exact zI)|(refine And.intro ?_ ?_<;>intro hg)|exact zC|fail)
  rw[zoN]
theorem zhB {r:Reply} (h:zbI r=true):(zby r).length≤95:=by
 have hgr:=zcb h
 have hf:=(zb6 h).2.2.2.1
 have:=zeT (l:=r.held) (k:=12) fun g hg=>(hgr g hg).1
 have e:(zby r).length=11+(zbJ r.held).length:=by simp[zby,zaR];omega
 omega
theorem zgu {m:Memo} (h:answerB m=true):(za3 m).length≤104:=by
 have:=zhB (zcc h).2.2
 have e:(za3 m).length=9+(zby m.reply).length:=by simp[za3,zaR];omega
 omega
theorem zjd {m:Memo} (h:answerB m=true):zbG m.reply:=by
 have hgr:=zcb (zcc h).2.2
 have hf:=(zb6 (zcc h).2.2).2.2.2.1
 exact⟨by omega,fun g hg=>by have:=(hgr g hg).1;omega⟩
theorem zmG (m:Memo) (h:answerB m=true):CallOK Tryz.prog 34 [.f (.agg m.lent)] (fun x o=>x=[.one (.own 1 (za3 m).length (zad (za3 m)) false),ri 0]∧o=[]):=by
 refine zac zao mixed (T:=Ty) (n:=31) Tryz.func34 (c:=Tryz.f34.body.getD .skip) rfl Tryz.results34 Tryz.ntmps34 Tryz.call34 ?_
 simp only[Tryz.f34,Option.getD]
 obtain⟨f1,f2,f3⟩:=zcc h
 have hmy:=zft m (zjd h)
 rw[h]at hmy
 have hpn:=zgV m.seq (by omega)
 have hpr:=znJ m.reply f3
 have hrl:=zhB f3
 have w1:IntKind.u8.wrap m.client=m.client:=zdt (by omega) (by omega)
 have hcc:CallOK Tryz.prog 30 [.f (al 3 [.sl 1 (zad [m.client]), .sl 8 (zad (za8 m.seq)), .sl (zby m.reply).length (zad (zby m.reply))])] (fun x o=>x=[.one (.own 1 (za3 m).length (zad (za3 m)) false)]∧o=[]):=by
  have hc:=ziM [zad [m.client],zad (za8 m.seq),zad (zby m.reply)] (by simp) (fun l hl=>by
   simp only[List.mem_cons,List.not_mem_nil,or_false]at hl
   rcases hl with rfl|rfl|rfl
   ·simp
   ·rw[zcF];decide
   ·rw[List.length_map];omega)
  rw[show [zad [m.client],zad (za8 m.seq),zad (zby m.reply)].flatten=zad (za3 m) from by simp[za3,zad]]at hc
  simp only[zsH,List.map_cons,List.map_nil,List.length_map,List.length_cons,List.length_nil,zaR]at hc
  exact hc
 have t1:(zad (za8 m.seq)).take 8=zad (za8 m.seq):=List.take_of_length_le (by rw[zcF];decide)
 have t2:(zad (zby m.reply)).take (zby m.reply).length=zad (zby m.reply):=List.take_of_length_le (by rw[List.length_map];exact Nat.le_refl _)
 repeat'(first|refine zq (I t1 (I t2 w1)) ?_|exact zd (I t1 (I t2 w1))|refine zc (hmy) ?_|refine zg (hmy) ?_|refine zc (hpn) ?_|refine zg (hpn) ?_|refine zc (hpr) ?_|refine zg (hpr) ?_|refine zc (hcc) ?_|refine zg (hcc) ?_|(refine zaa ?_ ?_<;>intro hb)|(refine And.intro ?_ ?_;exact zI)|(refine And.intro ?_ ?_<;>intro hg)|exact zC|fail)
theorem zeR (v:Int) (h:0≤v∧v<4611686018427387904):CallOK Tryz.prog 31 [.f (ai v)] (fun r o=>r=[.one (.own 1 8 (zad (za8 v)) false)]∧o=[]):=by
 refine zac zao mixed (T:=Ty) (n:=11) Tryz.func31 (c:=Tryz.f31.body.getD .skip) rfl Tryz.results31 Tryz.ntmps31 Tryz.call31 ?_
 simp only[Tryz.f31,Option.getD]
 have hp:=zgV v h
 repeat'(first|refine zq0 ?_|exact zd0|refine zc (hp) ?_|refine zg (hp) ?_|(refine zaa ?_ ?_<;>intro hb)|(refine And.intro ?_ ?_;exact zI)|(refine And.intro ?_ ?_<;>intro hg)|exact zC|fail)
theorem zkd:∀ls:List (List Int),(ls.map zad).flatten=zad ls.flatten
 |[]=>rfl
 |l::ls=>by simp only[List.map_cons,List.flatten_cons,zkd ls,List.map_append]
theorem zlh (ls:List (List Int)) (hl:ls.length<2^10) (hs:∀l∈ls,l.length≤2^12):
  CallOK Tryz.prog 30 [.f (al ls.length (ls.map fun l=> .sl l.length (zad l)))] (fun r o=>r=[.one (.own 1 ls.flatten.length (zad ls.flatten) false)]∧o=[]):=by
 have h:=ziM (ls.map zad) (by simpa using hl) (fun l h=>by
  obtain⟨x,hx,rfl⟩:=List.mem_map.1 h
  rw[List.length_map];exact hs x hx)
 rw[zkd,zaH,List.length_map]at h
 have e:zsH (ls.map zad)=ls.map fun l=> .sl l.length (zad l):=by
  rw[zsH,List.map_map]
  exact List.map_congr_left fun l _=>by simp only[Function.comp,zaH]
 rw[e]at h
 exact h
def zhz (x:Sess):List Int:=x.client::(za8 x.num++za8 x.renewed)
def lk0 (k:Lk):List Int:=zeC k.name++(k.holder::(za8 k.token++[(k.line.length:Int)]))
def zhA (k:Lk):List Int:=lk0 k++k.line
def zhX (s:St):List Int:=za8 s.time++(za8 s.num++(za8 s.token++[(s.sess.length:Int)]))
def sb1 (s:St) (i:Nat):List Int:=zhX s++(s.sess.take i).flatMap zhz
def sb2 (s:St) (i:Nat):List Int:=(sb1 s s.sess.length++[(s.locks.length:Int)])++(s.locks.take i).flatMap zhA
def sb3 (s:St) (i:Nat):List Int:=(sb2 s s.locks.length++[(s.memos.length:Int)])++(s.memos.take i).flatMap za3
def zcm (s:St):List Int:=sb3 s s.memos.length
theorem zfv {α:Type} (f:α→List Int) {l:List α} {i:Nat} (hi:i<l.length):(l.take (i+1)).flatMap f=(l.take i).flatMap f++f l[i]:=by
 rw[List.take_succ_eq_append_getElem hi,List.flatMap_append];simp
theorem zli {s:St} {i:Nat} (hi:i<s.sess.length):sb1 s (i+1)=sb1 s i++zhz s.sess[i]:=by rw[sb1,zfv _ hi,sb1,List.append_assoc]
theorem zt7 {s:St} {i:Nat} (hi:i<s.locks.length):sb2 s (i+1)=sb2 s i++zhA s.locks[i]:=by rw[sb2,zfv _ hi,sb2,←List.append_assoc]
theorem zie {s:St} {i:Nat} (hi:i<s.memos.length):sb3 s (i+1)=sb3 s i++za3 s.memos[i]:=by rw[sb3,zfv _ hi,sb3,←List.append_assoc]
theorem zif {s:St}:sb1 s 0=zhX s:=by simp[sb1]
theorem zih {s:St}:sb2 s 0=sb1 s s.sess.length++[(s.locks.length:Int)]:=by simp[sb2]
theorem zii {s:St}:sb3 s 0=sb2 s s.locks.length++[(s.memos.length:Int)]:=by simp[sb3]
theorem zfV {α:Type} (f:α→List Int) {k:Nat}:∀{l:List α},(∀x∈l,(f x).length≤k)→(l.flatMap f).length≤l.length*k
 |[],_=>by simp
 |x::l,h=>by
  rw[List.flatMap_cons,List.length_append,List.length_cons,Nat.add_mul]
  have:=h x (by simp)
  have:=zfV f (l:=l) fun y hy=>h y (by simp[hy])
  omega
theorem zhf (s:St):(zhX s).length=25:=by simp[zhX,zaR]
theorem zi7 (x:Sess):(zhz x).length=17:=by simp[zhz,zaR]
theorem zi8 (k:Lk):(lk0 k).length=11+k.name.size:=by simp[lk0,zaR,zcD];omega
theorem zi9 (s:St) (i:Nat):(sb1 s i).length≤25+i*17:=by
 rw[sb1,List.length_append,zhf]
 have:=zfV zhz (l:=s.sess.take i) (k:=17) fun x _=>by rw[zi7];exact Nat.le_refl _
 have h2:(s.sess.take i).length≤i:=by rw[List.length_take];omega
 have:=Nat.mul_le_mul_right 17 h2
 omega
theorem zeB {s:St} (h:RightS s) {k:Lk} (hk:k∈s.locks):(zhA k).length≤26∧k.name.size≤12∧(0≤k.holder∧k.holder≤255)∧(0≤k.token∧k.token<4611686018427387904)∧k.line.length≤3∧∀c∈k.line,0≤c∧c≤255:=by
 have hH:zbD=2305843009213693952:=rfl
 obtain⟨a,_,b,_⟩:=h.lok k hk
 obtain⟨h1,h2,h3⟩:=zcG.1 a
 obtain⟨l1,l2,_⟩:=zbN.1 b
 have hs:=zht h1
 refine⟨?_,hs,by omega,by omega,l1,fun c hc=> ?_⟩
 ·rw[zhA,List.length_append,zi8];omega
 ·have:=l2 c hc
  simp only[isClient,Bool.and_eq_true,decide_eq_true_eq]at this
  omega
def zhQ (s:St) (i:Nat) (k:Lk) (j:Nat):List Int:=(sb2 s i++lk0 k)++k.line.take j
theorem zja {s:St} {i:Nat} {k:Lk}:zhQ s i k 0=sb2 s i++lk0 k:=by simp[zhQ]
theorem zhg {s:St} {i:Nat} {k:Lk} {j:Nat} (hj:j<k.line.length):zhQ s i k (j+1)=zhQ s i k j++[k.line[j]]:=by
 rw[zhQ,List.take_succ_eq_append_getElem hj,←List.append_assoc,zhQ]
theorem zij {s:St} {i:Nat} (hi:i<s.locks.length):zhQ s i s.locks[i] s.locks[i].line.length=sb2 s (i+1):=by
 rw[zhQ,List.take_length,zt7 hi,zhA,List.append_assoc]
theorem zjb {s:St} (h:RightS s) (i:Nat):(sb2 s i).length≤115+i*26:=by
 rw[sb2,List.length_append,List.length_append]
 have:=zi9 s s.sess.length
 have:=h.sl
 have:=zfV zhA (l:=s.locks.take i) (k:=26) fun x hx=>(zeB h (List.mem_of_mem_take hx)).1
 have h2:(s.locks.take i).length≤i:=by rw[List.length_take];omega
 have:=Nat.mul_le_mul_right 26 h2
 simp only[List.length_singleton]
 omega
theorem zeS {s:St} (h:RightS s):s.memos.length≤8:=by
 have:=zhu (a:=0) (b:=8) (zoE.1 h.ms) (fun x hx=>by
  obtain⟨m,hm,rfl⟩:=List.mem_map.1 hx
  exact(zc0 (h.mok m hm)).1)
 rw[List.length_map]at this
 omega
theorem zjc {s:St} (h:RightS s) (i:Nat):(sb3 s i).length≤250+i*104:=by
 rw[sb3,List.length_append,List.length_append]
 have:=zjb h s.locks.length
 have:=h.ll
 have:=zfV za3 (l:=s.memos.take i) (k:=104) fun x hx=>zgu (h.mok x (List.mem_of_mem_take hx))
 have h2:(s.memos.take i).length≤i:=by rw[List.length_take];omega
 have:=Nat.mul_le_mul_right 104 h2
 simp only[List.length_singleton]
 omega
theorem zaI {l:List Int}:(zad l).take l.length=zad l:=List.take_of_length_le (by rw[zaH];exact Nat.le_refl _)
set_option maxHeartbeats 4000000 in
theorem zke (s:St) (h:RightS s):CallOK Tryz.prog 14 [.f (.agg s.lent)] (fun r o=>r=[.one (.own 1 (zcm s).length (zad (zcm s)) false),ri 0]∧o=[]):=by
 refine zac zao mixed (T:=Ty) (n:=137) Tryz.func14 (c:=Tryz.f14.body.getD .skip) rfl Tryz.results14 Tryz.ntmps14 Tryz.call14 ?_
 simp only[Tryz.f14,Option.getD]
 have hri:=zk1 s (zbo h)
 rw[zcv.2 h]at hri
 have hH:zbD=2305843009213693952:=rfl
 have ht:=h.time
 have hn:=h.num
 have hk:=h.token
 have hsl:=h.sl
 have hll:=h.ll
 have n1:=zeR s.time (by omega)
 have n2:=zeR s.num (by omega)
 have n3:=zeR s.token (by omega)
 have w1:IntKind.u8.wrap (s.sess.length:Int)=s.sess.length:=zdt (by omega) (by omega)
 have hcc:CallOK Tryz.prog 30 [.f (al 4 [.sl 8 (zad (za8 s.time)), .sl 8 (zad (za8 s.num)), .sl 8 (zad (za8 s.token)), .sl 1 (zad [(s.sess.length:Int)])])] (fun x o=>x=[.one (.own 1 25 (zad (zhX s)) false)]∧o=[]):=by
  have hc:=zlh [za8 s.time,za8 s.num,za8 s.token,[(s.sess.length:Int)]] (by simp) (fun l hl=>by
   simp only[List.mem_cons,List.not_mem_nil,or_false]at hl
   rcases hl with rfl|rfl|rfl|rfl<;>simp[zaR])
  rw[show [za8 s.time,za8 s.num,za8 s.token,[(s.sess.length:Int)]].flatten=zhX s from by simp[zhX],zhf]at hc
  exact hc
 have t8:∀v:Int,(zad (za8 v)).take 8=zad (za8 v):=fun v=>List.take_of_length_le (by rw[zcF];decide)
 have t1:∀x:Int,toDs (sub 0 1 1 [C.d (uD x)])=some [uD x]:=fun _=>rfl
 repeat'(first|refine zq (I t8 (I t1 w1)) ?_|exact zd (I t8 (I t1 w1))|refine zc (hri) ?_|refine zg (hri) ?_|refine zc (n1) ?_|refine zg (n1) ?_|refine zc (n2) ?_|refine zg (n2) ?_|refine zc (n3) ?_|refine zg (n3) ?_|refine zc (hcc) ?_|refine zg (hcc) ?_|(refine zaa ?_ ?_<;>intro hb)|(refine And.intro ?_ ?_;exact zI)|(refine And.intro ?_ ?_<;>intro hg)|exact zC|fail)
 refine zai (τ:=Nat) (fun i=>⟨[dd, .one (.ptr ⟨1,0,1⟩ 0),dd,dd, .one (.own ⟨4,1,1⟩ 0 (sb1 s i).length),dd,dd,dd,dd,dd,dd,dd,dd,dd,dd,dd,dd,dd,dd,dd,dd,dd,dd,dd,dd,dd,dd,dd,dd,dd,dd,dd,dd,dd,dd,dd,dd,al s.sess.length (zaK s.sess),ai s.sess.length,ai i,dd,dd,dd,dd,dd,dd,dd,dd,dd,dd,dd,dd,dd,dd,dd,dd,dd,dd,dd,dd,dd,dd,dd,dd,dd,dd,dd,dd,dd,dd,dd,dd,dd,dd,dd,dd,dd,dd,dd,dd,dd,dd,dd,dd,dd,dd,dd,dd,dd,dd,dd,dd,dd,dd,dd,dd,dd,dd,dd,dd,dd,dd,dd,dd,dd,dd,dd,dd,dd,dd,dd,dd,dd,dd,dd,dd,dd,dd,dd,dd,dd,dd,dd,dd,dd,dd,dd,dd,dd,dd,dd,dd,dd,dd,dd,dd,dd],[(1,{next:=2,l:=[some {e:=1,var:=true,fz:=false,sz:=0,cells:=[di s.time,di s.num,di s.token, .lent s.sess.length (zaK s.sess), .lent s.locks.length (zaj s.locks), .lent s.memos.length (zaD s.memos)]},none,none,none,none,none,none]}),(22,⟨2,[]⟩),(25,⟨2,[]⟩),(28,⟨2,[]⟩),(33,⟨2,[]⟩),(34,⟨2,[]⟩),(35,⟨2,[]⟩),(4,{next:=2,l:=[none,some {e:=1,var:=false,fz:=false,sz:=1,cells:=(zad (sb1 s i)).map C.d}]}),(6,⟨2,[]⟩),(47,⟨2,[]⟩),(50,⟨2,[]⟩),(53,⟨2,[]⟩),(54,⟨2,[]⟩),(55,⟨2,[]⟩)]⟩)
  (fun i=>i≤s.sess.length) (fun _=>()) (fun i=>s.sess.length - i) 0
  (Gh.canon [1,4] [6,47,50,53,54,55] [] (zk (I @zif @zhf)) rfl (by rw[zif];rfl)) (Nat.zero_le _) ?_
 intro i hi0 hF K hK
 refine zw ?_
 refine zaa (fun hlt=> ?_) (fun hge=> ?_)
 ·have hi:i<s.sess.length:=by simpa using hlt
  have hat:=zbf hi
  have hw:=zak hi (by omega)
  obtain⟨f1,f2,f3⟩:=zb0.1 (h.sok _ (List.getElem_mem hi)).1
  simp only[isClient,Bool.and_eq_true,decide_eq_true_eq]at f1
  have wc:IntKind.u8.wrap s.sess[i].client=s.sess[i].client:=zdt (by omega) (by omega)
  have m1:=zeR s.sess[i].num (by omega)
  have m2:=zeR s.sess[i].renewed (by omega)
  have hb:=zi9 s i
  have hcc:CallOK Tryz.prog 30 [.f (al 4 [.sl (sb1 s i).length (zad (sb1 s i)), .sl 1 (zad [s.sess[i].client]), .sl 8 (zad (za8 s.sess[i].num)), .sl 8 (zad (za8 s.sess[i].renewed))])] (fun x o=>x=[.one (.own 1 (sb1 s (i+1)).length (zad (sb1 s (i+1))) false)]∧o=[]):=by
   have hc:=zlh [sb1 s i,[s.sess[i].client],za8 s.sess[i].num,za8 s.sess[i].renewed] (by simp) (fun l hl=>by
    simp only[List.mem_cons,List.not_mem_nil,or_false]at hl
    rcases hl with rfl|rfl|rfl|rfl
    ·omega
    ·simp
    ·rw[zaR];decide
    ·rw[zaR];decide)
   rw[show [sb1 s i,[s.sess[i].client],za8 s.sess[i].num,za8 s.sess[i].renewed].flatten=sb1 s (i+1) from by rw[zli hi];simp[zhz]]at hc
   exact hc
  repeat'(first|refine zq (I hat (I @zaq (I t8 (I t1 (I wc (I @zaI zca)))))) ?_|exact zd (I hat (I @zaq (I t8 (I t1 (I wc (I @zaI zca))))))|refine zc (m1) ?_|refine zg (m1) ?_|refine zc (m2) ?_|refine zg (m2) ?_|refine zc (hcc) ?_|refine zg (hcc) ?_|(refine zaa ?_ ?_<;>intro hb)|(refine And.intro ?_ ?_;exact zI)|(refine And.intro ?_ ?_<;>intro hg)|exact zC|fail)
  exact hK _ (i+1) (Gh.canon [1,4] [] [] (zk hw) rfl rfl) hi rfl (by omega)
 ·have hi:i=s.sess.length:=by
   have:¬(i:Int)<s.sess.length:=by simpa using hge
   omega
  subst hi
  clear hK
  have w2:IntKind.u8.wrap (s.locks.length:Int)=s.locks.length:=zdt (by omega) (by omega)
  have hb:=zi9 s s.sess.length
  have hle:((sb1 s s.sess.length).length+1≤2^47)=True:=eq_true (by omega)
  repeat'(first|refine zq (I hle (I t1 (I w2 @zaI))) ?_|exact zd (I hle (I t1 (I w2 @zaI)))|(refine zaa ?_ ?_<;>intro hb)|(refine And.intro ?_ ?_;exact zI)|(refine And.intro ?_ ?_<;>intro hg)|exact zC|fail)
  refine zai (τ:=Nat) (fun i=>⟨[dd, .one (.ptr ⟨1,0,1⟩ 0),dd,dd, .one (.own ⟨4,1,1⟩ 0 (sb2 s i).length),dd,dd,dd,dd,dd,dd,dd,dd,dd,dd,dd,dd,dd,dd,dd,dd,dd,dd,dd,dd,dd,dd,dd,dd,dd,dd,dd,dd,dd,dd,dd,dd,dd,dd,dd,dd,dd,dd,dd,dd,dd,dd,dd,dd,dd,dd,dd,dd,dd,dd,dd,dd,dd,dd,dd,dd,dd,dd,dd,dd,al s.locks.length (zaj s.locks),ai s.locks.length,ai i,dd,dd,dd,dd,dd,dd,dd,dd,dd,dd,dd,dd,dd,dd,dd,dd,dd,dd,dd,dd,dd,dd,dd,dd,dd,dd,dd,dd,dd,dd,dd,dd,dd,dd,dd,dd,dd,dd,dd,dd,dd,dd,dd,dd,dd,dd,dd,dd,dd,dd,dd,dd,dd,dd,dd,dd,dd,dd,dd,dd,dd,dd,dd,dd,dd,dd,dd,dd,dd],[(1,{next:=2,l:=[some {e:=1,var:=true,fz:=false,sz:=0,cells:=[di s.time,di s.num,di s.token, .lent s.sess.length (zaK s.sess), .lent s.locks.length (zaj s.locks), .lent s.memos.length (zaD s.memos)]},none,none,none,none,none,none]}),(22,⟨2,[]⟩),(25,⟨2,[]⟩),(28,⟨2,[]⟩),(33,⟨2,[]⟩),(34,⟨2,[]⟩),(35,⟨2,[]⟩),(4,{next:=2,l:=[none,some {e:=1,var:=false,fz:=false,sz:=1,cells:=(zad (sb2 s i)).map C.d}]}),(6,⟨2,[]⟩),(47,⟨2,[]⟩),(50,⟨2,[]⟩),(53,⟨2,[]⟩),(54,⟨2,[]⟩),(55,⟨2,[]⟩),(62,⟨2,[]⟩),(8,⟨2,[]⟩),(9,⟨2,[]⟩),(74,⟨2,[]⟩),(82,⟨2,[]⟩),(85,⟨2,[]⟩),(90,⟨2,[]⟩),(91,⟨2,[]⟩),(92,⟨2,[]⟩),(103,⟨2,[]⟩),(104,⟨2,[]⟩)]⟩)
   (fun i=>i≤s.locks.length) (fun _=>()) (fun i=>s.locks.length - i) 0
   (Gh.canon [1,4] [8,9,74,82,85,90,91,92,103,104] [] (zk (I @zih (I @List.length_append.{0} @List.length_singleton.{0}))) rfl (by rw[zih];simp only[zad,List.map_append];rfl)) (Nat.zero_le _) ?_
  intro i hi0 hF K hK
  refine zw ?_
  refine zaa (fun hlt=> ?_) (fun hge=> ?_)
  ·have hi:i<s.locks.length:=by simpa using hlt
   have hat:=zaP hi
   have hw:=zak hi (by omega)
   obtain⟨q0,q1,q2,q3,q4,q5⟩:=zeB h (List.getElem_mem hi)
   have wc:IntKind.u8.wrap s.locks[i].holder=s.locks[i].holder:=zdt (by omega) (by omega)
   have wl:IntKind.u8.wrap (s.locks[i].line.length:Int)=s.locks[i].line.length:=zdt (by omega) (by omega)
   have m1:=zj2 s.locks[i].name (by omega)
   have m2:=zeR s.locks[i].token (by omega)
   have hb:=zjb h i
   have tt:(zhV s.locks[i].name).take (1+s.locks[i].name.size)=zhV s.locks[i].name:=List.take_of_length_le (by rw[zfq];exact Nat.le_refl _)
   have hcc:CallOK Tryz.prog 30 [.f (al 5 [.sl (sb2 s i).length (zad (sb2 s i)), .sl (1+s.locks[i].name.size) (zhV s.locks[i].name), .sl 1 (zad [s.locks[i].holder]), .sl 8 (zad (za8 s.locks[i].token)), .sl 1 (zad [(s.locks[i].line.length:Int)])])] (fun x o=>x=[.one (.own 1 (zhQ s i s.locks[i] 0).length (zad (zhQ s i s.locks[i] 0)) false)]∧o=[]):=by
    have hc:=zlh [sb2 s i,zeC s.locks[i].name,[s.locks[i].holder],za8 s.locks[i].token,[(s.locks[i].line.length:Int)]] (by simp) (fun l hl=>by
     simp only[List.mem_cons,List.not_mem_nil,or_false]at hl
     rcases hl with rfl|rfl|rfl|rfl|rfl
     ·omega
     ·rw[zcD];omega
     ·simp
     ·rw[zaR];decide
     ·simp)
    rw[show [sb2 s i,zeC s.locks[i].name,[s.locks[i].holder],za8 s.locks[i].token,[(s.locks[i].line.length:Int)]].flatten=zhQ s i s.locks[i] 0 from by rw[zja];simp[lk0]]at hc
    rw[←zcD,zse]
    exact hc
   repeat'(first|refine zq (I hat (I @zaf (I t8 (I t1 (I wc (I wl (I tt (I @zaI zca)))))))) ?_|exact zd (I hat (I @zaf (I t8 (I t1 (I wc (I wl (I tt (I @zaI zca))))))))|refine zc (m1) ?_|refine zg (m1) ?_|refine zc (m2) ?_|refine zg (m2) ?_|refine zc (hcc) ?_|refine zg (hcc) ?_|(refine zaa ?_ ?_<;>intro hb)|(refine And.intro ?_ ?_;exact zI)|(refine And.intro ?_ ?_<;>intro hg)|exact zC|fail)
   refine zai (τ:=Nat) (fun j=>⟨[dd, .one (.ptr ⟨1,0,1⟩ 0),dd,dd, .one (.own ⟨4,1,1⟩ 0 (zhQ s i s.locks[i] j).length),dd,dd,dd,dd,dd,dd,dd,dd,dd,dd,dd,dd,dd,dd,dd,dd,dd,dd,dd,dd,dd,dd,dd,dd,dd,dd,dd,dd,dd,dd,dd,dd,dd,dd,dd,dd,dd,dd,dd,dd,dd,dd,dd,dd,dd,dd,dd,dd,dd,dd,dd,dd,dd,dd,dd,dd,dd,dd,dd,dd,al s.locks.length (zaj s.locks),ai s.locks.length,ai i,dd,dd,dd,dd,dd,dd,dd,dd,dd,dd,dd,dd,dd,dd,dd,dd,dd,dd,dd,dd,dd,dd,dd,dd,dd,dd,asl s.locks[i].line.length (zaJ s.locks[i].line),ai s.locks[i].line.length,ai j,dd,dd,dd,dd,dd,dd,dd,dd,dd,dd,dd,dd,dd,dd,dd,dd,dd,dd,dd,dd,dd,dd,dd,dd,dd,dd,dd,dd,dd,dd,dd,dd,dd,dd,dd,dd,dd,dd,dd,dd],[(1,{next:=2,l:=[some {e:=1,var:=true,fz:=false,sz:=0,cells:=[di s.time,di s.num,di s.token, .lent s.sess.length (zaK s.sess), .lent s.locks.length (zaj s.locks), .lent s.memos.length (zaD s.memos)]},none,none,none,none,none,none]}),(22,⟨2,[]⟩),(25,⟨2,[]⟩),(28,⟨2,[]⟩),(33,⟨2,[]⟩),(34,⟨2,[]⟩),(35,⟨2,[]⟩),(4,{next:=2,l:=[none,some {e:=1,var:=false,fz:=false,sz:=1,cells:=(zad (zhQ s i s.locks[i] j)).map C.d}]}),(6,⟨2,[]⟩),(47,⟨2,[]⟩),(50,⟨2,[]⟩),(53,⟨2,[]⟩),(54,⟨2,[]⟩),(55,⟨2,[]⟩),(62,⟨2,[]⟩),(8,⟨2,[]⟩),(9,⟨2,[]⟩),(74,⟨2,[]⟩),(82,⟨2,[]⟩),(85,⟨2,[]⟩),(90,⟨2,[]⟩),(91,⟨2,[]⟩),(92,⟨2,[]⟩),(103,⟨2,[]⟩),(104,⟨2,[]⟩)]⟩)
    (fun j=>j≤s.locks[i].line.length) (fun _=>()) (fun j=>s.locks[i].line.length - j) 0
    (Gh.canon [1,4] [] [] zK rfl rfl) (Nat.zero_le _) ?_
   intro j hj0 hF2 K2 hK2
   refine zw ?_
   refine zaa (fun hlt2=> ?_) (fun hge2=> ?_)
   ·have hj:j<s.locks[i].line.length:=by simpa using hlt2
    have hat2:=zb7 hj
    have hw2:=zak hj (by omega)
    have q6:=q5 _ (List.getElem_mem hj)
    have wd:IntKind.u8.wrap s.locks[i].line[j]=s.locks[i].line[j]:=zdt (by omega) (by omega)
    have hlj:(zhQ s i s.locks[i] j).length≤300:=by
     rw[zhQ,List.length_append,List.length_append,zi8,List.length_take];omega
    have hle3:((zhQ s i s.locks[i] j).length+1≤2^47)=True:=eq_true (by omega)
    have hsl3:(zhQ s i s.locks[i] (j+1)).length=(zhQ s i s.locks[i] j).length+1:=by rw[zhg hj,List.length_append,List.length_singleton]
    repeat'(first|refine zq (I hat2 (I @zah (I t1 (I wd (I hle3 (I @zaI zca)))))) ?_|exact zd (I hat2 (I @zah (I t1 (I wd (I hle3 (I @zaI zca))))))|(refine zaa ?_ ?_<;>intro hb)|(refine And.intro ?_ ?_;exact zI)|(refine And.intro ?_ ?_<;>intro hg)|exact zC|fail)
    exact hK2 _ (j+1) (Gh.canon [1,4] [] [] (zk (I hw2 hsl3)) rfl (by rw[zhg hj];simp only[zad,List.map_append];rfl)) hj rfl (by omega)
   ·have hj:j=s.locks[i].line.length:=by
     have:¬(j:Int)<s.locks[i].line.length:=by simpa using hge2
     omega
    subst hj
    repeat'(first|refine zq0 ?_|exact zd0|(refine zaa ?_ ?_<;>intro hb)|(refine And.intro ?_ ?_;exact zI)|(refine And.intro ?_ ?_<;>intro hg)|exact zC|fail)
    exact hK _ (i+1) (Gh.canon [1,4] [] [] (by simp only[hw,zij hi,zcj,zdZ,zck,zcQ,zcR,zcS,List.set_cons_zero,List.set_cons_succ,and_true,true_and,Int.natCast_zero,Int.cast_ofNat_Int,D.v.injEq,Value.int.injEq];try(repeat'(first|rfl|omega|with_reducible apply And.intro))) rfl (by rw[zij hi];rfl)) hi rfl (by omega)
  ·have hi:i=s.locks.length:=by
    have:¬(i:Int)<s.locks.length:=by simpa using hge
    omega
   subst hi
   clear hK
   have hml:=zeS h
   have w3:IntKind.u8.wrap (s.memos.length:Int)=s.memos.length:=zdt (by omega) (by omega)
   have hb2:=zjb h s.locks.length
   have hle2:((sb2 s s.locks.length).length+1≤2^47)=True:=eq_true (by omega)
   repeat'(first|refine zq (I hle2 (I t1 (I w3 @zaI))) ?_|exact zd (I hle2 (I t1 (I w3 @zaI)))|(refine zaa ?_ ?_<;>intro hb)|(refine And.intro ?_ ?_;exact zI)|(refine And.intro ?_ ?_<;>intro hg)|exact zC|fail)
   refine zai (τ:=Nat) (fun i=>⟨[dd,dd,dd,dd, .one (.own ⟨4,1,1⟩ 0 (sb3 s i).length),dd,dd,dd,dd,dd,dd,dd,dd,dd,dd,dd,dd,dd,dd,dd,dd,dd,dd,dd,dd,dd,dd,dd,dd,dd,dd,dd,dd,dd,dd,dd,dd,dd,dd,dd,dd,dd,dd,dd,dd,dd,dd,dd,dd,dd,dd,dd,dd,dd,dd,dd,dd,dd,dd,dd,dd,dd,dd,dd,dd,dd,dd,dd,dd,dd,dd,dd,dd,dd,dd,dd,dd,dd,dd,dd,dd,dd,dd,dd,dd,dd,dd,dd,dd,dd,dd,dd,dd,dd,dd,dd,dd,dd,dd,dd,dd,dd,dd,dd,dd,dd,dd,dd,dd,dd,dd,dd,dd,dd,dd,al s.memos.length (zaD s.memos),ai s.memos.length,ai i,dd,dd,dd,dd,dd,dd,dd,dd,dd,dd,dd,dd,dd,dd,dd,dd,dd,dd,dd],[(1,⟨2,[]⟩),(22,⟨2,[]⟩),(25,⟨2,[]⟩),(28,⟨2,[]⟩),(33,⟨2,[]⟩),(34,⟨2,[]⟩),(35,⟨2,[]⟩),(4,{next:=2,l:=[none,some {e:=1,var:=false,fz:=false,sz:=1,cells:=(zad (sb3 s i)).map C.d}]}),(6,⟨2,[]⟩),(47,⟨2,[]⟩),(50,⟨2,[]⟩),(53,⟨2,[]⟩),(54,⟨2,[]⟩),(55,⟨2,[]⟩),(62,⟨2,[]⟩),(8,⟨2,[]⟩),(9,⟨2,[]⟩),(74,⟨2,[]⟩),(82,⟨2,[]⟩),(85,⟨2,[]⟩),(90,⟨2,[]⟩),(91,⟨2,[]⟩),(92,⟨2,[]⟩),(103,⟨2,[]⟩),(104,⟨2,[]⟩),(112,⟨2,[]⟩),(14,⟨2,[]⟩),(15,⟨2,[]⟩),(129,⟨2,[]⟩),(134,⟨2,[]⟩)]⟩)
    (fun i=>i≤s.memos.length) (fun _=>()) (fun i=>s.memos.length - i) 0
    (Gh.canon [4] [14,15,129,134] [] (zk (I @zii (I @List.length_append.{0} @List.length_singleton.{0}))) rfl (by rw[zii];simp only[zad,List.map_append];rfl)) (Nat.zero_le _) ?_
   intro i hi0 hF K hK
   refine zw ?_
   refine zaa (fun hlt=> ?_) (fun hge=> ?_)
   ·have hi:i<s.memos.length:=by simpa using hlt
    have hat:=zcl hi
    have hw:=zak hi (by omega)
    have hma:=h.mok _ (List.getElem_mem hi)
    have hpa:=zmG s.memos[i] hma
    have hb3:=zjc h i
    have hal:=zgu hma
    have hle3:((sb3 s i).length+(za3 s.memos[i]).length≤2^47)=True:=eq_true (by omega)
    have hsl3:(sb3 s (i+1)).length=(sb3 s i).length+(za3 s.memos[i]).length:=by rw[zie hi,List.length_append]
    repeat'(first|refine zq (I hat (I @zaA (I @zaI (I hle3 (I @zaH zca))))) ?_|exact zd (I hat (I @zaA (I @zaI (I hle3 (I @zaH zca)))))|refine zc (hpa) ?_|refine zg (hpa) ?_|(refine zaa ?_ ?_<;>intro hb)|(refine And.intro ?_ ?_;exact zI)|(refine And.intro ?_ ?_<;>intro hg)|exact zC|fail)
    exact hK _ (i+1) (Gh.canon [4] [] [] (zk (I hw hsl3)) rfl (by rw[zie hi];simp only[zad,List.map_append];rfl)) hi rfl (by omega)
   ·have hi:i=s.memos.length:=by
     have:¬(i:Int)<s.memos.length:=by simpa using hge
     omega
    subst hi
    repeat'(first|refine zq0 ?_|exact zd0|(refine zaa ?_ ?_<;>intro hb)|(refine And.intro ?_ ?_;exact zI)|(refine And.intro ?_ ?_<;>intro hg)|exact zC|fail)
    rfl
abbrev rds (bs:List Int) (p:Int):List RO:=rdr bs.length (zad bs) p
abbrev zqa (e:Int):Value:=zfx 83 e
abbrev Rr (α:Type):=Except Int (α×Int)
def rOf {α:Type} (x:α×Int×Int):Rr α:=if x.2.2=0 then .ok (x.1,x.2.1)else .error x.2.2
theorem zge {α:Type} {x:α×Int×Int} {y:α×Int} (h:rOf x= .ok y):x.2.2=0∧y=(x.1,x.2.1):=by
 unfold rOf at h
 split at h
 ·rename_i h0;cases h;exact⟨h0,rfl⟩
 ·cases h
theorem zlg {α:Type} {x:α×Int×Int} {e:Int} (h:rOf x= .error e):x.2.2=e∧e≠0:=by
 unfold rOf at h
 split at h
 ·cases h
 ·rename_i h0;cases h;exact⟨rfl,h0⟩
def zef (bs:List Int) (p:Int):Rr Int:=rOf (zc8 bs p)
def zdi (bs:List Int) (p:Int):Rr Int:=rOf (zaY bs p)
def zi6 (bs:List Int) (p:Int):Rr ByteArray:=rOf (zbw bs p 12)
def zhb (bs:List Int) (p:Int):Rr Memo:=rOf (za0 bs p)
def zb3 (bs:List Int) (p most:Int):Rr Int:=match zdi bs p with
 | .error e=> .error e
 | .ok (n,q)=>if n>most then .error 4 else .ok (n,q)
theorem zd9:CallOK Tryz.prog 93 [.f (ai 0)] (fun r o=>r=[]∧o=[]):=by
 refine zac zao mixed (T:=Ty) (n:=7) Tryz.func93 (c:=Tryz.f93.body.getD .skip) rfl Tryz.results93 Tryz.ntmps93 Tryz.call93 ?_
 simp only[Tryz.f93,Option.getD]
 repeat'(first|refine zq0 ?_|exact zd0|(refine zaa ?_ ?_<;>intro hb)|(refine And.intro ?_ ?_;exact zI)|(refine And.intro ?_ ?_<;>intro hg)|exact zC|fail)
theorem zhc (e:Int) (h:e≠0):zcB Tryz.prog 93 [.f (ai e)] (zqa e):=by
 refine zdl zao mixed (T:=Ty) (n:=7) Tryz.func93 (c:=Tryz.f93.body.getD .skip) rfl Tryz.ntmps93 Tryz.call93 ?_
 simp only[Tryz.f93,Option.getD]
 have h1:(e !=0)=true:=by simpa using h
 repeat'(first|refine zq (I h1 @zal) ?_|exact zd (I h1 @zal)|(refine zaa ?_ ?_<;>intro hb)|(refine And.intro ?_ ?_;exact zI)|(refine And.intro ?_ ?_<;>intro hg)|exact zC|fail)
theorem zdG (bs:List Int) (p:Int) (h:BsOk bs) (hp:i64 p) {y:Int×Int} (hy:zef bs p= .ok y):
  CallOK Tryz.prog 42 [.obj (rds bs p)] (fun r o=>r=[ri y.1]∧o=[rds bs y.2]):=by
 obtain⟨h0,rfl⟩:=zge hy
 refine zac zao mixed (T:=Ty) (n:=26) Tryz.func42 (c:=Tryz.f42.body.getD .skip) rfl Tryz.results42 Tryz.ntmps42 Tryz.call42 ?_
 simp only[Tryz.f42,Option.getD]
 have h1:=zje bs p h hp
 rw[h0]at h1
 repeat'(first|refine zq0 ?_|exact zd0|refine zc (h1) ?_|refine zg (h1) ?_|refine zc (zd9) ?_|refine zg (zd9) ?_|(refine zaa ?_ ?_<;>intro hb)|(refine And.intro ?_ ?_;exact zI)|(refine And.intro ?_ ?_<;>intro hg)|exact zC|fail)
theorem zc3 (bs:List Int) (p:Int) (h:BsOk bs) (hp:i64 p) {e:Int} (hy:zef bs p= .error e):
  zcB Tryz.prog 42 [.obj (rds bs p)] (zqa e):=by
 obtain⟨h0,h2⟩:=zlg hy
 refine zdl zao mixed (T:=Ty) (n:=26) Tryz.func42 (c:=Tryz.f42.body.getD .skip) rfl Tryz.ntmps42 Tryz.call42 ?_
 simp only[Tryz.f42,Option.getD]
 have h1:=zje bs p h hp
 rw[h0]at h1
 repeat'(first|refine zq0 ?_|exact zd0|refine zc (h1) ?_|refine zg (h1) ?_|(refine zaa ?_ ?_<;>intro hb)|(refine And.intro ?_ ?_;exact zI)|(refine And.intro ?_ ?_<;>intro hg)|exact zC|fail)
 refine zh0 (zhc e h2) rfl ?_
 first|refine zs @zal ?_|exact zt @zal
theorem zhd (bs:List Int) (p:Int) (h:BsOk bs) (hp:i64 p) {y:Int×Int} (hy:zdi bs p= .ok y):
  CallOK Tryz.prog 85 [.obj (rds bs p)] (fun r o=>r=[ri y.1]∧o=[rds bs y.2]):=by
 obtain⟨h0,rfl⟩:=zge hy
 refine zac zao mixed (T:=Ty) (n:=26) Tryz.func85 (c:=Tryz.f85.body.getD .skip) rfl Tryz.results85 Tryz.ntmps85 Tryz.call85 ?_
 simp only[Tryz.f85,Option.getD]
 have h1:=zfX bs p h hp
 rw[h0]at h1
 repeat'(first|refine zq0 ?_|exact zd0|refine zc (h1) ?_|refine zg (h1) ?_|refine zc (zd9) ?_|refine zg (zd9) ?_|(refine zaa ?_ ?_<;>intro hb)|(refine And.intro ?_ ?_;exact zI)|(refine And.intro ?_ ?_<;>intro hg)|exact zC|fail)
theorem zhe (bs:List Int) (p:Int) (h:BsOk bs) (hp:i64 p) {e:Int} (hy:zdi bs p= .error e):
  zcB Tryz.prog 85 [.obj (rds bs p)] (zqa e):=by
 obtain⟨h0,h2⟩:=zlg hy
 refine zdl zao mixed (T:=Ty) (n:=26) Tryz.func85 (c:=Tryz.f85.body.getD .skip) rfl Tryz.ntmps85 Tryz.call85 ?_
 simp only[Tryz.f85,Option.getD]
 have h1:=zfX bs p h hp
 rw[h0]at h1
 repeat'(first|refine zq0 ?_|exact zd0|refine zc (h1) ?_|refine zg (h1) ?_|(refine zaa ?_ ?_<;>intro hb)|(refine And.intro ?_ ?_;exact zI)|(refine And.intro ?_ ?_<;>intro hg)|exact zC|fail)
 refine zh0 (zhc e h2) rfl ?_
 first|refine zs @zal ?_|exact zt @zal
theorem zsc (bs:List Int) (p:Int) (h:BsOk bs) (hp:i64 p) {y:ByteArray×Int} (hy:zi6 bs p= .ok y):
  CallOK Tryz.prog 136 [.obj (rds bs p)] (fun r o=>r=[.one (.d (sD y.1))]∧o=[rds bs y.2]):=by
 obtain⟨h0,rfl⟩:=zge hy
 refine zac zao mixed (T:=Ty) (n:=26) Tryz.func136 (c:=Tryz.f136.body.getD .skip) rfl Tryz.results136 Tryz.ntmps136 Tryz.call136 ?_
 simp only[Tryz.f136,Option.getD]
 have h1:=zll bs p 12 h hp
 rw[h0]at h1
 repeat'(first|refine zq0 ?_|exact zd0|refine zc (h1) ?_|refine zg (h1) ?_|refine zc (zd9) ?_|refine zg (zd9) ?_|(refine zaa ?_ ?_<;>intro hb)|(refine And.intro ?_ ?_;exact zI)|(refine And.intro ?_ ?_<;>intro hg)|exact zC|fail)
theorem zpR (bs:List Int) (p:Int) (h:BsOk bs) (hp:i64 p) {e:Int} (hy:zi6 bs p= .error e):
  zcB Tryz.prog 136 [.obj (rds bs p)] (zqa e):=by
 obtain⟨h0,h2⟩:=zlg hy
 refine zdl zao mixed (T:=Ty) (n:=26) Tryz.func136 (c:=Tryz.f136.body.getD .skip) rfl Tryz.ntmps136 Tryz.call136 ?_
 simp only[Tryz.f136,Option.getD]
 have h1:=zll bs p 12 h hp
 rw[h0]at h1
 repeat'(first|refine zq0 ?_|exact zd0|refine zc (h1) ?_|refine zg (h1) ?_|(refine zaa ?_ ?_<;>intro hb)|(refine And.intro ?_ ?_;exact zI)|(refine And.intro ?_ ?_<;>intro hg)|exact zC|fail)
 refine zh0 (zhc e h2) rfl ?_
 first|refine zs @zal ?_|exact zt @zal
theorem zsd (bs:List Int) (p:Int) (h:BsOk bs) (hp:i64 p) {y:Memo×Int} (hy:zhb bs p= .ok y):
  CallOK Tryz.prog 87 [.obj (rds bs p)] (fun r o=>r=[zsk y.1]∧o=[rds bs y.2]):=by
 obtain⟨h0,rfl⟩:=zge hy
 refine zac zao mixed (T:=Ty) (n:=32) Tryz.func87 (c:=Tryz.f87.body.getD .skip) rfl Tryz.results87 Tryz.ntmps87 Tryz.call87 ?_
 simp only[Tryz.f87,Option.getD]
 have h1:=zhS bs p h hp
 rw[h0]at h1
 repeat'(first|refine zq0 ?_|exact zd0|refine zc (h1) ?_|refine zg (h1) ?_|refine zc (zd9) ?_|refine zg (zd9) ?_|(refine zaa ?_ ?_<;>intro hb)|(refine And.intro ?_ ?_;exact zI)|(refine And.intro ?_ ?_<;>intro hg)|exact zC|fail)
 rfl
theorem zpS (bs:List Int) (p:Int) (h:BsOk bs) (hp:i64 p) {e:Int} (hy:zhb bs p= .error e):
  zcB Tryz.prog 87 [.obj (rds bs p)] (zqa e):=by
 obtain⟨h0,h2⟩:=zlg hy
 refine zdl zao mixed (T:=Ty) (n:=32) Tryz.func87 (c:=Tryz.f87.body.getD .skip) rfl Tryz.ntmps87 Tryz.call87 ?_
 simp only[Tryz.f87,Option.getD]
 have h1:=zhS bs p h hp
 rw[h0]at h1
 repeat'(first|refine zq0 ?_|exact zd0|refine zc (h1) ?_|refine zg (h1) ?_|(refine zaa ?_ ?_<;>intro hb)|(refine And.intro ?_ ?_;exact zI)|(refine And.intro ?_ ?_<;>intro hg)|exact zC|fail)
 refine zh0 (zhc e h2) rfl ?_
 first|refine zs @zal ?_|exact zt @zal
theorem zmF {bs:List Int} {p most:Int} {y:Int×Int} (hy:zb3 bs p most= .ok y):zdi bs p= .ok y∧y.1≤most:=by
 unfold zb3 at hy
 cases hz:zdi bs p with
 |error e=>rw[hz]at hy;cases hy
 |ok z=>
  rw[hz]at hy
  simp only at hy
  split at hy
  ·cases hy
  ·rename_i hgt
   cases hy
   exact⟨rfl,by simp only;omega⟩
theorem zpT {bs:List Int} {p most:Int} {e:Int} (hy:zb3 bs p most= .error e):zdi bs p= .error e∨∃z,zdi bs p= .ok z∧z.1>most∧e=4:=by
 unfold zb3 at hy
 cases hz:zdi bs p with
 |error e=>rw[hz]at hy;cases hy;exact .inl rfl
 |ok z=>
  rw[hz]at hy
  simp only at hy
  split at hy
  ·rename_i hgt;cases hy;exact .inr ⟨z,rfl,hgt,rfl⟩
  ·cases hy
theorem zfU (bs:List Int) (p most:Int) (h:BsOk bs) (hp:i64 p) {y:Int×Int} (hy:zb3 bs p most= .ok y):
  CallOK Tryz.prog 84 [.obj (rds bs p), .f (ai most)] (fun r o=>r=[ri y.1]∧o=[rds bs y.2]):=by
 obtain⟨hz,hle⟩:=zmF hy
 have h1:=zhd bs p h hp hz
 have h2:decide (y.1>most)=false:=by simpa using hle
 refine zac zao mixed (T:=Ty) (n:=14) Tryz.func84 (c:=Tryz.f84.body.getD .skip) rfl Tryz.results84 Tryz.ntmps84 Tryz.call84 ?_
 simp only[Tryz.f84,Option.getD]
 repeat'(first|refine zq0 ?_|exact zd0|(refine zaa ?_ ?_<;>intro hb)|(refine And.intro ?_ ?_;exact zI)|(refine And.intro ?_ ?_<;>intro hg)|exact zC|fail)
 refine zj (h1) ?_
 repeat'(first|refine zq h2 ?_|exact zd h2|(refine zaa ?_ ?_<;>intro hb)|(refine And.intro ?_ ?_;exact zI)|(refine And.intro ?_ ?_<;>intro hg)|exact zC|fail)
theorem zeQ (bs:List Int) (p most:Int) (h:BsOk bs) (hp:i64 p) {e:Int} (hy:zb3 bs p most= .error e):
  zcB Tryz.prog 84 [.obj (rds bs p), .f (ai most)] (zqa e):=by
 refine zdl zao mixed (T:=Ty) (n:=14) Tryz.func84 (c:=Tryz.f84.body.getD .skip) rfl Tryz.ntmps84 Tryz.call84 ?_
 simp only[Tryz.f84,Option.getD]
 rcases zpT hy with hz|⟨z,hz,hgt,rfl⟩
 ·have h1:=zhe bs p h hp hz
  repeat'(first|refine zq0 ?_|exact zd0|(refine zaa ?_ ?_<;>intro hb)|(refine And.intro ?_ ?_;exact zI)|(refine And.intro ?_ ?_<;>intro hg)|exact zC|fail)
  refine zp (rds bs p) (h1) ?_
  first|refine zs @zal ?_|exact zt @zal
 ·have h1:=zhd bs p h hp hz
  have h2:decide (z.1>most)=true:=by simpa using hgt
  repeat'(first|refine zq0 ?_|exact zd0|(refine zaa ?_ ?_<;>intro hb)|(refine And.intro ?_ ?_;exact zI)|(refine And.intro ?_ ?_<;>intro hg)|exact zC|fail)
  refine zj (h1) ?_
  repeat'(first|refine zq (I h2 @zal) ?_|exact zd (I h2 @zal)|(refine zaa ?_ ?_<;>intro hb)|(refine And.intro ?_ ?_;exact zI)|(refine And.intro ?_ ?_<;>intro hg)|exact zC|fail)
def zhy (bs:List Int):Nat→Int→List Int→Rr (List Int)
 |0,p,acc=> .ok (acc,p)
 |n+1,p,acc=>match zdi bs p with
  | .error e=> .error e
  | .ok x=>zhy bs n x.2 (acc++[x.1])
def zfu (bs:List Int) (p:Int):Rr Lk:=match zi6 bs p with
 | .error e=> .error e
 | .ok nm=>match zdi bs nm.2 with
  | .error e=> .error e
  | .ok hd=>match zef bs hd.2 with
   | .error e=> .error e
   | .ok tk=>match zb3 bs tk.2 3 with
    | .error e=> .error e
    | .ok n=>match zhy bs n.1.toNat n.2 []with
     | .error e=> .error e
     | .ok l=> .ok (⟨nm.1,hd.1,tk.1,l.1⟩,l.2)
theorem zbg {bs:List Int} {p:Int} {y:Int×Int} (h:BsOk bs) (hy:zef bs p= .ok y):i64 y.2:=by
 obtain⟨_,rfl⟩:=zge hy
 exact zcn h.l zc4
theorem zdh {bs:List Int} {p:Int} {y:Int×Int} (h:BsOk bs) (hy:zdi bs p= .ok y):i64 y.2:=by
 obtain⟨_,rfl⟩:=zge hy
 exact zcn h.l zb4
theorem zsa {bs:List Int} {p:Int} {y:Int×Int} (h:BsOk bs) (hy:zdi bs p= .ok y):0≤y.1∧y.1<256:=by
 obtain⟨_,rfl⟩:=zge hy
 exact zeD h
theorem zkc {bs:List Int} {p:Int} {y:ByteArray×Int} (h:BsOk bs) (hy:zi6 bs p= .ok y):i64 y.2:=by
 obtain⟨_,rfl⟩:=zge hy
 exact zcn h.l (zfY h)
theorem zdY {bs:List Int} {p m:Int} {y:Int×Int} (h:BsOk bs) (hy:zb3 bs p m= .ok y):i64 y.2∧0≤y.1∧y.1≤m:=by
 obtain⟨h1,h2⟩:=zmF hy
 exact⟨zdh h h1,(zsa h h1).1,h2⟩
abbrev zxn (bs:List Int) (q:Int) (nx:Nat):Nat×RS:=(0,{next:=nx,l:=[some {e:=0,var:=true,fz:=false,bor:=true,sz:=0,cells:=[.d (.sl bs.length (zad bs)),di q]},none,none]})
abbrev zzN (k:Lk):RF:= .agg [.d (sD k.name), .d (iD k.holder), .d (iD k.token), .own 1 k.line.length (zaJ k.line) false]
set_option maxHeartbeats 2000000 in
theorem zi4 (bs:List Int) (p:Int) (h:BsOk bs) (hp:i64 p) (b:Bool) (y:Lk×Int) (e:Int) (hy:zxk b y e (zfu bs p)):
  (b=true→CallOK Tryz.prog 86 [.obj (rds bs p)] (fun r o=>r=[zzN y.1]∧o=[rds bs y.2]))∧(b=false→zcB Tryz.prog 86 [.obj (rds bs p)] (zqa e)):=by
 refine zn6 zao mixed (T:=Ty) (n:=26) Tryz.func86 (c:=Tryz.f86.body.getD .skip) rfl Tryz.results86 Tryz.ntmps86 Tryz.call86 ?_
 simp only[Tryz.f86,Option.getD]
 unfold zfu at hy
 cases e1:zi6 bs p with
 |error x=>
  rw[e1]at hy
  obtain⟨rfl,rfl⟩:=zbL hy
  have h1:=zpR bs p h hp e1
  repeat'(first|refine zq0 ?_|exact zd0|(refine zaa ?_ ?_<;>intro hb)|(refine And.intro ?_ ?_;exact zI)|(refine And.intro ?_ ?_<;>intro hg)|exact zC|fail)
  refine zp (rds bs p) (h1) ?_
  first|refine zs (I @zaW @zal) ?_|exact zt (I @zaW @zal)
 |ok nm=>
 have h1:=zsc bs p h hp e1
 rw[e1]at hy
 simp only at hy
 repeat'(first|refine zq0 ?_|exact zd0|(refine zaa ?_ ?_<;>intro hb)|(refine And.intro ?_ ?_;exact zI)|(refine And.intro ?_ ?_<;>intro hg)|exact zC|fail)
 refine zj (h1) ?_
 cases e2:zdi bs nm.2 with
 |error x=>
  rw[e2]at hy
  obtain⟨rfl,rfl⟩:=zbL hy
  have h2:=zhe bs _ h (zkc h e1) e2
  repeat'(first|refine zq0 ?_|exact zd0|(refine zaa ?_ ?_<;>intro hb)|(refine And.intro ?_ ?_;exact zI)|(refine And.intro ?_ ?_<;>intro hg)|exact zC|fail)
  refine zp (rds bs p) (h2) ?_
  first|refine zs (I @zaW @zal) ?_|exact zt (I @zaW @zal)
 |ok hd=>
 have h2:=zhd bs _ h (zkc h e1) e2
 rw[e2]at hy
 simp only at hy
 repeat'(first|refine zq0 ?_|exact zd0|(refine zaa ?_ ?_<;>intro hb)|(refine And.intro ?_ ?_;exact zI)|(refine And.intro ?_ ?_<;>intro hg)|exact zC|fail)
 refine zj (h2) ?_
 cases e3:zef bs hd.2 with
 |error x=>
  rw[e3]at hy
  obtain⟨rfl,rfl⟩:=zbL hy
  have h3:=zc3 bs _ h (zdh h e2) e3
  repeat'(first|refine zq0 ?_|exact zd0|(refine zaa ?_ ?_<;>intro hb)|(refine And.intro ?_ ?_;exact zI)|(refine And.intro ?_ ?_<;>intro hg)|exact zC|fail)
  refine zp (rds bs p) (h3) ?_
  first|refine zs (I @zaW @zal) ?_|exact zt (I @zaW @zal)
 |ok tk=>
 have h3:=zdG bs _ h (zdh h e2) e3
 rw[e3]at hy
 simp only at hy
 repeat'(first|refine zq0 ?_|exact zd0|(refine zaa ?_ ?_<;>intro hb)|(refine And.intro ?_ ?_;exact zI)|(refine And.intro ?_ ?_<;>intro hg)|exact zC|fail)
 refine zj (h3) ?_
 cases e4:zb3 bs tk.2 3 with
 |error x=>
  rw[e4]at hy
  obtain⟨rfl,rfl⟩:=zbL hy
  have h4:=zeQ bs _ 3 h (zbg h e3) e4
  repeat'(first|refine zq0 ?_|exact zd0|(refine zaa ?_ ?_<;>intro hb)|(refine And.intro ?_ ?_;exact zI)|(refine And.intro ?_ ?_<;>intro hg)|exact zC|fail)
  refine zp (rds bs p) (h4) ?_
  first|refine zs (I @zaW @zal) ?_|exact zt (I @zaW @zal)
 |ok n=>
 have h4:=zfU bs _ 3 h (zbg h e3) e4
 obtain⟨hn1,hn2,hn3⟩:=zdY h e4
 rw[e4]at hy
 simp only at hy
 repeat'(first|refine zq0 ?_|exact zd0|(refine zaa ?_ ?_<;>intro hb)|(refine And.intro ?_ ?_;exact zI)|(refine And.intro ?_ ?_<;>intro hg)|exact zC|fail)
 refine zj (h4) ?_
 repeat'(first|refine zq0 ?_|exact zd0|(refine zaa ?_ ?_<;>intro hb)|(refine And.intro ?_ ?_;exact zI)|(refine And.intro ?_ ?_<;>intro hg)|exact zC|fail)
 refine zai (τ:=Nat×Int×List Int×Nat) (fun t=>⟨[.one (.ptr ⟨0,0,0⟩ 0),dd, .one (.ptr ⟨2,0,1⟩ 0), .one (.ptr ⟨3,0,1⟩ 0),dd,dd,dd,dd,dd,dd,dd,dd,dd,dd,ai n.1,ai t.1,dd,dd,dd,dd,dd,dd,dd,dd,dd,dd],[zxn bs t.2.1 t.2.2.2,(2,{next:=2,l:=[some {e:=1,var:=true,fz:=false,sz:=0,cells:=[dS .empty,di 0,di 0, .d (.v (.slice none 0 0))]},none,none,none,none]}),(3,{next:=2,l:=[some {e:=1,var:=true,fz:=false,sz:=0,cells:=[dS nm.1,di hd.1,di tk.1, .own ⟨3,4,1⟩ 0 t.2.2.1.length]},none,none,none,some {e:=1,var:=false,fz:=false,sz:=1,cells:=(zaJ t.2.2.1).map C.d}]}),(21,⟨2,[]⟩),(22,⟨2,[]⟩)]⟩)
  (fun t=>t.1≤n.1.toNat∧i64 t.2.1∧t.2.2.1.length=t.1) (fun t=>zhy bs (n.1.toNat - t.1) t.2.1 t.2.2.1) (fun t=>n.1.toNat - t.1) (0,n.2,[],5)
  ((Gh.nilF 3 3 1 rfl).trans (Gh.canon [0,2,3] [21,22] [0] zK rfl rfl)) ⟨Nat.zero_le _,hn1,rfl⟩ ?_
 intro⟨i,q,acc,nx⟩ ⟨hi0,hq,ha⟩ hF K hK
 simp only[Nat.sub_zero]at hi0 hq ha hF hK⊢
 rw[←hF]at hy
 refine zw ?_
 refine zaa (fun hlt=> ?_) (fun hge=> ?_)
 ·have hi:i<n.1.toNat:=by simp at hlt;omega
  have hw:=zak hi (by omega)
  have hst:n.1.toNat - i=(n.1.toNat - (i+1))+1:=by omega
  rw[hst,zhy]at hy
  cases hx:zdi bs q with
  |error x=>
   rw[hx]at hy
   obtain⟨rfl,rfl⟩:=zbL hy
   have hr:=zhe bs q h hq hx
   first|refine zs0 ?_|exact zt0
   refine zeL _ _ (zky zao mixed 3 [false,false,false,true,true,true,true,true] (zqa e) (fun g=> ?_) ?_)
   ·first|refine zs (I @zaW @zal) ?_|exact zt (I @zaW @zal)
   ·simp only[zm7,zm8,zis]
    repeat'(first|refine zq0 ?_|exact zd0|(refine zaa ?_ ?_<;>intro hb)|(refine And.intro ?_ ?_;exact zI)|(refine And.intro ?_ ?_<;>intro hg)|exact zC|fail)
    exact zn (rds bs q) (hr)
  |ok x=>
   have hF2:zhy bs (n.1.toNat - (i+1)) x.2 (acc++[x.1])=zhy bs (n.1.toNat - i) q acc:=by rw[hst,zhy,hx]
   have hr:=zhd bs q h hq hx
   repeat'(first|refine zq0 ?_|exact zd0|(refine zaa ?_ ?_<;>intro hb)|(refine And.intro ?_ ?_;exact zI)|(refine And.intro ?_ ?_<;>intro hg)|exact zC|fail)
   refine zj (hr) ?_
   repeat'(first|refine zq @zah ?_|exact zd @zah|(refine zaa ?_ ?_<;>intro hb)|(refine And.intro ?_ ?_;exact zI)|(refine And.intro ?_ ?_<;>intro hg)|exact zC|fail)
   refine hK _ (i+1,x.2,acc++[x.1],nx+1) (Gh.canon [0,2,3] [] [0] (zk (I hw (I @List.length_append.{0} @List.length_singleton.{0}))) rfl (by simp only[List.length_append,List.length_singleton];rw[zfC];rfl)) ⟨hi,zdh h hx,by simp only[List.length_append,List.length_singleton];omega⟩ hF2 (by simp only;omega)
 ·have hi:i=n.1.toNat:=by
   have:¬(i:Int)<n.1:=by simpa using hge
   omega
  rw[hi,Nat.sub_self,zhy]at hy
  obtain⟨rfl,rfl⟩:=zqs hy
  repeat'(first|refine zq @zkz ?_|exact zd @zkz|(refine zaa ?_ ?_<;>intro hb)|(refine And.intro ?_ ?_;exact zI)|(refine And.intro ?_ ?_<;>intro hg)|exact zC|fail)
theorem zsb (bs:List Int) (p:Int) (h:BsOk bs) (hp:i64 p) {y:Lk×Int} (hy:zfu bs p= .ok y):CallOK Tryz.prog 86 [.obj (rds bs p)] (fun r o=>r=[zzN y.1]∧o=[rds bs y.2]):=
 (zi4 bs p h hp true y 0 hy).1 rfl
theorem zpP (bs:List Int) (p:Int) (h:BsOk bs) (hp:i64 p) {e:Int} (hy:zfu bs p= .error e):zcB Tryz.prog 86 [.obj (rds bs p)] (zqa e):=
 (zi4 bs p h hp false (⟨.empty,0,0,[]⟩,0) e hy).2 rfl
theorem zi5 {bs:List Int} (h:BsOk bs):∀{n:Nat} {p:Int} {acc:List Int} {y:List Int×Int},i64 p→zhy bs n p acc= .ok y→i64 y.2∧y.1.length=acc.length+n
 |0,p,acc,y,hp,hy=>by cases hy;exact⟨hp,rfl⟩
 |n+1,p,acc,y,hp,hy=>by
  rw[zhy]at hy
  cases hx:zdi bs p with
  |error x=>rw[hx]at hy;cases hy
  |ok x=>
   rw[hx]at hy
   have:=zi5 h (zdh h hx) hy
   rw[List.length_append,List.length_singleton]at this
   exact⟨this.1,by omega⟩
theorem zpQ {bs:List Int} {p:Int} {y:ByteArray×Int} (hy:zi6 bs p= .ok y):y.1.size≤bs.length:=by
 obtain⟨_,rfl⟩:=zge hy
 exact zhC
theorem znI {bs:List Int} (h:BsOk bs) {p:Int} {y:Lk×Int} (hy:zfu bs p= .ok y):i64 y.2∧y.1.line.length≤3∧y.1.name.size≤bs.length:=by
 unfold zfu at hy
 cases e1:zi6 bs p with
 |error x=>rw[e1]at hy;cases hy
 |ok nm=>
 rw[e1]at hy;simp only at hy
 cases e2:zdi bs nm.2 with
 |error x=>rw[e2]at hy;cases hy
 |ok hd=>
 rw[e2]at hy;simp only at hy
 cases e3:zef bs hd.2 with
 |error x=>rw[e3]at hy;cases hy
 |ok tk=>
 rw[e3]at hy;simp only at hy
 cases e4:zb3 bs tk.2 3 with
 |error x=>rw[e4]at hy;cases hy
 |ok n=>
 rw[e4]at hy;simp only at hy
 obtain⟨hn1,hn2,hn3⟩:=zdY h e4
 cases e5:zhy bs n.1.toNat n.2 []with
 |error x=>rw[e5]at hy;cases hy
 |ok l=>
 rw[e5]at hy;simp only at hy
 obtain⟨f1,f2⟩:=zi5 h hn1 e5
 cases hy
 simp only[List.length_nil]at f2
 exact⟨f1,by simp only;omega,zpQ e1⟩
end Go.Proofs.YtbpmcjeeeiffhaaGreat
