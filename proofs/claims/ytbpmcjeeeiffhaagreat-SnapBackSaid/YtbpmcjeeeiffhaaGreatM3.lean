import Derived.Test.YtbpmcjeeeiffhaaGreatK9
import Derived.Test.YtbpmcjeeeiffhaaGreatL7
namespace Go.Proofs.YtbpmcjeeeiffhaaGreat
open Go.Pk
set_option maxRecDepth 100000
set_option linter.unusedSimpArgs false
set_option linter.unusedVariables false
theorem zo4 {l:List Grant} {i:Nat} (hi:i<l.length):zbz (l.take (i+1))=zbz (l.take i)++(zeu l[i].name++zbV l[i].token):=by
 rw[List.take_succ_eq_append_getElem hi,zbz,List.flatMap_append];simp[zbz,zjj]
def zkq (r:Reply):List Int:=[r.code]++(zbV r.session++[r.ahead,(r.held.length:Int)])
def ziu (r:Reply) (i:Nat):List Int:=zkq r++zbz (r.held.take i)
theorem zlS {r:Reply} {i:Nat} (hi:i<r.held.length):ziu r (i+1)=(ziu r i++zeu r.held[i].name)++zbV r.held[i].token:=by
 rw[ziu,zo4 hi,ziu];simp
theorem zlT {r:Reply}:ziu r 0=zkq r:=by simp[ziu,zbz]
theorem ztb {r:Reply}:ziu r r.held.length=zb6 r:=by simp[ziu,zkq,zb6]
theorem zin (r:Reply):(zkq r).length=11:=by simp[zkq,zaW]
set_option maxHeartbeats 1000000 in
theorem zmW (r:Reply) (h:zbL r=true):CallOK Tryz.prog 77 [.f (.agg r.lent)] (fun x o=>x=[.one (.own 1 (zb6 r).length (zaf (zb6 r)) false),ri 0]∧o=[]):=by
 obtain⟨f1,f2,f3,f4,f5⟩:=zcA h
 have hgr:=zcN h
 refine zac zas mixed (T:=Ty) (n:=63) Tryz.func77 (c:=Tryz.f77.body.getD .skip) rfl Tryz.results77 Tryz.ntmps77 Tryz.call77 ?_
 simp only[Tryz.f77,Option.getD]
 have hmy:=zeg r ⟨by omega,fun g hg=>by have:=(hgr g hg).1;omega⟩
 rw[h]at hmy
 have hpn:=zge r.session (by omega)
 have w1:IntKind.u8.wrap r.code=r.code:=zhc (by omega) (by omega)
 have w2:IntKind.u8.wrap r.ahead=r.ahead:=zhc (by omega) (by omega)
 have w3:IntKind.u8.wrap (r.held.length:Int)=r.held.length:=zhc (by omega) (by omega)
 have hcc:CallOK Tryz.prog 30 [.f (al 3 [.sl 1 (zaf [r.code]), .sl 8 (zaf (zbV r.session)), .sl 2 (zaf [r.ahead,(r.held.length:Int)])])] (fun x o=>x=[.one (.own 1 11 (zaf (zkq r)) false)]∧o=[]):=by
  have hc:=zhX [zaf [r.code],zaf (zbV r.session),zaf [r.ahead,(r.held.length:Int)]] (by simp) (fun l hl=>by
   simp only[List.mem_cons,List.not_mem_nil,or_false]at hl
   rcases hl with rfl|rfl|rfl
   ·simp
   ·rw[zee];decide
   ·simp)
  rw[show [zaf [r.code],zaf (zbV r.session),zaf [r.ahead,(r.held.length:Int)]].flatten=zaf (zkq r) from by simp[zkq,zaf]]at hc
  rw[show(zaf (zkq r)).length=11 from by rw[List.length_map,zin]]at hc
  exact hc
 have t1:(zaf (zbV r.session)).take 8=zaf (zbV r.session):=List.take_of_length_le (by rw[zee];decide)
 have t2:toDs (sub 0 2 1 [C.d (uD r.ahead),C.d (uD (r.held.length:Int))])=some [uD r.ahead,uD (r.held.length:Int)]:=rfl
 repeat'(first|refine zq (I t1 (I t2 (I w1 (I w2 w3)))) ?_|exact zd (I t1 (I t2 (I w1 (I w2 w3))))|refine zc (hmy) ?_|refine zg (hmy) ?_|refine zc (hpn) ?_|refine zg (hpn) ?_|refine zc (hcc) ?_|refine zg (hcc) ?_|(refine zaa ?_ ?_<;>intro hb)|(refine And.intro ?_ ?_;exact zI)|(refine And.intro ?_ ?_<;>intro hg)|exact zC|fail)
 refine zam (τ:=Nat) (fun i=>⟨[dd, .one (.ptr ⟨1,0,1⟩ 0),dd,dd,dd,dd, .one (.own ⟨6,1,1⟩ 0 (ziu r i).length),dd,dd,dd,dd,dd,dd,dd,dd,dd,dd,dd,dd,dd,dd,dd,dd,dd,dd,dd,dd,dd,dd,dd,dd,dd,dd,dd,dd,dd,dd,dd,al r.held.length (zaG r.held),ai r.held.length,ai i,dd,dd,dd,dd,dd,dd,dd,dd,dd,dd,dd,dd,dd,dd,dd,dd,dd,dd,dd,dd,dd,dd],[(1,{next:=2,l:=[some {e:=1,var:=true,fz:=false,sz:=0,cells:=[di r.code,di r.session,di r.ahead, .lent r.held.length (zaG r.held)]},none,none,none,none]}),(19,⟨2,[]⟩),(4,⟨2,[]⟩),(25,⟨2,[]⟩),(34,⟨2,[]⟩),(35,⟨2,[]⟩),(36,⟨2,[]⟩),(6,{next:=2,l:=[none,some {e:=1,var:=false,fz:=false,sz:=1,cells:=(zaf (ziu r i)).map C.d}]}),(8,⟨2,[]⟩),(9,⟨2,[]⟩),(11,⟨2,[]⟩),(47,⟨2,[]⟩),(53,⟨2,[]⟩),(58,⟨2,[]⟩),(60,⟨2,[]⟩)]⟩)
  (fun i=>i≤r.held.length) (fun _=>()) (fun i=>r.held.length - i) 0
  (Gh.canon [1,6] [8,9,11,47,53,58,60] [] (zk (I @zlT @zin)) rfl (by rw[zlT];rfl)) (Nat.zero_le _) ?_
 intro i hi0 hF K hK
 refine zw ?_
 refine zaa (fun hlt=> ?_) (fun hge=> ?_)
 ·have hi:i<r.held.length:=by simpa using hlt
  have hat:=zcb hi
  have hw:=zaq hi (by omega)
  have hg:=hgr _ (List.getElem_mem hi)
  have hpt:=zi8 r.held[i].name (by omega)
  have hpm:=zge r.held[i].token hg.2
  have hlb:(ziu r i).length≤11+4*21:=by
   rw[ziu,List.length_append,zin]
   have:=zfP (l:=r.held.take i) (k:=12) fun g hx=>(hgr g (List.mem_of_mem_take hx)).1
   have:(r.held.take i).length≤4:=by rw[List.length_take];omega
   omega
  have hle:((ziu r i).length+(1+r.held[i].name.size)≤2^47)=True:=eq_true (by omega)
  have hle2:((ziu r i).length+(1+r.held[i].name.size)+8≤2^47)=True:=eq_true (by omega)
  have k1:(zhd r.held[i].name).take (1+r.held[i].name.size)=zhd r.held[i].name:=List.take_of_length_le (by rw[zeS];exact Nat.le_refl _)
  have k2:(zaf (zbV r.held[i].token)).take 8=zaf (zbV r.held[i].token):=List.take_of_length_le (by rw[zee];decide)
  have k3:(zaf (ziu r i)).take (ziu r i).length=zaf (ziu r i):=List.take_of_length_le (by rw[List.length_map];exact Nat.le_refl _)
  have k4:(zaf (ziu r i)++zhd r.held[i].name).take ((ziu r i).length+(1+r.held[i].name.size))=zaf (ziu r i)++zhd r.held[i].name:=List.take_of_length_le (by rw[List.length_append,List.length_map,zeS];exact Nat.le_refl _)
  have hsl:(ziu r (i+1)).length=(ziu r i).length+(1+r.held[i].name.size)+8:=by rw[zlS hi,List.length_append,List.length_append,zcM,zaW]
  repeat'(first|refine zq (I hat (I @zay (I hle (I hle2 (I k1 (I k2 (I k3 (I k4 (I @zeS (I @List.length_map.{0,0} (I @zaW zca))))))))))) ?_|exact zd (I hat (I @zay (I hle (I hle2 (I k1 (I k2 (I k3 (I k4 (I @zeS (I @List.length_map.{0,0} (I @zaW zca)))))))))))|refine zc (hpt) ?_|refine zg (hpt) ?_|refine zc (hpm) ?_|refine zg (hpm) ?_|(refine zaa ?_ ?_<;>intro hb)|(refine And.intro ?_ ?_;exact zI)|(refine And.intro ?_ ?_<;>intro hg)|exact zC|fail)
  exact hK _ (i+1) (Gh.canon [1,6] [] [] (zk (I hw hsl)) rfl (by rw[zlS hi,zrr];simp only[zaf,List.map_append];rfl)) hi rfl (by omega)
 ·have hi:i=r.held.length:=by
   have:¬(i:Int)<r.held.length:=by simpa using hge
   omega
  subst hi
  repeat'(first|refine zq0 ?_|exact zd0|(refine zaa ?_ ?_<;>intro hb)|(refine And.intro ?_ ?_;exact zI)|(refine And.intro ?_ ?_<;>intro hg)|exact zC|fail)
  rw[ztb]
theorem zji {r:Reply} (h:zbL r=true):(zb6 r).length≤95:=by
 have hgr:=zcN h
 have hf:=(zcA h).2.2.2.1
 have:=zfP (l:=r.held) (k:=12) fun g hg=>(hgr g hg).1
 have e:(zb6 r).length=11+(zbz r.held).length:=by simp[zb6,zaW];omega
 omega
theorem zim {m:Memo} (h:answerB m=true):(zbn m).length≤104:=by
 have:=zji (zcj h).2.2
 have e:(zbn m).length=9+(zb6 m.reply).length:=by simp[zbn,zaW];omega
 omega
theorem zmV {m:Memo} (h:answerB m=true):zcd m.reply:=by
 have hgr:=zcN (zcj h).2.2
 have hf:=(zcA (zcj h).2.2).2.2.2.1
 exact⟨by omega,fun g hg=>by have:=(hgr g hg).1;omega⟩
theorem zlR (m:Memo) (h:answerB m=true):CallOK Tryz.prog 34 [.f (.agg m.lent)] (fun x o=>x=[.one (.own 1 (zbn m).length (zaf (zbn m)) false),ri 0]∧o=[]):=by
 refine zac zas mixed (T:=Ty) (n:=31) Tryz.func34 (c:=Tryz.f34.body.getD .skip) rfl Tryz.results34 Tryz.ntmps34 Tryz.call34 ?_
 simp only[Tryz.f34,Option.getD]
 obtain⟨f1,f2,f3⟩:=zcj h
 have hmy:=zeU m (zmV h)
 rw[h]at hmy
 have hpn:=zge m.seq (by omega)
 have hpr:=zmW m.reply f3
 have hrl:=zji f3
 have w1:IntKind.u8.wrap m.client=m.client:=zhc (by omega) (by omega)
 have hcc:CallOK Tryz.prog 30 [.f (al 3 [.sl 1 (zaf [m.client]), .sl 8 (zaf (zbV m.seq)), .sl (zb6 m.reply).length (zaf (zb6 m.reply))])] (fun x o=>x=[.one (.own 1 (zbn m).length (zaf (zbn m)) false)]∧o=[]):=by
  have hc:=zhX [zaf [m.client],zaf (zbV m.seq),zaf (zb6 m.reply)] (by simp) (fun l hl=>by
   simp only[List.mem_cons,List.not_mem_nil,or_false]at hl
   rcases hl with rfl|rfl|rfl
   ·simp
   ·rw[zee];decide
   ·rw[List.length_map];omega)
  rw[show [zaf [m.client],zaf (zbV m.seq),zaf (zb6 m.reply)].flatten=zaf (zbn m) from by simp[zbn,zaf]]at hc
  simp only[zrL,List.map_cons,List.map_nil,List.length_map,List.length_cons,List.length_nil,zaW]at hc
  exact hc
 have t1:(zaf (zbV m.seq)).take 8=zaf (zbV m.seq):=List.take_of_length_le (by rw[zee];decide)
 have t2:(zaf (zb6 m.reply)).take (zb6 m.reply).length=zaf (zb6 m.reply):=List.take_of_length_le (by rw[List.length_map];exact Nat.le_refl _)
 repeat'(first|refine zq (I t1 (I t2 w1)) ?_|exact zd (I t1 (I t2 w1))|refine zc (hmy) ?_|refine zg (hmy) ?_|refine zc (hpn) ?_|refine zg (hpn) ?_|refine zc (hpr) ?_|refine zg (hpr) ?_|refine zc (hcc) ?_|refine zg (hcc) ?_|(refine zaa ?_ ?_<;>intro hb)|(refine And.intro ?_ ?_;exact zI)|(refine And.intro ?_ ?_<;>intro hg)|exact zC|fail)
theorem zem (v:Int) (h:0≤v∧v<4611686018427387904):CallOK Tryz.prog 31 [.f (ai v)] (fun r o=>r=[.one (.own 1 8 (zaf (zbV v)) false)]∧o=[]):=by
 refine zac zas mixed (T:=Ty) (n:=11) Tryz.func31 (c:=Tryz.f31.body.getD .skip) rfl Tryz.results31 Tryz.ntmps31 Tryz.call31 ?_
 simp only[Tryz.f31,Option.getD]
 have hp:=zge v h
 repeat'(first|refine zq0 ?_|exact zd0|refine zc (hp) ?_|refine zg (hp) ?_|(refine zaa ?_ ?_<;>intro hb)|(refine And.intro ?_ ?_;exact zI)|(refine And.intro ?_ ?_<;>intro hg)|exact zC|fail)
theorem zjh:∀ls:List (List Int),(ls.map zaf).flatten=zaf ls.flatten
 |[]=>rfl
 |l::ls=>by simp only[List.map_cons,List.flatten_cons,zjh ls,List.map_append]
theorem zkp (ls:List (List Int)) (hl:ls.length<2^10) (hs:∀l∈ls,l.length≤2^12):
  CallOK Tryz.prog 30 [.f (al ls.length (ls.map fun l=> .sl l.length (zaf l)))] (fun r o=>r=[.one (.own 1 ls.flatten.length (zaf ls.flatten) false)]∧o=[]):=by
 have h:=zhX (ls.map zaf) (by simpa using hl) (fun l h=>by
  obtain⟨x,hx,rfl⟩:=List.mem_map.1 h
  rw[List.length_map];exact hs x hx)
 rw[zjh,za5,List.length_map]at h
 have e:zrL (ls.map zaf)=ls.map fun l=> .sl l.length (zaf l):=by
  rw[zrL,List.map_map]
  exact List.map_congr_left fun l _=>by simp only[Function.comp,za5]
 rw[e]at h
 exact h
def zhe (x:Sess):List Int:=x.client::(zbV x.num++zbV x.renewed)
def lk0 (k:Lk):List Int:=zeu k.name++(k.holder::(zbV k.token++[(k.line.length:Int)]))
def zgQ (k:Lk):List Int:=lk0 k++k.line
def zik (s:St):List Int:=zbV s.time++(zbV s.num++(zbV s.token++[(s.sess.length:Int)]))
def sb1 (s:St) (i:Nat):List Int:=zik s++(s.sess.take i).flatMap zhe
def sb2 (s:St) (i:Nat):List Int:=(sb1 s s.sess.length++[(s.locks.length:Int)])++(s.locks.take i).flatMap zgQ
def sb3 (s:St) (i:Nat):List Int:=(sb2 s s.locks.length++[(s.memos.length:Int)])++(s.memos.take i).flatMap zbn
def zbM (s:St):List Int:=sb3 s s.memos.length
theorem zeV {α:Type} (f:α→List Int) {l:List α} {i:Nat} (hi:i<l.length):(l.take (i+1)).flatMap f=(l.take i).flatMap f++f l[i]:=by
 rw[List.take_succ_eq_append_getElem hi,List.flatMap_append];simp
theorem zs9 {s:St} {i:Nat} (hi:i<s.sess.length):sb1 s (i+1)=sb1 s i++zhe s.sess[i]:=by rw[sb1,zeV _ hi,sb1,List.append_assoc]
theorem zta {s:St} {i:Nat} (hi:i<s.locks.length):sb2 s (i+1)=sb2 s i++zgQ s.locks[i]:=by rw[sb2,zeV _ hi,sb2,←List.append_assoc]
theorem znY {s:St} {i:Nat} (hi:i<s.memos.length):sb3 s (i+1)=sb3 s i++zbn s.memos[i]:=by rw[sb3,zeV _ hi,sb3,←List.append_assoc]
theorem znZ {s:St}:sb1 s 0=zik s:=by simp[sb1]
theorem zn0 {s:St}:sb2 s 0=sb1 s s.sess.length++[(s.locks.length:Int)]:=by simp[sb2]
theorem zn1 {s:St}:sb3 s 0=sb2 s s.locks.length++[(s.memos.length:Int)]:=by simp[sb3]
theorem zfi {α:Type} (f:α→List Int) {k:Nat}:∀{l:List α},(∀x∈l,(f x).length≤k)→(l.flatMap f).length≤l.length*k
 |[],_=>by simp
 |x::l,h=>by
  rw[List.flatMap_cons,List.length_append,List.length_cons,Nat.add_mul]
  have:=h x (by simp)
  have:=zfi f (l:=l) fun y hy=>h y (by simp[hy])
  omega
theorem zil (s:St):(zik s).length=25:=by simp[zik,zaW]
theorem zlP (x:Sess):(zhe x).length=17:=by simp[zhe,zaW]
theorem zmR (k:Lk):(lk0 k).length=11+k.name.size:=by simp[lk0,zaW,zcM];omega
theorem zmS (s:St) (i:Nat):(sb1 s i).length≤25+i*17:=by
 rw[sb1,List.length_append,zil]
 have:=zfi zhe (l:=s.sess.take i) (k:=17) fun x _=>by rw[zlP];exact Nat.le_refl _
 have h2:(s.sess.take i).length≤i:=by rw[List.length_take];omega
 have:=Nat.mul_le_mul_right 17 h2
 omega
theorem zfj {s:St} (h:RightS s) {k:Lk} (hk:k∈s.locks):(zgQ k).length≤26∧k.name.size≤12∧(0≤k.holder∧k.holder≤255)∧(0≤k.token∧k.token<4611686018427387904)∧k.line.length≤3∧∀c∈k.line,0≤c∧c≤255:=by
 have hH:zbB=2305843009213693952:=rfl
 obtain⟨a,_,b,_⟩:=h.lok k hk
 obtain⟨h1,h2,h3⟩:=zcr.1 a
 obtain⟨l1,l2,_⟩:=zbF.1 b
 have hs:=zgJ h1
 refine⟨?_,hs,by omega,by omega,l1,fun c hc=> ?_⟩
 ·rw[zgQ,List.length_append,zmR];omega
 ·have:=l2 c hc
  simp only[isClient,Bool.and_eq_true,decide_eq_true_eq]at this
  omega
def zkx (s:St) (i:Nat) (k:Lk) (j:Nat):List Int:=(sb2 s i++lk0 k)++k.line.take j
theorem zrq {s:St} {i:Nat} {k:Lk}:zkx s i k 0=sb2 s i++lk0 k:=by simp[zkx]
theorem zlQ {s:St} {i:Nat} {k:Lk} {j:Nat} (hj:j<k.line.length):zkx s i k (j+1)=zkx s i k j++[k.line[j]]:=by
 rw[zkx,List.take_succ_eq_append_getElem hj,←List.append_assoc,zkx]
theorem zn2 {s:St} {i:Nat} (hi:i<s.locks.length):zkx s i s.locks[i] s.locks[i].line.length=sb2 s (i+1):=by
 rw[zkx,List.take_length,zta hi,zgQ,List.append_assoc]
theorem zmT {s:St} (h:RightS s) (i:Nat):(sb2 s i).length≤115+i*26:=by
 rw[sb2,List.length_append,List.length_append]
 have:=zmS s s.sess.length
 have:=h.sl
 have:=zfi zgQ (l:=s.locks.take i) (k:=26) fun x hx=>(zfj h (List.mem_of_mem_take hx)).1
 have h2:(s.locks.take i).length≤i:=by rw[List.length_take];omega
 have:=Nat.mul_le_mul_right 26 h2
 simp only[List.length_singleton]
 omega
theorem zgx {s:St} (h:RightS s):s.memos.length≤8:=by
 have:=zgK (a:=0) (b:=8) (znM.1 h.ms) (fun x hx=>by
  obtain⟨m,hm,rfl⟩:=List.mem_map.1 hx
  exact(zcH (h.mok m hm)).1)
 rw[List.length_map]at this
 omega
theorem zmU {s:St} (h:RightS s) (i:Nat):(sb3 s i).length≤250+i*104:=by
 rw[sb3,List.length_append,List.length_append]
 have:=zmT h s.locks.length
 have:=h.ll
 have:=zfi zbn (l:=s.memos.take i) (k:=104) fun x hx=>zim (h.mok x (List.mem_of_mem_take hx))
 have h2:(s.memos.take i).length≤i:=by rw[List.length_take];omega
 have:=Nat.mul_le_mul_right 104 h2
 simp only[List.length_singleton]
 omega
theorem zaP {l:List Int}:(zaf l).take l.length=zaf l:=List.take_of_length_le (by rw[za5];exact Nat.le_refl _)
set_option maxHeartbeats 4000000 in
theorem zgR (s:St) (h:RightS s):CallOK Tryz.prog 14 [.f (.agg s.lent)] (fun r o=>r=[.one (.own 1 (zbM s).length (zaf (zbM s)) false),ri 0]∧o=[]):=by
 refine zac zas mixed (T:=Ty) (n:=137) Tryz.func14 (c:=Tryz.f14.body.getD .skip) rfl Tryz.results14 Tryz.ntmps14 Tryz.call14 ?_
 simp only[Tryz.f14,Option.getD]
 have hri:=zj6 s (zb1 h)
 rw[zdn.2 h]at hri
 have hH:zbB=2305843009213693952:=rfl
 have ht:=h.time
 have hn:=h.num
 have hk:=h.token
 have hsl:=h.sl
 have hll:=h.ll
 have n1:=zem s.time (by omega)
 have n2:=zem s.num (by omega)
 have n3:=zem s.token (by omega)
 have w1:IntKind.u8.wrap (s.sess.length:Int)=s.sess.length:=zhc (by omega) (by omega)
 have hcc:CallOK Tryz.prog 30 [.f (al 4 [.sl 8 (zaf (zbV s.time)), .sl 8 (zaf (zbV s.num)), .sl 8 (zaf (zbV s.token)), .sl 1 (zaf [(s.sess.length:Int)])])] (fun x o=>x=[.one (.own 1 25 (zaf (zik s)) false)]∧o=[]):=by
  have hc:=zkp [zbV s.time,zbV s.num,zbV s.token,[(s.sess.length:Int)]] (by simp) (fun l hl=>by
   simp only[List.mem_cons,List.not_mem_nil,or_false]at hl
   rcases hl with rfl|rfl|rfl|rfl<;>simp[zaW])
  rw[show [zbV s.time,zbV s.num,zbV s.token,[(s.sess.length:Int)]].flatten=zik s from by simp[zik],zil]at hc
  exact hc
 have t8:∀v:Int,(zaf (zbV v)).take 8=zaf (zbV v):=fun v=>List.take_of_length_le (by rw[zee];decide)
 have t1:∀x:Int,toDs (sub 0 1 1 [C.d (uD x)])=some [uD x]:=fun _=>rfl
 repeat'(first|refine zq (I t8 (I t1 w1)) ?_|exact zd (I t8 (I t1 w1))|refine zc (hri) ?_|refine zg (hri) ?_|refine zc (n1) ?_|refine zg (n1) ?_|refine zc (n2) ?_|refine zg (n2) ?_|refine zc (n3) ?_|refine zg (n3) ?_|refine zc (hcc) ?_|refine zg (hcc) ?_|(refine zaa ?_ ?_<;>intro hb)|(refine And.intro ?_ ?_;exact zI)|(refine And.intro ?_ ?_<;>intro hg)|exact zC|fail)
 refine zam (τ:=Nat) (fun i=>⟨[dd, .one (.ptr ⟨1,0,1⟩ 0),dd,dd, .one (.own ⟨4,1,1⟩ 0 (sb1 s i).length),dd,dd,dd,dd,dd,dd,dd,dd,dd,dd,dd,dd,dd,dd,dd,dd,dd,dd,dd,dd,dd,dd,dd,dd,dd,dd,dd,dd,dd,dd,dd,dd,al s.sess.length (zaJ s.sess),ai s.sess.length,ai i,dd,dd,dd,dd,dd,dd,dd,dd,dd,dd,dd,dd,dd,dd,dd,dd,dd,dd,dd,dd,dd,dd,dd,dd,dd,dd,dd,dd,dd,dd,dd,dd,dd,dd,dd,dd,dd,dd,dd,dd,dd,dd,dd,dd,dd,dd,dd,dd,dd,dd,dd,dd,dd,dd,dd,dd,dd,dd,dd,dd,dd,dd,dd,dd,dd,dd,dd,dd,dd,dd,dd,dd,dd,dd,dd,dd,dd,dd,dd,dd,dd,dd,dd,dd,dd,dd,dd,dd,dd,dd,dd,dd,dd,dd,dd,dd,dd],[(1,{next:=2,l:=[some {e:=1,var:=true,fz:=false,sz:=0,cells:=[di s.time,di s.num,di s.token, .lent s.sess.length (zaJ s.sess), .lent s.locks.length (zai s.locks), .lent s.memos.length (zaC s.memos)]},none,none,none,none,none,none]}),(22,⟨2,[]⟩),(25,⟨2,[]⟩),(28,⟨2,[]⟩),(33,⟨2,[]⟩),(34,⟨2,[]⟩),(35,⟨2,[]⟩),(4,{next:=2,l:=[none,some {e:=1,var:=false,fz:=false,sz:=1,cells:=(zaf (sb1 s i)).map C.d}]}),(6,⟨2,[]⟩),(47,⟨2,[]⟩),(50,⟨2,[]⟩),(53,⟨2,[]⟩),(54,⟨2,[]⟩),(55,⟨2,[]⟩)]⟩)
  (fun i=>i≤s.sess.length) (fun _=>()) (fun i=>s.sess.length - i) 0
  (Gh.canon [1,4] [6,47,50,53,54,55] [] (zk (I @znZ @zil)) rfl (by rw[znZ];rfl)) (Nat.zero_le _) ?_
 intro i hi0 hF K hK
 refine zw ?_
 refine zaa (fun hlt=> ?_) (fun hge=> ?_)
 ·have hi:i<s.sess.length:=by simpa using hlt
  have hat:=zbZ hi
  have hw:=zaq hi (by omega)
  obtain⟨f1,f2,f3⟩:=zb7.1 (h.sok _ (List.getElem_mem hi)).1
  simp only[isClient,Bool.and_eq_true,decide_eq_true_eq]at f1
  have wc:IntKind.u8.wrap s.sess[i].client=s.sess[i].client:=zhc (by omega) (by omega)
  have m1:=zem s.sess[i].num (by omega)
  have m2:=zem s.sess[i].renewed (by omega)
  have hb:=zmS s i
  have hcc:CallOK Tryz.prog 30 [.f (al 4 [.sl (sb1 s i).length (zaf (sb1 s i)), .sl 1 (zaf [s.sess[i].client]), .sl 8 (zaf (zbV s.sess[i].num)), .sl 8 (zaf (zbV s.sess[i].renewed))])] (fun x o=>x=[.one (.own 1 (sb1 s (i+1)).length (zaf (sb1 s (i+1))) false)]∧o=[]):=by
   have hc:=zkp [sb1 s i,[s.sess[i].client],zbV s.sess[i].num,zbV s.sess[i].renewed] (by simp) (fun l hl=>by
    simp only[List.mem_cons,List.not_mem_nil,or_false]at hl
    rcases hl with rfl|rfl|rfl|rfl
    ·omega
    ·simp
    ·rw[zaW];decide
    ·rw[zaW];decide)
   rw[show [sb1 s i,[s.sess[i].client],zbV s.sess[i].num,zbV s.sess[i].renewed].flatten=sb1 s (i+1) from by rw[zs9 hi];simp[zhe]]at hc
   exact hc
  repeat'(first|refine zq (I hat (I @zau (I t8 (I t1 (I wc (I @zaP zca)))))) ?_|exact zd (I hat (I @zau (I t8 (I t1 (I wc (I @zaP zca))))))|refine zc (m1) ?_|refine zg (m1) ?_|refine zc (m2) ?_|refine zg (m2) ?_|refine zc (hcc) ?_|refine zg (hcc) ?_|(refine zaa ?_ ?_<;>intro hb)|(refine And.intro ?_ ?_;exact zI)|(refine And.intro ?_ ?_<;>intro hg)|exact zC|fail)
  exact hK _ (i+1) (Gh.canon [1,4] [] [] (zk hw) rfl rfl) hi rfl (by omega)
 ·have hi:i=s.sess.length:=by
   have:¬(i:Int)<s.sess.length:=by simpa using hge
   omega
  subst hi
  clear hK
  have w2:IntKind.u8.wrap (s.locks.length:Int)=s.locks.length:=zhc (by omega) (by omega)
  have hb:=zmS s s.sess.length
  have hle:((sb1 s s.sess.length).length+1≤2^47)=True:=eq_true (by omega)
  repeat'(first|refine zq (I hle (I t1 (I w2 @zaP))) ?_|exact zd (I hle (I t1 (I w2 @zaP)))|(refine zaa ?_ ?_<;>intro hb)|(refine And.intro ?_ ?_;exact zI)|(refine And.intro ?_ ?_<;>intro hg)|exact zC|fail)
  refine zam (τ:=Nat) (fun i=>⟨[dd, .one (.ptr ⟨1,0,1⟩ 0),dd,dd, .one (.own ⟨4,1,1⟩ 0 (sb2 s i).length),dd,dd,dd,dd,dd,dd,dd,dd,dd,dd,dd,dd,dd,dd,dd,dd,dd,dd,dd,dd,dd,dd,dd,dd,dd,dd,dd,dd,dd,dd,dd,dd,dd,dd,dd,dd,dd,dd,dd,dd,dd,dd,dd,dd,dd,dd,dd,dd,dd,dd,dd,dd,dd,dd,dd,dd,dd,dd,dd,dd,al s.locks.length (zai s.locks),ai s.locks.length,ai i,dd,dd,dd,dd,dd,dd,dd,dd,dd,dd,dd,dd,dd,dd,dd,dd,dd,dd,dd,dd,dd,dd,dd,dd,dd,dd,dd,dd,dd,dd,dd,dd,dd,dd,dd,dd,dd,dd,dd,dd,dd,dd,dd,dd,dd,dd,dd,dd,dd,dd,dd,dd,dd,dd,dd,dd,dd,dd,dd,dd,dd,dd,dd,dd,dd,dd,dd,dd,dd],[(1,{next:=2,l:=[some {e:=1,var:=true,fz:=false,sz:=0,cells:=[di s.time,di s.num,di s.token, .lent s.sess.length (zaJ s.sess), .lent s.locks.length (zai s.locks), .lent s.memos.length (zaC s.memos)]},none,none,none,none,none,none]}),(22,⟨2,[]⟩),(25,⟨2,[]⟩),(28,⟨2,[]⟩),(33,⟨2,[]⟩),(34,⟨2,[]⟩),(35,⟨2,[]⟩),(4,{next:=2,l:=[none,some {e:=1,var:=false,fz:=false,sz:=1,cells:=(zaf (sb2 s i)).map C.d}]}),(6,⟨2,[]⟩),(47,⟨2,[]⟩),(50,⟨2,[]⟩),(53,⟨2,[]⟩),(54,⟨2,[]⟩),(55,⟨2,[]⟩),(62,⟨2,[]⟩),(8,⟨2,[]⟩),(9,⟨2,[]⟩),(74,⟨2,[]⟩),(82,⟨2,[]⟩),(85,⟨2,[]⟩),(90,⟨2,[]⟩),(91,⟨2,[]⟩),(92,⟨2,[]⟩),(103,⟨2,[]⟩),(104,⟨2,[]⟩)]⟩)
   (fun i=>i≤s.locks.length) (fun _=>()) (fun i=>s.locks.length - i) 0
   (Gh.canon [1,4] [8,9,74,82,85,90,91,92,103,104] [] (zk (I @zn0 (I @List.length_append.{0} @List.length_singleton.{0}))) rfl (by rw[zn0];simp only[zaf,List.map_append];rfl)) (Nat.zero_le _) ?_
  intro i hi0 hF K hK
  refine zw ?_
  refine zaa (fun hlt=> ?_) (fun hge=> ?_)
  ·have hi:i<s.locks.length:=by simpa using hlt
   have hat:=za0 hi
   have hw:=zaq hi (by omega)
   obtain⟨q0,q1,q2,q3,q4,q5⟩:=zfj h (List.getElem_mem hi)
   have wc:IntKind.u8.wrap s.locks[i].holder=s.locks[i].holder:=zhc (by omega) (by omega)
   have wl:IntKind.u8.wrap (s.locks[i].line.length:Int)=s.locks[i].line.length:=zhc (by omega) (by omega)
   have m1:=zi8 s.locks[i].name (by omega)
   have m2:=zem s.locks[i].token (by omega)
   have hb:=zmT h i
   have tt:(zhd s.locks[i].name).take (1+s.locks[i].name.size)=zhd s.locks[i].name:=List.take_of_length_le (by rw[zeS];exact Nat.le_refl _)
   have hcc:CallOK Tryz.prog 30 [.f (al 5 [.sl (sb2 s i).length (zaf (sb2 s i)), .sl (1+s.locks[i].name.size) (zhd s.locks[i].name), .sl 1 (zaf [s.locks[i].holder]), .sl 8 (zaf (zbV s.locks[i].token)), .sl 1 (zaf [(s.locks[i].line.length:Int)])])] (fun x o=>x=[.one (.own 1 (zkx s i s.locks[i] 0).length (zaf (zkx s i s.locks[i] 0)) false)]∧o=[]):=by
    have hc:=zkp [sb2 s i,zeu s.locks[i].name,[s.locks[i].holder],zbV s.locks[i].token,[(s.locks[i].line.length:Int)]] (by simp) (fun l hl=>by
     simp only[List.mem_cons,List.not_mem_nil,or_false]at hl
     rcases hl with rfl|rfl|rfl|rfl|rfl
     ·omega
     ·rw[zcM];omega
     ·simp
     ·rw[zaW];decide
     ·simp)
    rw[show [sb2 s i,zeu s.locks[i].name,[s.locks[i].holder],zbV s.locks[i].token,[(s.locks[i].line.length:Int)]].flatten=zkx s i s.locks[i] 0 from by rw[zrq];simp[lk0]]at hc
    rw[←zcM,zrr]
    exact hc
   repeat'(first|refine zq (I hat (I @zae (I t8 (I t1 (I wc (I wl (I tt (I @zaP zca)))))))) ?_|exact zd (I hat (I @zae (I t8 (I t1 (I wc (I wl (I tt (I @zaP zca))))))))|refine zc (m1) ?_|refine zg (m1) ?_|refine zc (m2) ?_|refine zg (m2) ?_|refine zc (hcc) ?_|refine zg (hcc) ?_|(refine zaa ?_ ?_<;>intro hb)|(refine And.intro ?_ ?_;exact zI)|(refine And.intro ?_ ?_<;>intro hg)|exact zC|fail)
   refine zam (τ:=Nat) (fun j=>⟨[dd, .one (.ptr ⟨1,0,1⟩ 0),dd,dd, .one (.own ⟨4,1,1⟩ 0 (zkx s i s.locks[i] j).length),dd,dd,dd,dd,dd,dd,dd,dd,dd,dd,dd,dd,dd,dd,dd,dd,dd,dd,dd,dd,dd,dd,dd,dd,dd,dd,dd,dd,dd,dd,dd,dd,dd,dd,dd,dd,dd,dd,dd,dd,dd,dd,dd,dd,dd,dd,dd,dd,dd,dd,dd,dd,dd,dd,dd,dd,dd,dd,dd,dd,al s.locks.length (zai s.locks),ai s.locks.length,ai i,dd,dd,dd,dd,dd,dd,dd,dd,dd,dd,dd,dd,dd,dd,dd,dd,dd,dd,dd,dd,dd,dd,dd,dd,dd,dd,asl s.locks[i].line.length (zaE s.locks[i].line),ai s.locks[i].line.length,ai j,dd,dd,dd,dd,dd,dd,dd,dd,dd,dd,dd,dd,dd,dd,dd,dd,dd,dd,dd,dd,dd,dd,dd,dd,dd,dd,dd,dd,dd,dd,dd,dd,dd,dd,dd,dd,dd,dd,dd,dd],[(1,{next:=2,l:=[some {e:=1,var:=true,fz:=false,sz:=0,cells:=[di s.time,di s.num,di s.token, .lent s.sess.length (zaJ s.sess), .lent s.locks.length (zai s.locks), .lent s.memos.length (zaC s.memos)]},none,none,none,none,none,none]}),(22,⟨2,[]⟩),(25,⟨2,[]⟩),(28,⟨2,[]⟩),(33,⟨2,[]⟩),(34,⟨2,[]⟩),(35,⟨2,[]⟩),(4,{next:=2,l:=[none,some {e:=1,var:=false,fz:=false,sz:=1,cells:=(zaf (zkx s i s.locks[i] j)).map C.d}]}),(6,⟨2,[]⟩),(47,⟨2,[]⟩),(50,⟨2,[]⟩),(53,⟨2,[]⟩),(54,⟨2,[]⟩),(55,⟨2,[]⟩),(62,⟨2,[]⟩),(8,⟨2,[]⟩),(9,⟨2,[]⟩),(74,⟨2,[]⟩),(82,⟨2,[]⟩),(85,⟨2,[]⟩),(90,⟨2,[]⟩),(91,⟨2,[]⟩),(92,⟨2,[]⟩),(103,⟨2,[]⟩),(104,⟨2,[]⟩)]⟩)
    (fun j=>j≤s.locks[i].line.length) (fun _=>()) (fun j=>s.locks[i].line.length - j) 0
    (Gh.canon [1,4] [] [] zK rfl rfl) (Nat.zero_le _) ?_
   intro j hj0 hF2 K2 hK2
   refine zw ?_
   refine zaa (fun hlt2=> ?_) (fun hge2=> ?_)
   ·have hj:j<s.locks[i].line.length:=by simpa using hlt2
    have hat2:=zcp hj
    have hw2:=zaq hj (by omega)
    have q6:=q5 _ (List.getElem_mem hj)
    have wd:IntKind.u8.wrap s.locks[i].line[j]=s.locks[i].line[j]:=zhc (by omega) (by omega)
    have hlj:(zkx s i s.locks[i] j).length≤300:=by
     rw[zkx,List.length_append,List.length_append,zmR,List.length_take];omega
    have hle3:((zkx s i s.locks[i] j).length+1≤2^47)=True:=eq_true (by omega)
    have hsl3:(zkx s i s.locks[i] (j+1)).length=(zkx s i s.locks[i] j).length+1:=by rw[zlQ hj,List.length_append,List.length_singleton]
    repeat'(first|refine zq (I hat2 (I @zak (I t1 (I wd (I hle3 (I @zaP zca)))))) ?_|exact zd (I hat2 (I @zak (I t1 (I wd (I hle3 (I @zaP zca))))))|(refine zaa ?_ ?_<;>intro hb)|(refine And.intro ?_ ?_;exact zI)|(refine And.intro ?_ ?_<;>intro hg)|exact zC|fail)
    exact hK2 _ (j+1) (Gh.canon [1,4] [] [] (zk (I hw2 hsl3)) rfl (by rw[zlQ hj];simp only[zaf,List.map_append];rfl)) hj rfl (by omega)
   ·have hj:j=s.locks[i].line.length:=by
     have:¬(j:Int)<s.locks[i].line.length:=by simpa using hge2
     omega
    subst hj
    repeat'(first|refine zq0 ?_|exact zd0|(refine zaa ?_ ?_<;>intro hb)|(refine And.intro ?_ ?_;exact zI)|(refine And.intro ?_ ?_<;>intro hg)|exact zC|fail)
    exact hK _ (i+1) (Gh.canon [1,4] [] [] (by simp only[hw,zn2 hi,zjx,zpn,zjy,zmc,zme,zmf,List.set_cons_zero,List.set_cons_succ,and_true,true_and,Int.natCast_zero,Int.cast_ofNat_Int,D.v.injEq,Value.int.injEq];try(repeat'(first|rfl|omega|with_reducible apply And.intro))) rfl (by rw[zn2 hi];rfl)) hi rfl (by omega)
  ·have hi:i=s.locks.length:=by
    have:¬(i:Int)<s.locks.length:=by simpa using hge
    omega
   subst hi
   clear hK
   have hml:=zgx h
   have w3:IntKind.u8.wrap (s.memos.length:Int)=s.memos.length:=zhc (by omega) (by omega)
   have hb2:=zmT h s.locks.length
   have hle2:((sb2 s s.locks.length).length+1≤2^47)=True:=eq_true (by omega)
   repeat'(first|refine zq (I hle2 (I t1 (I w3 @zaP))) ?_|exact zd (I hle2 (I t1 (I w3 @zaP)))|(refine zaa ?_ ?_<;>intro hb)|(refine And.intro ?_ ?_;exact zI)|(refine And.intro ?_ ?_<;>intro hg)|exact zC|fail)
   refine zam (τ:=Nat) (fun i=>⟨[dd,dd,dd,dd, .one (.own ⟨4,1,1⟩ 0 (sb3 s i).length),dd,dd,dd,dd,dd,dd,dd,dd,dd,dd,dd,dd,dd,dd,dd,dd,dd,dd,dd,dd,dd,dd,dd,dd,dd,dd,dd,dd,dd,dd,dd,dd,dd,dd,dd,dd,dd,dd,dd,dd,dd,dd,dd,dd,dd,dd,dd,dd,dd,dd,dd,dd,dd,dd,dd,dd,dd,dd,dd,dd,dd,dd,dd,dd,dd,dd,dd,dd,dd,dd,dd,dd,dd,dd,dd,dd,dd,dd,dd,dd,dd,dd,dd,dd,dd,dd,dd,dd,dd,dd,dd,dd,dd,dd,dd,dd,dd,dd,dd,dd,dd,dd,dd,dd,dd,dd,dd,dd,dd,dd,al s.memos.length (zaC s.memos),ai s.memos.length,ai i,dd,dd,dd,dd,dd,dd,dd,dd,dd,dd,dd,dd,dd,dd,dd,dd,dd,dd,dd],[(1,⟨2,[]⟩),(22,⟨2,[]⟩),(25,⟨2,[]⟩),(28,⟨2,[]⟩),(33,⟨2,[]⟩),(34,⟨2,[]⟩),(35,⟨2,[]⟩),(4,{next:=2,l:=[none,some {e:=1,var:=false,fz:=false,sz:=1,cells:=(zaf (sb3 s i)).map C.d}]}),(6,⟨2,[]⟩),(47,⟨2,[]⟩),(50,⟨2,[]⟩),(53,⟨2,[]⟩),(54,⟨2,[]⟩),(55,⟨2,[]⟩),(62,⟨2,[]⟩),(8,⟨2,[]⟩),(9,⟨2,[]⟩),(74,⟨2,[]⟩),(82,⟨2,[]⟩),(85,⟨2,[]⟩),(90,⟨2,[]⟩),(91,⟨2,[]⟩),(92,⟨2,[]⟩),(103,⟨2,[]⟩),(104,⟨2,[]⟩),(112,⟨2,[]⟩),(14,⟨2,[]⟩),(15,⟨2,[]⟩),(129,⟨2,[]⟩),(134,⟨2,[]⟩)]⟩)
    (fun i=>i≤s.memos.length) (fun _=>()) (fun i=>s.memos.length - i) 0
    (Gh.canon [4] [14,15,129,134] [] (zk (I @zn1 (I @List.length_append.{0} @List.length_singleton.{0}))) rfl (by rw[zn1];simp only[zaf,List.map_append];rfl)) (Nat.zero_le _) ?_
   intro i hi0 hF K hK
   refine zw ?_
   refine zaa (fun hlt=> ?_) (fun hge=> ?_)
   ·have hi:i<s.memos.length:=by simpa using hlt
    have hat:=zcY hi
    have hw:=zaq hi (by omega)
    have hma:=h.mok _ (List.getElem_mem hi)
    have hpa:=zlR s.memos[i] hma
    have hb3:=zmU h i
    have hal:=zim hma
    have hle3:((sb3 s i).length+(zbn s.memos[i]).length≤2^47)=True:=eq_true (by omega)
    have hsl3:(sb3 s (i+1)).length=(sb3 s i).length+(zbn s.memos[i]).length:=by rw[znY hi,List.length_append]
    repeat'(first|refine zq (I hat (I @zaD (I @zaP (I hle3 (I @za5 zca))))) ?_|exact zd (I hat (I @zaD (I @zaP (I hle3 (I @za5 zca)))))|refine zc (hpa) ?_|refine zg (hpa) ?_|(refine zaa ?_ ?_<;>intro hb)|(refine And.intro ?_ ?_;exact zI)|(refine And.intro ?_ ?_<;>intro hg)|exact zC|fail)
    exact hK _ (i+1) (Gh.canon [4] [] [] (zk (I hw hsl3)) rfl (by rw[znY hi];simp only[zaf,List.map_append];rfl)) hi rfl (by omega)
   ·have hi:i=s.memos.length:=by
     have:¬(i:Int)<s.memos.length:=by simpa using hge
     omega
    subst hi
    repeat'(first|refine zq0 ?_|exact zd0|(refine zaa ?_ ?_<;>intro hb)|(refine And.intro ?_ ?_;exact zI)|(refine And.intro ?_ ?_<;>intro hg)|exact zC|fail)
    rfl
abbrev rds (bs:List Int) (p:Int):List RO:=rdr bs.length (zaf bs) p
abbrev zpi (e:Int):Value:=zeX 83 e
abbrev Rr (α:Type):=Except Int (α×Int)
def rOf {α:Type} (x:α×Int×Int):Rr α:=if x.2.2=0 then .ok (x.1,x.2.1)else .error x.2.2
theorem zcz {α:Type} {x:α×Int×Int} {y:α×Int} (h:rOf x= .ok y):x.2.2=0∧y=(x.1,x.2.1):=by
 unfold rOf at h
 split at h
 ·rename_i h0;cases h;exact⟨h0,rfl⟩
 ·cases h
theorem zko {α:Type} {x:α×Int×Int} {e:Int} (h:rOf x= .error e):x.2.2=e∧e≠0:=by
 unfold rOf at h
 split at h
 ·cases h
 ·rename_i h0;cases h;exact⟨rfl,h0⟩
def zc7 (bs:List Int) (p:Int):Rr Int:=rOf (zev bs p)
def zbX (bs:List Int) (p:Int):Rr Int:=rOf (zaY bs p)
def zfp (bs:List Int) (p:Int):Rr ByteArray:=rOf (zb9 bs p 12)
def zfq (bs:List Int) (p:Int):Rr Memo:=rOf (zen bs p)
def zbt (bs:List Int) (p most:Int):Rr Int:=match zbX bs p with
 | .error e=> .error e
 | .ok (n,q)=>if n>most then .error 4 else .ok (n,q)
theorem zdL:CallOK Tryz.prog 93 [.f (ai 0)] (fun r o=>r=[]∧o=[]):=by
 refine zac zas mixed (T:=Ty) (n:=7) Tryz.func93 (c:=Tryz.f93.body.getD .skip) rfl Tryz.results93 Tryz.ntmps93 Tryz.call93 ?_
 simp only[Tryz.f93,Option.getD]
 repeat'(first|refine zq0 ?_|exact zd0|(refine zaa ?_ ?_<;>intro hb)|(refine And.intro ?_ ?_;exact zI)|(refine And.intro ?_ ?_<;>intro hg)|exact zC|fail)
theorem zgu (e:Int) (h:e≠0):zcn Tryz.prog 93 [.f (ai e)] (zpi e):=by
 refine zc0 zas mixed (T:=Ty) (n:=7) Tryz.func93 (c:=Tryz.f93.body.getD .skip) rfl Tryz.ntmps93 Tryz.call93 ?_
 simp only[Tryz.f93,Option.getD]
 have h1:(e !=0)=true:=by simpa using h
 repeat'(first|refine zq (I h1 @zah) ?_|exact zd (I h1 @zah)|(refine zaa ?_ ?_<;>intro hb)|(refine And.intro ?_ ?_;exact zI)|(refine And.intro ?_ ?_<;>intro hg)|exact zC|fail)
theorem zdg (bs:List Int) (p:Int) (h:BsOk bs) (hp:i64 p) {y:Int×Int} (hy:zc7 bs p= .ok y):
  CallOK Tryz.prog 42 [.obj (rds bs p)] (fun r o=>r=[ri y.1]∧o=[rds bs y.2]):=by
 obtain⟨h0,rfl⟩:=zcz hy
 refine zac zas mixed (T:=Ty) (n:=26) Tryz.func42 (c:=Tryz.f42.body.getD .skip) rfl Tryz.results42 Tryz.ntmps42 Tryz.call42 ?_
 simp only[Tryz.f42,Option.getD]
 have h1:=ziq bs p h hp
 rw[h0]at h1
 repeat'(first|refine zq0 ?_|exact zd0|refine zc (h1) ?_|refine zg (h1) ?_|refine zc (zdL) ?_|refine zg (zdL) ?_|(refine zaa ?_ ?_<;>intro hb)|(refine And.intro ?_ ?_;exact zI)|(refine And.intro ?_ ?_<;>intro hg)|exact zC|fail)
theorem zcL (bs:List Int) (p:Int) (h:BsOk bs) (hp:i64 p) {e:Int} (hy:zc7 bs p= .error e):
  zcn Tryz.prog 42 [.obj (rds bs p)] (zpi e):=by
 obtain⟨h0,h2⟩:=zko hy
 refine zc0 zas mixed (T:=Ty) (n:=26) Tryz.func42 (c:=Tryz.f42.body.getD .skip) rfl Tryz.ntmps42 Tryz.call42 ?_
 simp only[Tryz.f42,Option.getD]
 have h1:=ziq bs p h hp
 rw[h0]at h1
 repeat'(first|refine zq0 ?_|exact zd0|refine zc (h1) ?_|refine zg (h1) ?_|(refine zaa ?_ ?_<;>intro hb)|(refine And.intro ?_ ?_;exact zI)|(refine And.intro ?_ ?_<;>intro hg)|exact zC|fail)
 refine zhh (zgu e h2) rfl ?_
 first|refine zs @zah ?_|exact zt @zah
theorem zgv (bs:List Int) (p:Int) (h:BsOk bs) (hp:i64 p) {y:Int×Int} (hy:zbX bs p= .ok y):
  CallOK Tryz.prog 85 [.obj (rds bs p)] (fun r o=>r=[ri y.1]∧o=[rds bs y.2]):=by
 obtain⟨h0,rfl⟩:=zcz hy
 refine zac zas mixed (T:=Ty) (n:=26) Tryz.func85 (c:=Tryz.f85.body.getD .skip) rfl Tryz.results85 Tryz.ntmps85 Tryz.call85 ?_
 simp only[Tryz.f85,Option.getD]
 have h1:=zfk bs p h hp
 rw[h0]at h1
 repeat'(first|refine zq0 ?_|exact zd0|refine zc (h1) ?_|refine zg (h1) ?_|refine zc (zdL) ?_|refine zg (zdL) ?_|(refine zaa ?_ ?_<;>intro hb)|(refine And.intro ?_ ?_;exact zI)|(refine And.intro ?_ ?_<;>intro hg)|exact zC|fail)
theorem zgw (bs:List Int) (p:Int) (h:BsOk bs) (hp:i64 p) {e:Int} (hy:zbX bs p= .error e):
  zcn Tryz.prog 85 [.obj (rds bs p)] (zpi e):=by
 obtain⟨h0,h2⟩:=zko hy
 refine zc0 zas mixed (T:=Ty) (n:=26) Tryz.func85 (c:=Tryz.f85.body.getD .skip) rfl Tryz.ntmps85 Tryz.call85 ?_
 simp only[Tryz.f85,Option.getD]
 have h1:=zfk bs p h hp
 rw[h0]at h1
 repeat'(first|refine zq0 ?_|exact zd0|refine zc (h1) ?_|refine zg (h1) ?_|(refine zaa ?_ ?_<;>intro hb)|(refine And.intro ?_ ?_;exact zI)|(refine And.intro ?_ ?_<;>intro hg)|exact zC|fail)
 refine zhh (zgu e h2) rfl ?_
 first|refine zs @zah ?_|exact zt @zah
theorem zro (bs:List Int) (p:Int) (h:BsOk bs) (hp:i64 p) {y:ByteArray×Int} (hy:zfp bs p= .ok y):
  CallOK Tryz.prog 136 [.obj (rds bs p)] (fun r o=>r=[.one (.d (sD y.1))]∧o=[rds bs y.2]):=by
 obtain⟨h0,rfl⟩:=zcz hy
 refine zac zas mixed (T:=Ty) (n:=26) Tryz.func136 (c:=Tryz.f136.body.getD .skip) rfl Tryz.results136 Tryz.ntmps136 Tryz.call136 ?_
 simp only[Tryz.f136,Option.getD]
 have h1:=zks bs p 12 h hp
 rw[h0]at h1
 repeat'(first|refine zq0 ?_|exact zd0|refine zc (h1) ?_|refine zg (h1) ?_|refine zc (zdL) ?_|refine zg (zdL) ?_|(refine zaa ?_ ?_<;>intro hb)|(refine And.intro ?_ ?_;exact zI)|(refine And.intro ?_ ?_<;>intro hg)|exact zC|fail)
theorem zo1 (bs:List Int) (p:Int) (h:BsOk bs) (hp:i64 p) {e:Int} (hy:zfp bs p= .error e):
  zcn Tryz.prog 136 [.obj (rds bs p)] (zpi e):=by
 obtain⟨h0,h2⟩:=zko hy
 refine zc0 zas mixed (T:=Ty) (n:=26) Tryz.func136 (c:=Tryz.f136.body.getD .skip) rfl Tryz.ntmps136 Tryz.call136 ?_
 simp only[Tryz.f136,Option.getD]
 have h1:=zks bs p 12 h hp
 rw[h0]at h1
 repeat'(first|refine zq0 ?_|exact zd0|refine zc (h1) ?_|refine zg (h1) ?_|(refine zaa ?_ ?_<;>intro hb)|(refine And.intro ?_ ?_;exact zI)|(refine And.intro ?_ ?_<;>intro hg)|exact zC|fail)
 refine zhh (zgu e h2) rfl ?_
 first|refine zs @zah ?_|exact zt @zah
theorem zrp (bs:List Int) (p:Int) (h:BsOk bs) (hp:i64 p) {y:Memo×Int} (hy:zfq bs p= .ok y):
  CallOK Tryz.prog 87 [.obj (rds bs p)] (fun r o=>r=[zt9 y.1]∧o=[rds bs y.2]):=by
 obtain⟨h0,rfl⟩:=zcz hy
 refine zac zas mixed (T:=Ty) (n:=32) Tryz.func87 (c:=Tryz.f87.body.getD .skip) rfl Tryz.results87 Tryz.ntmps87 Tryz.call87 ?_
 simp only[Tryz.f87,Option.getD]
 have h1:=zg7 bs p h hp
 rw[h0]at h1
 repeat'(first|refine zq0 ?_|exact zd0|refine zc (h1) ?_|refine zg (h1) ?_|refine zc (zdL) ?_|refine zg (zdL) ?_|(refine zaa ?_ ?_<;>intro hb)|(refine And.intro ?_ ?_;exact zI)|(refine And.intro ?_ ?_<;>intro hg)|exact zC|fail)
 rfl
theorem zo2 (bs:List Int) (p:Int) (h:BsOk bs) (hp:i64 p) {e:Int} (hy:zfq bs p= .error e):
  zcn Tryz.prog 87 [.obj (rds bs p)] (zpi e):=by
 obtain⟨h0,h2⟩:=zko hy
 refine zc0 zas mixed (T:=Ty) (n:=32) Tryz.func87 (c:=Tryz.f87.body.getD .skip) rfl Tryz.ntmps87 Tryz.call87 ?_
 simp only[Tryz.f87,Option.getD]
 have h1:=zg7 bs p h hp
 rw[h0]at h1
 repeat'(first|refine zq0 ?_|exact zd0|refine zc (h1) ?_|refine zg (h1) ?_|(refine zaa ?_ ?_<;>intro hb)|(refine And.intro ?_ ?_;exact zI)|(refine And.intro ?_ ?_<;>intro hg)|exact zC|fail)
 refine zhh (zgu e h2) rfl ?_
 first|refine zs @zah ?_|exact zt @zah
theorem zlO {bs:List Int} {p most:Int} {y:Int×Int} (hy:zbt bs p most= .ok y):zbX bs p= .ok y∧y.1≤most:=by
 unfold zbt at hy
 cases hz:zbX bs p with
 |error e=>rw[hz]at hy;cases hy
 |ok z=>
  rw[hz]at hy
  simp only at hy
  split at hy
  ·cases hy
  ·rename_i hgt
   cases hy
   exact⟨rfl,by simp only;omega⟩
theorem zo3 {bs:List Int} {p most:Int} {e:Int} (hy:zbt bs p most= .error e):zbX bs p= .error e∨∃z,zbX bs p= .ok z∧z.1>most∧e=4:=by
 unfold zbt at hy
 cases hz:zbX bs p with
 |error e=>rw[hz]at hy;cases hy;exact .inl rfl
 |ok z=>
  rw[hz]at hy
  simp only at hy
  split at hy
  ·rename_i hgt;cases hy;exact .inr ⟨z,rfl,hgt,rfl⟩
  ·cases hy
theorem zfh (bs:List Int) (p most:Int) (h:BsOk bs) (hp:i64 p) {y:Int×Int} (hy:zbt bs p most= .ok y):
  CallOK Tryz.prog 84 [.obj (rds bs p), .f (ai most)] (fun r o=>r=[ri y.1]∧o=[rds bs y.2]):=by
 obtain⟨hz,hle⟩:=zlO hy
 have h1:=zgv bs p h hp hz
 have h2:decide (y.1>most)=false:=by simpa using hle
 refine zac zas mixed (T:=Ty) (n:=14) Tryz.func84 (c:=Tryz.f84.body.getD .skip) rfl Tryz.results84 Tryz.ntmps84 Tryz.call84 ?_
 simp only[Tryz.f84,Option.getD]
 repeat'(first|refine zq0 ?_|exact zd0|(refine zaa ?_ ?_<;>intro hb)|(refine And.intro ?_ ?_;exact zI)|(refine And.intro ?_ ?_<;>intro hg)|exact zC|fail)
 refine zj (h1) ?_
 repeat'(first|refine zq h2 ?_|exact zd h2|(refine zaa ?_ ?_<;>intro hb)|(refine And.intro ?_ ?_;exact zI)|(refine And.intro ?_ ?_<;>intro hg)|exact zC|fail)
theorem zel (bs:List Int) (p most:Int) (h:BsOk bs) (hp:i64 p) {e:Int} (hy:zbt bs p most= .error e):
  zcn Tryz.prog 84 [.obj (rds bs p), .f (ai most)] (zpi e):=by
 refine zc0 zas mixed (T:=Ty) (n:=14) Tryz.func84 (c:=Tryz.f84.body.getD .skip) rfl Tryz.ntmps84 Tryz.call84 ?_
 simp only[Tryz.f84,Option.getD]
 rcases zo3 hy with hz|⟨z,hz,hgt,rfl⟩
 ·have h1:=zgw bs p h hp hz
  repeat'(first|refine zq0 ?_|exact zd0|(refine zaa ?_ ?_<;>intro hb)|(refine And.intro ?_ ?_;exact zI)|(refine And.intro ?_ ?_<;>intro hg)|exact zC|fail)
  refine zp (rds bs p) (h1) ?_
  first|refine zs @zah ?_|exact zt @zah
 ·have h1:=zgv bs p h hp hz
  have h2:decide (z.1>most)=true:=by simpa using hgt
  repeat'(first|refine zq0 ?_|exact zd0|(refine zaa ?_ ?_<;>intro hb)|(refine And.intro ?_ ?_;exact zI)|(refine And.intro ?_ ?_<;>intro hg)|exact zC|fail)
  refine zj (h1) ?_
  repeat'(first|refine zq (I h2 @zah) ?_|exact zd (I h2 @zah)|(refine zaa ?_ ?_<;>intro hb)|(refine And.intro ?_ ?_;exact zI)|(refine And.intro ?_ ?_<;>intro hg)|exact zC|fail)
def zgt (bs:List Int):Nat→Int→List Int→Rr (List Int)
 |0,p,acc=> .ok (acc,p)
 |n+1,p,acc=>match zbX bs p with
  | .error e=> .error e
  | .ok x=>zgt bs n x.2 (acc++[x.1])
def zet (bs:List Int) (p:Int):Rr Lk:=match zfp bs p with
 | .error e=> .error e
 | .ok nm=>match zbX bs nm.2 with
  | .error e=> .error e
  | .ok hd=>match zc7 bs hd.2 with
   | .error e=> .error e
   | .ok tk=>match zbt bs tk.2 3 with
    | .error e=> .error e
    | .ok n=>match zgt bs n.1.toNat n.2 []with
     | .error e=> .error e
     | .ok l=> .ok (⟨nm.1,hd.1,tk.1,l.1⟩,l.2)
theorem zbd {bs:List Int} {p:Int} {y:Int×Int} (h:BsOk bs) (hy:zc7 bs p= .ok y):i64 y.2:=by
 obtain⟨_,rfl⟩:=zcz hy
 exact zes h.l zeW
theorem zcX {bs:List Int} {p:Int} {y:Int×Int} (h:BsOk bs) (hy:zbX bs p= .ok y):i64 y.2:=by
 obtain⟨_,rfl⟩:=zcz hy
 exact zes h.l zdp
theorem zrm {bs:List Int} {p:Int} {y:Int×Int} (h:BsOk bs) (hy:zbX bs p= .ok y):0≤y.1∧y.1<256:=by
 obtain⟨_,rfl⟩:=zcz hy
 exact zio h
theorem zjg {bs:List Int} {p:Int} {y:ByteArray×Int} (h:BsOk bs) (hy:zfp bs p= .ok y):i64 y.2:=by
 obtain⟨_,rfl⟩:=zcz hy
 exact zes h.l (zjn h)
theorem zdD {bs:List Int} {p m:Int} {y:Int×Int} (h:BsOk bs) (hy:zbt bs p m= .ok y):i64 y.2∧0≤y.1∧y.1≤m:=by
 obtain⟨h1,h2⟩:=zlO hy
 exact⟨zcX h h1,(zrm h h1).1,h2⟩
abbrev zwl (bs:List Int) (q:Int) (nx:Nat):Nat×RS:=(0,{next:=nx,l:=[some {e:=0,var:=true,fz:=false,bor:=true,sz:=0,cells:=[.d (.sl bs.length (zaf bs)),di q]},none,none]})
abbrev zyM (k:Lk):RF:= .agg [.d (sD k.name), .d (iD k.holder), .d (iD k.token), .own 1 k.line.length (zaE k.line) false]
set_option maxHeartbeats 2000000 in
theorem zii (bs:List Int) (p:Int) (h:BsOk bs) (hp:i64 p) (b:Bool) (y:Lk×Int) (e:Int) (hy:zwi b y e (zet bs p)):
  (b=true→CallOK Tryz.prog 86 [.obj (rds bs p)] (fun r o=>r=[zyM y.1]∧o=[rds bs y.2]))∧(b=false→zcn Tryz.prog 86 [.obj (rds bs p)] (zpi e)):=by
 refine zne zas mixed (T:=Ty) (n:=26) Tryz.func86 (c:=Tryz.f86.body.getD .skip) rfl Tryz.results86 Tryz.ntmps86 Tryz.call86 ?_
 simp only[Tryz.f86,Option.getD]
 unfold zet at hy
 cases e1:zfp bs p with
 |error x=>
  rw[e1]at hy
  obtain⟨rfl,rfl⟩:=zbD hy
  have h1:=zo1 bs p h hp e1
  repeat'(first|refine zq0 ?_|exact zd0|(refine zaa ?_ ?_<;>intro hb)|(refine And.intro ?_ ?_;exact zI)|(refine And.intro ?_ ?_<;>intro hg)|exact zC|fail)
  refine zp (rds bs p) (h1) ?_
  first|refine zs (I @zaQ @zah) ?_|exact zt (I @zaQ @zah)
 |ok nm=>
 have h1:=zro bs p h hp e1
 rw[e1]at hy
 simp only at hy
 repeat'(first|refine zq0 ?_|exact zd0|(refine zaa ?_ ?_<;>intro hb)|(refine And.intro ?_ ?_;exact zI)|(refine And.intro ?_ ?_<;>intro hg)|exact zC|fail)
 refine zj (h1) ?_
 cases e2:zbX bs nm.2 with
 |error x=>
  rw[e2]at hy
  obtain⟨rfl,rfl⟩:=zbD hy
  have h2:=zgw bs _ h (zjg h e1) e2
  repeat'(first|refine zq0 ?_|exact zd0|(refine zaa ?_ ?_<;>intro hb)|(refine And.intro ?_ ?_;exact zI)|(refine And.intro ?_ ?_<;>intro hg)|exact zC|fail)
  refine zp (rds bs p) (h2) ?_
  first|refine zs (I @zaQ @zah) ?_|exact zt (I @zaQ @zah)
 |ok hd=>
 have h2:=zgv bs _ h (zjg h e1) e2
 rw[e2]at hy
 simp only at hy
 repeat'(first|refine zq0 ?_|exact zd0|(refine zaa ?_ ?_<;>intro hb)|(refine And.intro ?_ ?_;exact zI)|(refine And.intro ?_ ?_<;>intro hg)|exact zC|fail)
 refine zj (h2) ?_
 cases e3:zc7 bs hd.2 with
 |error x=>
  rw[e3]at hy
  obtain⟨rfl,rfl⟩:=zbD hy
  have h3:=zcL bs _ h (zcX h e2) e3
  repeat'(first|refine zq0 ?_|exact zd0|(refine zaa ?_ ?_<;>intro hb)|(refine And.intro ?_ ?_;exact zI)|(refine And.intro ?_ ?_<;>intro hg)|exact zC|fail)
  refine zp (rds bs p) (h3) ?_
  first|refine zs (I @zaQ @zah) ?_|exact zt (I @zaQ @zah)
 |ok tk=>
 have h3:=zdg bs _ h (zcX h e2) e3
 rw[e3]at hy
 simp only at hy
 repeat'(first|refine zq0 ?_|exact zd0|(refine zaa ?_ ?_<;>intro hb)|(refine And.intro ?_ ?_;exact zI)|(refine And.intro ?_ ?_<;>intro hg)|exact zC|fail)
 refine zj (h3) ?_
 cases e4:zbt bs tk.2 3 with
 |error x=>
  rw[e4]at hy
  obtain⟨rfl,rfl⟩:=zbD hy
  have h4:=zel bs _ 3 h (zbd h e3) e4
  repeat'(first|refine zq0 ?_|exact zd0|(refine zaa ?_ ?_<;>intro hb)|(refine And.intro ?_ ?_;exact zI)|(refine And.intro ?_ ?_<;>intro hg)|exact zC|fail)
  refine zp (rds bs p) (h4) ?_
  first|refine zs (I @zaQ @zah) ?_|exact zt (I @zaQ @zah)
 |ok n=>
 have h4:=zfh bs _ 3 h (zbd h e3) e4
 obtain⟨hn1,hn2,hn3⟩:=zdD h e4
 rw[e4]at hy
 simp only at hy
 repeat'(first|refine zq0 ?_|exact zd0|(refine zaa ?_ ?_<;>intro hb)|(refine And.intro ?_ ?_;exact zI)|(refine And.intro ?_ ?_<;>intro hg)|exact zC|fail)
 refine zj (h4) ?_
 repeat'(first|refine zq0 ?_|exact zd0|(refine zaa ?_ ?_<;>intro hb)|(refine And.intro ?_ ?_;exact zI)|(refine And.intro ?_ ?_<;>intro hg)|exact zC|fail)
 refine zam (τ:=Nat×Int×List Int×Nat) (fun t=>⟨[.one (.ptr ⟨0,0,0⟩ 0),dd, .one (.ptr ⟨2,0,1⟩ 0), .one (.ptr ⟨3,0,1⟩ 0),dd,dd,dd,dd,dd,dd,dd,dd,dd,dd,ai n.1,ai t.1,dd,dd,dd,dd,dd,dd,dd,dd,dd,dd],[zwl bs t.2.1 t.2.2.2,(2,{next:=2,l:=[some {e:=1,var:=true,fz:=false,sz:=0,cells:=[dS .empty,di 0,di 0, .d (.v (.slice none 0 0))]},none,none,none,none]}),(3,{next:=2,l:=[some {e:=1,var:=true,fz:=false,sz:=0,cells:=[dS nm.1,di hd.1,di tk.1, .own ⟨3,4,1⟩ 0 t.2.2.1.length]},none,none,none,some {e:=1,var:=false,fz:=false,sz:=1,cells:=(zaE t.2.2.1).map C.d}]}),(21,⟨2,[]⟩),(22,⟨2,[]⟩)]⟩)
  (fun t=>t.1≤n.1.toNat∧i64 t.2.1∧t.2.2.1.length=t.1) (fun t=>zgt bs (n.1.toNat - t.1) t.2.1 t.2.2.1) (fun t=>n.1.toNat - t.1) (0,n.2,[],5)
  ((Gh.nilF 3 3 1 rfl).trans (Gh.canon [0,2,3] [21,22] [0] zK rfl rfl)) ⟨Nat.zero_le _,hn1,rfl⟩ ?_
 intro⟨i,q,acc,nx⟩ ⟨hi0,hq,ha⟩ hF K hK
 simp only[Nat.sub_zero]at hi0 hq ha hF hK⊢
 rw[←hF]at hy
 refine zw ?_
 refine zaa (fun hlt=> ?_) (fun hge=> ?_)
 ·have hi:i<n.1.toNat:=by simp at hlt;omega
  have hw:=zaq hi (by omega)
  have hst:n.1.toNat - i=(n.1.toNat - (i+1))+1:=by omega
  rw[hst,zgt]at hy
  cases hx:zbX bs q with
  |error x=>
   rw[hx]at hy
   obtain⟨rfl,rfl⟩:=zbD hy
   have hr:=zgw bs q h hq hx
   first|refine zs0 ?_|exact zt0
   refine zdG _ _ (zjF zas mixed 3 [false,false,false,true,true,true,true,true] (zpi e) (fun g=> ?_) ?_)
   ·first|refine zs (I @zaQ @zah) ?_|exact zt (I @zaQ @zah)
   ·simp only[zmh,zmi,zhC]
    repeat'(first|refine zq0 ?_|exact zd0|(refine zaa ?_ ?_<;>intro hb)|(refine And.intro ?_ ?_;exact zI)|(refine And.intro ?_ ?_<;>intro hg)|exact zC|fail)
    exact zn (rds bs q) (hr)
  |ok x=>
   have hF2:zgt bs (n.1.toNat - (i+1)) x.2 (acc++[x.1])=zgt bs (n.1.toNat - i) q acc:=by rw[hst,zgt,hx]
   have hr:=zgv bs q h hq hx
   repeat'(first|refine zq0 ?_|exact zd0|(refine zaa ?_ ?_<;>intro hb)|(refine And.intro ?_ ?_;exact zI)|(refine And.intro ?_ ?_<;>intro hg)|exact zC|fail)
   refine zj (hr) ?_
   repeat'(first|refine zq @zak ?_|exact zd @zak|(refine zaa ?_ ?_<;>intro hb)|(refine And.intro ?_ ?_;exact zI)|(refine And.intro ?_ ?_<;>intro hg)|exact zC|fail)
   refine hK _ (i+1,x.2,acc++[x.1],nx+1) (Gh.canon [0,2,3] [] [0] (zk (I hw (I @List.length_append.{0} @List.length_singleton.{0}))) rfl (by simp only[List.length_append,List.length_singleton];rw[zgD];rfl)) ⟨hi,zcX h hx,by simp only[List.length_append,List.length_singleton];omega⟩ hF2 (by simp only;omega)
 ·have hi:i=n.1.toNat:=by
   have:¬(i:Int)<n.1:=by simpa using hge
   omega
  rw[hi,Nat.sub_self,zgt]at hy
  obtain⟨rfl,rfl⟩:=zpA hy
  repeat'(first|refine zq @zjG ?_|exact zd @zjG|(refine zaa ?_ ?_<;>intro hb)|(refine And.intro ?_ ?_;exact zI)|(refine And.intro ?_ ?_<;>intro hg)|exact zC|fail)
theorem zrn (bs:List Int) (p:Int) (h:BsOk bs) (hp:i64 p) {y:Lk×Int} (hy:zet bs p= .ok y):CallOK Tryz.prog 86 [.obj (rds bs p)] (fun r o=>r=[zyM y.1]∧o=[rds bs y.2]):=
 (zii bs p h hp true y 0 hy).1 rfl
theorem zoY (bs:List Int) (p:Int) (h:BsOk bs) (hp:i64 p) {e:Int} (hy:zet bs p= .error e):zcn Tryz.prog 86 [.obj (rds bs p)] (zpi e):=
 (zii bs p h hp false (⟨.empty,0,0,[]⟩,0) e hy).2 rfl
theorem zij {bs:List Int} (h:BsOk bs):∀{n:Nat} {p:Int} {acc:List Int} {y:List Int×Int},i64 p→zgt bs n p acc= .ok y→i64 y.2∧y.1.length=acc.length+n
 |0,p,acc,y,hp,hy=>by cases hy;exact⟨hp,rfl⟩
 |n+1,p,acc,y,hp,hy=>by
  rw[zgt]at hy
  cases hx:zbX bs p with
  |error x=>rw[hx]at hy;cases hy
  |ok x=>
   rw[hx]at hy
   have:=zij h (zcX h hx) hy
   rw[List.length_append,List.length_singleton]at this
   exact⟨this.1,by omega⟩
theorem zoZ {bs:List Int} {p:Int} {y:ByteArray×Int} (hy:zfp bs p= .ok y):y.1.size≤bs.length:=by
 obtain⟨_,rfl⟩:=zcz hy
 exact zjm
theorem zmQ {bs:List Int} (h:BsOk bs) {p:Int} {y:Lk×Int} (hy:zet bs p= .ok y):i64 y.2∧y.1.line.length≤3∧y.1.name.size≤bs.length:=by
 unfold zet at hy
 cases e1:zfp bs p with
 |error x=>rw[e1]at hy;cases hy
 |ok nm=>
 rw[e1]at hy;simp only at hy
 cases e2:zbX bs nm.2 with
 |error x=>rw[e2]at hy;cases hy
 |ok hd=>
 rw[e2]at hy;simp only at hy
 cases e3:zc7 bs hd.2 with
 |error x=>rw[e3]at hy;cases hy
 |ok tk=>
 rw[e3]at hy;simp only at hy
 cases e4:zbt bs tk.2 3 with
 |error x=>rw[e4]at hy;cases hy
 |ok n=>
 rw[e4]at hy;simp only at hy
 obtain⟨hn1,hn2,hn3⟩:=zdD h e4
 cases e5:zgt bs n.1.toNat n.2 []with
 |error x=>rw[e5]at hy;cases hy
 |ok l=>
 rw[e5]at hy;simp only at hy
 obtain⟨f1,f2⟩:=zij h hn1 e5
 cases hy
 simp only[List.length_nil]at f2
 exact⟨f1,by simp only;omega,zoZ e1⟩
end Go.Proofs.YtbpmcjeeeiffhaaGreat
