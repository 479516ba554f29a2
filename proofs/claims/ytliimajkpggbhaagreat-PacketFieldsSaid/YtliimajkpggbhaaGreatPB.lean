import Derived.Test.YtliimajkpggbhaaGreatL6
namespace Go.Proofs.YtliimajkpggbhaaGreat
open Go.Pk
set_option maxRecDepth 100000
set_option linter.unusedSimpArgs false
set_option linter.unusedVariables false
def zf7 (s:ByteArray):List Int:=(s.size:Int)::s.data.toList.map fun b=>(b.toNat:Int)
theorem zoj (s:ByteArray):zie s=zad (zf7 s):=by simp[zie,zf7,zad,zzq]
theorem zc7 (s:ByteArray):(zf7 s).length=1+s.size:=by simp[zf7,zls,Nat.add_comm]
def zpF (g:Grant):List Int:=zf7 g.name++zcl g.token
def zdE (l:List Grant):List Int:=l.flatMap zpF
def zdJ (r:Reply):List Int:=[r.code]++(zcl r.session++([r.ahead,(r.held.length:Int)]++zdE r.held))
def zck (m:Memo):List Int:=[m.client]++(zcl m.seq++zdJ m.reply)
theorem zb4 (n:Int):(zcl n).length=8:=rfl
theorem zqB (g:Grant):(zpF g).length=9+g.name.size:=by simp[zpF,zc7,zb4];omega
theorem zgu:∀{l:List Grant} {k:Nat},(∀g∈l,g.name.size≤k)→(zdE l).length≤l.length*(9+k)
 |[],k,_=>by simp[zdE]
 |g::l,k,h=>by
  have h1:=zgu (l:=l) (k:=k) fun x hx=>h x (by simp[hx])
  have h2:=h g (by simp)
  rw[zdE,List.flatMap_cons,List.length_append,List.length_cons,zqB,Nat.add_mul]
  unfold zdE at h1
  omega
theorem zeg {r:Reply} (h:zbU r=true):(0≤r.code∧r.code≤12)∧(0≤r.session∧r.session≤2305843009213693952)∧(0≤r.ahead∧r.ahead≤3)∧r.held.length≤4∧zbA (zcs r.held) 0 r.held=true:=by
 unfold zbU at h
 have hH:zbs=2305843009213693952:=rfl
 simp only[Bool.and_eq_true,Bool.not_eq_true',Bool.or_eq_false_iff,decide_eq_false_iff_not,hH]at h
 obtain⟨⟨h1,h2⟩,h3⟩:=h
 refine⟨by omega,by omega,by omega,by omega,h3⟩
theorem zkD {α:Type} {q:Nat→α→Bool}:∀{l:List α} {i:Nat},zbA q i l=true→∀x∈l,∃k,q k x=true
 |[],_,_,x,hx=>by cases hx
 |a::l,i,h,x,hx=>by
  rw[zbA]at h
  split at h
  ·rename_i hq
   rcases List.mem_cons.1 hx with rfl|hx
   ·exact⟨i,hq⟩
   ·exact zkD h x hx
  ·cases h
theorem zeT {r:Reply} (h:zbU r=true):∀g∈r.held,g.name.size≤12∧0≤g.token∧g.token<4611686018427387904:=by
 intro g hg
 obtain⟨k,hk⟩:=zkD (zeg h).2.2.2.2 g hg
 unfold zcs at hk
 have hH:zbs=2305843009213693952:=rfl
 simp only[Bool.not_eq_true',Bool.or_eq_false_iff,decide_eq_false_iff_not,hH,Bool.not_eq_false']at hk
 obtain⟨⟨⟨h1,h2⟩,h3⟩,h4⟩:=hk
 have:nameP g.name=true:=by simpa using h1
 unfold nameP at this
 simp only[Bool.and_eq_true,decide_eq_true_eq]at this
 omega
theorem zc8 {m:Memo} (h:answerB m=true):(0≤m.client∧m.client<8)∧(1≤m.seq∧m.seq≤2305843009213693952)∧zbU m.reply=true:=by
 unfold answerB at h
 have hH:zbs=2305843009213693952:=rfl
 simp only[Bool.and_eq_true,decide_eq_true_eq,hH]at h
 exact⟨by omega,by omega,h.2⟩
theorem zqA {l:List Grant} {i:Nat} (hi:i<l.length):zdE (l.take (i+1))=zdE (l.take i)++(zf7 l[i].name++zcl l[i].token):=by
 rw[List.take_succ_eq_append_getElem hi,zdE,List.flatMap_append];simp[zdE,zpF]
def zlr (r:Reply):List Int:=[r.code]++(zcl r.session++[r.ahead,(r.held.length:Int)])
def zjP (r:Reply) (i:Nat):List Int:=zlr r++zdE (r.held.take i)
theorem zm1 {r:Reply} {i:Nat} (hi:i<r.held.length):zjP r (i+1)=(zjP r i++zf7 r.held[i].name)++zcl r.held[i].token:=by
 rw[zjP,zqA hi,zjP];simp
theorem zm2 {r:Reply}:zjP r 0=zlr r:=by simp[zjP,zdE]
theorem zvp {r:Reply}:zjP r r.held.length=zdJ r:=by simp[zjP,zlr,zdJ]
theorem zjh (r:Reply):(zlr r).length=11:=by simp[zlr,zb4]
set_option maxHeartbeats 1000000 in
theorem zoi (r:Reply) (h:zbU r=true):CallOK Tryz.prog 67 [.f (.agg r.lent)] (fun x o=>x=[.one (.own 1 (zdJ r).length (zad (zdJ r)) false),ri 0]∧o=[]):=by
 obtain⟨f1,f2,f3,f4,f5⟩:=zeg h
 have hgr:=zeT h
 refine zh Tryz.func67 Tryz.results67 Tryz.ntmps67 Tryz.call67 ?_
 simp only[Tryz.f67,Option.getD]
 have hmy:=zgA r ⟨by omega,fun g hg=>by have:=(hgr g hg).1;omega⟩
 rw[h]at hmy
 have hpn:=zdw r.session (by omega)
 have w1:IntKind.u8.wrap r.code=r.code:=zdF (by omega) (by omega)
 have w2:IntKind.u8.wrap r.ahead=r.ahead:=zdF (by omega) (by omega)
 have w3:IntKind.u8.wrap (r.held.length:Int)=r.held.length:=zdF (by omega) (by omega)
 have hcc:CallOK Tryz.prog 66 [.f (al 3 [.sl 1 (zad [r.code]), .sl 8 (zad (zcl r.session)), .sl 2 (zad [r.ahead,(r.held.length:Int)])])] (fun x o=>x=[.one (.own 1 11 (zad (zlr r)) false)]∧o=[]):=by
  have hc:=zjm [zad [r.code],zad (zcl r.session),zad [r.ahead,(r.held.length:Int)]] (by simp) (fun l hl=>by
   simp only[List.mem_cons,List.not_mem_nil,or_false]at hl
   rcases hl with rfl|rfl|rfl
   ·simp
   ·rw[zeh];decide
   ·simp)
  rw[show [zad [r.code],zad (zcl r.session),zad [r.ahead,(r.held.length:Int)]].flatten=zad (zlr r) from by simp[zlr,zad]]at hc
  rw[show(zad (zlr r)).length=11 from by rw[List.length_map,zjh]]at hc
  exact hc
 have t1:(zad (zcl r.session)).take 8=zad (zcl r.session):=List.take_of_length_le (by rw[zeh];decide)
 have t2:toDs (sub 0 2 1 [C.d (uD r.ahead),C.d (uD (r.held.length:Int))])=some [uD r.ahead,uD (r.held.length:Int)]:=rfl
 repeat'(first|exact zC|refine zq (I t1 (I t2 (I w1 (I w2 w3)))) ?_|refine zx (hmy) ?_|refine zx (hpn) ?_|refine zx (hcc) ?_|(apply zaa<;>intro hb)|(apply I;exact zI)|(apply I<;>intro hg))
 refine zaf (τ:=Nat) (fun i=>⟨(dd::ptq 1::dq4 (.one (.own ⟨6,1,1⟩ 0 (zjP r i).length)::zyU (al r.held.length (zaE r.held)::ai r.held.length::ai i::zw3 []))),[(1,⟨2,[obq 1 [di r.code,di r.session,di r.ahead, .lent r.held.length (zaE r.held)],none,none,none,none]⟩),(19,⟨2,[]⟩),(4,⟨2,[]⟩),(25,⟨2,[]⟩),(34,⟨2,[]⟩),(35,⟨2,[]⟩),(36,⟨2,[]⟩),(6,⟨2,[none,roq 1 1 (zad (zjP r i))]⟩),(8,⟨2,[]⟩),(9,⟨2,[]⟩),(11,⟨2,[]⟩),(47,⟨2,[]⟩),(53,⟨2,[]⟩),(58,⟨2,[]⟩),(60,⟨2,[]⟩)]⟩)
  (fun i=>i≤r.held.length) (fun _=>()) (fun i=>r.held.length - i) 0
  (Gh.canon [1,6] [8,9,11,47,53,58,60] [] (zk (I @zm2 @zjh)) rfl (by rw[zm2];rfl)) (Nat.zero_le _) ?_
 intro i hi0 hF K hK
 refine zw ?_
 refine zaa (fun hlt=> ?_) (fun hge=> ?_)
 ·have hi:i<r.held.length:=by simpa using hlt
  have hat:=zco hi
  have hw:=zai hi (by omega)
  have hg:=hgr _ (List.getElem_mem hi)
  have hpt:=zhM r.held[i].name (by omega)
  have hpm:=zdw r.held[i].token hg.2
  have hlb:(zjP r i).length≤11+4*21:=by
   rw[zjP,List.length_append,zjh]
   have:=zgu (l:=r.held.take i) (k:=12) fun g hx=>(hgr g (List.mem_of_mem_take hx)).1
   have:(r.held.take i).length≤4:=by rw[List.length_take];omega
   omega
  have hle:((zjP r i).length+(1+r.held[i].name.size)≤2^47)=True:=eq_true (by omega)
  have hle2:((zjP r i).length+(1+r.held[i].name.size)+8≤2^47)=True:=eq_true (by omega)
  have k1:(zie r.held[i].name).take (1+r.held[i].name.size)=zie r.held[i].name:=List.take_of_length_le (by rw[zhc];exact Nat.le_refl _)
  have k2:(zad (zcl r.held[i].token)).take 8=zad (zcl r.held[i].token):=List.take_of_length_le (by rw[zeh];decide)
  have k3:(zad (zjP r i)).take (zjP r i).length=zad (zjP r i):=List.take_of_length_le (by rw[List.length_map];exact Nat.le_refl _)
  have k4:(zad (zjP r i)++zie r.held[i].name).take ((zjP r i).length+(1+r.held[i].name.size))=zad (zjP r i)++zie r.held[i].name:=List.take_of_length_le (by rw[List.length_append,List.length_map,zhc];exact Nat.le_refl _)
  have hsl:(zjP r (i+1)).length=(zjP r i).length+(1+r.held[i].name.size)+8:=by rw[zm1 hi,List.length_append,List.length_append,zc7,zb4]
  repeat'(first|exact zC|refine zq (I hat (I @zaq (I hle (I hle2 (I k1 (I k2 (I k3 (I k4 (I @zhc (I @List.length_map.{0,0} (I @zb4 zca))))))))))) ?_|refine zx (hpt) ?_|refine zx (hpm) ?_|(apply zaa<;>intro hb)|(apply I;exact zI)|(apply I<;>intro hg))
  exact hK _ (i+1) (Gh.canon [1,6] [] [] (zk (I hw hsl)) rfl (by rw[zm1 hi,zoj];simp only[roq,zad,List.map_append];rfl)) hi rfl (by omega)
 ·have hi:i=r.held.length:=by
   have:¬(i:Int)<r.held.length:=by simpa using hge
   omega
  subst hi
  repeat'(first|exact zC|refine zq0 ?_|(apply zaa<;>intro hb)|(apply I;exact zI)|(apply I<;>intro hg))
  rw[zvp]
theorem zkC {r:Reply} (h:zbU r=true):(zdJ r).length≤95:=by
 have hgr:=zeT h
 have hf:=(zeg h).2.2.2.1
 have:=zgu (l:=r.held) (k:=12) fun g hg=>(hgr g hg).1
 have e:(zdJ r).length=11+(zdE r.held).length:=by simp[zdJ,zb4];omega
 omega
theorem zgt {m:Memo} (h:answerB m=true):(zck m).length≤104:=by
 have:=zkC (zc8 h).2.2
 have e:(zck m).length=9+(zdJ m.reply).length:=by simp[zck,zb4];omega
 omega
theorem zjg {m:Memo} (h:answerB m=true):zcf m.reply:=by
 have hgr:=zeT (zc8 h).2.2
 have hf:=(zeg (zc8 h).2.2).2.2.2.1
 exact⟨by omega,fun g hg=>by have:=(hgr g hg).1;omega⟩
theorem zh4 (m:Memo) (h:answerB m=true):CallOK Tryz.prog 23 [.f (.agg m.lent)] (fun x o=>x=[.one (.own 1 (zck m).length (zad (zck m)) false),ri 0]∧o=[]):=by
 refine zh Tryz.func23 Tryz.results23 Tryz.ntmps23 Tryz.call23 ?_
 simp only[Tryz.f23,Option.getD]
 obtain⟨f1,f2,f3⟩:=zc8 h
 have hmy:=zel m (zjg h)
 rw[h]at hmy
 have hpn:=zdw m.seq (by omega)
 have hpr:=zoi m.reply f3
 have hrl:=zkC f3
 have w1:IntKind.u8.wrap m.client=m.client:=zdF (by omega) (by omega)
 have hcc:CallOK Tryz.prog 66 [.f (al 3 [.sl 1 (zad [m.client]), .sl 8 (zad (zcl m.seq)), .sl (zdJ m.reply).length (zad (zdJ m.reply))])] (fun x o=>x=[.one (.own 1 (zck m).length (zad (zck m)) false)]∧o=[]):=by
  have hc:=zjm [zad [m.client],zad (zcl m.seq),zad (zdJ m.reply)] (by simp) (fun l hl=>by
   simp only[List.mem_cons,List.not_mem_nil,or_false]at hl
   rcases hl with rfl|rfl|rfl
   ·simp
   ·rw[zeh];decide
   ·rw[List.length_map];omega)
  rw[show [zad [m.client],zad (zcl m.seq),zad (zdJ m.reply)].flatten=zad (zck m) from by simp[zck,zad]]at hc
  simp only[zuh,List.map_cons,List.map_nil,List.length_map,List.length_cons,List.length_nil,zb4]at hc
  exact hc
 have t1:(zad (zcl m.seq)).take 8=zad (zcl m.seq):=List.take_of_length_le (by rw[zeh];decide)
 have t2:(zad (zdJ m.reply)).take (zdJ m.reply).length=zad (zdJ m.reply):=List.take_of_length_le (by rw[List.length_map];exact Nat.le_refl _)
 repeat'(first|exact zC|refine zq (I t1 (I t2 w1)) ?_|refine zx (hmy) ?_|refine zx (hpn) ?_|refine zx (hpr) ?_|refine zx (hcc) ?_|(apply zaa<;>intro hb)|(apply I;exact zI)|(apply I<;>intro hg))
theorem zeS (v:Int) (h:0≤v∧v<4611686018427387904):CallOK Tryz.prog 69 [.f (ai v)] (fun r o=>r=[.one (.own 1 8 (zad (zcl v)) false)]∧o=[]):=by
 refine zh Tryz.func69 Tryz.results69 Tryz.ntmps69 Tryz.call69 ?_
 simp only[Tryz.f69,Option.getD]
 have hp:=zdw v h
 repeat'(first|exact zC|refine zq0 ?_|refine zx (hp) ?_|(apply zaa<;>intro hb)|(apply I;exact zI)|(apply I<;>intro hg))
theorem zkA:∀ls:List (List Int),(ls.map zad).flatten=zad ls.flatten
 |[]=>rfl
 |l::ls=>by simp only[List.map_cons,List.flatten_cons,zkA ls,List.map_append]
theorem zfA (ls:List (List Int)) (hl:ls.length<2^10) (hs:∀l∈ls,l.length≤2^12):
  CallOK Tryz.prog 66 [.f (al ls.length (ls.map fun l=> .sl l.length (zad l)))] (fun r o=>r=[.one (.own 1 ls.flatten.length (zad ls.flatten) false)]∧o=[]):=by
 have h:=zjm (ls.map zad) (by simpa using hl) (fun l h=>by
  obtain⟨x,hx,rfl⟩:=List.mem_map.1 h
  rw[List.length_map];exact hs x hx)
 rw[zkA,zaY,List.length_map]at h
 have e:zuh (ls.map zad)=ls.map fun l=> .sl l.length (zad l):=by
  rw[zuh,List.map_map]
  exact List.map_congr_left fun l _=>by simp only[Function.comp,zaY]
 rw[e]at h
 exact h
def zqx (x:Sess):List Int:=x.client::(zcl x.num++zcl x.renewed)
def lk0 (k:Lk):List Int:=zf7 k.name++(k.holder::(zcl k.token++[(k.line.length:Int)]))
def zqy (k:Lk):List Int:=lk0 k++k.line
def zoe (s:St):List Int:=zcl s.time++(zcl s.num++(zcl s.token++[(s.sess.length:Int)]))
def sb1 (s:St) (i:Nat):List Int:=zoe s++(s.sess.take i).flatMap zqx
def sb2 (s:St) (i:Nat):List Int:=(sb1 s s.sess.length++[(s.locks.length:Int)])++(s.locks.take i).flatMap zqy
def sb3 (s:St) (i:Nat):List Int:=(sb2 s s.locks.length++[(s.memos.length:Int)])++(s.memos.take i).flatMap zck
def zg9 (s:St):List Int:=sb3 s s.memos.length
theorem zcV {α:Type} (f:α→List Int) {l:List α} {i:Nat} (hi:i<l.length):(l.take (i+1)).flatMap f=(l.take i).flatMap f++f l[i]:=by
 rw[List.take_succ_eq_append_getElem hi,List.flatMap_append];simp
theorem zvn {s:St} {i:Nat} (hi:i<s.sess.length):sb1 s (i+1)=sb1 s i++zqx s.sess[i]:=by rw[sb1,zcV _ hi,sb1,List.append_assoc]
theorem zvo {s:St} {i:Nat} (hi:i<s.locks.length):sb2 s (i+1)=sb2 s i++zqy s.locks[i]:=by rw[sb2,zcV _ hi,sb2,←List.append_assoc]
theorem zpA {s:St} {i:Nat} (hi:i<s.memos.length):sb3 s (i+1)=sb3 s i++zck s.memos[i]:=by rw[sb3,zcV _ hi,sb3,←List.append_assoc]
theorem zpB {s:St}:sb1 s 0=zoe s:=by simp[sb1]
theorem zpC {s:St}:sb2 s 0=sb1 s s.sess.length++[(s.locks.length:Int)]:=by simp[sb2]
theorem zpD {s:St}:sb3 s 0=sb2 s s.locks.length++[(s.memos.length:Int)]:=by simp[sb3]
theorem zdT {α:Type} (f:α→List Int) {k:Nat}:∀{l:List α},(∀x∈l,(f x).length≤k)→(l.flatMap f).length≤l.length*k
 |[],_=>by simp
 |x::l,h=>by
  rw[List.flatMap_cons,List.length_append,List.length_cons,Nat.add_mul]
  have:=h x (by simp)
  have:=zdT f (l:=l) fun y hy=>h y (by simp[hy])
  omega
theorem zjf (s:St):(zoe s).length=25:=by simp[zoe,zb4]
theorem zsD (x:Sess):(zqx x).length=17:=by simp[zqx,zb4]
theorem zsE (k:Lk):(lk0 k).length=11+k.name.size:=by simp[lk0,zb4,zc7];omega
theorem zof (s:St) (i:Nat):(sb1 s i).length≤25+i*17:=by
 rw[sb1,List.length_append,zjf]
 have:=zdT zqx (l:=s.sess.take i) (k:=17) fun x _=>by rw[zsD];exact Nat.le_refl _
 have h2:(s.sess.take i).length≤i:=by rw[List.length_take];omega
 have:=Nat.mul_le_mul_right 17 h2
 omega
theorem zkB {s:St} (h:RightS s) {k:Lk} (hk:k∈s.locks):(zqy k).length≤26∧k.name.size≤12∧(0≤k.holder∧k.holder≤255)∧(0≤k.token∧k.token<4611686018427387904)∧k.line.length≤3∧∀c∈k.line,0≤c∧c≤255:=by
 have hH:zbs=2305843009213693952:=rfl
 obtain⟨a,_,b,_⟩:=h.lok k hk
 obtain⟨h1,h2,h3⟩:=zcN.1 a
 obtain⟨l1,l2,_⟩:=zbM.1 b
 have hs:=zhN h1
 refine⟨?_,hs,by omega,by omega,l1,fun c hc=> ?_⟩
 ·rw[zqy,List.length_append,zsE];omega
 ·have:=l2 c hc
  simp only[isClient,Bool.and_eq_true,decide_eq_true_eq]at this
  omega
def zl4 (s:St) (i:Nat) (k:Lk) (j:Nat):List Int:=(sb2 s i++lk0 k)++k.line.take j
theorem zsF {s:St} {i:Nat} {k:Lk}:zl4 s i k 0=sb2 s i++lk0 k:=by simp[zl4]
theorem zm0 {s:St} {i:Nat} {k:Lk} {j:Nat} (hj:j<k.line.length):zl4 s i k (j+1)=zl4 s i k j++[k.line[j]]:=by
 rw[zl4,List.take_succ_eq_append_getElem hj,←List.append_assoc,zl4]
theorem zpE {s:St} {i:Nat} (hi:i<s.locks.length):zl4 s i s.locks[i] s.locks[i].line.length=sb2 s (i+1):=by
 rw[zl4,List.take_length,zvo hi,zqy,List.append_assoc]
theorem zog {s:St} (h:RightS s) (i:Nat):(sb2 s i).length≤115+i*26:=by
 rw[sb2,List.length_append,List.length_append]
 have:=zof s s.sess.length
 have:=h.sl
 have:=zdT zqy (l:=s.locks.take i) (k:=26) fun x hx=>(zkB h (List.mem_of_mem_take hx)).1
 have h2:(s.locks.take i).length≤i:=by rw[List.length_take];omega
 have:=Nat.mul_le_mul_right 26 h2
 simp only[List.length_singleton]
 omega
theorem zlq {s:St} (h:RightS s):s.memos.length≤8:=by
 have:=zhO (a:=0) (b:=8) (zpJ.1 h.ms) (fun x hx=>by
  obtain⟨m,hm,rfl⟩:=List.mem_map.1 hx
  exact(zda (h.mok m hm)).1)
 rw[List.length_map]at this
 omega
theorem zoh {s:St} (h:RightS s) (i:Nat):(sb3 s i).length≤250+i*104:=by
 rw[sb3,List.length_append,List.length_append]
 have:=zog h s.locks.length
 have:=h.ll
 have:=zdT zck (l:=s.memos.take i) (k:=104) fun x hx=>zgt (h.mok x (List.mem_of_mem_take hx))
 have h2:(s.memos.take i).length≤i:=by rw[List.length_take];omega
 have:=Nat.mul_le_mul_right 104 h2
 simp only[List.length_singleton]
 omega
theorem zav {l:List Int}:(zad l).take l.length=zad l:=List.take_of_length_le (by rw[zaY];exact Nat.le_refl _)
set_option maxHeartbeats 4000000 in
theorem zqz (s:St) (h:RightS s):CallOK Tryz.prog 68 [.f (.agg s.lent)] (fun r o=>r=[.one (.own 1 (zg9 s).length (zad (zg9 s)) false),ri 0]∧o=[]):=by
 refine zh Tryz.func68 Tryz.results68 Tryz.ntmps68 Tryz.call68 ?_
 simp only[Tryz.f68,Option.getD]
 have hri:=zlx s (zcc h)
 rw[zdV.2 h]at hri
 have hH:zbs=2305843009213693952:=rfl
 have ht:=h.time
 have hn:=h.num
 have hk:=h.token
 have hsl:=h.sl
 have hll:=h.ll
 have n1:=zeS s.time (by omega)
 have n2:=zeS s.num (by omega)
 have n3:=zeS s.token (by omega)
 have w1:IntKind.u8.wrap (s.sess.length:Int)=s.sess.length:=zdF (by omega) (by omega)
 have hcc:CallOK Tryz.prog 66 [.f (al 4 [.sl 8 (zad (zcl s.time)), .sl 8 (zad (zcl s.num)), .sl 8 (zad (zcl s.token)), .sl 1 (zad [(s.sess.length:Int)])])] (fun x o=>x=[.one (.own 1 25 (zad (zoe s)) false)]∧o=[]):=by
  have hc:=zfA [zcl s.time,zcl s.num,zcl s.token,[(s.sess.length:Int)]] (by simp) (fun l hl=>by
   simp only[List.mem_cons,List.not_mem_nil,or_false]at hl
   rcases hl with rfl|rfl|rfl|rfl<;>simp[zb4])
  rw[show [zcl s.time,zcl s.num,zcl s.token,[(s.sess.length:Int)]].flatten=zoe s from by simp[zoe],zjf]at hc
  exact hc
 have t8:∀v:Int,(zad (zcl v)).take 8=zad (zcl v):=fun v=>List.take_of_length_le (by rw[zeh];decide)
 have t1:∀x:Int,toDs (sub 0 1 1 [C.d (uD x)])=some [uD x]:=fun _=>rfl
 repeat'(first|exact zC|refine zq (I t8 (I t1 w1)) ?_|refine zx (hri) ?_|refine zx (n1) ?_|refine zx (n2) ?_|refine zx (n3) ?_|refine zx (hcc) ?_|(apply zaa<;>intro hb)|(apply I;exact zI)|(apply I<;>intro hg))
 refine zaf (τ:=Nat) (fun i=>⟨(dd::ptq 1::dq2 (.one (.own ⟨4,1,1⟩ 0 (sb1 s i).length)::zwa (al s.sess.length (zaQ s.sess)::ai s.sess.length::ai i::zw2 (zdP (zdP []))))),[(1,⟨2,[obq 1 [di s.time,di s.num,di s.token, .lent s.sess.length (zaQ s.sess), .lent s.locks.length (zaj s.locks), .lent s.memos.length (zaF s.memos)],none,none,none,none,none,none]⟩),(22,⟨2,[]⟩),(25,⟨2,[]⟩),(28,⟨2,[]⟩),(33,⟨2,[]⟩),(34,⟨2,[]⟩),(35,⟨2,[]⟩),(4,⟨2,[none,roq 1 1 (zad (sb1 s i))]⟩),(6,⟨2,[]⟩),(47,⟨2,[]⟩),(50,⟨2,[]⟩),(53,⟨2,[]⟩),(54,⟨2,[]⟩),(55,⟨2,[]⟩)]⟩)
  (fun i=>i≤s.sess.length) (fun _=>()) (fun i=>s.sess.length - i) 0
  (Gh.canon [1,4] [6,47,50,53,54,55] [] (zk (I @zpB @zjf)) rfl (by rw[zpB];rfl)) (Nat.zero_le _) ?_
 intro i hi0 hF K hK
 refine zw ?_
 refine zaa (fun hlt=> ?_) (fun hge=> ?_)
 ·have hi:i<s.sess.length:=by simpa using hlt
  have hat:=zcb hi
  have hw:=zai hi (by omega)
  obtain⟨f1,f2,f3⟩:=zcW.1 (h.sok _ (List.getElem_mem hi)).1
  simp only[isClient,Bool.and_eq_true,decide_eq_true_eq]at f1
  have wc:IntKind.u8.wrap s.sess[i].client=s.sess[i].client:=zdF (by omega) (by omega)
  have m1:=zeS s.sess[i].num (by omega)
  have m2:=zeS s.sess[i].renewed (by omega)
  have hb:=zof s i
  have hcc:CallOK Tryz.prog 66 [.f (al 4 [.sl (sb1 s i).length (zad (sb1 s i)), .sl 1 (zad [s.sess[i].client]), .sl 8 (zad (zcl s.sess[i].num)), .sl 8 (zad (zcl s.sess[i].renewed))])] (fun x o=>x=[.one (.own 1 (sb1 s (i+1)).length (zad (sb1 s (i+1))) false)]∧o=[]):=by
   have hc:=zfA [sb1 s i,[s.sess[i].client],zcl s.sess[i].num,zcl s.sess[i].renewed] (by simp) (fun l hl=>by
    simp only[List.mem_cons,List.not_mem_nil,or_false]at hl
    rcases hl with rfl|rfl|rfl|rfl
    ·omega
    ·simp
    ·rw[zb4];decide
    ·rw[zb4];decide)
   rw[show [sb1 s i,[s.sess[i].client],zcl s.sess[i].num,zcl s.sess[i].renewed].flatten=sb1 s (i+1) from by rw[zvn hi];simp[zqx]]at hc
   exact hc
  repeat'(first|exact zC|refine zq (I hat (I @zat (I t8 (I t1 (I wc (I @zav zca)))))) ?_|refine zx (m1) ?_|refine zx (m2) ?_|refine zx (hcc) ?_|(apply zaa<;>intro hb)|(apply I;exact zI)|(apply I<;>intro hg))
  exact hK _ (i+1) (Gh.canon [1,4] [] [] (zk hw) rfl rfl) hi rfl (by omega)
 ·have hi:i=s.sess.length:=by
   have:¬(i:Int)<s.sess.length:=by simpa using hge
   omega
  subst hi
  clear hK
  have w2:IntKind.u8.wrap (s.locks.length:Int)=s.locks.length:=zdF (by omega) (by omega)
  have hb:=zof s s.sess.length
  have hle:((sb1 s s.sess.length).length+1≤2^47)=True:=eq_true (by omega)
  repeat'(first|exact zC|refine zq (I hle (I t1 (I w2 @zav))) ?_|(apply zaa<;>intro hb)|(apply I;exact zI)|(apply I<;>intro hg))
  refine zaf (τ:=Nat) (fun i=>⟨(dd::ptq 1::dq2 (.one (.own ⟨4,1,1⟩ 0 (sb2 s i).length)::zry (zdP (al s.locks.length (zaj s.locks)::ai s.locks.length::ai i::zw4 (zdP []))))),[(1,⟨2,[obq 1 [di s.time,di s.num,di s.token, .lent s.sess.length (zaQ s.sess), .lent s.locks.length (zaj s.locks), .lent s.memos.length (zaF s.memos)],none,none,none,none,none,none]⟩),(22,⟨2,[]⟩),(25,⟨2,[]⟩),(28,⟨2,[]⟩),(33,⟨2,[]⟩),(34,⟨2,[]⟩),(35,⟨2,[]⟩),(4,⟨2,[none,roq 1 1 (zad (sb2 s i))]⟩),(6,⟨2,[]⟩),(47,⟨2,[]⟩),(50,⟨2,[]⟩),(53,⟨2,[]⟩),(54,⟨2,[]⟩),(55,⟨2,[]⟩),(62,⟨2,[]⟩),(8,⟨2,[]⟩),(9,⟨2,[]⟩),(74,⟨2,[]⟩),(82,⟨2,[]⟩),(85,⟨2,[]⟩),(90,⟨2,[]⟩),(91,⟨2,[]⟩),(92,⟨2,[]⟩),(103,⟨2,[]⟩),(104,⟨2,[]⟩)]⟩)
   (fun i=>i≤s.locks.length) (fun _=>()) (fun i=>s.locks.length - i) 0
   (Gh.canon [1,4] [8,9,74,82,85,90,91,92,103,104] [] (zk (I @zpC (I @List.length_append.{0} @List.length_singleton.{0}))) rfl (by rw[zpC];simp only[roq,zad,List.map_append];rfl)) (Nat.zero_le _) ?_
  intro i hi0 hF K hK
  refine zw ?_
  refine zaa (fun hlt=> ?_) (fun hge=> ?_)
  ·have hi:i<s.locks.length:=by simpa using hlt
   have hat:=za9 hi
   have hw:=zai hi (by omega)
   obtain⟨q0,q1,q2,q3,q4,q5⟩:=zkB h (List.getElem_mem hi)
   have wc:IntKind.u8.wrap s.locks[i].holder=s.locks[i].holder:=zdF (by omega) (by omega)
   have wl:IntKind.u8.wrap (s.locks[i].line.length:Int)=s.locks[i].line.length:=zdF (by omega) (by omega)
   have m1:=zhM s.locks[i].name (by omega)
   have m2:=zeS s.locks[i].token (by omega)
   have hb:=zog h i
   have tt:(zie s.locks[i].name).take (1+s.locks[i].name.size)=zie s.locks[i].name:=List.take_of_length_le (by rw[zhc];exact Nat.le_refl _)
   have hcc:CallOK Tryz.prog 66 [.f (al 5 [.sl (sb2 s i).length (zad (sb2 s i)), .sl (1+s.locks[i].name.size) (zie s.locks[i].name), .sl 1 (zad [s.locks[i].holder]), .sl 8 (zad (zcl s.locks[i].token)), .sl 1 (zad [(s.locks[i].line.length:Int)])])] (fun x o=>x=[.one (.own 1 (zl4 s i s.locks[i] 0).length (zad (zl4 s i s.locks[i] 0)) false)]∧o=[]):=by
    have hc:=zfA [sb2 s i,zf7 s.locks[i].name,[s.locks[i].holder],zcl s.locks[i].token,[(s.locks[i].line.length:Int)]] (by simp) (fun l hl=>by
     simp only[List.mem_cons,List.not_mem_nil,or_false]at hl
     rcases hl with rfl|rfl|rfl|rfl|rfl
     ·omega
     ·rw[zc7];omega
     ·simp
     ·rw[zb4];decide
     ·simp)
    rw[show [sb2 s i,zf7 s.locks[i].name,[s.locks[i].holder],zcl s.locks[i].token,[(s.locks[i].line.length:Int)]].flatten=zl4 s i s.locks[i] 0 from by rw[zsF];simp[lk0]]at hc
    rw[←zc7,zoj]
    exact hc
   repeat'(first|exact zC|refine zq (I hat (I @zah (I t8 (I t1 (I wc (I wl (I tt (I @zav zca)))))))) ?_|refine zx (m1) ?_|refine zx (m2) ?_|refine zx (hcc) ?_|(apply zaa<;>intro hb)|(apply I;exact zI)|(apply I<;>intro hg))
   refine zaf (τ:=Nat) (fun j=>⟨(dd::ptq 1::dq2 (.one (.own ⟨4,1,1⟩ 0 (zl4 s i s.locks[i] j).length)::zry (zdP (al s.locks.length (zaj s.locks)::ai s.locks.length::ai i::zv9 (asl s.locks[i].line.length (zaB s.locks[i].line)::ai s.locks[i].line.length::ai j::zdP []))))),[(1,⟨2,[obq 1 [di s.time,di s.num,di s.token, .lent s.sess.length (zaQ s.sess), .lent s.locks.length (zaj s.locks), .lent s.memos.length (zaF s.memos)],none,none,none,none,none,none]⟩),(22,⟨2,[]⟩),(25,⟨2,[]⟩),(28,⟨2,[]⟩),(33,⟨2,[]⟩),(34,⟨2,[]⟩),(35,⟨2,[]⟩),(4,⟨2,[none,roq 1 1 (zad (zl4 s i s.locks[i] j))]⟩),(6,⟨2,[]⟩),(47,⟨2,[]⟩),(50,⟨2,[]⟩),(53,⟨2,[]⟩),(54,⟨2,[]⟩),(55,⟨2,[]⟩),(62,⟨2,[]⟩),(8,⟨2,[]⟩),(9,⟨2,[]⟩),(74,⟨2,[]⟩),(82,⟨2,[]⟩),(85,⟨2,[]⟩),(90,⟨2,[]⟩),(91,⟨2,[]⟩),(92,⟨2,[]⟩),(103,⟨2,[]⟩),(104,⟨2,[]⟩)]⟩)
    (fun j=>j≤s.locks[i].line.length) (fun _=>()) (fun j=>s.locks[i].line.length - j) 0
    (Gh.canon [1,4] [] [] zK rfl rfl) (Nat.zero_le _) ?_
   intro j hj0 hF2 K2 hK2
   refine zw ?_
   refine zaa (fun hlt2=> ?_) (fun hge2=> ?_)
   ·have hj:j<s.locks[i].line.length:=by simpa using hlt2
    have hat2:=zcu hj
    have hw2:=zai hj (by omega)
    have q6:=q5 _ (List.getElem_mem hj)
    have wd:IntKind.u8.wrap s.locks[i].line[j]=s.locks[i].line[j]:=zdF (by omega) (by omega)
    have hlj:(zl4 s i s.locks[i] j).length≤300:=by
     rw[zl4,List.length_append,List.length_append,zsE,List.length_take];omega
    have hle3:((zl4 s i s.locks[i] j).length+1≤2^47)=True:=eq_true (by omega)
    have hsl3:(zl4 s i s.locks[i] (j+1)).length=(zl4 s i s.locks[i] j).length+1:=by rw[zm0 hj,List.length_append,List.length_singleton]
    repeat'(first|exact zC|refine zq (I hat2 (I @zaA (I t1 (I wd (I hle3 (I @zav zca)))))) ?_|(apply zaa<;>intro hb)|(apply I;exact zI)|(apply I<;>intro hg))
    exact hK2 _ (j+1) (Gh.canon [1,4] [] [] (zk (I hw2 hsl3)) rfl (by rw[zm0 hj];simp only[roq,zad,List.map_append];rfl)) hj rfl (by omega)
   ·have hj:j=s.locks[i].line.length:=by
     have:¬(j:Int)<s.locks[i].line.length:=by simpa using hge2
     omega
    subst hj
    repeat'(first|exact zC|refine zq0 ?_|(apply zaa<;>intro hb)|(apply I;exact zI)|(apply I<;>intro hg))
    exact hK _ (i+1) (Gh.canon [1,4] [] [] (by simp only[hw,zpE hi,ddE,zgM,zmg,zgN,ziN,ziO,ziP,List.set_cons_zero,List.set_cons_succ,and_true,true_and,Int.natCast_zero,Int.cast_ofNat_Int,D.v.injEq,Value.int.injEq];try(repeat'(first|rfl|omega|with_reducible apply And.intro))) rfl (by rw[zpE hi];rfl)) hi rfl (by omega)
  ·have hi:i=s.locks.length:=by
    have:¬(i:Int)<s.locks.length:=by simpa using hge
    omega
   subst hi
   clear hK
   have hml:=zlq h
   have w3:IntKind.u8.wrap (s.memos.length:Int)=s.memos.length:=zdF (by omega) (by omega)
   have hb2:=zog h s.locks.length
   have hle2:((sb2 s s.locks.length).length+1≤2^47)=True:=eq_true (by omega)
   repeat'(first|exact zC|refine zq (I hle2 (I t1 (I w3 @zav))) ?_|(apply zaa<;>intro hb)|(apply I;exact zI)|(apply I<;>intro hg))
   refine zaf (τ:=Nat) (fun i=>⟨(dq4 (.one (.own ⟨4,1,1⟩ 0 (sb3 s i).length)::zw5 (zdP (zdP (al s.memos.length (zaF s.memos)::ai s.memos.length::ai i::zys []))))),[(1,⟨2,[]⟩),(22,⟨2,[]⟩),(25,⟨2,[]⟩),(28,⟨2,[]⟩),(33,⟨2,[]⟩),(34,⟨2,[]⟩),(35,⟨2,[]⟩),(4,⟨2,[none,roq 1 1 (zad (sb3 s i))]⟩),(6,⟨2,[]⟩),(47,⟨2,[]⟩),(50,⟨2,[]⟩),(53,⟨2,[]⟩),(54,⟨2,[]⟩),(55,⟨2,[]⟩),(62,⟨2,[]⟩),(8,⟨2,[]⟩),(9,⟨2,[]⟩),(74,⟨2,[]⟩),(82,⟨2,[]⟩),(85,⟨2,[]⟩),(90,⟨2,[]⟩),(91,⟨2,[]⟩),(92,⟨2,[]⟩),(103,⟨2,[]⟩),(104,⟨2,[]⟩),(112,⟨2,[]⟩),(14,⟨2,[]⟩),(15,⟨2,[]⟩),(129,⟨2,[]⟩),(134,⟨2,[]⟩)]⟩)
    (fun i=>i≤s.memos.length) (fun _=>()) (fun i=>s.memos.length - i) 0
    (Gh.canon [4] [14,15,129,134] [] (zk (I @zpD (I @List.length_append.{0} @List.length_singleton.{0}))) rfl (by rw[zpD];simp only[roq,zad,List.map_append];rfl)) (Nat.zero_le _) ?_
   intro i hi0 hF K hK
   refine zw ?_
   refine zaa (fun hlt=> ?_) (fun hge=> ?_)
   ·have hi:i<s.memos.length:=by simpa using hlt
    have hat:=zdp hi
    have hw:=zai hi (by omega)
    have hma:=h.mok _ (List.getElem_mem hi)
    have hpa:=zh4 s.memos[i] hma
    have hb3:=zoh h i
    have hal:=zgt hma
    have hle3:((sb3 s i).length+(zck s.memos[i]).length≤2^47)=True:=eq_true (by omega)
    have hsl3:(sb3 s (i+1)).length=(sb3 s i).length+(zck s.memos[i]).length:=by rw[zpA hi,List.length_append]
    repeat'(first|exact zC|refine zq (I hat (I @zaz (I @zav (I hle3 (I @zaY zca))))) ?_|refine zx (hpa) ?_|(apply zaa<;>intro hb)|(apply I;exact zI)|(apply I<;>intro hg))
    exact hK _ (i+1) (Gh.canon [4] [] [] (zk (I hw hsl3)) rfl (by rw[zpA hi];simp only[roq,zad,List.map_append];rfl)) hi rfl (by omega)
   ·have hi:i=s.memos.length:=by
     have:¬(i:Int)<s.memos.length:=by simpa using hge
     omega
    subst hi
    repeat'(first|exact zC|refine zq0 ?_|(apply zaa<;>intro hb)|(apply I;exact zI)|(apply I<;>intro hg))
    rfl
theorem zem (l:List Int) (hl:l.length<2^62) (p:Int→Bool) (f:Nat) (caps:List C) (hc:lendAs [] (caps.map AV.one)=some (caps.map fun c=> .f (.one c))) (hc2:lendC.lendCs [] caps=some caps)
  (hp:∀x∈l,CallOK Tryz.prog f (.f (zzs x)::caps.map fun c=> .f (.one c)) (fun r o=>r=[rb (p x)]∧o=[])):
  CallOK Tryz.prog 115 [.f (al l.length (zaB l)), .f (.one (.clos f caps))] (fun r o=>r=[rb (l.any p)]∧o=[]):=by
 refine zh Tryz.func115 Tryz.results115 Tryz.ntmps115 Tryz.call115 ?_
 simp only[Tryz.f115,Option.getD]
 refine zw1 hc2 ?_
 refine zaO (ztn l hl p f caps hc hp) ?_
 refine zw ?_
 rw[zf4]
abbrev zzA:Req→AV:=fun x=> .agg (x.enc.map C.d)
theorem ztO (l:List Req) (hl:l.length<2^62) (p:Req→Bool) (f:Nat) (caps:List C) (hc:lendAs [] (caps.map AV.one)=some (caps.map fun c=> .f (.one c)))
  (hp:∀x∈l,CallOK Tryz.prog f (.f (zzA x)::caps.map fun c=> .f (.one c)) (fun r o=>r=[rb (p x)]∧o=[])):
  CallOK Tryz.prog 118 [.f (al l.length (zbI l)), .f (.one (.clos f caps))] (fun r o=>r=[ri (zcY p l 0)]∧o=[]):=by
 refine zh Tryz.func118 Tryz.results118 Tryz.ntmps118 Tryz.call118 ?_
 simp only[Tryz.f118,Option.getD]
 refine zw ?_
 refine zaf (τ:=Nat) (fun i=>⟨(al l.length (zbI l):: .one (.clos f caps)::dq2 (ai 0::dd::al l.length (zbI l)::ai l.length::ai i::znW [])),[]⟩) (fun i=>i≤l.length) (fun i=>zcY p (l.drop i) i) (fun i=>l.length - i) 0 (Gh.fgt ?_) (Nat.zero_le _) ?_
 ·simp only[ddE,zbi,zbj,zbP,Int.natCast_zero]
 intro i hi0 hF K hK
 refine zw ?_
 rw[zdl]
 refine⟨trivial,fun hlt=> ?_,fun hge=> ?_⟩
 ·have hi:i<l.length:=by simpa using hlt
  rw[List.drop_eq_getElem_cons hi,zcY]at hF
  have hat:=zfc hi
  simp only[List.cons_append,List.nil_append]at hat
  refine zw1 (I @zaJ (I hat hc)) ?_
  refine⟨⟨Int.natCast_nonneg i,by omega⟩, ?_⟩
  refine zaO (hp _ (List.getElem_mem hi)) ?_
  refine zw ?_
  refine zaa (fun hb=> ?_) (fun hb=> ?_)
  ·rw[if_pos hb]at hF
   refine zw ?_
   rw[hF];rfl
  ·rw[if_neg (by simp[hb])]at hF
   refine zw ?_
   refine hK _ (i+1) (Gh.fgt ?_) hi (by simp only[List.drop_eq_getElem_cons hi,zcY];rw[if_neg (by simp[hb])];rfl) (by omega)
   have hw:IntKind.i64.wrap ((i:Int)+1)=((i+1:Nat):Int):=by rw[wrap64 (by omega) (by omega)];rfl
   simp only[hw,ddE,zbi,zbj,zbP]
 ·have hi:i=l.length:=by
   have:¬(i:Int)<l.length:=by simpa using hge
   omega
  rw[hi,List.drop_length,zcY]at hF
  refine zw ?_
  rw[hF];rfl
theorem znA (l:List Req) (hl:l.length<2^62) (p:Req→Bool) (f:Nat) (caps:List C) (hc:lendAs [] (caps.map AV.one)=some (caps.map fun c=> .f (.one c))) (hc2:lendC.lendCs [] caps=some caps)
  (hp:∀x∈l,CallOK Tryz.prog f (.f (zzA x)::caps.map fun c=> .f (.one c)) (fun r o=>r=[rb (p x)]∧o=[])):
  CallOK Tryz.prog 77 [.f (al l.length (zbI l)), .f (.one (.clos f caps))] (fun r o=>r=[rb (l.any p)]∧o=[]):=by
 refine zh Tryz.func77 Tryz.results77 Tryz.ntmps77 Tryz.call77 ?_
 simp only[Tryz.f77,Option.getD]
 refine zw1 hc2 ?_
 refine zaO (ztO l hl p f caps hc hp) ?_
 refine zw ?_
 rw[zf4]
def bad (n:Int):Bool:=decide (n<0)||decide (n>zbs)
def inH (n:Int):Bool:=decide (n≥0)&&decide (n≤zbs)
theorem zkS (n:Int):CallOK Tryz.prog 117 [.f (ai n)] (fun r o=>r=[rb (bad n)]∧o=[]):=by
 refine zh Tryz.func117 Tryz.results117 Tryz.ntmps117 Tryz.call117 ?_
 simp only[Tryz.f117,Option.getD]
 repeat'(first|exact zC|refine za0 ?_|(apply zaa<;>intro hb)|(apply I;exact zI)|(apply I<;>intro hg))
 rfl
theorem zkT (l:List Int) (hl:l.length<2^62):CallOK Tryz.prog 76 [.f (al l.length (zaB l))] (fun r o=>r=[rb (!l.any bad)]∧o=[]):=by
 refine zh Tryz.func76 Tryz.results76 Tryz.ntmps76 Tryz.call76 ?_
 simp only[Tryz.f76,Option.getD]
 repeat'(first|exact zC|refine za0 ?_|((first|((try refine zaM ?_);apply zaO)|(apply zaZ;intro _));(solve|exact(zem l hl bad _ [] rfl rfl (fun x _=>zkS x))|(refine CallOK.le (zem l hl bad _ [] rfl rfl (fun x _=>zkS x)) ?_;exact zM)|fail);try case hn=>rfl)|(apply zaa<;>intro hb)|(apply I;exact zI)|(apply I<;>intro hg))
def Tip.may (t:Tip):Bool:=inH t.view&&inH t.slot
theorem zlZ (r q:Req):CallOK Tryz.prog 78 [.f (.agg (r.enc.map C.d)), .f (.one (.elt q.enc))] (fun x o=>x=[rb (r.client==q.client)]∧o=[]):=by
 refine zh Tryz.func78 Tryz.results78 Tryz.ntmps78 Tryz.call78 ?_
 simp only[Tryz.f78,Option.getD]
 repeat'(first|exact zC|refine za0 ?_|(apply zaa<;>intro hb)|(apply I;exact zI)|(apply I<;>intro hg))
theorem ztP {l:List Req} {i:Nat} (hi:i≤l.length):(zbI l).take (i*5)=zbI (l.take i):=by
 have h:zbI l=zbI (l.take i)++zbI (l.drop i):=by rw[←List.flatMap_append,List.take_append_drop]
 rw[h,List.take_left' (by rw[zaJ,List.length_take];congr 1;omega)]
def zdn (l:List Req):Nat→List Req→Bool
 |_,[]=>true
 |i,r::rest=>if(!Req.may r||(l.take i).any (fun o=>o.client==r.client))=true then false else zdn l (i+1) rest
def Batch.may (b:Batch):Bool:=
 if b.fill=true then b.view==0&&b.time==0&&(b.tip.view==0&&b.tip.slot==0)&&(b.reqs.length:Int)==0
 else if(!![b.view,b.time,b.tip.view,b.tip.slot].any bad||decide ((b.reqs.length:Int)>3))=true then false else zdn b.reqs 0 b.reqs
theorem zdo (b:Batch) (hok:b.ok):CallOK Tryz.prog 38 [.f (.agg b.lent)] (fun r o=>r=[rb (Batch.may b)]∧o=[]):=by
 have hlen:b.reqs.length<2^42:=hok.2.2.2.2.1
 have hreq:∀r∈b.reqs,r.ok:=hok.2.2.2.2.2
 refine zh Tryz.func38 Tryz.results38 Tryz.ntmps38 Tryz.call38 ?_
 simp only[Tryz.f38,Option.getD]
 repeat'(first|exact zC|refine za0 ?_|((first|((try refine zaM ?_);apply zaO)|(apply zaZ;intro _));(solve|exact(zkT [_,_,_,_] (by simp))|(refine CallOK.le (zkT [_,_,_,_] (by simp)) ?_;exact zM)|fail);try case hn=>rfl)|(apply zaa<;>intro hb)|(apply I;exact zI)|(apply I<;>intro hg))
 ·rw[Batch.may,if_pos (by assumption)]
 ·rw[Batch.may,if_neg (by simp_all),if_pos (by assumption)]
 rename_i hf
 have hm:Batch.may b=zdn b.reqs 0 b.reqs:=by rw[Batch.may,if_neg (by simp[hf]),if_neg (by rw[hb];simp)]
 rw[hm]
 refine zw ?_
 refine zaf (τ:=Nat×Nat) (fun t=>⟨(dd:: .one (.ptr ⟨1,0,0⟩ 0)::ab false::dq4 (zdP (al b.reqs.length (zbI b.reqs)::ai b.reqs.length::ai t.1::zzE []))),
  [(1,{next:=7,l:=[obq 0 [db b.fill,di b.view,di b.tip.view,di b.tip.slot,di b.time, .lent b.reqs.length (zbI b.reqs)],none,none,none,none,none,none]}),(37,⟨1,[]⟩),(4,⟨t.2,[]⟩)]⟩)
  (fun t=>t.1≤b.reqs.length) (fun t=>zdn b.reqs t.1 (b.reqs.drop t.1)) (fun t=>b.reqs.length - t.1) (0,0) (Gh.keep [1] [4] ?_ rfl) (Nat.zero_le _) ?_
 ·simp only[ddE,zbi,zbj,zbP,Int.natCast_zero]
 intro⟨i,e⟩ hi0 hF K hK
 simp only at hi0 hF hK⊢
 refine zw ?_
 rw[zdl]
 refine⟨trivial,fun hlt=> ?_,fun hge=> ?_⟩
 ·have hi:i<b.reqs.length:=by simpa using hlt
  rw[List.drop_eq_getElem_cons hi,zdn]at hF
  have hat:=zfc hi
  simp only[List.cons_append,List.nil_append]at hat
  have hro:=hreq _ (List.getElem_mem hi)
  have hlt':(b.reqs.take i).length=i:=by rw[List.length_take];omega
  have hc:=znA (b.reqs.take i) (by omega) (fun o=>o.client==b.reqs[i].client) 78 [.elt b.reqs[i].enc] rfl rfl (fun x _=>zlZ x _)
  rw[hlt',←ztP hi0]at hc
  repeat'(first|exact zC|refine za (I @zaJ (I hat (I @Int.toNat_zero (I @Int.toNat_natCast (I @Nat.sub_zero @Int.natCast_zero))))) ?_|((first|((try refine zaM ?_);apply zaO)|(apply zaZ;intro _));(solve|exact(zfD _ hro)|(refine CallOK.le (zfD _ hro) ?_;exact zM)|fail);try case hn=>rfl)|refine zx (hc) ?_|(apply zaa<;>intro hb)|(apply I;exact zI)|(apply I<;>intro hg))
  ·rw[if_pos hb,List.drop_zero]at hF
   rw[←hF]
  ·rw[if_neg (by rw[hb];simp)]at hF
   refine hK _ (i+1,_) (Gh.keep [1] [] ?_ rfl) hi (by simp only[List.drop_eq_getElem_cons hi,zdn];rw[if_neg (by rw[hb];simp)]) (by simp only;omega)
   simp only[zai hi (by omega),ddE,zbi,zbj,zbP]
 ·have hi:i=b.reqs.length:=by
   have:¬(i:Int)<b.reqs.length:=by simpa using hge
   omega
  rw[hi,List.drop_length,List.drop_zero,zdn]at hF
  refine zw ?_
  rw[←hF]
def zq3 (k n:Int) (s:ByteArray):List Int:=[k]++(zcl n++zf7 s)
def zny (r:Req):List Int:=[r.client]++(zcl r.seq++zq3 r.kind r.session r.name)
theorem zeK {k n:Int} {s:ByteArray} (h:zlM k n s=true):1≤k∧k≤6∧0≤n∧n≤2305843009213693952∧s.size≤12:=by
 unfold zlM at h
 split at h
 ·cases h
 ·rename_i h1
  split at h
  ·cases h
  ·rename_i h2
   have hk:1≤k∧k≤6:=by simp at h1;omega
   have hn:0≤n∧n≤2305843009213693952:=by
    split at h
    ·simp at h;omega
    ·simp at h;omega
   refine⟨hk.1,hk.2,hn.1,hn.2, ?_⟩
   cases hc:(k==3||k==4||k==5)
   ·simp only[hc,Bool.false_and,Bool.false_or,Bool.not_false,Bool.true_and]at h2
    have:s.toList=(⟨#[]⟩:ByteArray).toList:=by simpa only[Bool.not_eq_true,Bool.not_eq_false',beq_iff_eq]using h2
    have:s.size=0:=by
     have:=congrArg List.length this
     rw[zee,zee,Array.length_toList]at this
     exact this
    omega
   ·simp only[hc,Bool.true_and,Bool.not_true,Bool.false_and,Bool.or_false]at h2
    have hn:nameP s=true:=by simpa using h2
    unfold nameP at hn
    simp only[Bool.and_eq_true,decide_eq_true_eq]at hn
    omega
theorem zpY (k n:Int) (s:ByteArray):(zq3 k n s).length=10+s.size:=by simp[zq3,zb4,zc7];omega
theorem t8 (v:Int):(zad (zcl v)).take 8=zad (zcl v):=List.take_of_length_le (by rw[zeh];decide)
theorem ztN (k n:Int) (s:ByteArray) (h:zlM k n s=true):CallOK Tryz.prog 65 [.f (.agg [di k,di n,dS s])] (fun r o=>r=[.one (.own 1 (zq3 k n s).length (zad (zq3 k n s)) false),ri 0]∧o=[]):=by
 refine zh Tryz.func65 Tryz.results65 Tryz.ntmps65 Tryz.call65 ?_
 simp only[Tryz.f65,Option.getD]
 obtain⟨f1,f2,f3,f4,f5⟩:=zeK h
 have hmy:=zpP k n s (by omega)
 rw[h]at hmy
 have hpb:=zkJ k (by omega)
 have hpn:=zdw n (by omega)
 have hpt:=zhM s (by omega)
 rw[zoj]at hpt
 have hcc:CallOK Tryz.prog 66 [.f (al 3 [.sl 1 (zad [k]), .sl 8 (zad (zcl n)), .sl (1+s.size) (zad (zf7 s))])] (fun r o=>r=[.one (.own 1 (zq3 k n s).length (zad (zq3 k n s)) false)]∧o=[]):=by
  have hc:=zfA [[k],zcl n,zf7 s] (by simp) (fun l hl=>by
   simp only[List.mem_cons,List.not_mem_nil,or_false]at hl
   rcases hl with rfl|rfl|rfl
   ·simp
   ·rw[zb4];decide
   ·rw[zc7];omega)
  rw[show [[k],zcl n,zf7 s].flatten=zq3 k n s from by simp[zq3]]at hc
  rw[←zc7 s]
  exact hc
 have t2:(zad (zf7 s)).take (1+s.size)=zad (zf7 s):=by rw[←zc7 s];exact zav
 repeat'(first|exact zC|refine zq (I t8 t2) ?_|refine zx (hmy) ?_|refine zx (hpb) ?_|refine zx (hpn) ?_|refine zx (hpt) ?_|refine zx (hcc) ?_|(apply zaa<;>intro hb)|(apply I;exact zI)|(apply I<;>intro hg))
theorem zfF {r:Req} (h:Req.may r=true):(0≤r.client∧r.client<8)∧(1≤r.seq∧r.seq≤2305843009213693952)∧zlM r.kind r.session r.name=true∧r.ok:=by
 unfold Req.may at h
 have hH:zbs=2305843009213693952:=rfl
 simp only[Bool.and_eq_true,decide_eq_true_eq]at h
 have f:=zeK h.2
 refine⟨⟨h.1.1.1.1,h.1.1.1.2⟩,⟨h.1.1.2,by omega⟩,h.2, ?_⟩
 unfold Req.ok i64
 omega
theorem zlY {r:Req} (h:Req.may r=true):(zny r).length=19+r.name.size∧r.name.size≤12:=by
 have f:=zeK (zfF h).2.2.1
 refine⟨?_,f.2.2.2.2⟩
 simp[zny,zb4,zpY];omega
theorem znz (r:Req) (h:Req.may r=true):CallOK Tryz.prog 22 [.f (.agg (r.enc.map C.d))] (fun x o=>x=[.one (.own 1 (zny r).length (zad (zny r)) false),ri 0]∧o=[]):=by
 refine zh Tryz.func22 Tryz.results22 Tryz.ntmps22 Tryz.call22 ?_
 simp only[Tryz.f22,Option.getD]
 obtain⟨e1,e2,e3,e4⟩:=zfF h
 have hmy:=zfD r e4
 rw[h]at hmy
 have f:=zeK e3
 have hpb:=zkJ r.client (by omega)
 have hpn:=zdw r.seq (by omega)
 have hpt:=ztN r.kind r.session r.name e3
 have hcc:CallOK Tryz.prog 66 [.f (al 3 [.sl 1 (zad [r.client]), .sl 8 (zad (zcl r.seq)), .sl (zq3 r.kind r.session r.name).length (zad (zq3 r.kind r.session r.name))])] (fun x o=>x=[.one (.own 1 (zny r).length (zad (zny r)) false)]∧o=[]):=by
  have hc:=zfA [[r.client],zcl r.seq,zq3 r.kind r.session r.name] (by simp) (fun l hl=>by
   simp only[List.mem_cons,List.not_mem_nil,or_false]at hl
   rcases hl with rfl|rfl|rfl
   ·simp
   ·rw[zb4];decide
   ·rw[zpY];omega)
  rw[show [[r.client],zcl r.seq,zq3 r.kind r.session r.name].flatten=zny r from by simp[zny]]at hc
  exact hc
 repeat'(first|exact zC|refine zq (I t8 @zav) ?_|refine zx (hmy) ?_|refine zx (hpb) ?_|refine zx (hpn) ?_|refine zx (hpt) ?_|refine zx (hcc) ?_|(apply zaa<;>intro hb)|(apply I;exact zI)|(apply I<;>intro hg))
def za4 (l:List Int):List Int:=l.flatMap zcl
theorem zci {l:List Int}:(za4 l).length=8*l.length:=by
 induction l with
 |nil=>rfl
 |cons x l ih=>simp only[za4,List.flatMap_cons,List.length_append,List.length_cons,zb4]at ih⊢;omega
theorem zhS {l:List Int} {i:Nat} (hi:i<l.length):za4 (l.take (i+1))=za4 (l.take i)++zcl l[i]:=zcV _ hi
theorem zfG (l:List Int) (hl:l.length≤10) (h:∀v∈l,0≤v∧v<4611686018427387904):CallOK Tryz.prog 24 [.f (al l.length (zaB l))] (fun r o=>r=[.one (.own 1 (za4 l).length (zad (za4 l)) false)]∧o=[]):=by
 refine zh Tryz.func24 Tryz.results24 Tryz.ntmps24 Tryz.call24 ?_
 simp only[Tryz.f24,Option.getD]
 repeat'(first|exact zC|refine zq0 ?_|(apply zaa<;>intro hb)|(apply I;exact zI)|(apply I<;>intro hg))
 refine zaf (τ:=Nat) (fun i=>⟨(dq3 (.one (.own ⟨3,1,1⟩ 0 (za4 (l.take i)).length)::dq4 (al l.length (zaB l)::ai l.length::ai i::zrx []))),[(3,⟨2,[none,roq 1 1 (zad (za4 (l.take i)))]⟩),(6,⟨2,[]⟩),(16,⟨2,[]⟩),(21,⟨2,[]⟩)]⟩)
  (fun i=>i≤l.length) (fun _=>()) (fun i=>l.length - i) 0
  ((Gh.nil (i:=3) (s:=3) (sz:=1) rfl).trans (Gh.canon [3] [6,16,21] [] zK rfl rfl)) (Nat.zero_le _) ?_
 intro i hi0 hF K hK
 refine zw ?_
 refine zaa (fun hlt=> ?_) (fun hge=> ?_)
 ·have hi:i<l.length:=by simpa using hlt
  have hat:=zcu hi
  have hw:=zai hi (by omega)
  have hpn:=zdw l[i] (h _ (List.getElem_mem hi))
  have hle0:(za4 (l.take i)).length≤80:=by rw[zci,List.length_take];omega
  have hle:((za4 (l.take i)).length+8≤2^47)=True:=eq_true (by omega)
  have hsl:(za4 (l.take (i+1))).length=(za4 (l.take i)).length+8:=by rw[zhS hi,List.length_append,zb4]
  repeat'(first|exact zC|refine zq (I hat (I @zaA (I hle (I t8 (I @zav (I @List.length_map.{0,0} (I @zb4 zca))))))) ?_|refine zx (hpn) ?_|(apply zaa<;>intro hb)|(apply I;exact zI)|(apply I<;>intro hg))
  exact hK _ (i+1) (Gh.canon [3] [] [] (zk (I hw hsl)) rfl (by rw[zhS hi];simp only[roq,zad,List.map_append];rfl)) hi rfl (by omega)
 ·have hi:i=l.length:=by
   have:¬(i:Int)<l.length:=by simpa using hge
   omega
  subst hi
  rw[List.take_length]
  repeat'(first|exact zC|refine zq0 ?_|(apply zaa<;>intro hb)|(apply I;exact zI)|(apply I<;>intro hg))
theorem zoC {l:List Req}:∀{i:Nat},i≤l.length→(zdn l i (l.drop i)=true↔∀j (hj:j<l.length),i≤j→Req.may l[j]=true∧∀k (hk:k<j),l[k].client≠l[j].client):=by
 intro i hi
 obtain⟨n,hn⟩:∃n,n=l.length - i:=⟨_,rfl⟩
 induction n generalizing i with
 |zero=>
  have:i=l.length:=by omega
  rw[this,List.drop_length,zdn]
  simp only[true_iff]
  intro j hj hij;omega
 |succ n ih=>
  have hil:i<l.length:=by omega
  rw[List.drop_eq_getElem_cons hil,zdn]
  have ih:=ih (i:=i+1) (by omega) (by omega)
  have hany:(l.take i).any (fun o=>o.client==l[i].client)=false↔∀k (hk:k<i),l[k].client≠l[i].client:=by
   rw[List.any_eq_false]
   constructor
   ·intro h k hk
    have:=h (l[k]) (by rw[List.mem_take_iff_getElem];exact⟨k,by omega,rfl⟩)
    simpa using this
   ·intro h o ho
    obtain⟨k,hk,rfl⟩:=List.mem_take_iff_getElem.1 ho
    simpa using h k (by omega)
  constructor
  ·intro h
   split at h
   ·cases h
   ·rename_i hc
    have hc:(!Req.may l[i]||(l.take i).any (fun o=>o.client==l[i].client))=false:=by simpa using hc
    rw[Bool.or_eq_false_iff]at hc
    intro j hj hij
    by_cases hji:j=i
    ·subst hji
     exact⟨by simpa using hc.1,hany.1 hc.2⟩
    ·exact ih.1 h j hj (by omega)
  ·intro h
   obtain⟨h1,h2⟩:=h i hil (Nat.le_refl _)
   rw[if_neg (by rw[h1,hany.2 h2];simp)]
   exact ih.2 fun j hj hij=>h j hj (by omega)
theorem zoD {l:List Req} (h:zdn l 0 l=true):(∀r∈l,Req.may r=true)∧l.Pairwise fun a b=>a.client≠b.client:=by
 have h:=(zoC (l:=l) (i:=0) (Nat.zero_le _)).1 (by rw[List.drop_zero];exact h)
 refine⟨fun r hr=> ?_,List.pairwise_iff_getElem.2 fun i j hi hj hij=>(h j hj (Nat.zero_le _)).2 i hij⟩
 obtain⟨j,hj,rfl⟩:=List.getElem_of_mem hr
 exact(h j hj (Nat.zero_le _)).1
theorem zjH {b:Batch} (h:Batch.may b=true) (hf:b.fill=false):(0≤b.view∧b.view≤zbs)∧(0≤b.time∧b.time≤zbs)∧(0≤b.tip.view∧b.tip.view≤zbs)∧(0≤b.tip.slot∧b.tip.slot≤zbs)∧b.reqs.length≤3∧
  (∀r∈b.reqs,Req.may r=true)∧b.reqs.Pairwise fun a b=>a.client≠b.client:=by
 unfold Batch.may at h
 rw[if_neg (by rw[hf];simp)]at h
 split at h
 ·cases h
 ·rename_i hc
  have hc:(!![b.view,b.time,b.tip.view,b.tip.slot].any bad||decide ((b.reqs.length:Int)>3))=false:=by simpa using hc
  rw[Bool.or_eq_false_iff]at hc
  obtain⟨c1,c2⟩:=hc
  have hb:∀n:Int,bad n=false→0≤n∧n≤zbs:=fun n hn=>by unfold bad at hn;simp at hn;omega
  have c1:[b.view,b.time,b.tip.view,b.tip.slot].any bad=false:=by simpa using c1
  simp only[List.any_cons,List.any_nil,Bool.or_false,Bool.or_eq_false_iff]at c1
  obtain⟨q1,q2,q3,q4⟩:=c1
  obtain⟨g1,g2⟩:=zoD h
  exact⟨hb _ q1,hb _ q2,hb _ q3,hb _ q4,by simp at c2;omega,g1,g2⟩
abbrev znw (b:Batch):List Int:=[b.view,b.tip.view,b.tip.slot,b.time]
def bp0 (b:Batch) (i:Nat):List Int:=[0]++za4 ((znw b).take i)
def bp1 (b:Batch) (i:Nat):List Int:=(bp0 b 4++[(b.reqs.length:Int)])++(b.reqs.take i).flatMap zny
def zhq (b:Batch):List Int:=if b.fill=true then [1]else bp1 b b.reqs.length
theorem zoB (b:Batch) {i:Nat} (hi:i≤4):(bp0 b i).length=1+8*i:=by
 rw[bp0,List.length_append,zci,List.length_take];simp;omega
theorem zvQ (b:Batch) {i:Nat} (hi:i<(znw b).length):bp0 b (i+1)=bp0 b i++zcl (znw b)[i]:=by
 rw[bp0,zhS hi,bp0,List.append_assoc]
theorem zpV {b:Batch} {i:Nat} (hi:i<b.reqs.length):bp1 b (i+1)=bp1 b i++zny b.reqs[i]:=by
 rw[bp1,zcV _ hi,bp1,←List.append_assoc]
theorem zpW {b:Batch}:bp1 b 0=bp0 b 4++[(b.reqs.length:Int)]:=by simp[bp1]
theorem ztM {b:Batch} (h:∀r∈b.reqs,Req.may r=true) (i:Nat):(bp1 b i).length≤34+i*31:=by
 have:=zdT zny (l:=b.reqs.take i) (k:=31) fun r hr=>by
  have:=zlY (h r (List.mem_of_mem_take hr));omega
 have h2:(b.reqs.take i).length*31≤i*31:=Nat.mul_le_mul_right _ (by rw[List.length_take];omega)
 rw[bp1,List.length_append,List.length_append,zoB b (by omega)]
 simp only[List.length_singleton]
 omega
theorem zfE {b:Batch} (h:Batch.may b=true):b.reqs.length≤3∧∀r∈b.reqs,Req.may r=true:=by
 cases hf:b.fill
 ·have f:=zjH h hf
  exact⟨f.2.2.2.2.1,f.2.2.2.2.2.1⟩
 ·unfold Batch.may at h
  rw[if_pos hf]at h
  simp only[Bool.and_eq_true,beq_iff_eq]at h
  have:b.reqs=[]:=List.length_eq_zero_iff.1 (by omega)
  rw[this]
  exact⟨by simp,by simp⟩
theorem znx {b:Batch} (h:Batch.may b=true):∀v∈znw b,0≤v∧v≤2305843009213693952:=by
 have hH:zbs=2305843009213693952:=rfl
 intro v hv
 cases hf:b.fill
 ·obtain⟨a1,a2,a3,a4,_⟩:=zjH h hf
  simp only[znw,List.mem_cons,List.not_mem_nil,or_false]at hv
  rcases hv with rfl|rfl|rfl|rfl<;>omega
 ·unfold Batch.may at h
  rw[if_pos hf]at h
  simp only[Bool.and_eq_true,beq_iff_eq]at h
  simp only[znw,List.mem_cons,List.not_mem_nil,or_false]at hv
  rcases hv with rfl|rfl|rfl|rfl<;>omega
theorem zpX {b:Batch} (h:Batch.may b=true):b.ok:=by
 obtain⟨h1,h2⟩:=zfE h
 have hn:=znx h
 have n1:=hn b.view (by simp)
 have n2:=hn b.tip.view (by simp)
 have n3:=hn b.tip.slot (by simp)
 have n4:=hn b.time (by simp)
 unfold Batch.ok i64
 refine⟨by omega,by omega,by omega,by omega,by omega,fun r hr=>(zfF (h2 r hr)).2.2.2⟩
set_option maxHeartbeats 1000000 in
theorem zjG (b:Batch) (h:Batch.may b=true):CallOK Tryz.prog 26 [.f (.agg b.lent)] (fun x o=>x=[.one (.own 1 (zhq b).length (zad (zhq b)) false),ri 0]∧o=[]):=by
 refine zh Tryz.func26 Tryz.results26 Tryz.ntmps26 Tryz.call26 ?_
 simp only[Tryz.f26,Option.getD]
 have hmy:=zdo b (zpX h)
 rw[h]at hmy
 obtain⟨h1,h2⟩:=zfE h
 have hn:=znx h
 cases hf:b.fill
 ·rw[zhq,if_neg (by rw[hf];simp)]
  rw[show b.lent=[db false,di b.view,di b.tip.view,di b.tip.slot,di b.time, .lent b.reqs.length (zbI b.reqs)] from by rw[←hf]]at hmy
  have hagg:∀(Z:List Nat) (r:Rs) (xs ys:List AV),fgc Z r (AV.agg [di b.view,di b.tip.view,di b.tip.slot,di b.time]::xs) (AV.agg [di b.view,di b.tip.view,di b.tip.slot,di b.time]::ys)=fgc Z r xs ys:=fun Z r xs ys=>zik rfl rfl
  repeat'(first|exact zC|refine zq hf ?_|refine zx (hmy) ?_|(apply zaa<;>intro hb)|(apply I;exact zI)|(apply I<;>intro hg))
  refine zaf (τ:=Nat) (fun i=>⟨(dd::ptq 1::dq2 (.one (.own ⟨4,1,1⟩ 0 (bp0 b i).length)::zyS (.agg [di b.view,di b.tip.view,di b.tip.slot,di b.time]::ai i::zw6 []))),[(1,⟨2,[obq 1 [db false,di b.view,di b.tip.view,di b.tip.slot,di b.time, .lent b.reqs.length (zbI b.reqs)],none,none,none,none,none,none]⟩),(19,⟨2,[]⟩),(4,⟨2,[none,roq 1 1 (zad (bp0 b i))]⟩),(7,⟨2,[]⟩),(36,⟨2,[]⟩),(41,⟨2,[]⟩)]⟩)
   (fun i=>i≤4) (fun _=>()) (fun i=>4 - i) 0
   (Gh.canon [1,4] [7,36,41] [] (zk hagg) rfl rfl) (Nat.zero_le _) ?_
  intro i hi0 hF K hK
  refine zw ?_
  refine zaa (fun hlt=> ?_) (fun hge=> ?_)
  ·have hi:i<4:=by simp at hlt;omega
   have hw:IntKind.i64.wrap ((i:Int)+1)=((i+1:Nat):Int):=zai hi (by omega)
   have hpn:=zdw ((znw b)[i]'hi) (by have:=hn _ (List.getElem_mem (l:=znw b) hi);omega)
   have hle:((bp0 b i).length+8≤2^47)=True:=eq_true (by rw[zoB b hi0];omega)
   have hsu:=zvQ b (i:=i) hi
   have hsl:(bp0 b (i+1)).length=(bp0 b i).length+8:=by rw[hsu,List.length_append,zb4]
   obtain⟨j,hj⟩:∃j,i+1=j:=⟨_,rfl⟩
   rw[hj]at hw hsu hsl
   rcases(show i=0∨i=1∨i=2∨i=3 by omega)with rfl|rfl|rfl|rfl
   all_goals
    repeat'(first|exact zC|refine zq (I hle (I t8 (I @zav (I @List.length_map.{0,0} (I @zb4 zca))))) ?_|refine zx (hpn) ?_|(apply zaa<;>intro hb)|(apply I;exact zI)|(apply I<;>intro hg))
    exact hK _ j (Gh.canon [1,4] [] [] (zk (I hw (I hsl hagg))) rfl (by rw[hsu];simp only[roq,zad,List.map_append];rfl)) (by omega) rfl (by omega)
  ·have hi:i=4:=by
    have:¬(i:Int)<4:=by simpa using hge
    omega
   subst hi
   have w3:IntKind.u8.wrap (b.reqs.length:Int)=b.reqs.length:=zdF (by omega) (by omega)
   have hle:((bp0 b 4).length+1≤2^47)=True:=eq_true (by rw[zoB b (Nat.le_refl _)];omega)
   have hz:(bp1 b 0).length=(bp0 b 4).length+1:=by rw[zpW,List.length_append,List.length_singleton]
   repeat'(first|exact zC|refine zq (I w3 (I hle (I @zav @List.length_map.{0,0}))) ?_|(apply zaa<;>intro hb)|(apply I;exact zI)|(apply I<;>intro hg))
   refine zaf (τ:=Nat) (fun i=>⟨(dq4 (.one (.own ⟨4,1,1⟩ 0 (bp1 b i).length)::dq6 (zdP (al b.reqs.length (zbI b.reqs)::ai b.reqs.length::ai i::zrx [])))),[(1,⟨2,[]⟩),(19,⟨2,[]⟩),(4,⟨2,[none,roq 1 1 (zad (bp1 b i))]⟩),(7,⟨2,[]⟩),(36,⟨2,[]⟩),(41,⟨2,[]⟩),(48,⟨2,[]⟩),(10,⟨2,[]⟩),(11,⟨2,[]⟩),(59,⟨2,[]⟩),(64,⟨2,[]⟩)]⟩)
    (fun i=>i≤b.reqs.length) (fun _=>()) (fun i=>b.reqs.length - i) 0
    (Gh.canon [4] [10,11,59,64] [] (zk hz) rfl (by rw[zpW];simp only[roq,zad,List.map_append];rfl)) (Nat.zero_le _) ?_
   intro i hi0 hF K hK
   refine zw ?_
   refine zaa (fun hlt=> ?_) (fun hge=> ?_)
   ·have hi:i<b.reqs.length:=by simpa using hlt
    have hat:=zfc hi
    have hw:=zai hi (by omega)
    have hm:=h2 _ (List.getElem_mem hi)
    have hpt:=znz b.reqs[i] hm
    have hl0:=ztM h2 i
    have hl1:=zlY hm
    have hle:((bp1 b i).length+(zny b.reqs[i]).length≤2^47)=True:=eq_true (by omega)
    have hsl:(bp1 b (i+1)).length=(bp1 b i).length+(zny b.reqs[i]).length:=by rw[zpV hi,List.length_append]
    repeat'(first|exact zC|refine zq (I hat (I @zaJ (I hle (I @zav (I @List.length_map.{0,0} zca))))) ?_|refine zx (hpt) ?_|(apply zaa<;>intro hb)|(apply I;exact zI)|(apply I<;>intro hg))
    exact hK _ (i+1) (Gh.canon [4] [] [] (zk (I hw hsl)) rfl (by rw[zpV hi];simp only[roq,zad,List.map_append];rfl)) hi rfl (by omega)
   ·have hi:i=b.reqs.length:=by
     have:¬(i:Int)<b.reqs.length:=by simpa using hge
     omega
    subst hi
    repeat'(first|exact zC|refine zq0 ?_|(apply zaa<;>intro hb)|(apply I;exact zI)|(apply I<;>intro hg))
 ·rw[zhq,if_pos hf]
  rw[show b.lent=[db true,di b.view,di b.tip.view,di b.tip.slot,di b.time, .lent b.reqs.length (zbI b.reqs)] from by rw[←hf]]at hmy
  repeat'(first|exact zC|refine zq hf ?_|refine zx (hmy) ?_|(apply zaa<;>intro hb)|(apply I;exact zI)|(apply I<;>intro hg))
end Go.Proofs.YtliimajkpggbhaaGreat
