import Derived.Test.YtliimajkpggbhaaGreatK9
import Derived.Test.YtliimajkpggbhaaGreatY
namespace Go.Proofs.YtliimajkpggbhaaGreat
open Go.Pk
set_option maxRecDepth 100000
set_option linter.unusedSimpArgs false
set_option linter.unusedVariables false
theorem zrk (n:Int):(znO n).size≤12:=by
 unfold znO
 rcases six n with h|h|h|h|h|h<;>rw[h]<;>decide
theorem zyM {s:St} (hr:RightS s) {a:Act} (ha:zoW a):(zuQ s a).ok:=by
 obtain⟨_,h1,h2,h3,h4,h5⟩:=ha
 unfold zau at*
 have hH:zbx=2305843009213693952:=rfl
 have hsq:∀c,0≤((zco s.memos c).getD zgK).seq∧((zco s.memos c).getD zgK).seq≤zbx:=fun c=>by
  cases hf:zco s.memos c with
  |none=>decide
  |some m=>
   have:=(zdj (hr.mok m (List.mem_of_find?_eq_some hf))).2.1
   simp only[Option.getD_some];omega
 have hnm:∀c,0≤((zaS s.sess c).getD zhO).num∧((zaS s.sess c).getD zhO).num≤zbx:=fun c=>by
  cases hf:zaS s.sess c with
  |none=>decide
  |some m=>
   have:=(zct.1 (hr.sok m (List.mem_of_find?_eq_some hf)).1).2.1
   simp only[Option.getD_some];omega
 have hk:1≤zkE a.kind∧zkE a.kind≤6:=by unfold zkE;omega
 have hs:0≤zrl a.kind a.session∧zrl a.kind a.session≤7:=by unfold zrl;split<;>omega
 have hn:(zty a.kind a.name).size≤12:=by
  unfold zty
  split
  ·exact zrk _
  ·decide
 unfold zuQ Req.ok i64 zAN
 simp only
 have:=hsq (a.client % 8)
 have:=hnm (a.client % 8)
 refine⟨by omega, ?_, ?_, ?_, ?_⟩
 ·split
  ·split<;>omega
  ·omega
 ·split<;>omega
 ·split
  ·omega
  ·split<;>omega
 ·split
  ·decide
  ·omega
def zv6 (s:St) (a:Act):St:=(ze7 (zcJ s (s.time+a.time % 16) 60) (zuQ (zcJ s (s.time+a.time % 16) 60) a)).1
def znM:List Act→St→St
 |[],s=>s
 |a::r,s=>znM r (zv6 s a)
structure Mk (s:St) (i:Nat):Prop where
 rt:RightS s
 num:s.num≤i
 tok:s.token≤8*i
theorem ztv {s:St} {i:Nat} (h:Mk s i) (hi:i≤1000) (a:Act):Mk (zv6 s a) (i+1):=by
 have hH:zbx=2305843009213693952:=rfl
 obtain⟨h1,h2,h3⟩:=h
 obtain⟨r1,r2,r3,r4,r5⟩:=zhK h1 (s.time+a.time % 16) 60 (by omega)
 unfold zv6
 obtain⟨d1,d2,d3,d4,d5⟩:=zoY r1 (zuQ (zcJ s (s.time+a.time % 16) 60) a) (by omega) (by omega)
 exact⟨d1,by omega,by omega⟩
theorem ztw:∀{l:List Act} {s:St} {i:Nat},Mk s i→i+l.length≤1000→Mk (znM l s) (i+l.length)
 |[],_,_,h,_=>h
 |a::l,s,i,h,hi=>by
  simp only[List.length_cons]at hi⊢
  have:=ztw (l:=l) (ztv h (by omega) a) (by omega)
  rwa[show i+1+l.length=i+(l.length+1) by omega]at this
abbrev zkD (acts:List Act):St:=znM (acts.take 60) st0
theorem zqi (acts:List Act):Mk (zkD acts) 60:=by
 have h:=ztw (l:=acts.take 60) (s:=st0) (i:=0) ⟨znN,by decide,by decide⟩ (by simp;omega)
 have hl:(acts.take 60).length≤60:=by simp;omega
 exact⟨h.rt,by have:=h.num;show(znM (acts.take 60) st0).num≤_;omega,by have:=h.tok;show(znM (acts.take 60) st0).token≤_;omega⟩
set_option maxHeartbeats 4000000 in
theorem zyN (acts:List Act) (hl:acts.length<2^60) (ha:∀a∈acts,zoW a):CallOK Tryz.prog 110 [.f (al acts.length (zkF acts))] (fun r o=>r=[stRF (zkD acts)]∧o=[]):=by
 refine CallOK.nil ?_
 refine zh Tryz.func110 Tryz.results110 Tryz.ntmps110 Tryz.call110 ?_
 simp only[Tryz.f110,Option.getD]
 refine zL0 trivial ?_
 refine zmh (Gh.sealF 3 3 (.d (.v (.slice none 0 0))) ?_) ?_
 ·exact zo0
 refine zf0 ?_
 refine zmh (Gh.sealF 3 4 (.d (.v (.slice none 0 0))) ?_) ?_
 ·exact zo0
 refine zf0 ?_
 refine zmh (Gh.sealF 3 5 (.d (.v (.slice none 0 0))) ?_) ?_
 ·exact zo0
 refine zf0 ?_
 refine zai (τ:=Nat×St) (fun q=>⟨(al acts.length (zkF acts)::dd::ptq 2::ptq 3::ai q.1::zzp []),[(2,⟨2,[obq 1 [di 0,di 0,di 0, .d (.v (.slice none 0 0)), .d (.v (.slice none 0 0)), .d (.v (.slice none 0 0))],none,none,none,none,none,none]⟩),(3,⟨2,[obq 1 [di q.2.time,di q.2.num,di q.2.token, .d (.sl q.2.sess.length (zbC q.2.sess)), .d (.sl q.2.locks.length (zam q.2.locks)), .d (.sl q.2.memos.length (zaZ q.2.memos))],none,none,none,none,none,none]⟩),(5,⟨2,[]⟩),(6,⟨2,[]⟩),(29,⟨2,[]⟩),(38,⟨2,[]⟩)]⟩)
  (fun q=>q.1≤acts.length∧q.1≤60∧Mk q.2 q.1) (fun q=>znM ((acts.take 60).drop q.1) q.2) (fun q=>acts.length - q.1) (0,st0)
  (Gh.canon [2,3] [5,6,29,38] [] zK rfl rfl) ⟨Nat.zero_le _,by decide,znN,by decide,by decide⟩ ?_
 intro⟨i,s⟩ ⟨j1,j2,j3⟩ hF K hK
 simp only[List.drop_zero]at j1 j2 j3 hF hK⊢
 have hH:zbx=2305843009213693952:=rfl
 refine zw ?_
 refine zaa (fun hlt=> ?_) (fun hge=> ?_)
 ·have hlt2:i<acts.length∧i<60:=by simp at hlt;omega
  have hi:=hlt2.1
  have hat:=zyP hi
  have hw:=zal hi (by omega)
  have hao:=ha _ (List.getElem_mem hi)
  have hwt:=zdi hao.1
  have htm:=zd2 hao.1.1 16
  have hrt:=j3.rt.time
  have hnu:=j3.num
  have htk:=j3.tok
  have hwa:IntKind.i64.wrap (s.time+acts[i].time % 16)=s.time+acts[i].time % 16:=wrap64 (by omega) (by omega)
  have had:=zo8 s (zcl j3.rt) j3.rt (s.time+acts[i].time % 16) 60
  obtain⟨r1,r2,r3,r4,r5⟩:=zhK j3.rt (s.time+acts[i].time % 16) 60 (by omega)
  have hmk:=ztv j3 (by omega) acts[i]
  have hds:(acts.take 60).drop i=acts[i]::(acts.take 60).drop (i+1):=by
   rw[List.drop_eq_getElem_cons (by simp;omega),List.getElem_take]
  have hst:zv6 s acts[i]=(ze7 (zcJ s (s.time+acts[i].time % 16) 60) (zuQ (zcJ s (s.time+acts[i].time % 16) 60) acts[i])).1:=rfl
  generalize zcJ s (s.time+acts[i].time % 16) 60=t at*
  have hrq:=zrm t (zcl r1) r1 acts[i] hao
  have hro:=zyM r1 hao
  generalize zuQ t acts[i]=q at*
  have hap:=ztY t (zcl r1) r1 q hro (fun hm=>zoX r1 hm (by omega) (by omega)) (fun hm=>zro r1 hm (by omega) (by omega))
  generalize ze7 t q=U at*
  refine zL (I hat (I hwt (I htm (I hwa (I @zv7 zca))))) (I (had) (I (hrq) (hap))) ?_
  refine hK _ (i+1,U.1) (Gh.canon [2,3] [] [] (zk hw) rfl rfl) ⟨hi,by simp only;omega,by rw[←hst];exact hmk⟩ ?_ (by simp only;omega)
  simp only
  rw[hds,znM,hst]
 ·have hd:(acts.take 60).drop i=[]:=List.drop_eq_nil_of_le (by simp at hge⊢;omega)
  rw[hd,znM]at hF
  rw[show zkD acts=s from hF.symm]
  repeat'(first|exact zC|refine zq0 ?_|(apply zaa<;>intro hb)|(apply I;exact zI)|(apply I<;>intro hg))
  simp[zaL,zcv,zaR,zax]
abbrev zad (l:List Int):List D:=l.map uD
def zlt (v:Int) (k:Nat):Int:=IntKind.u8.wrap (v.fdiv (2^(8*(7 - k))))
def zbs (v:Int):List Int:=(List.range 8).map (zlt v)
abbrev zAm (v:Int) (i:Nat):List D:=(List.range 8).map fun k=>uD (if k<i then zlt v k else 0)
theorem zdT {v:Int} (h0:0≤v) (h1:v≤255):IntKind.u8.wrap v=v:=by
 have e:IntKind.u8.wrap v=v % 256:=by
  unfold IntKind.wrap
  simp[IntKind.bits,IntKind.signed]
 rw[e]
 omega
theorem zv4 (v:Int) (i:Nat) (hi:i<8):(zAm v i).set i (uD (zlt v i))=zAm v (i+1):=by
 apply List.ext_getElem
 ·simp
 ·intro k h1 h2
  simp only[List.length_set,List.length_map,List.length_range]at h1
  rw[List.getElem_set]
  simp only[List.getElem_map,List.getElem_range]
  split
  ·rename_i e;subst e;rw[if_pos (by omega)]
  ·rename_i e
   by_cases h:k<i
   ·rw[if_pos h,if_pos (by omega)]
   ·rw[if_neg h,if_neg (by omega)]
theorem zlu (v:Int) (h:0≤v∧v≤255):CallOK Tryz.prog 63 [.f (ai v)] (fun r o=>r=[.one (.own 1 1 (zad [v]) false),ri 0]∧o=[]):=by
 refine zh Tryz.func63 Tryz.results63 Tryz.ntmps63 Tryz.call63 ?_
 simp only[Tryz.f63,Option.getD]
 have h1:decide (v<0)=false:=by simp;omega
 have h2:decide (v>255)=false:=by simp;omega
 have hw:IntKind.u8.wrap v=v:=zdT h.1 h.2
 exact zW0 (I h1 (I h2 hw))
theorem zdH (v:Int) (h:0≤v∧v<4611686018427387904):CallOK Tryz.prog 64 [.f (ai v)] (fun r o=>r=[.one (.own 1 8 (zad (zbs v)) false),ri 0]∧o=[]):=by
 refine zh Tryz.func64 Tryz.results64 Tryz.ntmps64 Tryz.call64 ?_
 simp only[Tryz.f64,Option.getD]
 have h1:decide (v<0)=false:=by simp;omega
 have h2:decide (v≥4611686018427387904)=false:=by simp;omega
 refine zL0 (I h1 h2) ?_
 refine zai (τ:=Nat) (fun i=>⟨(ai v::dq3 (.one (.own ⟨4,1,1⟩ 0 8)::dq9 (ai 8::ai i::zuO []))),[(12,⟨2,[]⟩),(4,⟨2,[none,roq 1 1 (zAm v i)]⟩)]⟩)
  (fun i=>i≤8) (fun _=>()) (fun i=>8 - i) 0
  (Gh.canon [4] [] [] zK rfl rfl) (Nat.zero_le _) ?_
 intro i hi0 hF K hK
 refine zw ?_
 refine zaa (fun hlt=> ?_) (fun hge=> ?_)
 ·have hi:i<8:=by simp at hlt;omega
  have w1:IntKind.i64.wrap (7 - (i:Int))=7 - i:=wrap64 (by omega) (by omega)
  have w2:IntKind.i64.wrap (8*(7 - (i:Int)))=((8*(7 - i):Nat):Int):=by rw[wrap64 (by omega) (by omega)];omega
  have w3:¬(((8*(7 - i):Nat):Int)<0):=by omega
  have w4:min (8*(7 - i)) IntKind.i64.bits=8*(7 - i):=by have:IntKind.i64.bits=64:=rfl;omega
  have hw:IntKind.i64.wrap ((i:Int)+1)=((i+1:Nat):Int):=by rw[wrap64 (by omega) (by omega)];omega
  have hset:((zAm v i).map C.d).set i (C.d (D.v (Value.int IntKind.u8 (IntKind.u8.wrap (v.fdiv (2^(8*(7 - i))))))))=(zAm v (i+1)).map C.d:=by
   have:=zv4 v i hi
   rw[←this,List.map_set];rfl
  have hle:(i+1≤8)=True:=eq_true (by omega)
  repeat'(first|(with_reducible first|refine zae _ _ ?_|refine zcj ?_|refine zck ?_)|rw[zbK]|simp only[w1,w2,if_neg w3,Int.toNat_natCast,w4,hset,List.length_range,hle,zY,Int.reduceEq,Int.reduceBEq,Int.reduceBNe,Nat.reduceSub,Nat.reduceEqDiff,Nat.reduceAdd,Nat.reduceMul,Nat.reduceLeDiff,Nat.reduceLT,Nat.reduceBEq,reduceCtorEq]|refine za8 ?_|refine zaa (fun hb=> ?_) (fun hb=> ?_)|(refine And.intro ?_ ?_;exact zI)|refine And.intro (fun hg=> ?_) (fun hg=> ?_)|exact zC|fail)
  exact hK _ (i+1) (Gh.canon [4] [] [] (zk hw) rfl rfl) hi rfl (by omega)
 ·have hi:i=8:=by
   have:¬(i:Int)<8:=by simpa using hge
   omega
  subst hi
  refine zL0 trivial ?_
  rfl
theorem zi5 (s:ByteArray):s.data.toList.length=s.size:=by rw[Array.length_toList];rfl
abbrev zAn (s:ByteArray):List D:=s.data.toList.map fun b=>uD b.toNat
def ziN (s:ByteArray):List D:=uD s.size::zAn s
theorem zhE (s:ByteArray):(ziN s).length=1+s.size:=by simp[ziN,zi5,Nat.add_comm]
theorem zid (s:ByteArray) (h:s.size≤255):CallOK Tryz.prog 111 [.f (ast s)] (fun r o=>r=[.one (.own 1 (1+s.size) (ziN s) false),ri 0]∧o=[]):=by
 refine zh Tryz.func111 Tryz.results111 Tryz.ntmps111 Tryz.call111 ?_
 simp only[Tryz.f111,Option.getD]
 have h1:decide ((s.size:Int)>255)=false:=by simp;omega
 have hw:IntKind.u8.wrap (s.size:Int)=s.size:=zdT (by omega) (by omega)
 have hle:(1+s.size≤2^47)=True:=eq_true (by omega)
 refine zL0 (I h1 (I hw (I @zi5 hle))) ?_
 rfl
theorem zyK (n:Nat) (h:n<2^40):CallOK Tryz.prog 112 [.f (.one (.d (.v (.slice none 0 0)))), .f (ai n)] (fun r o=>r=[.one (.own 1 0 (zfY [.int .u8 0] n) false)]∧o=[]):=by
 refine zkZ zcQ mixed (T:=Ty) (n:=27) Tryz.func112 (c:=Tryz.f112.body.getD .skip) rfl Tryz.results112 Tryz.ntmps112 Tryz.call112
  (fun _=>⟨(openG 27 [.f (.one (.d (.v (.slice none 0 0)))), .f (ai n)]).v.set 0 (.one (.gap ⟨0,1,0⟩ 0 0 0)),[(0,⟨1,[none,some {e:=0,var:=false,fz:=false,sz:=1,cells:=[]}]⟩)]⟩)
  (fun _=>True) (fun cx a w hh=>⟨0,trivial,Gh.nilG (i:=0) (s:=0) (sz:=1) rfl cx a w hh⟩) ?_
 intro k _
 simp only[Tryz.f112,Option.getD]
 have h1:decide ((n:Int)<0)=false:=by simp
 have hw:IntKind.i64.wrap ((n:Int) - IntKind.i64.wrap (((0:Nat):Int) - ((0:Nat):Int)))=n:=by
  rw[show IntKind.i64.wrap (((0:Nat):Int) - ((0:Nat):Int))=0 from by decide,Int.sub_zero,wrap64 (by omega) (by omega)]
 cases h2:decide ((n:Int)>0)
 ·have:n=0:=by simp at h2;omega
  subst this
  refine zL0 (I h1 (I hw h2)) ?_
  rfl
 ·have h3:0<n:=by simp at h2;omega
  have hc1:(0≤(n:Int)∧(n:Int)<2^62∧0<n∧n≤2^47)=True:=eq_true (by omega)
  exact zW0 (I h1 (I hw (I h2 (I hc1 @Int.toNat_natCast))))
def zyL (ls:List (List D)) (i:Nat):List D:=if i=0 then zfY [.int .u8 0] ls.flatten.length else(ls.take i).flatten
theorem zts (ls:List (List D)) (i:Nat):(zyL ls i).take (ls.take i).flatten.length=(ls.take i).flatten:=by
 unfold zyL
 split
 ·rename_i h;subst h;simp
 ·rw[List.take_length]
theorem zhF {ls:List (List D)} {i:Nat} (hi:i<ls.length):(ls.take (i+1)).flatten=(ls.take i).flatten++ls[i]:=by
 rw[List.take_succ_eq_append_getElem hi,List.flatten_append];simp
theorem zoU {ls:List (List D)} {m:Nat} (hs:∀l∈ls,l.length≤m):∀i,(ls.take i).flatten.length≤i*m
 |0=>by simp
 |i+1=>by
  by_cases hi:i<ls.length
  ·rw[zhF hi,List.length_append]
   have:=zoU hs i
   have:=hs _ (List.getElem_mem hi)
   rw[Nat.add_mul];omega
  ·have h1:ls.take (i+1)=ls:=List.take_of_length_le (by omega)
   have h2:ls.take i=ls:=List.take_of_length_le (by omega)
   rw[h1,←h2]
   have:=zoU hs i
   rw[Nat.add_mul];omega
theorem ztt {ls:List (List D)} {i:Nat} (hi:i<ls.length):zyL ls (i+1)=(ls.take i).flatten++ls[i]:=by
 unfold zyL
 rw[if_neg (by omega),zhF hi]
theorem zv5 (ls:List (List D)):zyL ls ls.length=ls.flatten:=by
 unfold zyL
 cases ls with
 |nil=>rfl
 |cons a l=>rw[if_neg (by simp),List.take_length]
abbrev zuP (ls:List (List D)):List D:=ls.map fun l=> .sl l.length l
theorem zxz {ls:List (List D)} {i:Nat} (hi:i<ls.length):(zuP ls).drop i= .sl ls[i].length ls[i]::zuP (ls.drop (i+1)):=by
 rw[←List.map_drop,List.drop_eq_getElem_cons hi];rfl
theorem ztu {ls:List (List D)}:(zuP ls).length=ls.length:=by simp
theorem zjW (ls:List (List D)) (hl:ls.length<2^10) (hs:∀l∈ls,l.length≤2^12):
  CallOK Tryz.prog 66 [.f (al ls.length (zuP ls))] (fun r o=>r=[.one (.own 1 ls.flatten.length ls.flatten false)]∧o=[]):=by
 refine zh Tryz.func66 Tryz.results66 Tryz.ntmps66 Tryz.call66 ?_
 simp only[Tryz.f66,Option.getD]
 have hfl:=zoU hs
 refine zL0 trivial ?_
 refine zai (τ:=Nat) (fun i=>⟨(al ls.length (zuP ls)::dq2 (ai (ls.take i).flatten.length::dq5 (al ls.length (zuP ls)::ai ls.length::ai i::zzN []))),[(5,⟨2,[]⟩)]⟩)
  (fun i=>i≤ls.length) (fun _=>()) (fun i=>ls.length - i) 0
  (Gh.canon [] [5] [] (zk (I @List.take_zero.{0} (I @List.flatten_nil.{0} @List.length_nil.{0}))) rfl rfl) (Nat.zero_le _) ?_
 intro i hi0 hF K hK
 refine zw ?_
 refine zaa (fun hlt=> ?_) (fun hge=> ?_)
 ·have hi:i<ls.length:=by simpa using hlt
  have hat:=zxz hi
  have hw:=zal hi (by omega)
  have hb:=hfl i
  have hb2:=hfl (i+1)
  have hil:i*2^12≤2^10*2^12:=Nat.mul_le_mul_right _ (by omega)
  have hil2:(i+1)*2^12≤2^10*2^12:=Nat.mul_le_mul_right _ (by omega)
  have hfs:(ls.take (i+1)).flatten.length=(ls.take i).flatten.length+ls[i].length:=by rw[zhF hi,List.length_append]
  have hws:IntKind.i64.wrap (((ls.take i).flatten.length:Int)+(ls[i].length:Int))=((ls.take (i+1)).flatten.length:Int):=by rw[wrap64 (by omega) (by omega),hfs];omega
  have hn:decide (((ls.take (i+1)).flatten.length:Int)<0)=false:=by simp
  refine zL0 (I hat (I hws (I hn @ztu))) ?_
  exact hK _ (i+1) (Gh.canon [] [] [] (zk hw) rfl rfl) hi rfl (by omega)
 ·have hi:i=ls.length:=by
   have:¬(i:Int)<ls.length:=by simpa using hge
   omega
  subst hi
  have hb:=hfl ls.length
  have hil:ls.length*2^12≤2^10*2^12:=Nat.mul_le_mul_right _ (by omega)
  rw[List.take_length]at*
  have hgr:=zyK ls.flatten.length (by omega)
  clear hK
  refine zL trivial (hgr) ?_
  refine zai (τ:=Nat) (fun i=>⟨(dq6 (.one (.own ⟨6,1,1⟩ 0 (ls.take i).flatten.length)::zu6 (al ls.length (zuP ls)::ai ls.length::ai i::dq8 []))),[(5,⟨2,[]⟩),(24,⟨2,[]⟩),(6,⟨2,[none,roq 1 1 (zyL ls i)]⟩),(8,⟨2,[]⟩),(33,⟨2,[]⟩)]⟩)
   (fun i=>i≤ls.length) (fun _=>()) (fun i=>ls.length - i) 0
   (Gh.canon [6] [8,33] [] (zk (I @List.take_zero.{0} (I @List.flatten_nil.{0} @List.length_nil.{0}))) rfl rfl) (Nat.zero_le _) ?_
  intro i hi0 hF K hK
  refine zw ?_
  refine zaa (fun hlt=> ?_) (fun hge=> ?_)
  ·have hi:i<ls.length:=by simpa using hlt
   have hat:=zxz hi
   have hw:=zal hi (by omega)
   have hb:=hfl i
   have hb2:=hfl (i+1)
   have hil:i*2^12≤2^10*2^12:=Nat.mul_le_mul_right _ (by omega)
   have hil2:(i+1)*2^12≤2^10*2^12:=Nat.mul_le_mul_right _ (by omega)
   have hfs:(ls.take (i+1)).flatten.length=(ls.take i).flatten.length+ls[i].length:=by rw[zhF hi,List.length_append]
   have hle:((ls.take i).flatten.length+ls[i].length≤2^47)=True:=eq_true (by omega)
   refine zL0 (I hat (I @ztu (I @zD2 (I @zts (I hle @zbr))))) ?_
   exact hK _ (i+1) (Gh.canon [6] [] [] (zk (I hw hfs)) rfl (by rw[ztt hi];rfl)) hi rfl (by omega)
  ·have hi:i=ls.length:=by
    have:¬(i:Int)<ls.length:=by simpa using hge
    omega
   subst hi
   refine zL0 trivial ?_
   rw[List.take_length,zv5]
theorem zeC (n:Int):(zad (zbs n)).length=8:=rfl
theorem zdI {l:List Int} {i:Nat} (hi:i<l.length):(zad l).drop i=uD (l.getD i 0)::zad (l.drop (i+1)):=by
 rw[←List.map_drop,List.drop_eq_getElem_cons hi,List.getD_eq_getElem?_getD,List.getElem?_eq_getElem hi];rfl
theorem za6 {l:List Int}:(zad l).length=l.length:=by simp
def codeOf:Value→Value
 | .iface _ (.agg ⟨[c]⟩)=>c
 |_=>undef
abbrev zfv (t:Nat) (n:Int):Value:= .iface t (.agg #[.int .i64 n])
def zjT (t:Nat) (x:Value):Prop:=∃n,x=zfv t n
def nw3 (z:Value) (x:Value) (k:Nat):List Value:=if k=4 then [z]else if k=5 then [.int .i64 0]else [codeOf x]
def nwT (x:Value) (k:Nat):List Value:=if k=6 then [.string .empty]else if k=7 then [.int .i64 0]else [codeOf x]
def sz3 (_:Nat):Nat:=1
theorem zzt {l:List Value} (h:l.length=1):∃a,l=[a]:=by
 match l,h with
 |[a],_=>exact⟨a,rfl⟩
theorem cells3 {ks:List Nat} {ls:List (List Value)} (hk:ks.length=3) (h:ls.length=ks.length) (hs:∀(i k:Nat) (l:List Value),ks[i]? =some k→ls[i]? =some l→l.length=sz3 k):∃a b c,ls=[[a],[b],[c]]:=by
 rw[hk]at h
 match ls,h with
 |[x,y,z],_=>
  obtain⟨a,rfl⟩:=zzt (hs 0 ks[0] x (List.getElem?_eq_getElem (by omega)) rfl)
  obtain⟨b,rfl⟩:=zzt (hs 1 ks[1] y (List.getElem?_eq_getElem (by omega)) rfl)
  obtain⟨c,rfl⟩:=zzt (hs 2 ks[2] z (List.getElem?_eq_getElem (by omega)) rfl)
  exact⟨a,b,c,rfl⟩
theorem zjU {P:Program} {t:Nat} {z:Value} (h:(P.info? t).bind (·.zero)=some z) (w:World):(zeroValue t).run P w= .ok z w:=by
 cases hi:P.info? t with
 |none=>rw[hi]at h;cases h
 |some i=>rw[hi]at h;simp[zeroValue,typeInfo,hi,show i.zero=some z from h]
theorem zic:(Tryz.prog.info? 206).bind (·.zero)=some (.agg #[.int .i64 0]):=by kernel_rfl
theorem zjV:zjx Tryz.prog 172 [4,5,6] sz3 (nw3 (.int .i64 0)) (zjT 206):=by
 refine zfE zcQ mixed (T:=Ty) Tryz.func172 rfl rfl Tryz.ntmps172 rfl rfl rfl rfl rfl rfl rfl (by decide) (by decide) (by decide) ?_
 rintro x ⟨n,rfl⟩ ls hl hs
 obtain⟨a,b,c,rfl⟩:=cells3 rfl hl hs
 refine⟨.tuple #[.agg #[.int .i64 n], .bool true], .tup [.agg [di n],ab true], ?_, ?_,rfl, ?_⟩
 ·intro w
  simp[Instr.typeAssert,Tryz.underlying206]
 ·intro cx w r β
  simp[ReA,ReAs,ReC,ReCs,Rd,flat]
 ·simp only[zby,plainO,List.map_cons,List.map_nil]
  first|refine zs0 ?_|exact zt0
  refine zL0 trivial ?_
  rfl
theorem zlr:zoz Tryz.prog 172 3:=by
 refine zeg zcQ mixed (T:=Ty) Tryz.func172 rfl rfl Tryz.ntmps172 rfl rfl rfl rfl rfl rfl rfl (by decide) (y7:= .tuple #[.agg #[.int .i64 0], .bool false]) (V7:= .tup [.agg [di 0],ab false]) ?_ ?_ (by decide) rfl ?_
 ·intro w
  simp[Instr.typeAssert,Tryz.underlying206,zjU (zic) w]
 ·intro cx w r β
  simp[ReA,ReAs,ReC,ReCs,Rd,flat]
 ·simp only[List.replicate]
  first|refine zs0 ?_|exact zt0
  exact zW0 trivial
theorem zls:zjx Tryz.prog 174 [4,5,6] sz3 (nw3 (.int .i64 0)) (zjT 206):=by
 refine zfE zcQ mixed (T:=Ty) Tryz.func174 rfl rfl Tryz.ntmps174 rfl rfl rfl rfl rfl rfl rfl (by decide) (by decide) (by decide) ?_
 rintro x ⟨n,rfl⟩ ls hl hs
 obtain⟨a,b,c,rfl⟩:=cells3 rfl hl hs
 refine⟨.tuple #[.agg #[.int .i64 n], .bool true], .tup [.agg [di n],ab true], ?_, ?_,rfl, ?_⟩
 ·intro w
  simp[Instr.typeAssert,Tryz.underlying206]
 ·intro cx w r β
  simp[ReA,ReAs,ReC,ReCs,Rd,flat]
 ·simp only[zby,plainO,List.map_cons,List.map_nil]
  first|refine zs0 ?_|exact zt0
  refine zL0 trivial ?_
  rfl
theorem znL:zoz Tryz.prog 174 3:=by
 refine zeg zcQ mixed (T:=Ty) Tryz.func174 rfl rfl Tryz.ntmps174 rfl rfl rfl rfl rfl rfl rfl (by decide) (y7:= .tuple #[.agg #[.int .i64 0], .bool false]) (V7:= .tup [.agg [di 0],ab false]) ?_ ?_ (by decide) rfl ?_
 ·intro w
  simp[Instr.typeAssert,Tryz.underlying206,zjU (zic) w]
 ·intro cx w r β
  simp[ReA,ReAs,ReC,ReCs,Rd,flat]
 ·simp only[List.replicate]
  first|refine zs0 ?_|exact zt0
  exact zW0 trivial
theorem zfj:zjx Tryz.prog 198 [6,7,8] sz3 (nwT) (zjT 206):=by
 refine zfE zcQ mixed (T:=Ty) Tryz.func198 rfl rfl Tryz.ntmps198 rfl rfl rfl rfl rfl rfl rfl (by decide) (by decide) (by decide) ?_
 rintro x ⟨n,rfl⟩ ls hl hs
 obtain⟨a,b,c,rfl⟩:=cells3 rfl hl hs
 refine⟨.tuple #[.agg #[.int .i64 n], .bool true], .tup [.agg [di n],ab true], ?_, ?_,rfl, ?_⟩
 ·intro w
  simp[Instr.typeAssert,Tryz.underlying206]
 ·intro cx w r β
  simp[ReA,ReAs,ReC,ReCs,Rd,flat]
 ·simp only[zby,plainO,List.map_cons,List.map_nil]
  first|refine zs0 ?_|exact zt0
  refine zL0 trivial ?_
  rfl
theorem zgt:zoz Tryz.prog 198 3:=by
 refine zeg zcQ mixed (T:=Ty) Tryz.func198 rfl rfl Tryz.ntmps198 rfl rfl rfl rfl rfl rfl rfl (by decide) (y7:= .tuple #[.agg #[.int .i64 0], .bool false]) (V7:= .tup [.agg [di 0],ab false]) ?_ ?_ (by decide) rfl ?_
 ·intro w
  simp[Instr.typeAssert,Tryz.underlying206,zjU (zic) w]
 ·intro cx w r β
  simp[ReA,ReAs,ReC,ReCs,Rd,flat]
 ·simp only[List.replicate]
  first|refine zs0 ?_|exact zt0
  exact zW0 trivial
abbrev asl (n:Nat) (ds:List D):AV:= .one (.d (.sl n ds))
abbrev rdr (n:Nat) (ds:List D) (p:Int):List RO:=[.d (.sl n ds), .d (iD p)]
theorem zrj (n:Nat) (ds:List D) (p k:Nat) (hl:ds.length=n) (hn:n<2^62) (h:p+k≤n):
  CallOK Tryz.prog 173 [.obj (rdr n ds p), .f (ai k)] (fun r o=>r=[.one (.d (.sl k ((ds.drop p).take k)))]∧o=[rdr n ds ((p+k:Nat):Int)]):=by
 refine zh Tryz.func173 Tryz.results173 Tryz.ntmps173 Tryz.call173 ?_
 simp only[Tryz.f173,Option.getD]
 have h1:decide ((p:Int)<0)=false:=by simp
 have h2:decide ((p:Int)>(n:Int))=false:=by simp;omega
 have h3:IntKind.i64.wrap ((n:Int) - (p:Int))=(n:Int) - p:=wrap64 (by omega) (by omega)
 have h4:decide ((n:Int) - (p:Int)<(k:Int))=false:=by simp;omega
 have h5:IntKind.i64.wrap ((p:Int)+(k:Int))=((p+k:Nat):Int):=by rw[wrap64 (by omega) (by omega)];omega
 have h6:p+k - p=k:=by omega
 exact zW0 (I h1 (I h2 (I h3 (I h4 (I h5 (I h6 (I @Int.toNat_natCast hl)))))))
def zcB (n:Nat) (p k:Int):Bool:=decide (p<0)||decide (p>(n:Int))||decide ((n:Int) - p<k)
theorem zi4 (n:Nat) (ds:List D) (p k:Int) (hl:ds.length=n) (hn:n<2^62) (hp:i64 p) (h:zcB n p k=true):
  zbW Tryz.prog 173 [.obj (rdr n ds p), .f (ai k)] (zfv 206 2):=by
 refine zhy Tryz.func173 Tryz.ntmps173 Tryz.call173 ?_
 simp only[Tryz.f173,Option.getD]
 unfold zcB at h
 cases h1:decide (p<0)
 ·cases h2:decide (p>(n:Int))
  ·have h4:decide ((n:Int) - p<k)=true:=by rw[h1,h2]at h;simpa using h
   have h3:IntKind.i64.wrap ((n:Int) - p)=(n:Int) - p:=by
    simp at h1 h2
    exact wrap64 (by omega) (by omega)
   exact zW0 (I h1 (I h2 (I h3 (I h4 (I @zab hl)))))
  ·exact zW0 (I h1 (I h2 (I @zab hl)))
 ·exact zW0 (I h1 (I @zab hl))
theorem zyG (n:Nat) (ds:List D) (p:Nat) (x:Int) (rest:List D) (hl:ds.length=n) (hn:n<2^62) (hp:p<n) (hat:ds.drop p= .v (.int .u8 x)::rest) (hx:0≤x∧x≤255):
  CallOK Tryz.prog 138 [.f (asl n ds), .f (ai p)] (fun r o=>r=[ri x,ri ((p+1:Nat):Int),ri 0]∧o=[]):=by
 refine zbG zcQ mixed (T:=Ty) Tryz.func138 rfl Tryz.results138 Tryz.ntmps138 Tryz.call138 Tryz.call172 (ks:=[4,5,6]) rfl rfl rfl rfl rfl rfl (by decide) (by decide)
  (xs:=[asl n ds,ai p]) zlr zjV ⟨(asl n ds::ai p::dq2 (.one (.ptr ⟨4,0,0⟩ 0):: .one (.ptr ⟨5,0,0⟩ 0):: .one (.ptr ⟨6,0,0⟩ 0)::zuO [])),[(4,{next:=1,l:=[obq 0 [di 0],none]}),(5,{next:=1,l:=[obq 0 [di 0],none]}),(6,{next:=1,l:=[obq 0 [di 0],none]})]⟩ ?_ ?_ rfl ?_
 ·simp only[List.map_cons,List.map_nil]
  refine zL0 trivial ?_
  exact fun _ _ _ h=>h
 ·exact⟨⟨_,rfl,rfl,rfl,rfl,rfl⟩,⟨_,rfl,rfl,rfl,rfl,rfl⟩,⟨_,rfl,rfl,rfl,rfl,rfl⟩,trivial⟩
 ·have htk:=zrj n ds p 1 hl hn (by omega)
  rw[hat]at htk
  have hw:IntKind.i64.wrap x=x:=wrap64 (by omega) (by omega)
  refine zL0 trivial ?_
  refine zj (htk) ?_
  exact zW0 (I hw @zgg)
theorem zv1 (n:Nat) (ds:List D) (p:Int) (hl:ds.length=n) (hn:n<2^62) (hp:i64 p) (h:zcB n p 1=true):
  CallOK Tryz.prog 138 [.f (asl n ds), .f (ai p)] (fun r o=>r=[ri 0,ri 0,ri 2]∧o=[]):=by
 refine zbG zcQ mixed (T:=Ty) Tryz.func138 rfl Tryz.results138 Tryz.ntmps138 Tryz.call138 Tryz.call172 (ks:=[4,5,6]) rfl rfl rfl rfl rfl rfl (by decide) (by decide)
  (xs:=[asl n ds,ai p]) zlr zjV ⟨(asl n ds::ai p::dq2 (.one (.ptr ⟨4,0,0⟩ 0):: .one (.ptr ⟨5,0,0⟩ 0):: .one (.ptr ⟨6,0,0⟩ 0)::zuO [])),[(4,{next:=1,l:=[obq 0 [di 0],none]}),(5,{next:=1,l:=[obq 0 [di 0],none]}),(6,{next:=1,l:=[obq 0 [di 0],none]})]⟩ ?_ ?_ rfl ?_
 ·simp only[List.map_cons,List.map_nil]
  refine zL0 trivial ?_
  exact fun _ _ _ h=>h
 ·exact⟨⟨_,rfl,rfl,rfl,rfl,rfl⟩,⟨_,rfl,rfl,rfl,rfl,rfl⟩,⟨_,rfl,rfl,rfl,rfl,rfl⟩,trivial⟩
 ·have htk:=zi4 n ds p 1 hl hn hp h
  refine zL0 trivial ?_
  refine zp (rdr n ds p) (htk) ?_
  simp only[za2,za3,za1,zbb]
  refine⟨⟨_,rfl⟩,rfl,⟨⟨_,rfl,rfl,rfl,rfl,rfl⟩,⟨_,rfl,rfl,rfl,rfl,rfl⟩,⟨_,rfl,rfl,rfl,rfl,rfl⟩,trivial⟩, ?_⟩
  rw[show zoi 20 [4,5,6] (nw3 (.int .i64 0) (zfv 206 2))=⟨(dq4 (.one (.ptr ⟨4,0,0⟩ 0):: .one (.ptr ⟨5,0,0⟩ 0):: .one (.ptr ⟨6,0,0⟩ 0)::zuO [])),[(4,{next:=1,l:=[obq 0 [di 0]]}),(5,{next:=1,l:=[obq 0 [di 0]]}),(6,{next:=1,l:=[obq 0 [di 2]]})]⟩ from rfl]
  first|refine zs0 ?_|exact zt0
def ziB (l:List Int):Int:=l.foldl (fun u c=>u*256+c) 0
theorem ztp {l:List Int} {c:Int}:ziB (l++[c])=ziB l*256+c:=by unfold ziB;rw[List.foldl_append];rfl
theorem zlq:∀{l:List Int} {a:Int},0≤a→(∀c∈l,zau c)→0≤l.foldl (fun u c=>u*256+c) a∧l.foldl (fun u c=>u*256+c) a<(a+1)*256^l.length
 |[],a,ha,_=>by simp;omega
 |c::l,a,ha,h=>by
  have h2:=h c (by simp)
  unfold zau at h2
  obtain⟨h3,h4⟩:=zlq (l:=l) (a:=a*256+c) (by omega) fun x hx=>h x (by simp[hx])
  refine⟨h3,Int.lt_of_lt_of_le h4 ?_⟩
  rw[List.length_cons,Int.pow_succ,Int.mul_comm (256^l.length) 256,←Int.mul_assoc]
  exact Int.mul_le_mul_of_nonneg_right (by omega) (Int.pow_nonneg (by decide))
theorem zib {l:List Int} (h:∀c∈l,zau c):0≤ziB l∧ziB l<256^l.length:=by
 have:=zlq (l:=l) (a:=0) (by decide) h
 rw[Int.zero_add,Int.one_mul]at this
 exact this
theorem zD4 {i:Nat} (h:i<8):(256:Int)^i≤72057594037927936:=by
 rcases(show i=0∨i=1∨i=2∨i=3∨i=4∨i=5∨i=6∨i=7 by omega)with rfl|rfl|rfl|rfl|rfl|rfl|rfl|rfl<;>decide
theorem zyH {n:Int} (h0:0≤n) (h1:n<18446744073709551616):IntKind.u64.wrap n=n:=by
 have e:IntKind.u64.wrap n=n % 18446744073709551616:=by
  unfold IntKind.wrap
  simp[IntKind.bits,IntKind.signed]
 rw[e]
 omega
theorem zAl {u c:Int} (hu:0≤u∧u<72057594037927936) (hc:0≤c∧c≤255):
  IntKind.u64.wrap (BitVec.ofInt IntKind.u64.bits (u*256)|||BitVec.ofInt IntKind.u64.bits c).toNat=u*256+c:=by
 obtain⟨a,rfl⟩:=Int.eq_ofNat_of_zero_le hu.1
 obtain⟨b,rfl⟩:=Int.eq_ofNat_of_zero_le hc.1
 have hb:IntKind.u64.bits=64:=rfl
 rw[hb]
 have e1:(BitVec.ofInt 64 ((a:Int)*256)|||BitVec.ofInt 64 (b:Int)).toNat=a*256+b:=by
  have h1:((a:Int)*256)=((a*256:Nat):Int):=by omega
  rw[h1,BitVec.ofInt_natCast,BitVec.ofInt_natCast,BitVec.toNat_or,BitVec.toNat_ofNat,BitVec.toNat_ofNat]
  rw[Nat.mod_eq_of_lt (by omega),Nat.mod_eq_of_lt (by omega)]
  have:=Nat.shiftLeft_add_eq_or_of_lt (i:=8) (b:=b) (by omega) a
  rw[Nat.shiftLeft_eq]at this
  exact this.symm
 rw[e1,zyH (by omega) (by omega)]
 omega
theorem zgs {l:List Int} {i:Nat} (hi:i<l.length) (h:∀c∈l,zau c):zau (l.getD i 0):=by
 rw[List.getD_eq_getElem?_getD,List.getElem?_eq_getElem hi];exact h _ (List.getElem_mem hi)
theorem ztq {l:List Int} {i:Nat} (hi:i<l.length):ziB (l.take (i+1))=ziB (l.take i)*256+l.getD i 0:=by
 rw[List.take_succ_eq_append_getElem hi,ztp,List.getD_eq_getElem?_getD,List.getElem?_eq_getElem hi];rfl
set_option maxHeartbeats 1000000 in
theorem zv2 (n:Nat) (ds:List D) (p:Nat) (c:List Int) (hl:ds.length=n) (hn:n<2^62) (hp:p+8≤n) (hat:(ds.drop p).take 8=zad c) (hc8:c.length=8) (hc:∀x∈c,zau x):
  CallOK Tryz.prog 139 [.f (asl n ds), .f (ai p)] (fun r o=>r=(if ziB c<4611686018427387904 then [ri (ziB c),ri ((p+8:Nat):Int),ri 0]else [ri 0,ri 0,ri 4])∧o=[]):=by
 refine zbG zcQ mixed (T:=Ty) Tryz.func139 rfl Tryz.results139 Tryz.ntmps139 Tryz.call139 Tryz.call174 (ks:=[4,5,6]) rfl rfl rfl rfl rfl rfl (by decide) (by decide)
  (xs:=[asl n ds,ai p]) znL zls ⟨(asl n ds::ai p::dq2 (.one (.ptr ⟨4,0,0⟩ 0):: .one (.ptr ⟨5,0,0⟩ 0):: .one (.ptr ⟨6,0,0⟩ 0)::zu7 [])),[(4,{next:=1,l:=[obq 0 [di 0],none]}),(5,{next:=1,l:=[obq 0 [di 0],none]}),(6,{next:=1,l:=[obq 0 [di 0],none]})]⟩ ?_ ?_ rfl ?_
 ·simp only[List.map_cons,List.map_nil]
  refine zL0 trivial ?_
  exact fun _ _ _ h=>h
 ·exact⟨⟨_,rfl,rfl,rfl,rfl,rfl⟩,⟨_,rfl,rfl,rfl,rfl,rfl⟩,⟨_,rfl,rfl,rfl,rfl,rfl⟩,trivial⟩
 ·have htk:=zrj n ds p 8 hl hn hp
  rw[hat]at htk
  have hb1:=zib hc
  rw[hc8]at hb1
  refine zL0 trivial ?_
  refine zj (htk) ?_
  refine zL0 trivial ?_
  refine zi3 Ty Tryz.prog (τ:=Nat) (fun i=>⟨(dq4 (.one (.ptr ⟨4,0,0⟩ 0):: .one (.ptr ⟨5,0,0⟩ 0):: .one (.ptr ⟨6,0,0⟩ 0)::ptq 7:: .one (.d (.v (.int .u64 (ziB (c.take i)))))::dq6 (asl 8 (zad c)::ai 8::ai i::zxU []))),[(4,{next:=1,l:=[obq 0 [di 0],none]}),(5,{next:=1,l:=[obq 0 [di 0],none]}),(6,{next:=1,l:=[obq 0 [di 0],none]}),(7,⟨2,[obq 1 [.d (.sl n ds),di ((p+8:Nat):Int)],none,none]⟩)]⟩)
   (fun i=>i≤8) (fun i=>8 - i) 0 (Gh.canon [4,5,6,7] [] [4,5,6] zK rfl rfl) (Nat.zero_le _) ?_
  intro i hi0 K hK
  refine zw ?_
  refine zaa (fun hlt=> ?_) (fun hge=> ?_)
  ·have hi:i<c.length:=by simp at hlt;omega
   have hat2:=zdI hi
   have hw:=zal (i:=i) (n:=8) (by omega) (by omega)
   have hx:=zgs hi hc
   unfold zau at hx
   have hbi:=zib (l:=c.take i) fun x hx=>hc x (List.mem_of_mem_take hx)
   have hli:(c.take i).length=i:=by rw[List.length_take];omega
   rw[hli]at hbi
   have hp8:=zD4 (i:=i) (by omega)
   have w1:min (Int.toNat 8) IntKind.u64.bits=8:=by decide
   have w2:IntKind.u64.wrap (ziB (c.take i)*2^8)=ziB (c.take i)*256:=zyH (by omega) (by omega)
   have w3:IntKind.u64.wrap (c.getD i 0)=c.getD i 0:=zyH (by omega) (by omega)
   have w4:=zAl (u:=ziB (c.take i)) (c:=c.getD i 0) ⟨hbi.1,by omega⟩ ⟨hx.1,by omega⟩
   have w5:=ztq hi
   have w6:¬((8:Int)<0):=by decide
   repeat'(first|(with_reducible first|refine zae _ _ ?_|refine zcj ?_|refine zck ?_)|rw[zbK]|simp only[hat2,za6,hc8,w1,w2,w3,w4,if_neg w6,zY,Int.reduceEq,Int.reduceBEq,Int.reduceBNe,Nat.reduceSub,Nat.reduceEqDiff,Nat.reduceAdd,Nat.reduceMul,Nat.reduceLeDiff,Nat.reduceLT,Nat.reduceBEq,reduceCtorEq]|refine za8 ?_|refine zaa (fun hb=> ?_) (fun hb=> ?_)|(refine And.intro ?_ ?_;exact zI)|refine And.intro (fun hg=> ?_) (fun hg=> ?_)|exact zC|fail)
   exact hK _ (i+1) (Gh.canon [4,5,6,7] [] [4,5,6] (zk (I hw w5)) rfl rfl) (by omega) (by omega)
  ·have hi:i=8:=by
    have:¬(i:Int)<8:=by simpa using hge
    omega
   subst hi
   have ht:c.take 8=c:=List.take_of_length_le (by omega)
   have w7:IntKind.i64.wrap (ziB c)=ziB c∨¬ziB c<4611686018427387904:=by
    by_cases h:ziB c<4611686018427387904
    ·exact .inl (wrap64 (by omega) (by omega))
    ·exact .inr h
   by_cases hlt:ziB c<4611686018427387904
   ·have h1:decide (ziB c≥4611686018427387904)=false:=by simp;omega
    have w7:IntKind.i64.wrap (ziB c)=ziB c:=wrap64 (by omega) (by omega)
    repeat'(first|(with_reducible first|refine zae _ _ ?_|refine zcj ?_|refine zck ?_)|rw[zbK]|simp only[ht,h1,w7,if_pos hlt,zgg,zY,Int.reduceEq,Int.reduceBEq,Int.reduceBNe,Nat.reduceSub,Nat.reduceEqDiff,Nat.reduceAdd,Nat.reduceMul,Nat.reduceLeDiff,Nat.reduceLT,Nat.reduceBEq,reduceCtorEq]|refine za8 ?_|refine zaa (fun hb=> ?_) (fun hb=> ?_)|(refine And.intro ?_ ?_;exact zI)|refine And.intro (fun hg=> ?_) (fun hg=> ?_)|exact zC|fail)
   ·have h1:decide (ziB c≥4611686018427387904)=true:=by simp;omega
    repeat'(first|(with_reducible first|refine zae _ _ ?_|refine zcj ?_|refine zck ?_)|rw[zbK]|simp only[ht,h1,if_neg hlt,zY,Int.reduceEq,Int.reduceBEq,Int.reduceBNe,Nat.reduceSub,Nat.reduceEqDiff,Nat.reduceAdd,Nat.reduceMul,Nat.reduceLeDiff,Nat.reduceLT,Nat.reduceBEq,reduceCtorEq]|refine za8 ?_|refine zaa (fun hb=> ?_) (fun hb=> ?_)|(refine And.intro ?_ ?_;exact zI)|refine And.intro (fun hg=> ?_) (fun hg=> ?_)|exact zC|fail)
    simp only[za2,za3,za1,zbb]
    refine⟨⟨_,rfl⟩,rfl,⟨⟨_,rfl,rfl,rfl,rfl,rfl⟩,⟨_,rfl,rfl,rfl,rfl,rfl⟩,⟨_,rfl,rfl,rfl,rfl,rfl⟩,trivial⟩, ?_⟩
    rw[show zoi 35 [4,5,6] (nw3 (.int .i64 0) (zfv 206 4))=⟨(dq4 (.one (.ptr ⟨4,0,0⟩ 0):: .one (.ptr ⟨5,0,0⟩ 0):: .one (.ptr ⟨6,0,0⟩ 0)::zu7 [])),[(4,{next:=1,l:=[obq 0 [di 0]]}),(5,{next:=1,l:=[obq 0 [di 0]]}),(6,{next:=1,l:=[obq 0 [di 4]]})]⟩ from rfl]
    first|refine zs0 ?_|exact zt0
theorem zyI (n:Nat) (ds:List D) (p:Int) (hl:ds.length=n) (hn:n<2^62) (hp:i64 p) (h:zcB n p 8=true):
  CallOK Tryz.prog 139 [.f (asl n ds), .f (ai p)] (fun r o=>r=[ri 0,ri 0,ri 2]∧o=[]):=by
 refine zbG zcQ mixed (T:=Ty) Tryz.func139 rfl Tryz.results139 Tryz.ntmps139 Tryz.call139 Tryz.call174 (ks:=[4,5,6]) rfl rfl rfl rfl rfl rfl (by decide) (by decide)
  (xs:=[asl n ds,ai p]) znL zls ⟨(asl n ds::ai p::dq2 (.one (.ptr ⟨4,0,0⟩ 0):: .one (.ptr ⟨5,0,0⟩ 0):: .one (.ptr ⟨6,0,0⟩ 0)::zu7 [])),[(4,{next:=1,l:=[obq 0 [di 0],none]}),(5,{next:=1,l:=[obq 0 [di 0],none]}),(6,{next:=1,l:=[obq 0 [di 0],none]})]⟩ ?_ ?_ rfl ?_
 ·simp only[List.map_cons,List.map_nil]
  refine zL0 trivial ?_
  exact fun _ _ _ h=>h
 ·exact⟨⟨_,rfl,rfl,rfl,rfl,rfl⟩,⟨_,rfl,rfl,rfl,rfl,rfl⟩,⟨_,rfl,rfl,rfl,rfl,rfl⟩,trivial⟩
 ·have htk:=zi4 n ds p 8 hl hn hp h
  refine zL0 trivial ?_
  refine zp (rdr n ds p) (htk) ?_
  simp only[za2,za3,za1,zbb]
  refine⟨⟨_,rfl⟩,rfl,⟨⟨_,rfl,rfl,rfl,rfl,rfl⟩,⟨_,rfl,rfl,rfl,rfl,rfl⟩,⟨_,rfl,rfl,rfl,rfl,rfl⟩,trivial⟩, ?_⟩
  rw[show zoi 35 [4,5,6] (nw3 (.int .i64 0) (zfv 206 2))=⟨(dq4 (.one (.ptr ⟨4,0,0⟩ 0):: .one (.ptr ⟨5,0,0⟩ 0):: .one (.ptr ⟨6,0,0⟩ 0)::zu7 [])),[(4,{next:=1,l:=[obq 0 [di 0]]}),(5,{next:=1,l:=[obq 0 [di 0]]}),(6,{next:=1,l:=[obq 0 [di 2]]})]⟩ from rfl]
  first|refine zs0 ?_|exact zt0
theorem zdh:∀l:List Int,bytesOf (zad l)=some (l.map fun n=>UInt8.ofNat n.toNat)
 |[]=>rfl
 |n::l=>by
  have:=zdh l
  simp only[zad,List.map_cons,bytesOf]at this⊢
  rw[this]
def strOf (c:List Int):ByteArray:=⟨(c.map fun n=>UInt8.ofNat n.toNat).toArray⟩
theorem zyJ (n:Nat) (ds:List D) (p x:Nat) (most:Int) (c:List Int) (rest:List D) (hl:ds.length=n) (hn:n<2^62) (hp:p+1+x≤n) (hat:ds.drop p= .v (.int .u8 (x:Int))::rest) (hx:x≤255) (hm:(x:Int)≤most)
  (hat2:(ds.drop (p+1)).take x=zad c) (hcx:c.length=x):CallOK Tryz.prog 175 [.f (asl n ds), .f (ai p), .f (ai most)] (fun r o=>r=[.one (.d (sD (strOf c))),ri ((p+1+x:Nat):Int),ri 0]∧o=[]):=by
 refine zbG zcQ mixed (T:=Ty) Tryz.func175 rfl Tryz.results175 Tryz.ntmps175 Tryz.call175 Tryz.call198 (ks:=[6,7,8]) rfl rfl rfl rfl rfl rfl (by decide) (by decide)
  (xs:=[asl n ds,ai p,ai most]) zgt zfj ⟨(asl n ds::ai p::ai most::dq3 (.one (.ptr ⟨6,0,0⟩ 0):: .one (.ptr ⟨7,0,0⟩ 0):: .one (.ptr ⟨8,0,0⟩ 0)::zov [])),[(6,{next:=1,l:=[obq 0 [dS .empty],none]}),(7,{next:=1,l:=[obq 0 [di 0],none]}),(8,{next:=1,l:=[obq 0 [di 0],none]})]⟩ ?_ ?_ rfl ?_
 ·simp only[List.map_cons,List.map_nil]
  refine zL0 trivial ?_
  exact fun _ _ _ h=>h
 ·exact⟨⟨_,rfl,rfl,rfl,rfl,rfl⟩,⟨_,rfl,rfl,rfl,rfl,rfl⟩,⟨_,rfl,rfl,rfl,rfl,rfl⟩,trivial⟩
 ·have htk:=zrj n ds p 1 hl hn (by omega)
  rw[hat]at htk
  have htk2:=zrj n ds (p+1) x hl hn (by omega)
  rw[hat2]at htk2
  have hw:IntKind.i64.wrap (x:Int)=(x:Int):=wrap64 (by omega) (by omega)
  have h1:decide ((x:Int)>most)=false:=by simp;omega
  refine zL0 trivial ?_
  refine zj (htk) ?_
  refine zL0 (I hw h1) ?_
  refine zj (htk2) ?_
  refine zL0 (I @zdh (I @za6 (I hcx @zgg))) ?_
  rfl
theorem ztr (n:Nat) (ds:List D) (p x:Nat) (most:Int) (rest:List D) (hl:ds.length=n) (hn:n<2^62) (hp:p+1≤n) (hat:ds.drop p= .v (.int .u8 (x:Int))::rest) (hx:x≤255) (hm:¬(x:Int)≤most):
  CallOK Tryz.prog 175 [.f (asl n ds), .f (ai p), .f (ai most)] (fun r o=>r=[.one (.d (sD .empty)),ri 0,ri 3]∧o=[]):=by
 refine zbG zcQ mixed (T:=Ty) Tryz.func175 rfl Tryz.results175 Tryz.ntmps175 Tryz.call175 Tryz.call198 (ks:=[6,7,8]) rfl rfl rfl rfl rfl rfl (by decide) (by decide)
  (xs:=[asl n ds,ai p,ai most]) zgt zfj ⟨(asl n ds::ai p::ai most::dq3 (.one (.ptr ⟨6,0,0⟩ 0):: .one (.ptr ⟨7,0,0⟩ 0):: .one (.ptr ⟨8,0,0⟩ 0)::zov [])),[(6,{next:=1,l:=[obq 0 [dS .empty],none]}),(7,{next:=1,l:=[obq 0 [di 0],none]}),(8,{next:=1,l:=[obq 0 [di 0],none]})]⟩ ?_ ?_ rfl ?_
 ·simp only[List.map_cons,List.map_nil]
  refine zL0 trivial ?_
  exact fun _ _ _ h=>h
 ·exact⟨⟨_,rfl,rfl,rfl,rfl,rfl⟩,⟨_,rfl,rfl,rfl,rfl,rfl⟩,⟨_,rfl,rfl,rfl,rfl,rfl⟩,trivial⟩
 ·have htk:=zrj n ds p 1 hl hn (by omega)
  rw[hat]at htk
  have hw:IntKind.i64.wrap (x:Int)=(x:Int):=wrap64 (by omega) (by omega)
  have h1:decide ((x:Int)>most)=true:=by simp;omega
  refine zL0 trivial ?_
  refine zj (htk) ?_
  refine zL0 (I hw h1) ?_
  simp only[za2,za3,za1,zbb]
  refine⟨⟨_,rfl⟩,rfl,⟨⟨_,rfl,rfl,rfl,rfl,rfl⟩,⟨_,rfl,rfl,rfl,rfl,rfl⟩,⟨_,rfl,rfl,rfl,rfl,rfl⟩,trivial⟩, ?_⟩
  rw[show zoi 30 [6,7,8] (nwT (zfv 206 3))=⟨(dq6 (.one (.ptr ⟨6,0,0⟩ 0):: .one (.ptr ⟨7,0,0⟩ 0):: .one (.ptr ⟨8,0,0⟩ 0)::zov [])),[(6,{next:=1,l:=[obq 0 [dS .empty]]}),(7,{next:=1,l:=[obq 0 [di 0]]}),(8,{next:=1,l:=[obq 0 [di 3]]})]⟩ from rfl]
  first|refine zs0 ?_|exact zt0
theorem zv3 (n:Nat) (ds:List D) (p most:Int) (hl:ds.length=n) (hn:n<2^62) (hp:i64 p) (h:zcB n p 1=true):
  CallOK Tryz.prog 175 [.f (asl n ds), .f (ai p), .f (ai most)] (fun r o=>r=[.one (.d (sD .empty)),ri 0,ri 2]∧o=[]):=by
 refine zbG zcQ mixed (T:=Ty) Tryz.func175 rfl Tryz.results175 Tryz.ntmps175 Tryz.call175 Tryz.call198 (ks:=[6,7,8]) rfl rfl rfl rfl rfl rfl (by decide) (by decide)
  (xs:=[asl n ds,ai p,ai most]) zgt zfj ⟨(asl n ds::ai p::ai most::dq3 (.one (.ptr ⟨6,0,0⟩ 0):: .one (.ptr ⟨7,0,0⟩ 0):: .one (.ptr ⟨8,0,0⟩ 0)::zov [])),[(6,{next:=1,l:=[obq 0 [dS .empty],none]}),(7,{next:=1,l:=[obq 0 [di 0],none]}),(8,{next:=1,l:=[obq 0 [di 0],none]})]⟩ ?_ ?_ rfl ?_
 ·simp only[List.map_cons,List.map_nil]
  refine zL0 trivial ?_
  exact fun _ _ _ h=>h
 ·exact⟨⟨_,rfl,rfl,rfl,rfl,rfl⟩,⟨_,rfl,rfl,rfl,rfl,rfl⟩,⟨_,rfl,rfl,rfl,rfl,rfl⟩,trivial⟩
 ·have htk:=zi4 n ds p 1 hl hn hp h
  refine zL0 trivial ?_
  refine zp (rdr n ds p) (htk) ?_
  simp only[za2,za3,za1,zbb]
  refine⟨⟨_,rfl⟩,rfl,⟨⟨_,rfl,rfl,rfl,rfl,rfl⟩,⟨_,rfl,rfl,rfl,rfl,rfl⟩,⟨_,rfl,rfl,rfl,rfl,rfl⟩,trivial⟩, ?_⟩
  rw[show zoi 30 [6,7,8] (nwT (zfv 206 2))=⟨(dq6 (.one (.ptr ⟨6,0,0⟩ 0):: .one (.ptr ⟨7,0,0⟩ 0):: .one (.ptr ⟨8,0,0⟩ 0)::zov [])),[(6,{next:=1,l:=[obq 0 [dS .empty]]}),(7,{next:=1,l:=[obq 0 [di 0]]}),(8,{next:=1,l:=[obq 0 [di 2]]})]⟩ from rfl]
  first|refine zs0 ?_|exact zt0
theorem zri (n:Nat) (ds:List D) (p x:Nat) (most:Int) (rest:List D) (hl:ds.length=n) (hn:n<2^62) (hp:p+1≤n) (hat:ds.drop p= .v (.int .u8 (x:Int))::rest) (hx:x≤255) (hm:(x:Int)≤most)
  (hs:zcB n ((p+1:Nat):Int) x=true):CallOK Tryz.prog 175 [.f (asl n ds), .f (ai p), .f (ai most)] (fun r o=>r=[.one (.d (sD .empty)),ri 0,ri 2]∧o=[]):=by
 refine zbG zcQ mixed (T:=Ty) Tryz.func175 rfl Tryz.results175 Tryz.ntmps175 Tryz.call175 Tryz.call198 (ks:=[6,7,8]) rfl rfl rfl rfl rfl rfl (by decide) (by decide)
  (xs:=[asl n ds,ai p,ai most]) zgt zfj ⟨(asl n ds::ai p::ai most::dq3 (.one (.ptr ⟨6,0,0⟩ 0):: .one (.ptr ⟨7,0,0⟩ 0):: .one (.ptr ⟨8,0,0⟩ 0)::zov [])),[(6,{next:=1,l:=[obq 0 [dS .empty],none]}),(7,{next:=1,l:=[obq 0 [di 0],none]}),(8,{next:=1,l:=[obq 0 [di 0],none]})]⟩ ?_ ?_ rfl ?_
 ·simp only[List.map_cons,List.map_nil]
  refine zL0 trivial ?_
  exact fun _ _ _ h=>h
 ·exact⟨⟨_,rfl,rfl,rfl,rfl,rfl⟩,⟨_,rfl,rfl,rfl,rfl,rfl⟩,⟨_,rfl,rfl,rfl,rfl,rfl⟩,trivial⟩
 ·have htk:=zrj n ds p 1 hl hn (by omega)
  rw[hat]at htk
  have htk2:=zi4 n ds ((p+1:Nat):Int) x hl hn (by unfold i64;omega) hs
  have hw:IntKind.i64.wrap (x:Int)=(x:Int):=wrap64 (by omega) (by omega)
  have h1:decide ((x:Int)>most)=false:=by simp;omega
  refine zL0 trivial ?_
  refine zj (htk) ?_
  refine zL0 (I hw h1) ?_
  refine zp (rdr n ds p) (htk2) ?_
  simp only[za2,za3,za1,zbb]
  refine⟨⟨_,rfl⟩,rfl,⟨⟨_,rfl,rfl,rfl,rfl,rfl⟩,⟨_,rfl,rfl,rfl,rfl,rfl⟩,⟨_,rfl,rfl,rfl,rfl,rfl⟩,trivial⟩, ?_⟩
  rw[show zoi 30 [6,7,8] (nwT (zfv 206 2))=⟨(dq6 (.one (.ptr ⟨6,0,0⟩ 0):: .one (.ptr ⟨7,0,0⟩ 0):: .one (.ptr ⟨8,0,0⟩ 0)::zov [])),[(6,{next:=1,l:=[obq 0 [dS .empty]]}),(7,{next:=1,l:=[obq 0 [di 0]]}),(8,{next:=1,l:=[obq 0 [di 2]]})]⟩ from rfl]
  first|refine zs0 ?_|exact zt0
def zbP (bs:List Int) (p:Int):Int×Int×Int:=if zcB bs.length p 1=true then(0,0,2)else(bs.getD p.toNat 0,p+1,0)
def zfy (bs:List Int) (p:Int):Int×Int×Int:=
 if zcB bs.length p 8=true then(0,0,2)else if ziB ((bs.drop p.toNat).take 8)<4611686018427387904 then(ziB ((bs.drop p.toNat).take 8),p+8,0)else(0,0,4)
def zcA (bs:List Int) (p most:Int):ByteArray×Int×Int:=
 if zcB bs.length p 1=true then(.empty,0,2)else if¬bs.getD p.toNat 0≤most then(.empty,0,3)else
 if zcB bs.length (p+1) (bs.getD p.toNat 0)=true then(.empty,0,2)else(strOf ((bs.drop (p.toNat+1)).take (bs.getD p.toNat 0).toNat),p+1+bs.getD p.toNat 0,0)
theorem zd1 {n:Nat} {p k:Int} (h:zcB n p k=false):0≤p∧p≤n∧k≤n - p:=by
 unfold zcB at h
 simp at h
 omega
structure BsOk (bs:List Int):Prop where
 l:bs.length<2^60
 b:∀x∈bs,zau x
theorem zdD (bs:List Int) (p:Int) (h:BsOk bs) (hp:i64 p):CallOK Tryz.prog 138 [.f (asl bs.length (zad bs)), .f (ai p)] (fun r o=>r=[ri (zbP bs p).1,ri (zbP bs p).2.1,ri (zbP bs p).2.2]∧o=[]):=by
 have hl:=h.l
 cases hs:zcB bs.length p 1
 ·obtain⟨h1,h2,h3⟩:=zd1 hs
  obtain⟨q,rfl⟩:=Int.eq_ofNat_of_zero_le h1
  have hq:q<bs.length:=by omega
  have hb:=zgs hq h.b
  unfold zau at hb
  rw[zbP,if_neg (by rw[hs];simp)]
  have:=zyG bs.length (zad bs) q (bs.getD q 0) _ za6 (by omega) hq (zdI hq) ⟨hb.1,by omega⟩
  simpa using this
 ·rw[zbP,if_pos hs]
  exact zv1 bs.length (zad bs) p za6 (by omega) hp hs
theorem zfi (bs:List Int) (p:Int) (h:BsOk bs) (hp:i64 p):CallOK Tryz.prog 139 [.f (asl bs.length (zad bs)), .f (ai p)] (fun r o=>r=[ri (zfy bs p).1,ri (zfy bs p).2.1,ri (zfy bs p).2.2]∧o=[]):=by
 have hl:=h.l
 cases hs:zcB bs.length p 8
 ·obtain⟨h1,h2,h3⟩:=zd1 hs
  obtain⟨q,rfl⟩:=Int.eq_ofNat_of_zero_le h1
  rw[zfy,if_neg (by rw[hs];simp)]
  have:=zv2 bs.length (zad bs) q ((bs.drop q).take 8) za6 (by omega) (by omega) (by rw[←List.map_drop,←List.map_take]) (by rw[List.length_take,List.length_drop];omega) (fun x hx=>h.b x (List.mem_of_mem_drop (List.mem_of_mem_take hx)))
  simp only[Int.toNat_natCast]
  split
  ·rename_i hv
   rw[if_pos hv]at this
   exact this
  ·rename_i hv
   rw[if_neg hv]at this
   exact this
 ·rw[zfy,if_pos hs]
  exact zyI bs.length (zad bs) p za6 (by omega) hp hs
theorem zhD (bs:List Int) (p most:Int) (h:BsOk bs) (hp:i64 p):CallOK Tryz.prog 175 [.f (asl bs.length (zad bs)), .f (ai p), .f (ai most)] (fun r o=>r=[.one (.d (sD (zcA bs p most).1)),ri (zcA bs p most).2.1,ri (zcA bs p most).2.2]∧o=[]):=by
 have hl:=h.l
 cases hs:zcB bs.length p 1
 ·obtain⟨h1,h2,h3⟩:=zd1 hs
  obtain⟨q,rfl⟩:=Int.eq_ofNat_of_zero_le h1
  have hq:q<bs.length:=by omega
  have hb:=zgs hq h.b
  unfold zau at hb
  obtain⟨x,hx⟩:=Int.eq_ofNat_of_zero_le hb.1
  have hat:=zdI hq
  rw[hx]at hat
  rw[zcA,if_neg (by rw[hs];simp)]
  simp only[Int.toNat_natCast,hx]
  by_cases hm:(x:Int)≤most
  ·rw[if_neg (by simpa using hm)]
   cases hs2:zcB bs.length ((q:Int)+1) (x:Int)
   ·obtain⟨h4,h5,h6⟩:=zd1 hs2
    rw[if_neg (by simp)]
    have:=zyJ bs.length (zad bs) q x most ((bs.drop (q+1)).take x) _ za6 (by omega) (by omega) hat (by omega) hm (by rw[←List.map_drop,←List.map_take]) (by rw[List.length_take,List.length_drop];omega)
    simpa using this
   ·rw[if_pos rfl]
    exact zri bs.length (zad bs) q x most _ za6 (by omega) (by omega) hat (by omega) hm (by simpa using hs2)
  ·rw[if_pos (by simpa using hm)]
   exact ztr bs.length (zad bs) q x most _ za6 (by omega) (by omega) hat (by omega) hm
 ·rw[zcA,if_pos hs]
  exact zv3 bs.length (zad bs) p most za6 (by omega) hp hs
theorem zd8 {bs:List Int} {p:Int}:0≤(zbP bs p).2.1∧(zbP bs p).2.1≤bs.length:=by
 unfold zbP
 cases hs:zcB bs.length p 1
 ·obtain⟨h1,h2,h3⟩:=zd1 hs
  rw[if_neg (by simp)];simp only;omega
 ·rw[if_pos rfl];simp only;omega
theorem zf3 {bs:List Int} {p:Int}:0≤(zfy bs p).2.1∧(zfy bs p).2.1≤bs.length:=by
 unfold zfy
 cases hs:zcB bs.length p 8
 ·obtain⟨h1,h2,h3⟩:=zd1 hs
  rw[if_neg (by simp)]
  split
  ·simp only;omega
  ·simp only;omega
 ·rw[if_pos rfl];simp only;omega
theorem zlp {bs:List Int} {p most:Int} (h:BsOk bs):0≤(zcA bs p most).2.1∧(zcA bs p most).2.1≤bs.length:=by
 unfold zcA
 cases hs:zcB bs.length p 1
 ·obtain⟨h1,h2,h3⟩:=zd1 hs
  rw[if_neg (by simp)]
  have hb:=zgs (i:=p.toNat) (by omega) h.b
  unfold zau at hb
  split
  ·simp only;omega
  ·cases hs2:zcB bs.length (p+1) (bs.getD p.toNat 0)
   ·obtain⟨h4,h5,h6⟩:=zd1 hs2
    rw[if_neg (by simp)];simp only;omega
   ·rw[if_pos rfl];simp only;omega
 ·rw[if_pos rfl];simp only;omega
def zcf (bs:List Int):Nat→Int→List Grant→List Grant×Int×Int
 |0,p,acc=>(acc,p,0)
 |k+1,p,acc=>
  if(zcA bs p 12).2.2≠0 then([],0,(zcA bs p 12).2.2)else
  if(zfy bs (zcA bs p 12).2.1).2.2≠0 then([],0,(zfy bs (zcA bs p 12).2.1).2.2)else
  zcf bs k (zfy bs (zcA bs p 12).2.1).2.1 (acc++[⟨(zcA bs p 12).1,(zfy bs (zcA bs p 12).2.1).1⟩])
abbrev zA8 (l:List Grant):RF:= .one (.own 2 l.length (zaJ l) false)
theorem zfu {n:Nat} (hn:n<2^60) {p:Int} (h:0≤p∧p≤n):i64 p:=by unfold i64;omega
set_option maxHeartbeats 1000000 in
theorem zto (bs:List Int) (p:Int) (n:Nat) (h:BsOk bs) (hp:i64 p) (hn:n<2^20):
  CallOK Tryz.prog 176 [.f (asl bs.length (zad bs)), .f (ai p), .f (ai n)] (fun r o=>r=[zA8 (zcf bs n p []).1,ri (zcf bs n p []).2.1,ri (zcf bs n p []).2.2]∧o=[]):=by
 refine CallOK.nil ?_
 refine zh Tryz.func176 Tryz.results176 Tryz.ntmps176 Tryz.call176 ?_
 simp only[Tryz.f176,Option.getD]
 refine zL0 trivial ?_
 refine zai (τ:=Nat×Int×List Grant) (fun t=>⟨(asl bs.length (zad bs)::ai t.2.1::dq7 (.one (.own ⟨9,1,1⟩ 0 t.2.2.length)::dq2 (ai n::ai t.1::zzQ []))),[(9,⟨2,[none,roq 1 2 (zaJ t.2.2)]⟩),(6,⟨2,[]⟩),(10,⟨2,[]⟩),(40,⟨2,[]⟩),(41,⟨2,[]⟩)]⟩)
  (fun t=>t.1≤n∧i64 t.2.1∧t.2.2.length=t.1) (fun t=>zcf bs (n - t.1) t.2.1 t.2.2) (fun t=>n - t.1) (0,p,[])
  ((Gh.nil (i:=9) (s:=9) (sz:=2) rfl).trans (Gh.canon [9] [6,10,40,41] [] zK rfl rfl)) ⟨Nat.zero_le _,hp,rfl⟩ ?_
 intro⟨i,q,acc⟩ ⟨hi0,hq,ha⟩ hF K hK
 simp only[Nat.sub_zero]at hi0 hq ha hF hK⊢
 refine zw ?_
 refine zaa (fun hlt=> ?_) (fun hge=> ?_)
 ·have hi:i<n:=by simpa using hlt
  have hw:=zal hi (by omega)
  have ht:=zhD bs q 12 h hq
  have hm:=zfi bs (zcA bs q 12).2.1 h (zfu h.l (zlp h))
  have hst:n - i=(n - (i+1))+1:=by omega
  rw[hst,zcf]at hF
  have hle:(acc.length+1≤2^47)=True:=eq_true (by omega)
  cases e1:((zcA bs q 12).2.2 !=0)
  ·have e1':(zcA bs q 12).2.2=0:=by simpa using e1
   rw[if_neg (by simp[e1'])]at hF
   cases e2:((zfy bs (zcA bs q 12).2.1).2.2 !=0)
   ·have e2':(zfy bs (zcA bs q 12).2.1).2.2=0:=by simpa using e2
    rw[if_neg (by simp[e2'])]at hF
    refine zL (I e1 (I e2 hle)) (I (ht) (hm)) ?_
    refine hK _ (i+1,(zfy bs (zcA bs q 12).2.1).2.1,acc++[⟨(zcA bs q 12).1,(zfy bs (zcA bs q 12).2.1).1⟩]) (Gh.canon [9] [] [] (zk (I hw (I @List.length_append.{0} @List.length_singleton.{0}))) rfl (by simp only[List.length_append,List.length_singleton];rw[zfD];rfl)) ⟨hi,zfu h.l zf3,by simp only[List.length_append,List.length_singleton];omega⟩ ?_ (by simp only;omega)
    simp only
    rw[hst,zcf,if_neg (by simp[e1']),if_neg (by simp[e2'])]
   ·have e2':(zfy bs (zcA bs q 12).2.1).2.2≠0:=by simpa using e2
    rw[if_pos e2']at hF
    rw[←hF]
    refine zL (I e1 e2) (I (ht) (hm)) ?_
    show zax _ _∧zax _ _∧zax _ _∧True
    simp[zax]
  ·have e1':(zcA bs q 12).2.2≠0:=by simpa using e1
   rw[if_pos e1']at hF
   rw[←hF]
   refine zL e1 (I (ht) (hm)) ?_
   show zax _ _∧zax _ _∧zax _ _∧True
   simp[zax]
 ·have hi:i=n:=by
   have:¬(i:Int)<n:=by simpa using hge
   omega
  rw[hi,Nat.sub_self,zcf]at hF
  rw[←hF]
  refine zL0 trivial ?_
  show zax _ _∧zax _ _∧zax _ _∧True
  simp[zax]
abbrev ztl:Reply:=⟨0,0,0,[]⟩
def zft (bs:List Int) (p:Int):Reply×Int×Int:=
 if(zbP bs p).2.2≠0 then(ztl,0,(zbP bs p).2.2)else
 let s:=zfy bs (zbP bs p).2.1
 if s.2.2≠0 then(ztl,0,s.2.2)else
 let a:=zbP bs s.2.1
 if a.2.2≠0 then(ztl,0,a.2.2)else
 let n:=zbP bs a.2.1
 if n.2.2≠0 then(ztl,0,n.2.2)else
 if n.1>4 then(ztl,0,4)else
 let g:=zcf bs n.1.toNat n.2.1 []
 if g.2.2≠0 then(ztl,0,g.2.2)else
 if zbN ⟨(zbP bs p).1,s.1,a.1,g.1⟩=false then(ztl,0,4)else(⟨(zbP bs p).1,s.1,a.1,g.1⟩,g.2.1,0)
theorem zjS {bs:List Int} (h:BsOk bs) {p:Int}:zau (zbP bs p).1:=by
 unfold zbP
 cases hs:zcB bs.length p 1
 ·obtain⟨h1,h2,h3⟩:=zd1 hs
  rw[if_neg (by simp)]
  exact zgs (by omega) h.b
 ·rw[if_pos rfl];exact⟨by decide,by decide⟩
theorem zlo {bs:List Int} {p most:Int}:(zcA bs p most).1.size≤bs.length:=by
 unfold zcA
 split
 ·simp
 ·split
  ·simp
  ·split
   ·simp
   ·simp only[strOf,ByteArray.size,List.size_toArray,List.length_map,List.length_take,List.length_drop]
    omega
theorem zia {bs:List Int}:∀{n:Nat} {p:Int} {acc:List Grant},(∀g∈acc,g.name.size≤bs.length)→(zcf bs n p acc).1.length≤acc.length+n∧∀g∈(zcf bs n p acc).1,g.name.size≤bs.length
 |0,p,acc,h=>⟨Nat.le_refl _,h⟩
 |n+1,p,acc,h=>by
  rw[zcf]
  split
  ·exact⟨Nat.zero_le _,by simp⟩
  ·split
   ·exact⟨Nat.zero_le _,by simp⟩
   ·have:=zia (bs:=bs) (n:=n) (p:=(zfy bs (zcA bs p 12).2.1).2.1) (acc:=acc++[⟨(zcA bs p 12).1,(zfy bs (zcA bs p 12).2.1).1⟩]) (fun g hg=>by
     rcases List.mem_append.1 hg with hg|hg
     ·exact h g hg
     ·simp at hg;subst hg;exact zlo)
    rw[List.length_append,List.length_singleton]at this
    exact⟨by omega,this.2⟩
set_option maxHeartbeats 1000000 in
theorem zoT (bs:List Int) (p:Int) (h:BsOk bs) (hp:i64 p):
  CallOK Tryz.prog 141 [.f (asl bs.length (zad bs)), .f (ai p)] (fun r o=>r=[ztX (zft bs p).1,ri (zft bs p).2.1,ri (zft bs p).2.2]∧o=[]):=by
 refine CallOK.nil ?_
 refine zh Tryz.func141 Tryz.results141 Tryz.ntmps141 Tryz.call141 ?_
 simp only[Tryz.f141,Option.getD]
 have hl:=h.l
 have h1:=zdD bs p h hp
 have h2:=zfi bs (zbP bs p).2.1 h (zfu h.l zd8)
 have h3:=zdD bs (zfy bs (zbP bs p).2.1).2.1 h (zfu h.l zf3)
 have h4:=zdD bs (zbP bs (zfy bs (zbP bs p).2.1).2.1).2.1 h (zfu h.l zd8)
 unfold zft
 simp only
 obtain⟨b,hb⟩:∃b,b=zbP bs p:=⟨_,rfl⟩
 rw[←hb]at h1 h2 h3 h4⊢
 obtain⟨s,hs⟩:∃s,s=zfy bs b.2.1:=⟨_,rfl⟩
 rw[←hs]at h2 h3 h4⊢
 obtain⟨a,ha⟩:∃a,a=zbP bs s.2.1:=⟨_,rfl⟩
 rw[←ha]at h3 h4⊢
 obtain⟨n,hn⟩:∃n,n=zbP bs a.2.1:=⟨_,rfl⟩
 rw[←hn]at h4⊢
 have hnv:zau n.1:=by rw[hn];exact zjS h
 have hnn:i64 n.2.1:=by rw[hn];exact zfu h.l zd8
 have hbv:zau b.1:=by rw[hb];exact zjS h
 unfold zau at hnv hbv
 have h5:=zto bs n.2.1 n.1.toNat h hnn (by omega)
 rw[Int.toNat_of_nonneg hnv.1]at h5
 have hgk:=zia (bs:=bs) (n:=n.1.toNat) (p:=n.2.1) (acc:=[]) (by simp)
 obtain⟨g,hg⟩:∃g,g=zcf bs n.1.toNat n.2.1 []:=⟨_,rfl⟩
 rw[←hg]at h5 hgk⊢
 have h6:=zgZ ⟨b.1,s.1,a.1,g.1⟩ ⟨by have:=hgk.1;simp only[List.length_nil]at this;simp only;omega,fun x hx=>by have:=hgk.2 x hx;omega⟩
 clear hgk
 cases e1:(b.2.2 !=0)
 ·rw[if_neg (by simpa using e1)]
  cases e2:(s.2.2 !=0)
  ·rw[if_neg (by simpa using e2)]
   cases e3:(a.2.2 !=0)
   ·rw[if_neg (by simpa using e3)]
    cases e4:(n.2.2 !=0)
    ·rw[if_neg (by simpa using e4)]
     cases e5:decide (n.1>4)
     ·rw[if_neg (by simpa using e5)]
      cases e6:(g.2.2 !=0)
      ·rw[if_neg (by simpa using e6)]
       cases e7:zbN ⟨b.1,s.1,a.1,g.1⟩
       ·rw[e7]at h6
        rw[if_pos rfl]
        refine zL (I e1 (I e2 (I e3 (I e4 (I e5 e6))))) (I (h1) (I (h2) (I (h3) (I (h4) (I (h5) (h6)))))) ?_
        show(zax _ _∧zax _ _∧zax _ _∧zax _ _∧True)∧zax _ _∧zax _ _∧True
        simp[zax, -List.length_flatMap,zar]
       ·rw[e7]at h6
        rw[if_neg (by simp)]
        refine zL (I e1 (I e2 (I e3 (I e4 (I e5 e6))))) (I (h1) (I (h2) (I (h3) (I (h4) (I (h5) (h6)))))) ?_
        show(zax _ _∧zax _ _∧zax _ _∧zax _ _∧True)∧zax _ _∧zax _ _∧True
        simp[zax, -List.length_flatMap,zar]
      ·rw[if_pos (by simpa using e6)]
       refine zL (I e1 (I e2 (I e3 (I e4 (I e5 e6))))) (I (h1) (I (h2) (I (h3) (I (h4) (h5))))) ?_
       show(zax _ _∧zax _ _∧zax _ _∧zax _ _∧True)∧zax _ _∧zax _ _∧True
       simp[zax, -List.length_flatMap,zar]
     ·rw[if_pos (by simpa using e5)]
      refine zL (I e1 (I e2 (I e3 (I e4 e5)))) (I (h1) (I (h2) (I (h3) (h4)))) ?_
      show(zax _ _∧zax _ _∧zax _ _∧zax _ _∧True)∧zax _ _∧zax _ _∧True
      simp[zax, -List.length_flatMap,zar]
    ·rw[if_pos (by simpa using e4)]
     refine zL (I e1 (I e2 (I e3 e4))) (I (h1) (I (h2) (I (h3) (h4)))) ?_
     show(zax _ _∧zax _ _∧zax _ _∧zax _ _∧True)∧zax _ _∧zax _ _∧True
     simp[zax, -List.length_flatMap,zar]
   ·rw[if_pos (by simpa using e3)]
    refine zL (I e1 (I e2 e3)) (I (h1) (I (h2) (h3))) ?_
    show(zax _ _∧zax _ _∧zax _ _∧zax _ _∧True)∧zax _ _∧zax _ _∧True
    simp[zax, -List.length_flatMap,zar]
  ·rw[if_pos (by simpa using e2)]
   refine zL (I e1 e2) (I (h1) (h2)) ?_
   show(zax _ _∧zax _ _∧zax _ _∧zax _ _∧True)∧zax _ _∧zax _ _∧True
   simp[zax, -List.length_flatMap,zar]
 ·rw[if_pos (by simpa using e1)]
  refine zL e1 (h1) ?_
  show(zax _ _∧zax _ _∧zax _ _∧zax _ _∧True)∧zax _ _∧zax _ _∧True
  simp[zax, -List.length_flatMap,zar]
abbrev ztm:Memo:=⟨0,0,ztl⟩
def zf1 (bs:List Int) (p:Int):Memo×Int×Int:=
 if(zbP bs p).2.2≠0 then(ztm,0,(zbP bs p).2.2)else
 let s:=zfy bs (zbP bs p).2.1
 if s.2.2≠0 then(ztm,0,s.2.2)else
 let r:=zft bs s.2.1
 if r.2.2≠0 then(ztm,0,r.2.2)else
 if answerB ⟨(zbP bs p).1,s.1,r.1⟩=false then(ztm,0,4)else(⟨(zbP bs p).1,s.1,r.1⟩,r.2.1,0)
abbrev ztn (m:Memo):RF:= .agg (m.enc.map RO.d)
theorem ziz {bs:List Int}:∀{n:Nat} {p:Int} {acc:List Grant},0≤p∧p≤bs.length→0≤(zcf bs n p acc).2.1∧(zcf bs n p acc).2.1≤bs.length
 |0,p,acc,h=>h
 |n+1,p,acc,h=>by
  rw[zcf]
  split
  ·simp only;omega
  ·split
   ·simp only;omega
   ·exact ziz zf3
theorem ziA {bs:List Int} (h:BsOk bs) {p:Int}:(0≤(zft bs p).2.1∧(zft bs p).2.1≤bs.length)∧zcD (zft bs p).1:=by
 have hl:=h.l
 have h0:(0≤((ztl,(0:Int),(0:Int)):Reply×Int×Int).2.1∧((ztl,(0:Int),(0:Int)):Reply×Int×Int).2.1≤bs.length)∧zcD ztl:=⟨by simp only;omega,by simp,by simp⟩
 unfold zft
 simp only
 split
 ·exact h0
 split
 ·exact h0
 split
 ·exact h0
 split
 ·exact h0
 split
 ·exact h0
 rename_i h5
 split
 ·exact h0
 split
 ·exact h0
 ·have hgk:=zia (bs:=bs) (n:=(zbP bs (zbP bs (zfy bs (zbP bs p).2.1).2.1).2.1).1.toNat) (p:=(zbP bs (zbP bs (zfy bs (zbP bs p).2.1).2.1).2.1).2.1) (acc:=[]) (by simp)
  simp only[List.length_nil]at hgk
  exact⟨ziz zd8,by simp only;omega,fun g hg=>by have:=hgk.2 g hg;omega⟩
set_option maxHeartbeats 1000000 in
theorem zf2 (bs:List Int) (p:Int) (h:BsOk bs) (hp:i64 p):
  CallOK Tryz.prog 91 [.f (asl bs.length (zad bs)), .f (ai p)] (fun r o=>r=[ztn (zf1 bs p).1,ri (zf1 bs p).2.1,ri (zf1 bs p).2.2]∧o=[]):=by
 refine CallOK.nil ?_
 refine zh Tryz.func91 Tryz.results91 Tryz.ntmps91 Tryz.call91 ?_
 simp only[Tryz.f91,Option.getD]
 have h1:=zdD bs p h hp
 have h2:=zfi bs (zbP bs p).2.1 h (zfu h.l zd8)
 have h3:=zoT bs (zfy bs (zbP bs p).2.1).2.1 h (zfu h.l zf3)
 have hf:=(ziA h (p:=(zfy bs (zbP bs p).2.1).2.1)).2
 unfold zf1
 simp only
 obtain⟨b,hb⟩:∃b,b=zbP bs p:=⟨_,rfl⟩
 rw[←hb]at h1 h2 h3 hf⊢
 obtain⟨s,hs⟩:∃s,s=zfy bs b.2.1:=⟨_,rfl⟩
 rw[←hs]at h2 h3 hf⊢
 obtain⟨a,ha⟩:∃a,a=zft bs s.2.1:=⟨_,rfl⟩
 rw[←ha]at h3 hf⊢
 have h4:=zf5 ⟨b.1,s.1,a.1⟩ hf
 cases e1:(b.2.2 !=0)
 ·rw[if_neg (by simpa using e1)]
  cases e2:(s.2.2 !=0)
  ·rw[if_neg (by simpa using e2)]
   cases e3:(a.2.2 !=0)
   ·rw[if_neg (by simpa using e3)]
    cases e7:answerB ⟨b.1,s.1,a.1⟩
    ·rw[e7]at h4
     rw[if_pos rfl]
     refine zL (I e1 (I e2 e3)) (I (h1) (I (h2) (I (h3) (h4)))) ?_
     show(zax _ _∧zax _ _∧zax _ _∧zax _ _∧zax _ _∧zax _ _∧True)∧zax _ _∧zax _ _∧True
     simp[zax]
    ·rw[e7]at h4
     rw[if_neg (by simp)]
     refine zL (I e1 (I e2 e3)) (I (h1) (I (h2) (I (h3) (h4)))) ?_
     show(zax _ _∧zax _ _∧zax _ _∧zax _ _∧zax _ _∧zax _ _∧True)∧zax _ _∧zax _ _∧True
     simp[zax]
   ·rw[if_pos (by simpa using e3)]
    refine zL (I e1 (I e2 e3)) (I (h1) (I (h2) (h3))) ?_
    show(zax _ _∧zax _ _∧zax _ _∧zax _ _∧zax _ _∧zax _ _∧True)∧zax _ _∧zax _ _∧True
    simp[zax]
  ·rw[if_pos (by simpa using e2)]
   refine zL (I e1 e2) (I (h1) (h2)) ?_
   show(zax _ _∧zax _ _∧zax _ _∧zax _ _∧zax _ _∧zax _ _∧True)∧zax _ _∧zax _ _∧True
   simp[zax]
 ·rw[if_pos (by simpa using e1)]
  refine zL e1 (h1) ?_
  show(zax _ _∧zax _ _∧zax _ _∧zax _ _∧zax _ _∧zax _ _∧True)∧zax _ _∧zax _ _∧True
  simp[zax]
end Go.Proofs.YtliimajkpggbhaaGreat
