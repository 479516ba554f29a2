import Derived.Test.YtliimajkpggbhaaGreatM5
namespace Go.Proofs.YtliimajkpggbhaaGreat
open Go.Pk Tryz
set_option maxRecDepth 100000
set_option linter.unusedSimpArgs false
set_option linter.unusedVariables false
structure Sn where
 done:Int
 view:Int
 slot:Int
 st:St
abbrev Sn.lent (s:Sn):List C:=di s.done::di s.view::di s.slot::s.st.lent
abbrev zCi (s:Sn):RF:= .agg (.d (iD s.done):: .d (iD s.view):: .d (iD s.slot)::(stE s.st).map RO.d)
def zbt (s:Sn):Bool:=within s.done&&(within s.view&&(within s.slot&&zdf s.st))
theorem zdM (n:Int):within n=(!(decide (n<0))&& !(decide (n>2305843009213693952))):=by
 unfold within
 have hH:zbE=2305843009213693952:=rfl
 rw[hH]
 by_cases h1:n<0<;>by_cases h2:n>2305843009213693952<;>simp[h1,h2]<;>omega
set_option maxHeartbeats 1000000 in
theorem zie (s:Sn) (h:Small s.st):CallOK prog 39 [.f (.agg s.lent)] (fun r o=>r=[rb (zbt s)]∧o=[]):=by
 refine zh func39 results39 ntmps39 call39 ?_
 simp only[f39,Option.getD]
 have hri:=zmK s.st h
 have hagg:∀(Z:List Nat) (r:Rs) (xs ys:List AV),fgc Z r (AV.agg [di s.done,di s.view,di s.slot]::xs) (AV.agg [di s.done,di s.view,di s.slot]::ys)=fgc Z r xs ys:=fun Z r xs ys=>zjb rfl rfl
 refine zL0 trivial ?_
 refine zaf (τ:=Nat) (fun i=>⟨(dd::ptq 1::zAq (.agg [di s.done,di s.view,di s.slot]::ai i::zsH [])),[(1,⟨2,[obq 1 [di s.done,di s.view,di s.slot,di s.st.time,di s.st.num,di s.st.token, .lent s.st.sess.length (za1 s.st.sess), .lent s.st.locks.length (zaj s.st.locks), .lent s.st.memos.length (zaM s.st.memos)],none,none,none,none,none,none,none,none,none]⟩)]⟩)
  (fun i=>i≤3) (fun i=>if i=0 then zbt s else if i=1 then within s.view&&(within s.slot&&zdf s.st)else if i=2 then within s.slot&&zdf s.st else zdf s.st) (fun i=>3 - i) 0
  (Gh.canon [1] [] [] (zk hagg) rfl rfl) (Nat.zero_le _) ?_
 intro i hi0 hF K hK
 rw[if_pos rfl]at hF
 refine zw ?_
 refine zaa (fun hlt=> ?_) (fun hge=> ?_)
 ·have hi:i<3:=by simp at hlt;omega
  have hw:IntKind.i64.wrap ((i:Int)+1)=((i+1:Nat):Int):=zai hi (by omega)
  rcases(show i=0∨i=1∨i=2 by omega)with rfl|rfl|rfl
  ·have hb:=zdM s.done
   cases h1:decide (s.done<0)
   ·cases h2:decide (s.done>2305843009213693952)
    ·rw[h1,h2]at hb
     refine zL0 (I h1 h2) ?_
     exact hK _ 1 (Gh.canon [1] [] [] (zk (I hw hagg)) rfl rfl) (by omega) (by simp[zbt,hb]) (by omega)
    ·rw[h1,h2]at hb
     have hz:zbt s=false:=by simp[zbt,hb]
     exact zW0 (I h1 (I h2 hz))
   ·rw[h1]at hb
    have hz:zbt s=false:=by simp[zbt,hb]
    exact zW0 (I h1 hz)
  ·have hb:=zdM s.view
   simp only[Nat.reduceEqDiff,if_true,if_false]at hF
   rw[←hF]
   cases h1:decide (s.view<0)
   ·cases h2:decide (s.view>2305843009213693952)
    ·rw[h1,h2]at hb
     refine zL0 (I h1 h2) ?_
     exact hK _ 2 (Gh.canon [1] [] [] (zk (I hw hagg)) rfl rfl) (by omega) (by simp[hb]) (by omega)
    ·rw[h1,h2]at hb
     have hz:(within s.view&&(within s.slot&&zdf s.st))=false:=by simp[hb]
     exact zW0 (I h1 (I h2 hz))
   ·rw[h1]at hb
    have hz:(within s.view&&(within s.slot&&zdf s.st))=false:=by simp[hb]
    exact zW0 (I h1 hz)
  ·have hb:=zdM s.slot
   simp only[Nat.reduceEqDiff,if_true,if_false]at hF
   rw[←hF]
   cases h1:decide (s.slot<0)
   ·cases h2:decide (s.slot>2305843009213693952)
    ·rw[h1,h2]at hb
     refine zL0 (I h1 h2) ?_
     exact hK _ 3 (Gh.canon [1] [] [] (zk (I hw hagg)) rfl rfl) (by omega) (by simp[hb]) (by omega)
    ·rw[h1,h2]at hb
     have hz:(within s.slot&&zdf s.st)=false:=by simp[hb]
     exact zW0 (I h1 (I h2 hz))
   ·rw[h1]at hb
    have hz:(within s.slot&&zdf s.st)=false:=by simp[hb]
    exact zW0 (I h1 hz)
 ·have hi:i=3:=by
   have:¬(i:Int)<3:=by simpa using hge
   omega
  subst hi
  simp only[Nat.reduceEqDiff,if_false]at hF
  rw[←hF]
  exact zW trivial (hri)
def snI (s:Sn):List Int:=zbz s.done++(zbz s.view++(zbz s.slot++zd4 s.st))
theorem within_iff {n:Int} (h:within n=true):0≤n∧n<4611686018427387904:=by
 rw[zdM]at h
 simp at h
 omega
theorem zd6 {s:Sn} (h:zbt s=true):(0≤s.done∧s.done<4611686018427387904)∧(0≤s.view∧s.view<4611686018427387904)∧(0≤s.slot∧s.slot<4611686018427387904)∧RightS s.st:=by
 simp only[zbt,Bool.and_eq_true]at h
 exact⟨within_iff h.1,within_iff h.2.1,within_iff h.2.2.1,zdE.1 h.2.2.2⟩
theorem zry (s:Sn) (h:zbt s=true):CallOK prog 27 [.f (.agg s.lent)] (fun r o=>r=[.one (.own 1 (snI s).length (zad (snI s)) false),ri 0]∧o=[]):=by
 obtain⟨f1,f2,f3,f4⟩:=zd6 h
 refine zh func27 results27 ntmps27 call27 ?_
 simp only[f27,Option.getD]
 have hm:=zie s (zcr f4)
 rw[h]at hm
 have hp:=zrY s.st f4
 have m1:=zfp s.done f1
 have m2:=zfp s.view f2
 have m3:=zfp s.slot f3
 have hl:=zpx f4 s.st.memos.length
 have hml:=zhQ f4
 have t8:∀v:Int,(zad (zbz v)).take 8=zad (zbz v):=fun v=>List.take_of_length_le (by rw[zeM];decide)
 have hcc:CallOK prog 66 [.f (al 4 [.sl 8 (zad (zbz s.done)), .sl 8 (zad (zbz s.view)), .sl 8 (zad (zbz s.slot)), .sl (zd4 s.st).length (zad (zd4 s.st))])] (fun x o=>x=[.one (.own 1 (snI s).length (zad (snI s)) false)]∧o=[]):=by
  have hc:=zga [zbz s.done,zbz s.view,zbz s.slot,zd4 s.st] (by simp) (fun l hl=>by
   simp only[List.mem_cons,List.not_mem_nil,or_false]at hl
   rcases hl with rfl|rfl|rfl|rfl
   ·rw[zaY];decide
   ·rw[zaY];decide
   ·rw[zaY];decide
   ·unfold zd4;omega)
  rw[show [zbz s.done,zbz s.view,zbz s.slot,zd4 s.st].flatten=snI s from by simp[snI]]at hc
  exact hc
 exact zW (I t8 @zau) (I (hm) (I (hp) (I (m1) (I (m2) (I (m3) (hcc))))))
def szG (k:Nat):Nat:=if k=4 then 9 else 1
def nwG (x:Value) (k:Nat):List Value:=if k=4 then [.int .i64 0, .int .i64 0, .int .i64 0, .int .i64 0, .int .i64 0, .int .i64 0,zfC,zfC,zfC]else if k=5 then [.int .i64 0]else [codeOf x]
theorem zAK {ls:List (List Value)} (h:ls.length=[4,5,6].length) (hs:∀(i k:Nat) (l:List Value),[4,5,6][i]? =some k→ls[i]? =some l→l.length=szG k):∃a b c d e f j k l g i,ls=[[a,b,c,d,e,f,j,k,l],[g],[i]]:=by
 match ls,h with
 |[x,y,z],_=>
  obtain⟨a,b,c,d,e,f,j,k,l,rfl⟩:=zEY (hs 0 4 x rfl rfl)
  obtain⟨g,rfl⟩:=zAx (hs 1 5 y rfl rfl)
  obtain⟨i,rfl⟩:=zAx (hs 2 6 z rfl rfl)
  exact⟨a,b,c,d,e,f,j,k,l,g,i,rfl⟩
theorem zo8:zjS prog 143 [4,5,6] szG nwG (zkd 177):=by
 refine zfN zcV mixed (T:=Ty) func143 rfl rfl ntmps143 rfl rfl rfl rfl rfl rfl rfl (by decide) (by decide) (by decide) ?_
 rintro x ⟨n,rfl⟩ ls hl hs
 obtain⟨a,b,c,d,e,f,j,k,l,g,i,rfl⟩:=zAK hl hs
 refine⟨.tuple #[.agg #[.int .i64 n], .bool true], .tup [.agg [di n],ab true], ?_, ?_,rfl, ?_⟩
 ·intro w
  simp[Instr.typeAssert,Tryz.underlying177]
 ·intro cx w r β
  simp[ReA,ReAs,ReC,ReCs,Rd,flat]
 ·simp only[zbF,plainO,List.map_cons,List.map_nil]
  first|refine zs0 ?_|exact zt0
  refine zL0 trivial ?_
  rfl
theorem zrx:zpk prog 143 3:=by
 refine zeo zcV mixed (T:=Ty) func143 rfl rfl ntmps143 rfl rfl rfl rfl rfl rfl rfl (by decide) (y7:= .tuple #[.agg #[.int .i64 0], .bool false]) (V7:= .tup [.agg [di 0],ab false]) ?_ ?_ (by decide) rfl ?_
 ·intro w
  simp[Instr.typeAssert,Tryz.underlying177,zke zwb w]
 ·intro cx w r β
  simp[ReA,ReAs,ReC,ReCs,Rd,flat]
 ·simp only[List.replicate]
  first|refine zs0 ?_|exact zt0
  exact zW0 trivial
def zgZ (bs:List Int) (p:Int):Rr Sn:=match zaW bs p with
 | .error e=> .error e
 | .ok d=>match zaW bs d.2 with
  | .error e=> .error e
  | .ok v=>match zaW bs v.2 with
   | .error e=> .error e
   | .ok l=>match zdN bs l.2 with
    | .error e=> .error e
    | .ok s=>if zbt ⟨d.1,v.1,l.1,s.1⟩=true then .ok (⟨d.1,v.1,l.1,s.1⟩,s.2)else .error 4
abbrev sn0:Sn:=⟨0,0,0,st0⟩
def dSn (bs:List Int) (p:Int):Sn×Int×Int:=match zgZ bs p with
 | .ok y=>(y.1,y.2,0)
 | .error e=>(sn0,0,e)
theorem ziI {bs:List Int} {p:Int} {y:St×Int} (hy:zdN bs p= .ok y):zdf y.1=true:=by
 unfold zdN at hy
 cases e1:zaW bs p with
 |error x=>rw[e1]at hy;cases hy
 |ok t=>
 rw[e1]at hy;simp only at hy
 cases e2:zaW bs t.2 with
 |error x=>rw[e2]at hy;cases hy
 |ok u=>
 rw[e2]at hy;simp only at hy
 cases e3:zaW bs u.2 with
 |error x=>rw[e3]at hy;cases hy
 |ok k=>
 rw[e3]at hy;simp only at hy
 cases e4:za9 bs k.2 5 with
 |error x=>rw[e4]at hy;cases hy
 |ok n=>
 rw[e4]at hy;simp only at hy
 cases e5:zaT (zgK bs) n.1.toNat n.2 []with
 |error x=>rw[e5]at hy;cases hy
 |ok ss=>
 rw[e5]at hy;simp only at hy
 cases e6:za9 bs ss.2 4 with
 |error x=>rw[e6]at hy;cases hy
 |ok n2=>
 rw[e6]at hy;simp only at hy
 cases e7:zaT (zeU bs) n2.1.toNat n2.2 []with
 |error x=>rw[e7]at hy;cases hy
 |ok ls=>
 rw[e7]at hy;simp only at hy
 cases e8:za9 bs ls.2 8 with
 |error x=>rw[e8]at hy;cases hy
 |ok n3=>
 rw[e8]at hy;simp only at hy
 cases e9:zaT (zeV bs) n3.1.toNat n3.2 []with
 |error x=>rw[e9]at hy;cases hy
 |ok ms=>
 rw[e9]at hy;simp only at hy
 split at hy
 ·rename_i hr;cases hy;exact hr
 ·cases hy
theorem zjz (e:Int):zo2 37 [4,5,6] (nwG (zfE 177 e))=⟨(dq4 (.one (.ptr ⟨4,0,0⟩ 0):: .one (.ptr ⟨5,0,0⟩ 0):: .one (.ptr ⟨6,0,0⟩ 0)::zy4 [])),[(4,{next:=1,l:=[obq 0 [di 0,di 0,di 0,di 0,di 0,di 0, .d (.v zfC), .d (.v zfC), .d (.v zfC)]]}),(5,{next:=1,l:=[obq 0 [di 0]]}),(6,{next:=1,l:=[obq 0 [di e]]})]⟩:=rfl
set_option maxHeartbeats 2000000 in
theorem zkR (bs:List Int) (p:Int) (h:BsOk bs) (hp:i64 p):
  CallOK prog 95 [.f (asl bs.length (zad bs)), .f (ai p)] (fun r o=>r=[zCi (dSn bs p).1,ri (dSn bs p).2.1,ri (dSn bs p).2.2]∧o=[]):=by
 refine CallOK.nil ?_
 refine zbM zcV mixed (T:=Ty) func95 rfl results95 ntmps95 call95 call143 (ks:=[4,5,6]) rfl rfl rfl rfl rfl rfl (by decide) (by decide)
  (xs:=[asl bs.length (zad bs),ai p]) (sz:=szG) (nw:=nwG) zrx zo8 ⟨(asl bs.length (zad bs)::ai p::dq2 (.one (.ptr ⟨4,0,0⟩ 0):: .one (.ptr ⟨5,0,0⟩ 0):: .one (.ptr ⟨6,0,0⟩ 0)::zy4 [])),[(4,{next:=1,l:=[obq 0 [di 0,di 0,di 0,di 0,di 0,di 0, .d (.v zfC), .d (.v zfC), .d (.v zfC)],none,none,none,none,none,none,none,none,none]}),(5,{next:=1,l:=[obq 0 [di 0],none]}),(6,{next:=1,l:=[obq 0 [di 0],none]})]⟩ ?_ ?_ rfl ?_
 ·simp only[List.map_cons,List.map_nil]
  refine zL0 trivial ?_
  exact fun _ _ _ h=>h
 ·exact⟨⟨_,rfl,rfl,rfl,rfl,rfl⟩,⟨_,rfl,rfl,rfl,rfl,rfl⟩,⟨_,rfl,rfl,rfl,rfl,rfl⟩,trivial⟩
 ·unfold dSn zgZ
  cases e1:zaW bs p with
  |error e=>
   have hr:=zdh bs p h hp e1
   refine zL0 trivial ?_
   refine zp (rds bs p) (hr) ?_
   simp only[za4,za5,za3,zbg]
   refine⟨⟨_,rfl⟩,rfl,⟨⟨_,rfl,rfl,rfl,rfl,rfl⟩,⟨_,rfl,rfl,rfl,rfl,rfl⟩,⟨_,rfl,rfl,rfl,rfl,rfl⟩,trivial⟩, ?_⟩
   rw[zjz]
   first|refine zs0 ?_|exact zt0
   simp[zaN,zcC,zaQ,zaA,st0]
  |ok d=>
  have he1:=zd8 bs p h hp e1
  simp only
  refine zL0 trivial ?_
  refine zj (he1) ?_
  cases e2:zaW bs d.2 with
  |error e=>
   have hr:=zdh bs _ h (zaw h e1) e2
   refine zL0 trivial ?_
   refine zp (rds bs p) (hr) ?_
   simp only[za4,za5,za3,zbg]
   refine⟨⟨_,rfl⟩,rfl,⟨⟨_,rfl,rfl,rfl,rfl,rfl⟩,⟨_,rfl,rfl,rfl,rfl,rfl⟩,⟨_,rfl,rfl,rfl,rfl,rfl⟩,trivial⟩, ?_⟩
   rw[zjz]
   first|refine zs0 ?_|exact zt0
   simp[zaN,zcC,zaQ,zaA,st0]
  |ok v=>
  have he2:=zd8 bs _ h (zaw h e1) e2
  simp only
  refine zL0 trivial ?_
  refine zj (he2) ?_
  cases e3:zaW bs v.2 with
  |error e=>
   have hr:=zdh bs _ h (zaw h e2) e3
   refine zL0 trivial ?_
   refine zp (rds bs p) (hr) ?_
   simp only[za4,za5,za3,zbg]
   refine⟨⟨_,rfl⟩,rfl,⟨⟨_,rfl,rfl,rfl,rfl,rfl⟩,⟨_,rfl,rfl,rfl,rfl,rfl⟩,⟨_,rfl,rfl,rfl,rfl,rfl⟩,trivial⟩, ?_⟩
   rw[zjz]
   first|refine zs0 ?_|exact zt0
   simp[zaN,zcC,zaQ,zaA,st0]
  |ok l=>
  have he3:=zd8 bs _ h (zaw h e2) e3
  simp only
  refine zL0 trivial ?_
  refine zj (he3) ?_
  cases e4:zdN bs l.2 with
  |error e=>
   have hr:=(ziJ bs _ h (zaw h e3) false (st0,0) e e4).2 rfl
   refine zL0 trivial ?_
   refine zp (rds bs p) (hr) ?_
   simp only[za4,za5,za3,zbg]
   refine⟨⟨_,rfl⟩,rfl,⟨⟨_,rfl,rfl,rfl,rfl,rfl⟩,⟨_,rfl,rfl,rfl,rfl,rfl⟩,⟨_,rfl,rfl,rfl,rfl,rfl⟩,trivial⟩, ?_⟩
   rw[zjz]
   first|refine zs0 ?_|exact zt0
   simp[zaN,zcC,zaQ,zaA,st0]
  |ok s=>
  have he4:=(ziJ bs _ h (zaw h e3) true s 0 e4).1 rfl
  simp only
  refine zL0 trivial ?_
  refine zj (he4) ?_
  have hms:=zie ⟨d.1,v.1,l.1,s.1⟩ (zcr (zdE.1 (ziI e4)))
  cases hm:zbt ⟨d.1,v.1,l.1,s.1⟩
  ·rw[hm]at hms
   rw[if_neg (by simp)]
   refine zL (I @zdO (I @zaI @zcJ)) (hms) ?_
   simp only[za4,za5,za3,zbg]
   refine⟨⟨_,rfl⟩,rfl,⟨⟨_,rfl,rfl,rfl,rfl,rfl⟩,⟨_,rfl,rfl,rfl,rfl,rfl⟩,⟨_,rfl,rfl,rfl,rfl,rfl⟩,trivial⟩, ?_⟩
   rw[zjz]
   first|refine zs0 ?_|exact zt0
   simp[zaN,zcC,zaQ,zaA,st0]
  ·rw[hm]at hms
   rw[if_pos rfl]
   repeat'(first|exact zC|(with_reducible first|refine zbc 7 ?_|refine zaR 7 ?_|refine zaS 7 ?_)|refine zu (I @zdO (I @zaI @zcJ)) ?_|(with_reducible first|refine zae _ _ ?_)|refine zx (hms) ?_|(apply zaa<;>intro hb)|(apply I;exact zI)|(apply I<;>intro hg))
   refine zbl (zbr (Gh.sealF 4 6 (.own ⟨4,7,7⟩ 0 s.1.sess.length) ?_) ?_)
   ·exact zo @zdO
   refine zf @zdO ?_
   refine zbr (Gh.sealF 4 7 (.own ⟨4,8,8⟩ 0 s.1.locks.length) ?_) ?_
   ·exact zo @zaI
   refine zf @zaI ?_
   refine zbr (Gh.sealF 4 8 (.own ⟨4,9,9⟩ 0 s.1.memos.length) ?_) ?_
   ·exact zo @zcJ
   refine zf @zcJ ?_
   repeat'(first|exact zC|refine zq @zgr ?_|(apply zaa<;>intro hb)|(apply I;exact zI)|(apply I<;>intro hg))
   simp[zaN,zcC,zaQ,zaA]
theorem zqa {α:Type} {a:α} {q:Int}:rOf (a,q,0)= .ok (a,q):=rfl
theorem zek {bs:List Int} {p:Nat} {v:Int} {rest:List Int} (h:bs.drop p=zbz v++rest) (hv:0≤v∧v<4611686018427387904):zaW bs p= .ok (v,((p+8:Nat):Int)):=by rw[zaW,zmG h hv,zqa]
theorem zhn {bs:List Int} {p:Nat} {x:Int} {rest:List Int} (h:bs.drop p=[x]++rest):zaU bs p= .ok (x,((p+1:Nat):Int)):=by rw[zaU,zhR h,zqa]
theorem zqb {bs:List Int} {p:Nat} {s:ByteArray} {rest:List Int} (h:bs.drop p=zdZ s++rest) (hs:s.size≤12):zd7 bs p= .ok (s,((p+(1+s.size):Nat):Int)):=by rw[zd7,zq3 h (by omega),zqa]
theorem zqc {bs:List Int} {p:Nat} {m:Memo} {rest:List Int} (h:bs.drop p=zbd m++rest) (hm:answerB m=true):zeV bs p= .ok (m,((p+(zbd m).length:Nat):Int)):=by rw[zeV,zr3 h hm,zqa]
theorem zfJ {bs:List Int} {p:Nat} {x most:Int} {rest:List Int} (h:bs.drop p=[x]++rest) (hx:x≤most):za9 bs p most= .ok (x,((p+1:Nat):Int)):=by
 rw[za9,zhn h]
 simp only
 rw[if_neg (by omega)]
theorem zeJ {α:Type} {bs:List Int} {f:Int→Rr α} {enc:α→List Int}:∀{l:List α} {p:Nat} {acc:List α} {rest:List Int},(∀x∈l,∀(p:Nat) (rest:List Int),bs.drop p=enc x++rest→f p= .ok (x,((p+(enc x).length:Nat):Int)))→
  bs.drop p=l.flatMap enc++rest→zaT f l.length p acc= .ok (acc++l,((p+(l.flatMap enc).length:Nat):Int))
 |[],p,acc,rest,_,_=>by simp[zaT]
 |x::l,p,acc,rest,hf,h=>by
  rw[List.flatMap_cons,List.append_assoc]at h
  rw[List.length_cons,zaT,hf x (by simp) p _ h]
  simp only
  rw[zeJ (fun y hy=>hf y (by simp[hy])) (zaG h)]
  simp[Nat.add_assoc]
theorem zv8 {bs:List Int} {p:Nat} {x:Sess} {rest:List Int} (h:bs.drop p=zi1 x++rest) (h1:0≤x.num∧x.num<4611686018427387904) (h2:0≤x.renewed∧x.renewed<4611686018427387904):
  zgK bs p= .ok (x,((p+(zi1 x).length:Nat):Int)):=by
 have h:bs.drop p=[x.client]++(zbz x.num++(zbz x.renewed++rest)):=by rw[h];simp[zi1]
 have g1:=zaG h
 have g2:=zaG g1
 rw[zgK,zhn h]
 simp only
 rw[List.length_singleton]at g1
 rw[zek g1 h1]
 simp only
 rw[zaY,List.length_singleton]at g2
 rw[zek g2 h2,zoi]
theorem zgk {bs:List Int}:∀{n:Nat} {p:Int} {acc:List Int},zg0 bs n p acc=zaT (zaU bs) n p acc
 |0,_,_=>rfl
 |n+1,p,acc=>by
  rw[zg0,zaT]
  cases zaU bs p with
  |error e=>rfl
  |ok x=>exact zgk
theorem zjy (l:List Int):(l.flatMap fun x=>[x])=l:=by induction l<;>simp_all
theorem zv9 {bs:List Int} {p:Nat} {k:Lk} {rest:List Int} (h:bs.drop p=zio k++rest) (h1:k.name.size≤12) (h2:0≤k.token∧k.token<4611686018427387904) (h3:k.line.length≤3):
  zeU bs p= .ok (k,((p+(zio k).length:Nat):Int)):=by
 have h:bs.drop p=zdZ k.name++([k.holder]++(zbz k.token++([(k.line.length:Int)]++((k.line.flatMap fun x=>[x])++rest)))):=by rw[h,zjy];simp[zio,lk0]
 have g1:=zaG h
 have g2:=zaG g1
 have g3:=zaG g2
 have g4:=zaG g3
 rw[zcj]at g1 g2 g3 g4
 rw[List.length_singleton]at g2 g3 g4
 rw[zaY]at g3 g4
 rw[List.length_singleton]at g4
 rw[zeU,zqb h h1]
 simp only
 rw[zhn g1]
 simp only
 rw[zek g2 h2]
 simp only
 rw[zfJ g3 (by omega)]
 simp only
 rw[zgk,Int.toNat_natCast,zeJ (enc:=fun x=>[x]) (fun x _ p rest h=>zhn h) g4]
 simp only[List.nil_append,zjy]
 rw[zio,List.length_append,zpu]
 congr 3
 omega
theorem zsW {bs:List Int} {p:Nat} {s:St} {rest:List Int} (h:bs.drop p=zd4 s++rest) (hr:RightS s):zdN bs p= .ok (s,((p+(zd4 s).length:Nat):Int)):=by
 have hH:zbE=2305843009213693952:=rfl
 have ht:=hr.time
 have hn:=hr.num
 have hk:=hr.token
 have hl1:=hr.sl
 have hl2:=hr.ll
 have hl3:=zhQ hr
 have h:bs.drop p=zbz s.time++(zbz s.num++(zbz s.token++([(s.sess.length:Int)]++(s.sess.flatMap zi1++([(s.locks.length:Int)]++(s.locks.flatMap zio++([(s.memos.length:Int)]++(s.memos.flatMap zbd++rest)))))))):=by
  rw[h];simp[zd4,sb3,sb2,sb1,zkY]
 have g1:=zaG h
 have g2:=zaG g1
 have g3:=zaG g2
 have g4:=zaG g3
 have g5:=zaG g4
 have g6:=zaG g5
 have g7:=zaG g6
 have g8:=zaG g7
 rw[zaY]at g1 g2 g3 g4 g5 g6 g7 g8
 rw[zaY]at g2 g3 g4 g5 g6 g7 g8
 rw[zaY]at g3 g4 g5 g6 g7 g8
 rw[List.length_singleton]at g4 g5 g6 g7 g8
 rw[List.length_singleton]at g6 g7 g8
 rw[List.length_singleton]at g8
 rw[zdN,zek h (by omega)]
 simp only
 rw[zek g1 (by omega)]
 simp only
 rw[zek g2 (by omega)]
 simp only
 rw[zfJ g3 (by omega)]
 simp only
 rw[Int.toNat_natCast,zeJ (enc:=zi1) (fun x hx p rest h=>by
  obtain⟨_,f2,f3⟩:=zcA.1 (hr.sok x hx).1
  exact zv8 h (by omega) (by omega)) g4]
 simp only
 rw[zfJ g5 (by omega)]
 simp only
 rw[Int.toNat_natCast,zeJ (enc:=zio) (fun x hx p rest h=>by
  obtain⟨q0,q1,q2,q3,q4,q5⟩:=zgC hr hx
  exact zv9 h q1 q3 q4) g6]
 simp only
 rw[zfJ g7 (by omega)]
 simp only
 rw[Int.toNat_natCast,zeJ (enc:=zbd) (fun x hx p rest h=>zqc h (hr.mok x hx)) g8]
 simp only[List.nil_append]
 rw[if_pos (zdE.2 hr)]
 congr 3
 simp only[zd4,sb3,sb2,sb1,zkY,List.length_append,List.take_length,zaY,List.length_singleton]
 omega
theorem zwa {bs:List Int} {p:Nat} {s:Sn} {rest:List Int} (h:bs.drop p=snI s++rest) (hs:zbt s=true):zgZ bs p= .ok (s,((p+(snI s).length:Nat):Int)):=by
 obtain⟨f1,f2,f3,f4⟩:=zd6 hs
 have h:bs.drop p=zbz s.done++(zbz s.view++(zbz s.slot++(zd4 s.st++rest))):=by rw[h];simp[snI]
 have g1:=zaG h
 have g2:=zaG g1
 have g3:=zaG g2
 rw[zaY]at g1 g2 g3
 rw[zaY]at g2 g3
 rw[zaY]at g3
 rw[zgZ,zek h f1]
 simp only
 rw[zek g1 f2]
 simp only
 rw[zek g2 f3]
 simp only
 rw[zsW g3 f4]
 simp only
 rw[if_pos hs]
 congr 3
 simp only[snI,List.length_append,zaY]
 omega
def sameL {α:Type} (eq:α→α→Bool) (a b:List α):Bool:=(a.length==b.length)&&((a.zip b).all fun p=>eq p.1 p.2)
def zfy {α:Type} (eq:α→α→Bool) (a b:List α) (i:Nat):Bool:=((a.drop i).zip (b.drop i)).all fun p=>eq p.1 p.2
theorem zbV {α:Type} {eq:α→α→Bool} {a b:List α} {i:Nat} (ha:i<a.length) (hb:i<b.length):zfy eq a b i=(eq a[i] b[i]&&zfy eq a b (i+1)):=by
 unfold zfy
 rw[List.drop_eq_getElem_cons ha,List.drop_eq_getElem_cons hb,List.zip_cons_cons,List.all_cons]
theorem zcz {α:Type} {eq:α→α→Bool} {a b:List α} {i:Nat} (ha:i=a.length):zfy eq a b i=true:=by
 unfold zfy
 rw[List.drop_eq_nil_of_le (by omega)];simp
theorem zc5 {α:Type} {eq:α→α→Bool} {a b:List α} (h:((a.length:Int) !=(b.length:Int))=true):sameL eq a b=false:=by
 unfold sameL
 simp at h
 simp;omega
theorem zc6 {α:Type} {eq:α→α→Bool} {a b:List α} (h:((a.length:Int) !=(b.length:Int))=false):a.length=b.length∧sameL eq a b=zfy eq a b 0:=by
 have hl:a.length=b.length:=by simp at h;omega
 unfold sameL zfy
 simp[hl]
def zh7 (a b:Int):Bool:=a==b
def zo5 (a b:Grant):Bool:=(a.name.toList==b.name.toList)&&(a.token==b.token)
def znc (a b:Sess):Bool:=(a.client==b.client)&&((a.num==b.num)&&(a.renewed==b.renewed))
def eqLk (a b:Lk):Bool:=(a.name.toList==b.name.toList)&&(a.holder==b.holder)&&(a.token==b.token)&&sameL zh7 a.line b.line
def eqRe (a b:Reply):Bool:=(a.code==b.code)&&(a.session==b.session)&&(a.ahead==b.ahead)&&sameL zo5 a.held b.held
def eqMe (a b:Memo):Bool:=(a.client==b.client)&&(a.seq==b.seq)&&(a.reply.code==b.reply.code)&&(a.reply.session==b.reply.session)&&(a.reply.ahead==b.reply.ahead)&&sameL zo5 a.reply.held b.reply.held
def zsJ (a b:St):Bool:=(a.time==b.time)&&(a.num==b.num)&&(a.token==b.token)&&sameL znc a.sess b.sess&&sameL eqLk a.locks b.locks&&sameL eqMe a.memos b.memos
theorem zvA {a b:List Int}:sameI a b=sameL zh7 a b:=rfl
set_option maxHeartbeats 1000000 in
theorem zxG (a b:List Int) (ha:a.length<2^30) (hb:b.length<2^30):CallOK prog 128 [.f (al a.length (zaF a)), .f (al b.length (zaF b))] (fun r o=>r=[rb (sameL zh7 a b)]∧o=[]):=by
 refine zh func128 results128 ntmps128 call128 ?_
 simp only[f128,Option.getD]
 cases hl:((a.length:Int) !=(b.length:Int))
 ·obtain⟨hle,hsr⟩:=zc6 (eq:=zh7) hl
  rw[hsr]
  refine zL0 hl ?_
  refine zaf (τ:=Nat) (fun i=>⟨(al a.length (zaF a)::al b.length (zaF b)::zpe (ai a.length::ai i::zsH [])),[]⟩)
   (fun i=>i≤a.length) (fun i=>zfy zh7 a b i) (fun i=>a.length - i) 0
   (Gh.canon [] [] [] zK rfl rfl) (Nat.zero_le _) ?_
  intro i hi0 hF K hK
  refine zw ?_
  refine zaa (fun hlt=> ?_) (fun hge=> ?_)
  ·have hi:i<a.length:=by simpa using hlt
   have hi2:i<b.length:=by omega
   have hat:=zcI hi
   have hat2:=zcI hi2
   have hw:=zai hi (by omega)
   have hlb:decide ((i:Int)<a.length)=true:=by simp;omega
   have hst:=zbV (eq:=zh7) hi hi2
   cases hq:zh7 a[i] b[i]
   ·rw[hq]at hst
    have he:(a[i] !=b[i])=true:=by unfold zh7 at hq;rw[bne,hq];rfl
    rw[←hF,hst]
    exact zW0 (I hat (I hat2 (I hlb (I he (I @Bool.not_true (I @Bool.not_false (I @Bool.and_self (I @zaD zca))))))))
   ·rw[hq,Bool.true_and]at hst
    have he:(a[i] !=b[i])=false:=by unfold zh7 at hq;rw[bne,hq];rfl
    refine zL0 (I hat (I hat2 (I hlb (I he (I @Bool.not_true (I @Bool.not_false (I @Bool.and_self (I @zaD zca)))))))) ?_
    exact hK _ (i+1) (Gh.canon [] [] [] (zk hw) rfl rfl) hi hst.symm (by omega)
  ·have hi:i=a.length:=by
    have:¬(i:Int)<a.length:=by simpa using hge
    omega
   rw[←hF,zcz hi]
   exact zW0 trivial
 ·rw[zc5 hl]
  exact zW0 hl
set_option maxHeartbeats 1000000 in
theorem zsx (a b:List Grant) (ha:a.length<2^30) (hb:b.length<2^30):CallOK prog 131 [.f (al a.length (zaK a)), .f (al b.length (zaK b))] (fun r o=>r=[rb (sameL zo5 a b)]∧o=[]):=by
 refine zh func131 results131 ntmps131 call131 ?_
 simp only[f131,Option.getD]
 cases hl:((a.length:Int) !=(b.length:Int))
 ·obtain⟨hle,hsr⟩:=zc6 (eq:=zo5) hl
  rw[hsr]
  refine zL0 hl ?_
  refine zaf (τ:=Nat) (fun i=>⟨(al a.length (zaK a)::al b.length (zaK b)::zpe (ai a.length::ai i::zsH [])),[]⟩)
   (fun i=>i≤a.length) (fun i=>zfy zo5 a b i) (fun i=>a.length - i) 0
   (Gh.canon [] [] [] zK rfl rfl) (Nat.zero_le _) ?_
  intro i hi0 hF K hK
  refine zw ?_
  refine zaa (fun hlt=> ?_) (fun hge=> ?_)
  ·have hi:i<a.length:=by simpa using hlt
   have hi2:i<b.length:=by omega
   have hat:=zcD hi
   have hat2:=zcD hi2
   have hw:=zai hi (by omega)
   have hlb:decide ((i:Int)<a.length)=true:=by simp;omega
   have hst:=zbV (eq:=zo5) hi hi2
   cases hq:zo5 a[i] b[i]
   ·rw[hq]at hst
    have he:((a[i].name.toList==b[i].name.toList)&&(a[i].token==b[i].token))=false:=by exact hq
    rw[←hF,hst]
    exact zW0 (I hat (I hat2 (I hlb (I he (I @Bool.not_true (I @Bool.not_false (I @Bool.and_self (I @zas zca))))))))
   ·rw[hq,Bool.true_and]at hst
    have he:((a[i].name.toList==b[i].name.toList)&&(a[i].token==b[i].token))=true:=by exact hq
    refine zL0 (I hat (I hat2 (I hlb (I he (I @Bool.not_true (I @Bool.not_false (I @Bool.and_self (I @zas zca)))))))) ?_
    exact hK _ (i+1) (Gh.canon [] [] [] (zk hw) rfl rfl) hi hst.symm (by omega)
  ·have hi:i=a.length:=by
    have:¬(i:Int)<a.length:=by simpa using hge
    omega
   rw[←hF,zcz hi]
   exact zW0 trivial
 ·rw[zc5 hl]
  exact zW0 hl
set_option maxHeartbeats 1000000 in
theorem zxH (a b:List Sess) (ha:a.length<2^30) (hb:b.length<2^30):CallOK prog 125 [.f (al a.length (za1 a)), .f (al b.length (za1 b))] (fun r o=>r=[rb (sameL znc a b)]∧o=[]):=by
 refine zh func125 results125 ntmps125 call125 ?_
 simp only[f125,Option.getD]
 cases hl:((a.length:Int) !=(b.length:Int))
 ·obtain⟨hle,hsr⟩:=zc6 (eq:=znc) hl
  rw[hsr]
  refine zL0 hl ?_
  refine zaf (τ:=Nat) (fun i=>⟨(al a.length (za1 a)::al b.length (za1 b)::zpe (ai a.length::ai i::zsH [])),[]⟩)
   (fun i=>i≤a.length) (fun i=>zfy znc a b i) (fun i=>a.length - i) 0
   (Gh.canon [] [] [] zK rfl rfl) (Nat.zero_le _) ?_
  intro i hi0 hF K hK
  refine zw ?_
  refine zaa (fun hlt=> ?_) (fun hge=> ?_)
  ·have hi:i<a.length:=by simpa using hlt
   have hi2:i<b.length:=by omega
   have hat:=zco hi
   have hat2:=zco hi2
   have hw:=zai hi (by omega)
   have hlb:decide ((i:Int)<a.length)=true:=by simp;omega
   have hst:=zbV (eq:=znc) hi hi2
   cases hq:znc a[i] b[i]
   ·rw[hq]at hst
    have he:((a[i].client==b[i].client)&&((a[i].num==b[i].num)&&(a[i].renewed==b[i].renewed)))=false:=by exact hq
    rw[←hF,hst]
    exact zW0 (I hat (I hat2 (I hlb (I he (I @Bool.not_true (I @Bool.not_false (I @Bool.and_self (I @zax zca))))))))
   ·rw[hq,Bool.true_and]at hst
    have he:((a[i].client==b[i].client)&&((a[i].num==b[i].num)&&(a[i].renewed==b[i].renewed)))=true:=by exact hq
    refine zL0 (I hat (I hat2 (I hlb (I he (I @Bool.not_true (I @Bool.not_false (I @Bool.and_self (I @zax zca)))))))) ?_
    exact hK _ (i+1) (Gh.canon [] [] [] (zk hw) rfl rfl) hi hst.symm (by omega)
  ·have hi:i=a.length:=by
    have:¬(i:Int)<a.length:=by simpa using hge
    omega
   rw[←hF,zcz hi]
   exact zW0 trivial
 ·rw[zc5 hl]
  exact zW0 hl
theorem zxI (a b:Lk) (ha:a.line.length<2^30) (hb:b.line.length<2^30):CallOK prog 127 [.f (.agg (a.enc.map C.d)), .f (.agg (b.enc.map C.d))] (fun r o=>r=[rb (eqLk a b)]∧o=[]):=by
 refine zh func127 results127 ntmps127 call127 ?_
 simp only[f127,Option.getD]
 have hi:=zxG a.line b.line ha hb
 refine zL trivial (hi) ?_
 rfl
theorem zxJ (a b:Memo) (ha:a.reply.held.length<2^30) (hb:b.reply.held.length<2^30):CallOK prog 130 [.f (.agg (a.enc.map C.d)), .f (.agg (b.enc.map C.d))] (fun r o=>r=[rb (eqMe a b)]∧o=[]):=by
 refine zh func130 results130 ntmps130 call130 ?_
 simp only[f130,Option.getD]
 have hi:=zsx a.reply.held b.reply.held ha hb
 refine zL trivial (hi) ?_
 rfl
abbrev afn (n:Nat):AV:= .one (.d (.v (.func (.func n) #[] #[])))
set_option maxHeartbeats 1000000 in
theorem zvB (a b:List Lk) (ha:a.length<2^30) (hb:b.length<2^30) (hla:∀x∈a,x.line.length<2^30) (hlb2:∀x∈b,x.line.length<2^30):CallOK prog 126 [.f (al a.length (zaj a)), .f (al b.length (zaj b)), .f (afn 127)] (fun r o=>r=[rb (sameL eqLk a b)]∧o=[]):=by
 refine zh func126 results126 ntmps126 call126 ?_
 simp only[f126,Option.getD]
 have hfn:∀(Z:List Nat) (r:Rs) (xs ys:List AV),fgc Z r (afn 127::xs) (afn 127::ys)=fgc Z r xs ys:=fun Z r xs ys=>zjb rfl rfl
 cases hl:((a.length:Int) !=(b.length:Int))
 ·obtain⟨hle,hsr⟩:=zc6 (eq:=eqLk) hl
  rw[hsr]
  refine zL0 hl ?_
  refine zaf (τ:=Nat) (fun i=>⟨(dd::al b.length (zaj b)::afn 127::zsH (al a.length (zaj a)::ai a.length::ai i::zy0 [])),[(8,⟨2,[]⟩),(9,⟨2,[]⟩)]⟩)
   (fun i=>i≤a.length) (fun i=>zfy eqLk a b i) (fun i=>a.length - i) 0
   (Gh.canon [] [8,9] [] (zk hfn) rfl rfl) (Nat.zero_le _) ?_
  intro i hi0 hF K hK
  refine zw ?_
  refine zaa (fun hlt=> ?_) (fun hge=> ?_)
  ·have hi:i<a.length:=by simpa using hlt
   have hi2:i<b.length:=by omega
   have hat:=zbn hi
   have hat2:=zbn hi2
   have hw:=zai hi (by omega)
   have hlb:decide ((i:Int)<a.length)=true:=by simp;omega
   have hst:=zbV (eq:=eqLk) hi hi2
   have hc:=zxI a[i] b[i] (hla _ (List.getElem_mem hi)) (hlb2 _ (List.getElem_mem hi2))
   cases hq:eqLk a[i] b[i]
   ·rw[hq]at hst
    have he:(!eqLk a[i] b[i])=true:=by rw[hq];rfl
    rw[←hF,hst]
    exact zW (I hat (I hat2 (I hlb (I he (I @Bool.not_true (I @Bool.not_false (I @Bool.and_self (I @zah zca)))))))) (hc)
   ·rw[hq,Bool.true_and]at hst
    have he:(!eqLk a[i] b[i])=false:=by rw[hq];rfl
    refine zL (I hat (I hat2 (I hlb (I he (I @Bool.not_true (I @Bool.not_false (I @Bool.and_self (I @zah zca)))))))) (hc) ?_
    exact hK _ (i+1) (Gh.canon [] [] [] (zk (I hw hfn)) rfl rfl) hi hst.symm (by omega)
  ·have hi:i=a.length:=by
    have:¬(i:Int)<a.length:=by simpa using hge
    omega
   rw[←hF,zcz hi]
   exact zW0 trivial
 ·rw[zc5 hl]
  exact zW0 hl
set_option maxHeartbeats 1000000 in
theorem zvC (a b:List Memo) (ha:a.length<2^30) (hb:b.length<2^30) (hla:∀x∈a,x.reply.held.length<2^30) (hlb2:∀x∈b,x.reply.held.length<2^30):CallOK prog 129 [.f (al a.length (zaM a)), .f (al b.length (zaM b)), .f (afn 130)] (fun r o=>r=[rb (sameL eqMe a b)]∧o=[]):=by
 refine zh func129 results129 ntmps129 call129 ?_
 simp only[f129,Option.getD]
 have hfn:∀(Z:List Nat) (r:Rs) (xs ys:List AV),fgc Z r (afn 130::xs) (afn 130::ys)=fgc Z r xs ys:=fun Z r xs ys=>zjb rfl rfl
 cases hl:((a.length:Int) !=(b.length:Int))
 ·obtain⟨hle,hsr⟩:=zc6 (eq:=eqMe) hl
  rw[hsr]
  refine zL0 hl ?_
  refine zaf (τ:=Nat) (fun i=>⟨(dd::al b.length (zaM b)::afn 130::zsH (al a.length (zaM a)::ai a.length::ai i::zy0 [])),[(8,⟨2,[]⟩),(9,⟨2,[]⟩)]⟩)
   (fun i=>i≤a.length) (fun i=>zfy eqMe a b i) (fun i=>a.length - i) 0
   (Gh.canon [] [8,9] [] (zk hfn) rfl rfl) (Nat.zero_le _) ?_
  intro i hi0 hF K hK
  refine zw ?_
  refine zaa (fun hlt=> ?_) (fun hge=> ?_)
  ·have hi:i<a.length:=by simpa using hlt
   have hi2:i<b.length:=by omega
   have hat:=zdI hi
   have hat2:=zdI hi2
   have hw:=zai hi (by omega)
   have hlb:decide ((i:Int)<a.length)=true:=by simp;omega
   have hst:=zbV (eq:=eqMe) hi hi2
   have hc:=zxJ a[i] b[i] (hla _ (List.getElem_mem hi)) (hlb2 _ (List.getElem_mem hi2))
   cases hq:eqMe a[i] b[i]
   ·rw[hq]at hst
    have he:(!eqMe a[i] b[i])=true:=by rw[hq];rfl
    rw[←hF,hst]
    exact zW (I hat (I hat2 (I hlb (I he (I @Bool.not_true (I @Bool.not_false (I @Bool.and_self (I @zaC zca)))))))) (hc)
   ·rw[hq,Bool.true_and]at hst
    have he:(!eqMe a[i] b[i])=false:=by rw[hq];rfl
    refine zL (I hat (I hat2 (I hlb (I he (I @Bool.not_true (I @Bool.not_false (I @Bool.and_self (I @zaC zca)))))))) (hc) ?_
    exact hK _ (i+1) (Gh.canon [] [] [] (zk (I hw hfn)) rfl rfl) hi hst.symm (by omega)
  ·have hi:i=a.length:=by
    have:¬(i:Int)<a.length:=by simpa using hge
    omega
   rw[←hF,zcz hi]
   exact zW0 trivial
 ·rw[zc5 hl]
  exact zW0 hl
theorem zET {p q r s t u:Bool}:((!(!p|| !q|| !r|| !s))&&t&&u)=(p&&q&&r&&s&&t&&u):=by cases p<;>cases q<;>cases r<;>cases s<;>simp
set_option maxHeartbeats 1000000 in
theorem zxK (a b:St) (ha:Small a) (hb:Small b):CallOK prog 81 [.f (.agg a.lent), .f (.agg b.lent)] (fun r o=>r=[rb (zsJ a b)]∧o=[]):=by
 refine zh func81 results81 ntmps81 call81 ?_
 simp only[f81,Option.getD]
 have h1:=zxH a.sess b.sess ha.sess hb.sess
 have h2:=zvB a.locks b.locks ha.locks hb.locks (fun k hk=>(ha.line k hk).1) (fun k hk=>(hb.line k hk).1)
 have h3:=zvC a.memos b.memos ha.memos hb.memos (fun k hk=>(ha.held k hk).1) (fun k hk=>(hb.held k hk).1)
 cases hq:((((a.time !=b.time)||(a.num !=b.num))||(a.token !=b.token))|| !sameL znc a.sess b.sess)
 ·have he:zsJ a b=(sameL eqLk a.locks b.locks&&sameL eqMe a.memos b.memos):=by
   unfold zsJ
   rw[←zET,show(!(!(a.time==b.time)|| !(a.num==b.num)|| !(a.token==b.token)|| !sameL znc a.sess b.sess))=true from by revert hq;simp only[bne];cases(a.time==b.time)<;>cases(a.num==b.num)<;>cases(a.token==b.token)<;>cases sameL znc a.sess b.sess<;>simp]
   simp
  rw[he]
  exact zW hq (I (h1) (I (h2) (h3)))
 ·have he:zsJ a b=false:=by
   unfold zsJ
   rw[←zET,show(!(!(a.time==b.time)|| !(a.num==b.num)|| !(a.token==b.token)|| !sameL znc a.sess b.sess))=false from by revert hq;simp only[bne];cases(a.time==b.time)<;>cases(a.num==b.num)<;>cases(a.token==b.token)<;>cases sameL znc a.sess b.sess<;>simp]
   simp
  rw[he]
  exact zW hq (I (h1) (I (h2) (h3)))
set_option maxHeartbeats 1000000 in
theorem zsy (a b:List Grant) (ha:a.length<2^30) (hb:b.length<2^30):CallOK prog 153 [.f (al a.length (zaK a)), .f (al b.length (zaK b))] (fun r o=>r=[rb (sameL zo5 a b)]∧o=[]):=by
 refine zh func153 results153 ntmps153 call153 ?_
 simp only[f153,Option.getD]
 cases hl:((a.length:Int) !=(b.length:Int))
 ·obtain⟨hle,hsr⟩:=zc6 (eq:=zo5) hl
  rw[hsr]
  refine zL0 hl ?_
  refine zaf (τ:=Nat) (fun i=>⟨(al a.length (zaK a)::al b.length (zaK b)::dq3 (ai i::zs7 [])),[]⟩)
   (fun i=>i≤a.length) (fun i=>zfy zo5 a b i) (fun i=>a.length - i) 0
   (Gh.canon [] [] [] zK rfl rfl) (Nat.zero_le _) ?_
  intro i hi0 hF K hK
  refine zw ?_
  refine zaa (fun hlt=> ?_) (fun hge=> ?_)
  ·have hi:i<a.length:=by simpa using hlt
   have hi2:i<b.length:=by omega
   have hat:=zcD hi
   have hat2:=zcD hi2
   have hw:=zai hi (by omega)
   have hlb:decide ((i:Int)<a.length)=true:=by simp;omega
   have hst:=zbV (eq:=zo5) hi hi2
   cases hq:zo5 a[i] b[i]
   ·rw[hq]at hst
    have he:((a[i].name.toList==b[i].name.toList)&&(a[i].token==b[i].token))=false:=by exact hq
    rw[←hF,hst]
    exact zW0 (I hat (I hat2 (I hlb (I he (I @Bool.not_true (I @Bool.not_false (I @Bool.and_self (I @zas zca))))))))
   ·rw[hq,Bool.true_and]at hst
    have he:((a[i].name.toList==b[i].name.toList)&&(a[i].token==b[i].token))=true:=by exact hq
    refine zL0 (I hat (I hat2 (I hlb (I he (I @Bool.not_true (I @Bool.not_false (I @Bool.and_self (I @zas zca)))))))) ?_
    exact hK _ (i+1) (Gh.canon [] [] [] (zk hw) rfl rfl) hi hst.symm (by omega)
  ·have hi:i=a.length:=by
    have:¬(i:Int)<a.length:=by simpa using hge
    omega
   rw[←hF,zcz hi]
   exact zW0 trivial
 ·rw[zc5 hl]
  exact zW0 hl
theorem zoV (a b:Reply) (ha:a.held.length<2^30) (hb:b.held.length<2^30):CallOK prog 104 [.f (.agg a.lent), .f (.agg b.lent)] (fun r o=>r=[rb (eqRe a b)]∧o=[]):=by
 refine zh func104 results104 ntmps104 call104 ?_
 simp only[f104,Option.getD]
 have hi:=zsy a.held b.held ha hb
 refine zL trivial (hi) ?_
 rfl
set_option maxHeartbeats 1000000 in
theorem zvD (a b:List Sess) (ha:a.length<2^30) (hb:b.length<2^30):CallOK prog 154 [.f (al a.length (za1 a)), .f (al b.length (za1 b))] (fun r o=>r=[rb (sameL znc a b)]∧o=[]):=by
 refine zh func154 results154 ntmps154 call154 ?_
 simp only[f154,Option.getD]
 cases hl:((a.length:Int) !=(b.length:Int))
 ·obtain⟨hle,hsr⟩:=zc6 (eq:=znc) hl
  rw[hsr]
  refine zL0 hl ?_
  refine zaf (τ:=Nat) (fun i=>⟨(al a.length (za1 a)::al b.length (za1 b)::dq3 (ai i::zs7 [])),[]⟩)
   (fun i=>i≤a.length) (fun i=>zfy znc a b i) (fun i=>a.length - i) 0
   (Gh.canon [] [] [] zK rfl rfl) (Nat.zero_le _) ?_
  intro i hi0 hF K hK
  refine zw ?_
  refine zaa (fun hlt=> ?_) (fun hge=> ?_)
  ·have hi:i<a.length:=by simpa using hlt
   have hi2:i<b.length:=by omega
   have hat:=zco hi
   have hat2:=zco hi2
   have hw:=zai hi (by omega)
   have hlb:decide ((i:Int)<a.length)=true:=by simp;omega
   have hst:=zbV (eq:=znc) hi hi2
   cases hq:znc a[i] b[i]
   ·rw[hq]at hst
    have he:((a[i].client==b[i].client)&&((a[i].num==b[i].num)&&(a[i].renewed==b[i].renewed)))=false:=by exact hq
    rw[←hF,hst]
    exact zW0 (I hat (I hat2 (I hlb (I he (I @Bool.not_true (I @Bool.not_false (I @Bool.and_self (I @zax zca))))))))
   ·rw[hq,Bool.true_and]at hst
    have he:((a[i].client==b[i].client)&&((a[i].num==b[i].num)&&(a[i].renewed==b[i].renewed)))=true:=by exact hq
    refine zL0 (I hat (I hat2 (I hlb (I he (I @Bool.not_true (I @Bool.not_false (I @Bool.and_self (I @zax zca)))))))) ?_
    exact hK _ (i+1) (Gh.canon [] [] [] (zk hw) rfl rfl) hi hst.symm (by omega)
  ·have hi:i=a.length:=by
    have:¬(i:Int)<a.length:=by simpa using hge
    omega
   rw[←hF,zcz hi]
   exact zW0 trivial
 ·rw[zc5 hl]
  exact zW0 hl
set_option maxHeartbeats 1000000 in
theorem zsz (a b:List Lk) (ha:a.length<2^30) (hb:b.length<2^30) (hla:∀x∈a,x.line.length<2^30) (hlb2:∀x∈b,x.line.length<2^30):CallOK prog 155 [.f (al a.length (zaj a)), .f (al b.length (zaj b))] (fun r o=>r=[rb (sameL eqLk a b)]∧o=[]):=by
 refine zh func155 results155 ntmps155 call155 ?_
 simp only[f155,Option.getD]
 cases hl:((a.length:Int) !=(b.length:Int))
 ·obtain⟨hle,hsr⟩:=zc6 (eq:=eqLk) hl
  rw[hsr]
  refine zL0 hl ?_
  refine zaf (τ:=Nat) (fun i=>⟨(al a.length (zaj a)::al b.length (zaj b)::dq3 (ai i::zy2 (zec []))),[]⟩)
   (fun i=>i≤a.length) (fun i=>zfy eqLk a b i) (fun i=>a.length - i) 0
   (Gh.canon [] [] [] zK rfl rfl) (Nat.zero_le _) ?_
  intro i hi0 hF K hK
  refine zw ?_
  refine zaa (fun hlt=> ?_) (fun hge=> ?_)
  ·have hi:i<a.length:=by simpa using hlt
   have hi2:i<b.length:=by omega
   have hat:=zbn hi
   have hat2:=zbn hi2
   have hw:=zai hi (by omega)
   have hlb:decide ((i:Int)<a.length)=true:=by simp;omega
   have hst:=zbV (eq:=eqLk) hi hi2
   have hd1:(zaj a).drop (i*4+1)=iD a[i].holder::iD a[i].token:: .sl a[i].line.length (zaF a[i].line)::zaj (a.drop (i+1)):=by rw[←List.drop_drop,hat];rfl
   have hd2:(zaj b).drop (i*4+1)=iD b[i].holder::iD b[i].token:: .sl b[i].line.length (zaF b[i].line)::zaj (b.drop (i+1)):=by rw[←List.drop_drop,hat2];rfl
   have hsi:=zpE a[i].line b[i].line (by have:=hla _ (List.getElem_mem hi);omega) (by have:=hlb2 _ (List.getElem_mem hi2);omega)
   cases hq:eqLk a[i] b[i]
   ·rw[hq]at hst
    have he:((((!(a[i].name.toList==b[i].name.toList))||(a[i].holder !=b[i].holder))||(a[i].token !=b[i].token))|| !sameI a[i].line b[i].line)=true:=by unfold eqLk at hq;rw[zvA];revert hq;cases sameL zh7 a[i].line b[i].line<;>cases h1:(a[i].name.toList==b[i].name.toList)<;>cases h2:(a[i].holder==b[i].holder)<;>cases h3:(a[i].token==b[i].token)<;>simp[bne,h1,h2,h3]
    rw[←hF,hst]
    exact zW (I hat (I hat2 (I hlb (I he (I @Bool.not_true (I @Bool.not_false (I @Bool.and_self (I hd1 (I hd2 (I @zah zca)))))))))) (hsi)
   ·rw[hq,Bool.true_and]at hst
    have he:((((!(a[i].name.toList==b[i].name.toList))||(a[i].holder !=b[i].holder))||(a[i].token !=b[i].token))|| !sameI a[i].line b[i].line)=false:=by unfold eqLk at hq;rw[zvA];revert hq;cases sameL zh7 a[i].line b[i].line<;>cases h1:(a[i].name.toList==b[i].name.toList)<;>cases h2:(a[i].holder==b[i].holder)<;>cases h3:(a[i].token==b[i].token)<;>simp[bne,h1,h2,h3]
    refine zL (I hat (I hat2 (I hlb (I he (I @Bool.not_true (I @Bool.not_false (I @Bool.and_self (I hd1 (I hd2 (I @zah zca)))))))))) (hsi) ?_
    exact hK _ (i+1) (Gh.canon [] [] [] (zk hw) rfl rfl) hi hst.symm (by omega)
  ·have hi:i=a.length:=by
    have:¬(i:Int)<a.length:=by simpa using hge
    omega
   rw[←hF,zcz hi]
   exact zW0 trivial
 ·rw[zc5 hl]
  exact zW0 hl
set_option maxHeartbeats 1000000 in
theorem zsA (a b:List Memo) (ha:a.length<2^30) (hb:b.length<2^30) (hla:∀x∈a,x.reply.held.length<2^30) (hlb2:∀x∈b,x.reply.held.length<2^30):CallOK prog 156 [.f (al a.length (zaM a)), .f (al b.length (zaM b))] (fun r o=>r=[rb (sameL eqMe a b)]∧o=[]):=by
 refine zh func156 results156 ntmps156 call156 ?_
 simp only[f156,Option.getD]
 cases hl:((a.length:Int) !=(b.length:Int))
 ·obtain⟨hle,hsr⟩:=zc6 (eq:=eqMe) hl
  rw[hsr]
  refine zL0 hl ?_
  refine zaf (τ:=Nat) (fun i=>⟨(al a.length (zaM a)::al b.length (zaM b)::dq3 (ai i::dq9 (zec []))),[]⟩)
   (fun i=>i≤a.length) (fun i=>zfy eqMe a b i) (fun i=>a.length - i) 0
   (Gh.canon [] [] [] zK rfl rfl) (Nat.zero_le _) ?_
  intro i hi0 hF K hK
  refine zw ?_
  refine zaa (fun hlt=> ?_) (fun hge=> ?_)
  ·have hi:i<a.length:=by simpa using hlt
   have hi2:i<b.length:=by omega
   have hat:=zdI hi
   have hat2:=zdI hi2
   have hw:=zai hi (by omega)
   have hlb:decide ((i:Int)<a.length)=true:=by simp;omega
   have hst:=zbV (eq:=eqMe) hi hi2
   have hd1:(zaM a).drop (i*6+1)=iD a[i].seq::(a[i].reply.enc++zaM (a.drop (i+1))):=by rw[←List.drop_drop,hat];rfl
   have hd2:(zaM b).drop (i*6+1)=iD b[i].seq::(b[i].reply.enc++zaM (b.drop (i+1))):=by rw[←List.drop_drop,hat2];rfl
   have hsr:=zoV a[i].reply b[i].reply (hla _ (List.getElem_mem hi)) (hlb2 _ (List.getElem_mem hi2))
   have hme:eqMe a[i] b[i]=((a[i].client==b[i].client)&&(a[i].seq==b[i].seq)&&eqRe a[i].reply b[i].reply):=by unfold eqMe eqRe;simp only[Bool.and_assoc]
   cases hq:eqMe a[i] b[i]
   ·rw[hq]at hst
    have he:(((a[i].client !=b[i].client)||(a[i].seq !=b[i].seq))|| !eqRe a[i].reply b[i].reply)=true:=by rw[hme]at hq;revert hq;cases eqRe a[i].reply b[i].reply<;>cases h1:(a[i].client==b[i].client)<;>cases h2:(a[i].seq==b[i].seq)<;>simp[bne,h1,h2]
    rw[←hF,hst]
    exact zW (I hat (I hat2 (I hlb (I he (I @Bool.not_true (I @Bool.not_false (I @Bool.and_self (I hd1 (I hd2 (I @zaC zca)))))))))) (hsr)
   ·rw[hq,Bool.true_and]at hst
    have he:(((a[i].client !=b[i].client)||(a[i].seq !=b[i].seq))|| !eqRe a[i].reply b[i].reply)=false:=by rw[hme]at hq;revert hq;cases eqRe a[i].reply b[i].reply<;>cases h1:(a[i].client==b[i].client)<;>cases h2:(a[i].seq==b[i].seq)<;>simp[bne,h1,h2]
    refine zL (I hat (I hat2 (I hlb (I he (I @Bool.not_true (I @Bool.not_false (I @Bool.and_self (I hd1 (I hd2 (I @zaC zca)))))))))) (hsr) ?_
    exact hK _ (i+1) (Gh.canon [] [] [] (zk hw) rfl rfl) hi hst.symm (by omega)
  ·have hi:i=a.length:=by
    have:¬(i:Int)<a.length:=by simpa using hge
    omega
   rw[←hF,zcz hi]
   exact zW0 trivial
 ·rw[zc5 hl]
  exact zW0 hl
theorem zxL (a b:St) (ha:Small a) (hb:Small b):CallOK prog 107 [.f (.agg a.lent), .f (.agg b.lent)] (fun r o=>r=[rb (zsJ a b)]∧o=[]):=by
 refine zh func107 results107 ntmps107 call107 ?_
 simp only[f107,Option.getD]
 have h1:=zvD a.sess b.sess ha.sess hb.sess
 have h2:=zsz a.locks b.locks ha.locks hb.locks (fun k hk=>(ha.line k hk).1) (fun k hk=>(hb.line k hk).1)
 have h3:=zsA a.memos b.memos ha.memos hb.memos (fun k hk=>(ha.held k hk).1) (fun k hk=>(hb.held k hk).1)
 refine zL trivial (I (h1) (I (h2) (h3))) ?_
 rfl
theorem zvz (acts:List Act) (hl:acts.length<2^60) (ha:∀a∈acts,zpF a) (d v s:Int) (hd:zav d) (hv:zav v) (hs:zav s):
  CallOK prog 62 [.f (al acts.length (zkh acts)), .f (au d), .f (au v), .f (au s)] (fun r o=>r=[zCi ⟨d,v,s,zkZ acts⟩]∧o=[]):=by
 refine zh func62 results62 ntmps62 call62 ?_
 simp only[f62,Option.getD]
 have hm:=zzU acts hl ha
 have w1:=zdq hd
 have w2:=zdq hv
 have w3:=zdq hs
 refine zL (I w1 (I w2 w3)) (hm) ?_
 rfl
def zAD (a b:Sn):Bool:=(a.done==b.done)&&((a.view==b.view)&&(a.slot==b.slot))&&zsJ a.st b.st
theorem zpX (a b:Sn) (ha:Small a.st) (hb:Small b.st):CallOK prog 56 [.f (.agg a.lent), .f (.agg b.lent)] (fun r o=>r=[rb (zAD a b)]∧o=[]):=by
 refine zh func56 results56 ntmps56 call56 ?_
 simp only[f56,Option.getD]
 have hs:=zxL a.st b.st ha hb
 refine zL trivial (hs) ?_
 rfl
theorem zeE {α:Type} {eq:α→α→Bool} (h:∀a,eq a a=true) (l:List α):sameL eq l l=true:=by
 unfold sameL
 simp only[beq_self_eq_true,Bool.true_and,List.all_eq_true]
 intro p hp
 obtain⟨j,h1,h2⟩:=List.getElem_of_mem hp
 rw[←h2,List.getElem_zip]
 exact h _
theorem zsw (l:List Int):sameL zh7 l l=true:=zeE (fun x=>by simp[zh7]) l
theorem zoU (l:List Grant):sameL zo5 l l=true:=zeE (fun x=>by simp[zo5]) l
theorem zxE (s:St):zsJ s s=true:=by
 unfold zsJ
 rw[zeE (fun a=>by simp[znc]),zeE (fun a=>by simp[eqLk,zsw]),zeE (fun a=>by simp[eqMe,zoU])]
 simp
theorem zxF (s:Sn):zAD s s=true:=by simp[zAD,zxE]
abbrev Z27:List Int:=List.replicate 27 0
def znb (a b:Req):Bool:=(a.client==b.client)&&((a.seq==b.seq)&&((a.kind==b.kind)&&((a.session==b.session)&&(a.name.toList==b.name.toList))))
def eqBa (a b:Batch):Bool:=(a.fill==b.fill)&&(a.view==b.view)&&((a.tip.view==b.tip.view)&&(a.tip.slot==b.tip.slot))&&(a.time==b.time)&&sameL znb a.reqs b.reqs
def zvw (a b:Vote):Bool:=(a.slot==b.slot)&&(a.ballot==b.ballot)&&eqBa a.batch b.batch
def zAC (a b:Prom):Bool:=(a.src==b.src)&&(a.done==b.done)&&((a.tip.view==b.tip.view)&&(a.tip.slot==b.tip.slot))&&(a.time==b.time)&&sameL zvw a.votes b.votes
set_option maxHeartbeats 1000000 in
theorem zxB (a b:List Req) (ha:a.length<2^30) (hb:b.length<2^30):CallOK prog 124 [.f (al a.length (zbW a)), .f (al b.length (zbW b))] (fun r o=>r=[rb (sameL znb a b)]∧o=[]):=by
 refine zh func124 results124 ntmps124 call124 ?_
 simp only[f124,Option.getD]
 cases hl:((a.length:Int) !=(b.length:Int))
 ·obtain⟨hle,hsr⟩:=zc6 (eq:=znb) hl
  rw[hsr]
  refine zL0 hl ?_
  refine zaf (τ:=Nat) (fun i=>⟨(al a.length (zbW a)::al b.length (zbW b)::zpe (ai a.length::ai i::zsH [])),[]⟩)
   (fun i=>i≤a.length) (fun i=>zfy znb a b i) (fun i=>a.length - i) 0
   (Gh.canon [] [] [] zK rfl rfl) (Nat.zero_le _) ?_
  intro i hi0 hF K hK
  refine zw ?_
  refine zaa (fun hlt=> ?_) (fun hge=> ?_)
  ·have hi:i<a.length:=by simpa using hlt
   have hi2:i<b.length:=by omega
   have hat:=zfL hi
   have hat2:=zfL hi2
   have hw:=zai hi (by omega)
   have hlb:decide ((i:Int)<a.length)=true:=by simp;omega
   have hst:=zbV (eq:=znb) hi hi2
   cases hq:znb a[i] b[i]
   ·rw[hq]at hst
    have he:((a[i].client==b[i].client)&&((a[i].seq==b[i].seq)&&((a[i].kind==b[i].kind)&&((a[i].session==b[i].session)&&(a[i].name.toList==b[i].name.toList)))))=false:=by exact hq
    rw[←hF,hst]
    exact zW0 (I hat (I hat2 (I hlb (I he (I @Bool.not_true (I @Bool.not_false (I @Bool.and_self (I @zaP zca))))))))
   ·rw[hq,Bool.true_and]at hst
    have he:((a[i].client==b[i].client)&&((a[i].seq==b[i].seq)&&((a[i].kind==b[i].kind)&&((a[i].session==b[i].session)&&(a[i].name.toList==b[i].name.toList)))))=true:=by exact hq
    refine zL0 (I hat (I hat2 (I hlb (I he (I @Bool.not_true (I @Bool.not_false (I @Bool.and_self (I @zaP zca)))))))) ?_
    exact hK _ (i+1) (Gh.canon [] [] [] (zk hw) rfl rfl) hi hst.symm (by omega)
  ·have hi:i=a.length:=by
    have:¬(i:Int)<a.length:=by simpa using hge
    omega
   rw[←hF,zcz hi]
   exact zW0 trivial
 ·rw[zc5 hl]
  exact zW0 hl
set_option maxHeartbeats 1000000 in
theorem zxC (a b:List Req) (ha:a.length<2^30) (hb:b.length<2^30):CallOK prog 105 [.f (al a.length (zbW a)), .f (al b.length (zbW b))] (fun r o=>r=[rb (sameL znb a b)]∧o=[]):=by
 refine zh func105 results105 ntmps105 call105 ?_
 simp only[f105,Option.getD]
 cases hl:((a.length:Int) !=(b.length:Int))
 ·obtain⟨hle,hsr⟩:=zc6 (eq:=znb) hl
  rw[hsr]
  refine zL0 hl ?_
  refine zaf (τ:=Nat) (fun i=>⟨(al a.length (zbW a)::al b.length (zbW b)::dq3 (ai i::zs7 [])),[]⟩)
   (fun i=>i≤a.length) (fun i=>zfy znb a b i) (fun i=>a.length - i) 0
   (Gh.canon [] [] [] zK rfl rfl) (Nat.zero_le _) ?_
  intro i hi0 hF K hK
  refine zw ?_
  refine zaa (fun hlt=> ?_) (fun hge=> ?_)
  ·have hi:i<a.length:=by simpa using hlt
   have hi2:i<b.length:=by omega
   have hat:=zfL hi
   have hat2:=zfL hi2
   have hw:=zai hi (by omega)
   have hlb:decide ((i:Int)<a.length)=true:=by simp;omega
   have hst:=zbV (eq:=znb) hi hi2
   cases hq:znb a[i] b[i]
   ·rw[hq]at hst
    have he:((a[i].client==b[i].client)&&((a[i].seq==b[i].seq)&&((a[i].kind==b[i].kind)&&((a[i].session==b[i].session)&&(a[i].name.toList==b[i].name.toList)))))=false:=by exact hq
    rw[←hF,hst]
    exact zW0 (I hat (I hat2 (I hlb (I he (I @Bool.not_true (I @Bool.not_false (I @Bool.and_self (I @zaP zca))))))))
   ·rw[hq,Bool.true_and]at hst
    have he:((a[i].client==b[i].client)&&((a[i].seq==b[i].seq)&&((a[i].kind==b[i].kind)&&((a[i].session==b[i].session)&&(a[i].name.toList==b[i].name.toList)))))=true:=by exact hq
    refine zL0 (I hat (I hat2 (I hlb (I he (I @Bool.not_true (I @Bool.not_false (I @Bool.and_self (I @zaP zca)))))))) ?_
    exact hK _ (i+1) (Gh.canon [] [] [] (zk hw) rfl rfl) hi hst.symm (by omega)
  ·have hi:i=a.length:=by
    have:¬(i:Int)<a.length:=by simpa using hge
    omega
   rw[←hF,zcz hi]
   exact zW0 trivial
 ·rw[zc5 hl]
  exact zW0 hl
theorem zvx (a b:Batch) (ha:a.reqs.length<2^30) (hb:b.reqs.length<2^30):CallOK prog 80 [.f (.agg a.lent), .f (.agg b.lent)] (fun r o=>r=[rb (eqBa a b)]∧o=[]):=by
 refine zh func80 results80 ntmps80 call80 ?_
 simp only[f80,Option.getD]
 have hi:=zxB a.reqs b.reqs ha hb
 refine zL trivial (hi) ?_
 rfl
theorem zoT (a b:Batch) (ha:a.reqs.length<2^30) (hb:b.reqs.length<2^30):CallOK prog 54 [.f (.agg a.lent), .f (.agg b.lent)] (fun r o=>r=[rb (eqBa a b)]∧o=[]):=by
 refine zh func54 results54 ntmps54 call54 ?_
 simp only[f54,Option.getD]
 have hi:=zxC a.reqs b.reqs ha hb
 refine zL trivial (hi) ?_
 rfl
set_option maxHeartbeats 1000000 in
theorem zvy (a b:List Vote) (ha:a.length<2^30) (hb:b.length<2^30) (hla:∀x∈a,x.batch.reqs.length<2^30) (hlb2:∀x∈b,x.batch.reqs.length<2^30):CallOK prog 106 [.f (al a.length (zbv a)), .f (al b.length (zbv b))] (fun r o=>r=[rb (sameL zvw a b)]∧o=[]):=by
 refine zh func106 results106 ntmps106 call106 ?_
 simp only[f106,Option.getD]
 cases hl:((a.length:Int) !=(b.length:Int))
 ·obtain⟨hle,hsr⟩:=zc6 (eq:=zvw) hl
  rw[hsr]
  refine zL0 hl ?_
  refine zaf (τ:=Nat) (fun i=>⟨(al a.length (zbv a)::al b.length (zbv b)::dq3 (ai i::dq9 (zec []))),[]⟩)
   (fun i=>i≤a.length) (fun i=>zfy zvw a b i) (fun i=>a.length - i) 0
   (Gh.canon [] [] [] zK rfl rfl) (Nat.zero_le _) ?_
  intro i hi0 hF K hK
  refine zw ?_
  refine zaa (fun hlt=> ?_) (fun hge=> ?_)
  ·have hi:i<a.length:=by simpa using hlt
   have hi2:i<b.length:=by omega
   have hat:=zjc hi
   have hat2:=zjc hi2
   have hw:=zai hi (by omega)
   have hlb:decide ((i:Int)<a.length)=true:=by simp;omega
   have hst:=zbV (eq:=zvw) hi hi2
   have hd1:(zbv a).drop (i*8+1)=iD a[i].ballot::(a[i].batch.enc++zbv (a.drop (i+1))):=by rw[←List.drop_drop,hat];rfl
   have hd2:(zbv b).drop (i*8+1)=iD b[i].ballot::(b[i].batch.enc++zbv (b.drop (i+1))):=by rw[←List.drop_drop,hat2];rfl
   have hd3:(zbv a).drop (i*8+2)=a[i].batch.enc++zbv (a.drop (i+1)):=by rw[←List.drop_drop,hat];rfl
   have hd4:(zbv b).drop (i*8+2)=b[i].batch.enc++zbv (b.drop (i+1)):=by rw[←List.drop_drop,hat2];rfl
   have hsr:=zoT a[i].batch b[i].batch (hla _ (List.getElem_mem hi)) (hlb2 _ (List.getElem_mem hi2))
   have hme:zvw a[i] b[i]=((a[i].slot==b[i].slot)&&(a[i].ballot==b[i].ballot)&&eqBa a[i].batch b[i].batch):=rfl
   cases hq:zvw a[i] b[i]
   ·rw[hq]at hst
    have he:(((a[i].slot !=b[i].slot)||(a[i].ballot !=b[i].ballot))|| !eqBa a[i].batch b[i].batch)=true:=by rw[hme]at hq;revert hq;cases eqBa a[i].batch b[i].batch<;>cases h1:(a[i].slot==b[i].slot)<;>cases h2:(a[i].ballot==b[i].ballot)<;>simp[bne,h1,h2]
    rw[←hF,hst]
    exact zW (I hat (I hat2 (I hlb (I he (I @Bool.not_true (I @Bool.not_false (I @Bool.and_self (I hd1 (I hd2 (I hd3 (I hd4 (I @zaO zca)))))))))))) (hsr)
   ·rw[hq,Bool.true_and]at hst
    have he:(((a[i].slot !=b[i].slot)||(a[i].ballot !=b[i].ballot))|| !eqBa a[i].batch b[i].batch)=false:=by rw[hme]at hq;revert hq;cases eqBa a[i].batch b[i].batch<;>cases h1:(a[i].slot==b[i].slot)<;>cases h2:(a[i].ballot==b[i].ballot)<;>simp[bne,h1,h2]
    refine zL (I hat (I hat2 (I hlb (I he (I @Bool.not_true (I @Bool.not_false (I @Bool.and_self (I hd1 (I hd2 (I hd3 (I hd4 (I @zaO zca)))))))))))) (hsr) ?_
    exact hK _ (i+1) (Gh.canon [] [] [] (zk hw) rfl rfl) hi hst.symm (by omega)
  ·have hi:i=a.length:=by
    have:¬(i:Int)<a.length:=by simpa using hge
    omega
   rw[←hF,zcz hi]
   exact zW0 trivial
 ·rw[zc5 hl]
  exact zW0 hl
theorem zxD (a b:Prom) (ha:a.votes.length<2^30) (hb:b.votes.length<2^30) (hla:∀x∈a.votes,x.batch.reqs.length<2^30) (hlb2:∀x∈b.votes,x.batch.reqs.length<2^30):CallOK prog 55 [.f (.agg a.lent), .f (.agg b.lent)] (fun r o=>r=[rb (zAC a b)]∧o=[]):=by
 refine zh func55 results55 ntmps55 call55 ?_
 simp only[f55,Option.getD]
 have hi:=zvy a.votes b.votes ha hb hla hlb2
 refine zL trivial (hi) ?_
 rfl
theorem zAf (a b:Memo):((a.client==b.client)&&(a.seq==b.seq)&&eqRe a.reply b.reply)=eqMe a b:=by unfold eqMe eqRe;simp only[Bool.and_assoc]
theorem zsv (a b:Memo) (ha:a.reply.held.length<2^30) (hb:b.reply.held.length<2^30):CallOK prog 53 [.f (.agg a.lent), .f (.agg b.lent)] (fun r o=>r=[rb (eqMe a b)]∧o=[]):=by
 refine zh func53 results53 ntmps53 call53 ?_
 simp only[f53,Option.getD]
 have h:=zoV a.reply b.reply ha hb
 refine zL trivial (h) ?_
 rw[←zAf]
structure Pkt where
 kind:Int
 ballot:Int
 slot:Int
 done:Int
 req:Req
 ans:Memo
 bat:Batch
 prom:Prom
 snap:Sn
abbrev snE (s:Sn):List D:=iD s.done::iD s.view::iD s.slot::stE s.st
abbrev Pkt.enc (p:Pkt):List D:=iD p.kind::iD p.ballot::iD p.slot::iD p.done::(p.req.enc++(p.ans.enc++(p.bat.enc++(p.prom.enc++snE p.snap))))
abbrev Pkt.lent (p:Pkt):List C:=di p.kind::di p.ballot::di p.slot::di p.done::(p.req.enc.map C.d++(p.ans.lent++(p.bat.lent++(p.prom.lent++p.snap.lent))))
structure Pkt.ok (p:Pkt):Prop where
 k:i64 p.kind
 b:i64 p.ballot
 s:i64 p.slot
 d:i64 p.done
 req:p.req.ok
 ans:zcu p.ans.reply
 bat:p.bat.ok
 bl:p.bat.reqs.length<2^30
 prom:p.prom.ok
 pl:p.prom.votes.length<2^30
 vl:∀x∈p.prom.votes,x.batch.reqs.length<2^30
 snap:Small p.snap.st
def zyN (a b:Pkt):Bool:=(a.kind==b.kind)&&(a.ballot==b.ballot)&&(a.slot==b.slot)&&(a.done==b.done)&&znb a.req b.req&&eqMe a.ans b.ans&&eqBa a.bat b.bat&&zAC a.prom b.prom&&zAD a.snap b.snap
theorem zpW (a b:Pkt) (ha:a.ok) (hb:b.ok):CallOK prog 17 [.f (.agg a.lent), .f (.agg b.lent)] (fun r o=>r=[rb (zyN a b)]∧o=[]):=by
 refine zh func17 results17 ntmps17 call17 ?_
 simp only[f17,Option.getD]
 have h1:=zsv a.ans b.ans (by have:=ha.ans.1;omega) (by have:=hb.ans.1;omega)
 have h2:=zoT a.bat b.bat ha.bl hb.bl
 have h3:=zxD a.prom b.prom ha.pl hb.pl ha.vl hb.vl
 have h4:=zpX a.snap b.snap ha.snap hb.snap
 refine zL trivial (I (h1) (I (h2) (I (h3) (h4)))) ?_
 rfl
end Go.Proofs.YtliimajkpggbhaaGreat
