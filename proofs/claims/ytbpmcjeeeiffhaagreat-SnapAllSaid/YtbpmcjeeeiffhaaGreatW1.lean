import Derived.Test.YtbpmcjeeeiffhaaGreatM6
namespace Go.Proofs.YtbpmcjeeeiffhaaGreat
open Go.Pk
set_option maxRecDepth 100000
set_option linter.unusedSimpArgs false
set_option linter.unusedVariables false
def szG (k:Nat):Nat:=if k=4 then 9 else 1
def nwG (x:Value) (k:Nat):List Value:=if k=4 then [.int .i64 0, .int .i64 0, .int .i64 0, .int .i64 0, .int .i64 0, .int .i64 0,zd2,zd2,zd2]else if k=5 then [.int .i64 0]else [codeOf x]
theorem zt9 {ls:List (List Value)} (h:ls.length=[4,5,6].length) (hs:∀(i k:Nat) (l:List Value),[4,5,6][i]? =some k→ls[i]? =some l→l.length=szG k):∃a b c d e f j k l g i,ls=[[a,b,c,d,e,f,j,k,l],[g],[i]]:=by
 match ls,h with
 |[x,y,z],_=>
  obtain⟨a,b,c,d,e,f,j,k,l,rfl⟩:=zxl (hs 0 4 x rfl rfl)
  obtain⟨g,rfl⟩:=zsZ (hs 1 5 y rfl rfl)
  obtain⟨i,rfl⟩:=zsZ (hs 2 6 z rfl rfl)
  exact⟨a,b,c,d,e,f,j,k,l,g,i,rfl⟩
theorem zlN:zhx Tryz.prog 41 [4,5,6] szG nwG (zh1 83):=by
 refine zeb zam mixed (T:=Ty) Tryz.func41 rfl rfl Tryz.ntmps41 rfl rfl rfl rfl rfl rfl rfl (by decide) (by decide) (by decide) ?_
 rintro x ⟨n,rfl⟩ ls hl hs
 obtain⟨a,b,c,d,e,f,j,k,l,g,i,rfl⟩:=zt9 hl hs
 refine⟨.tuple #[.agg #[.int .i64 n], .bool true], .tup [.agg [di n],ab true], ?_, ?_,rfl, ?_⟩
 ·intro w
  simp[Instr.typeAssert,Tryz.underlying83]
 ·intro cx w r β
  simp[ReA,ReAs,ReC,ReCs,Rd,flat]
 ·simp only[za5,plainO,List.map_cons,List.map_nil]
  first|refine zs0 ?_|exact zt0
  repeat'(first|refine zq0 ?_|exact zd0|(refine zaa ?_ ?_<;>intro hb)|(refine And.intro ?_ ?_;exact zI)|(refine And.intro ?_ ?_<;>intro hg)|exact zC|fail)
  rfl
theorem zny:zlz Tryz.prog 41 3:=by
 refine zc6 zam mixed (T:=Ty) Tryz.func41 rfl rfl Tryz.ntmps41 rfl rfl rfl rfl rfl rfl rfl (by decide) (y7:= .tuple #[.agg #[.int .i64 0], .bool false]) (V7:= .tup [.agg [di 0],ab false]) ?_ ?_ (by decide) rfl ?_
 ·intro w
  simp[Instr.typeAssert,Tryz.underlying83,zh2 zmN w]
 ·intro cx w r β
  simp[ReA,ReAs,ReC,ReCs,Rd,flat]
 ·simp only[List.replicate]
  first|refine zs0 ?_|exact zt0
  repeat'(first|refine zq0 ?_|exact zd0|(refine zaa ?_ ?_<;>intro hb)|(refine And.intro ?_ ?_;exact zI)|(refine And.intro ?_ ?_<;>intro hg)|exact zC|fail)
def zjO (bs:List Int) (p:Int):Rr Sn:=match zdt bs p with
 | .error e=> .error e
 | .ok d=>match zdt bs d.2 with
  | .error e=> .error e
  | .ok v=>match zdt bs v.2 with
   | .error e=> .error e
   | .ok l=>match zcB bs l.2 with
    | .error e=> .error e
    | .ok s=>if zaZ ⟨d.1,v.1,l.1,s.1⟩=true then .ok (⟨d.1,v.1,l.1,s.1⟩,s.2)else .error 4
abbrev sn0:Sn:=⟨0,0,0,st0⟩
def dSn (bs:List Int) (p:Int):Sn×Int×Int:=match zjO bs p with
 | .ok y=>(y.1,y.2,0)
 | .error e=>(sn0,0,e)
theorem zcO {bs:List Int} {p:Int} {y:St×Int} (hy:zcB bs p= .ok y):zbn y.1=true:=by
 unfold zcB at hy
 cases e1:zdt bs p with
 |error x=>rw[e1]at hy;cases hy
 |ok t=>
 rw[e1]at hy;simp only at hy
 cases e2:zdt bs t.2 with
 |error x=>rw[e2]at hy;cases hy
 |ok u=>
 rw[e2]at hy;simp only at hy
 cases e3:zdt bs u.2 with
 |error x=>rw[e3]at hy;cases hy
 |ok k=>
 rw[e3]at hy;simp only at hy
 cases e4:zbF bs k.2 5 with
 |error x=>rw[e4]at hy;cases hy
 |ok n=>
 rw[e4]at hy;simp only at hy
 cases e5:zbO (zgP bs) n.1.toNat n.2 []with
 |error x=>rw[e5]at hy;cases hy
 |ok ss=>
 rw[e5]at hy;simp only at hy
 cases e6:zbF bs ss.2 4 with
 |error x=>rw[e6]at hy;cases hy
 |ok n2=>
 rw[e6]at hy;simp only at hy
 cases e7:zbO (zey bs) n2.1.toNat n2.2 []with
 |error x=>rw[e7]at hy;cases hy
 |ok ls=>
 rw[e7]at hy;simp only at hy
 cases e8:zbF bs ls.2 8 with
 |error x=>rw[e8]at hy;cases hy
 |ok n3=>
 rw[e8]at hy;simp only at hy
 cases e9:zbO (zf0 bs) n3.1.toNat n3.2 []with
 |error x=>rw[e9]at hy;cases hy
 |ok ms=>
 rw[e9]at hy;simp only at hy
 split at hy
 ·rename_i hr;cases hy;exact hr
 ·cases hy
theorem zhP (e:Int):zlk 37 [4,5,6] (nwG (zeB 83 e))=⟨[dd,dd,dd,dd, .one (.ptr ⟨4,0,0⟩ 0), .one (.ptr ⟨5,0,0⟩ 0), .one (.ptr ⟨6,0,0⟩ 0),dd,dd,dd,dd,dd,dd,dd,dd,dd,dd,dd,dd,dd,dd,dd,dd,dd,dd,dd,dd,dd,dd,dd,dd,dd,dd,dd,dd,dd,dd],[(4,{next:=1,l:=[some {e:=0,var:=true,fz:=false,sz:=0,cells:=[di 0,di 0,di 0,di 0,di 0,di 0, .d (.v zd2), .d (.v zd2), .d (.v zd2)]}]}),(5,{next:=1,l:=[some {e:=0,var:=true,fz:=false,sz:=0,cells:=[di 0]}]}),(6,{next:=1,l:=[some {e:=0,var:=true,fz:=false,sz:=0,cells:=[di e]}]})]⟩:=rfl
set_option maxHeartbeats 2000000 in
theorem zie (bs:List Int) (p:Int) (h:BsOk bs) (hp:i64 p):
  CallOK Tryz.prog 19 [.f (asl bs.length (zab bs)), .f (ai p)] (fun r o=>r=[zw1 (dSn bs p).1,ri (dSn bs p).2.1,ri (dSn bs p).2.2]∧o=[]):=by
 refine CallOK.nil ?_
 refine zbg zam mixed (T:=Ty) Tryz.func19 rfl Tryz.results19 Tryz.ntmps19 Tryz.call19 Tryz.call41 (ks:=[4,5,6]) rfl rfl rfl rfl rfl rfl (by decide) (by decide)
  (xs:=[asl bs.length (zab bs),ai p]) (sz:=szG) (nw:=nwG) zny zlN ⟨[asl bs.length (zab bs),ai p,dd,dd, .one (.ptr ⟨4,0,0⟩ 0), .one (.ptr ⟨5,0,0⟩ 0), .one (.ptr ⟨6,0,0⟩ 0),dd,dd,dd,dd,dd,dd,dd,dd,dd,dd,dd,dd,dd,dd,dd,dd,dd,dd,dd,dd,dd,dd,dd,dd,dd,dd,dd,dd,dd,dd],[(4,{next:=1,l:=[some {e:=0,var:=true,fz:=false,sz:=0,cells:=[di 0,di 0,di 0,di 0,di 0,di 0, .d (.v zd2), .d (.v zd2), .d (.v zd2)]},none,none,none,none,none,none,none,none,none]}),(5,{next:=1,l:=[some {e:=0,var:=true,fz:=false,sz:=0,cells:=[di 0]},none]}),(6,{next:=1,l:=[some {e:=0,var:=true,fz:=false,sz:=0,cells:=[di 0]},none]})]⟩ ?_ ?_ rfl ?_
 ·simp only[List.map_cons,List.map_nil]
  repeat'(first|refine zq0 ?_|exact zd0|(refine zaa ?_ ?_<;>intro hb)|(refine And.intro ?_ ?_;exact zI)|(refine And.intro ?_ ?_<;>intro hg)|exact zC|fail)
  exact fun _ _ _ h=>h
 ·exact⟨⟨_,rfl,rfl,rfl,rfl,rfl⟩,⟨_,rfl,rfl,rfl,rfl,rfl⟩,⟨_,rfl,rfl,rfl,rfl,rfl⟩,trivial⟩
 ·unfold dSn zjO
  cases e1:zdt bs p with
  |error e=>
   have hr:=zcw bs p h hp e1
   repeat'(first|refine zq0 ?_|exact zd0|(refine zaa ?_ ?_<;>intro hb)|(refine And.intro ?_ ?_;exact zI)|(refine And.intro ?_ ?_<;>intro hg)|exact zC|fail)
   refine zp (rds bs p) (hr) ?_
   simp only[za8,za9,za7,zbq]
   refine⟨⟨_,rfl⟩,rfl,⟨⟨_,rfl,rfl,rfl,rfl,rfl⟩,⟨_,rfl,rfl,rfl,rfl,rfl⟩,⟨_,rfl,rfl,rfl,rfl,rfl⟩,trivial⟩, ?_⟩
   rw[zhP]
   first|refine zs0 ?_|exact zt0
   simp[zdq,zlj,zcM,zar,st0]
  |ok d=>
  have he1:=zc2 bs p h hp e1
  simp only
  repeat'(first|refine zq0 ?_|exact zd0|(refine zaa ?_ ?_<;>intro hb)|(refine And.intro ?_ ?_;exact zI)|(refine And.intro ?_ ?_<;>intro hg)|exact zC|fail)
  refine zj (he1) ?_
  cases e2:zdt bs d.2 with
  |error e=>
   have hr:=zcw bs _ h (za2 h e1) e2
   repeat'(first|refine zq0 ?_|exact zd0|(refine zaa ?_ ?_<;>intro hb)|(refine And.intro ?_ ?_;exact zI)|(refine And.intro ?_ ?_<;>intro hg)|exact zC|fail)
   refine zp (rds bs p) (hr) ?_
   simp only[za8,za9,za7,zbq]
   refine⟨⟨_,rfl⟩,rfl,⟨⟨_,rfl,rfl,rfl,rfl,rfl⟩,⟨_,rfl,rfl,rfl,rfl,rfl⟩,⟨_,rfl,rfl,rfl,rfl,rfl⟩,trivial⟩, ?_⟩
   rw[zhP]
   first|refine zs0 ?_|exact zt0
   simp[zdq,zlj,zcM,zar,st0]
  |ok v=>
  have he2:=zc2 bs _ h (za2 h e1) e2
  simp only
  repeat'(first|refine zq0 ?_|exact zd0|(refine zaa ?_ ?_<;>intro hb)|(refine And.intro ?_ ?_;exact zI)|(refine And.intro ?_ ?_<;>intro hg)|exact zC|fail)
  refine zj (he2) ?_
  cases e3:zdt bs v.2 with
  |error e=>
   have hr:=zcw bs _ h (za2 h e2) e3
   repeat'(first|refine zq0 ?_|exact zd0|(refine zaa ?_ ?_<;>intro hb)|(refine And.intro ?_ ?_;exact zI)|(refine And.intro ?_ ?_<;>intro hg)|exact zC|fail)
   refine zp (rds bs p) (hr) ?_
   simp only[za8,za9,za7,zbq]
   refine⟨⟨_,rfl⟩,rfl,⟨⟨_,rfl,rfl,rfl,rfl,rfl⟩,⟨_,rfl,rfl,rfl,rfl,rfl⟩,⟨_,rfl,rfl,rfl,rfl,rfl⟩,trivial⟩, ?_⟩
   rw[zhP]
   first|refine zs0 ?_|exact zt0
   simp[zdq,zlj,zcM,zar,st0]
  |ok l=>
  have he3:=zc2 bs _ h (za2 h e2) e3
  simp only
  repeat'(first|refine zq0 ?_|exact zd0|(refine zaa ?_ ?_<;>intro hb)|(refine And.intro ?_ ?_;exact zI)|(refine And.intro ?_ ?_<;>intro hg)|exact zC|fail)
  refine zj (he3) ?_
  cases e4:zcB bs l.2 with
  |error e=>
   have hr:=(zdm bs _ h (za2 h e3) false (st0,0) e e4).2 rfl
   repeat'(first|refine zq0 ?_|exact zd0|(refine zaa ?_ ?_<;>intro hb)|(refine And.intro ?_ ?_;exact zI)|(refine And.intro ?_ ?_<;>intro hg)|exact zC|fail)
   refine zp (rds bs p) (hr) ?_
   simp only[za8,za9,za7,zbq]
   refine⟨⟨_,rfl⟩,rfl,⟨⟨_,rfl,rfl,rfl,rfl,rfl⟩,⟨_,rfl,rfl,rfl,rfl,rfl⟩,⟨_,rfl,rfl,rfl,rfl,rfl⟩,trivial⟩, ?_⟩
   rw[zhP]
   first|refine zs0 ?_|exact zt0
   simp[zdq,zlj,zcM,zar,st0]
  |ok s=>
  have he4:=(zdm bs _ h (za2 h e3) true s 0 e4).1 rfl
  simp only
  repeat'(first|refine zq0 ?_|exact zd0|(refine zaa ?_ ?_<;>intro hb)|(refine And.intro ?_ ?_;exact zI)|(refine And.intro ?_ ?_<;>intro hg)|exact zC|fail)
  refine zj (he4) ?_
  have hms:=zeZ ⟨d.1,v.1,l.1,s.1⟩ (zbJ (zbP.1 (zcO e4)))
  cases hm:zaZ ⟨d.1,v.1,l.1,s.1⟩
  ·rw[hm]at hms
   rw[if_neg (by simp)]
   repeat'(first|refine zq (I @zaS (I @zaI @zaJ)) ?_|exact zd (I @zaS (I @zaI @zaJ))|refine zc (hms) ?_|refine zg (hms) ?_|(refine zaa ?_ ?_<;>intro hb)|(refine And.intro ?_ ?_;exact zI)|(refine And.intro ?_ ?_<;>intro hg)|exact zC|fail)
   simp only[za8,za9,za7,zbq]
   refine⟨⟨_,rfl⟩,rfl,⟨⟨_,rfl,rfl,rfl,rfl,rfl⟩,⟨_,rfl,rfl,rfl,rfl,rfl⟩,⟨_,rfl,rfl,rfl,rfl,rfl⟩,trivial⟩, ?_⟩
   rw[zhP]
   first|refine zs0 ?_|exact zt0
   simp[zdq,zlj,zcM,zar,st0]
  ·rw[hm]at hms
   rw[if_pos rfl]
   repeat'(first|(with_reducible first|refine zjf 7 ?_|refine zg0 7 ?_|refine zg1 7 ?_)|refine zu (I @zaS (I @zaI @zaJ)) ?_|exact zd (I @zaS (I @zaI @zaJ))|(with_reducible first|refine zac _ _ ?_)|refine zc (hms) ?_|refine zg (hms) ?_|(refine zaa ?_ ?_<;>intro hb)|(refine And.intro ?_ ?_;exact zI)|(refine And.intro ?_ ?_<;>intro hg)|exact zC|fail)
   refine zji (zdp (Gh.sealF 4 6 (.own ⟨4,7,7⟩ 0 s.1.sess.length) ?_) ?_)
   ·exact zo @zaS
   refine zf @zaS ?_
   refine zdp (Gh.sealF 4 7 (.own ⟨4,8,8⟩ 0 s.1.locks.length) ?_) ?_
   ·exact zo @zaI
   refine zf @zaI ?_
   refine zdp (Gh.sealF 4 8 (.own ⟨4,9,9⟩ 0 s.1.memos.length) ?_) ?_
   ·exact zo @zaJ
   refine zf @zaJ ?_
   repeat'(first|refine zq @zc1 ?_|exact zd @zc1|(refine zaa ?_ ?_<;>intro hb)|(refine And.intro ?_ ?_;exact zI)|(refine And.intro ?_ ?_<;>intro hg)|exact zC|fail)
   simp[zdq,zlj,zcM,zar]
theorem zmM {α:Type} {a:α} {q:Int}:rOf (a,q,0)= .ok (a,q):=rfl
theorem zgt {bs:List Int} {p:Nat} {v:Int} {rest:List Int} (h:bs.drop p=zaX v++rest) (hv:0≤v∧v<4611686018427387904):zdt bs p= .ok (v,((p+8:Nat):Int)):=by rw[zdt,zjU h hv,zmM]
theorem zg9 {bs:List Int} {p:Nat} {x:Int} {rest:List Int} (h:bs.drop p=[x]++rest):zcJ bs p= .ok (x,((p+1:Nat):Int)):=by rw[zcJ,zf9 h,zmM]
theorem zq8 {bs:List Int} {p:Nat} {s:ByteArray} {rest:List Int} (h:bs.drop p=zdV s++rest) (hs:s.size≤12):zhS bs p= .ok (s,((p+(1+s.size):Nat):Int)):=by rw[zhS,zmP h (by omega),zmM]
theorem zq9 {bs:List Int} {p:Nat} {m:Memo} {rest:List Int} (h:bs.drop p=zaV m++rest) (hm:answerB m=true):zf0 bs p= .ok (m,((p+(zaV m).length:Nat):Int)):=by rw[zf0,znK h hm,zmM]
theorem zfX {bs:List Int} {p:Nat} {x most:Int} {rest:List Int} (h:bs.drop p=[x]++rest) (hx:x≤most):zbF bs p most= .ok (x,((p+1:Nat):Int)):=by
 rw[zbF,zg9 h]
 simp only
 rw[if_neg (by omega)]
theorem zfY {α:Type} {bs:List Int} {f:Int→Rr α} {enc:α→List Int}:∀{l:List α} {p:Nat} {acc:List α} {rest:List Int},(∀x∈l,∀(p:Nat) (rest:List Int),bs.drop p=enc x++rest→f p= .ok (x,((p+(enc x).length:Nat):Int)))→
  bs.drop p=l.flatMap enc++rest→zbO f l.length p acc= .ok (acc++l,((p+(l.flatMap enc).length:Nat):Int))
 |[],p,acc,rest,_,_=>by simp[zbO]
 |x::l,p,acc,rest,hf,h=>by
  rw[List.flatMap_cons,List.append_assoc]at h
  rw[List.length_cons,zbO,hf x (by simp) p _ h]
  simp only
  rw[zfY (fun y hy=>hf y (by simp[hy])) (zaM h)]
  simp[Nat.add_assoc]
theorem zra {bs:List Int} {p:Nat} {x:Sess} {rest:List Int} (h:bs.drop p=zgQ x++rest) (h1:0≤x.num∧x.num<4611686018427387904) (h2:0≤x.renewed∧x.renewed<4611686018427387904):
  zgP bs p= .ok (x,((p+(zgQ x).length:Nat):Int)):=by
 have h:bs.drop p=[x.client]++(zaX x.num++(zaX x.renewed++rest)):=by rw[h];simp[zgQ]
 have g1:=zaM h
 have g2:=zaM g1
 rw[zgP,zg9 h]
 simp only
 rw[List.length_singleton]at g1
 rw[zgt g1 h1]
 simp only
 rw[zaH,List.length_singleton]at g2
 rw[zgt g2 h2,zhU]
theorem zgu {bs:List Int}:∀{n:Nat} {p:Int} {acc:List Int},zgv bs n p acc=zbO (zcJ bs) n p acc
 |0,_,_=>rfl
 |n+1,p,acc=>by
  rw[zgv,zbO]
  cases zcJ bs p with
  |error e=>rfl
  |ok x=>exact zgu
theorem zhO (l:List Int):(l.flatMap fun x=>[x])=l:=by induction l<;>simp_all
theorem zrb {bs:List Int} {p:Nat} {k:Lk} {rest:List Int} (h:bs.drop p=zgR k++rest) (h1:k.name.size≤12) (h2:0≤k.token∧k.token<4611686018427387904) (h3:k.line.length≤3):
  zey bs p= .ok (k,((p+(zgR k).length:Nat):Int)):=by
 have h:bs.drop p=zdV k.name++([k.holder]++(zaX k.token++([(k.line.length:Int)]++((k.line.flatMap fun x=>[x])++rest)))):=by rw[h,zhO];simp[zgR,lk0]
 have g1:=zaM h
 have g2:=zaM g1
 have g3:=zaM g2
 have g4:=zaM g3
 rw[zcd]at g1 g2 g3 g4
 rw[List.length_singleton]at g2 g3 g4
 rw[zaH]at g3 g4
 rw[List.length_singleton]at g4
 rw[zey,zq8 h h1]
 simp only
 rw[zg9 g1]
 simp only
 rw[zgt g2 h2]
 simp only
 rw[zfX g3 (by omega)]
 simp only
 rw[zgu,Int.toNat_natCast,zfY (enc:=fun x=>[x]) (fun x _ p rest h=>zg9 h) g4]
 simp only[List.nil_append,zhO]
 rw[zgR,List.length_append,zhV]
 congr 3
 omega
theorem zpt {bs:List Int} {p:Nat} {s:St} {rest:List Int} (h:bs.drop p=zcl s++rest) (hr:RightS s):zcB bs p= .ok (s,((p+(zcl s).length:Nat):Int)):=by
 have hH:zdu=2305843009213693952:=rfl
 have ht:=hr.time
 have hn:=hr.num
 have hk:=hr.token
 have hl1:=hr.sl
 have hl2:=hr.ll
 have hl3:=zf6 hr
 have h:bs.drop p=zaX s.time++(zaX s.num++(zaX s.token++([(s.sess.length:Int)]++(s.sess.flatMap zgQ++([(s.locks.length:Int)]++(s.locks.flatMap zgR++([(s.memos.length:Int)]++(s.memos.flatMap zaV++rest)))))))):=by
  rw[h];simp[zcl,sb3,sb2,sb1,zhT]
 have g1:=zaM h
 have g2:=zaM g1
 have g3:=zaM g2
 have g4:=zaM g3
 have g5:=zaM g4
 have g6:=zaM g5
 have g7:=zaM g6
 have g8:=zaM g7
 rw[zaH]at g1 g2 g3 g4 g5 g6 g7 g8
 rw[zaH]at g2 g3 g4 g5 g6 g7 g8
 rw[zaH]at g3 g4 g5 g6 g7 g8
 rw[List.length_singleton]at g4 g5 g6 g7 g8
 rw[List.length_singleton]at g6 g7 g8
 rw[List.length_singleton]at g8
 rw[zcB,zgt h (by omega)]
 simp only
 rw[zgt g1 (by omega)]
 simp only
 rw[zgt g2 (by omega)]
 simp only
 rw[zfX g3 (by omega)]
 simp only
 rw[Int.toNat_natCast,zfY (enc:=zgQ) (fun x hx p rest h=>by
  obtain⟨_,f2,f3⟩:=zgk.1 (hr.sok x hx).1
  exact zra h (by omega) (by omega)) g4]
 simp only
 rw[zfX g5 (by omega)]
 simp only
 rw[Int.toNat_natCast,zfY (enc:=zgR) (fun x hx p rest h=>by
  obtain⟨q0,q1,q2,q3,q4,q5⟩:=ze2 hr hx
  exact zrb h q1 q3 q4) g6]
 simp only
 rw[zfX g7 (by omega)]
 simp only
 rw[Int.toNat_natCast,zfY (enc:=zaV) (fun x hx p rest h=>zq9 h (hr.mok x hx)) g8]
 simp only[List.nil_append]
 rw[if_pos (zbP.2 hr)]
 congr 3
 simp only[zcl,sb3,sb2,sb1,zhT,List.length_append,List.take_length,zaH,List.length_singleton]
 omega
def sameL {α:Type} (eq:α→α→Bool) (a b:List α):Bool:=(a.length==b.length)&&((a.zip b).all fun p=>eq p.1 p.2)
def zfa {α:Type} (eq:α→α→Bool) (a b:List α) (i:Nat):Bool:=((a.drop i).zip (b.drop i)).all fun p=>eq p.1 p.2
theorem zbZ {α:Type} {eq:α→α→Bool} {a b:List α} {i:Nat} (ha:i<a.length) (hb:i<b.length):zfa eq a b i=(eq a[i] b[i]&&zfa eq a b (i+1)):=by
 unfold zfa
 rw[List.drop_eq_getElem_cons ha,List.drop_eq_getElem_cons hb,List.zip_cons_cons,List.all_cons]
theorem zcn {α:Type} {eq:α→α→Bool} {a b:List α} {i:Nat} (ha:i=a.length):zfa eq a b i=true:=by
 unfold zfa
 rw[List.drop_eq_nil_of_le (by omega)];simp
theorem zcZ {α:Type} {eq:α→α→Bool} {a b:List α} (h:((a.length:Int) !=(b.length:Int))=true):sameL eq a b=false:=by
 unfold sameL
 simp at h
 simp;omega
theorem zc0 {α:Type} {eq:α→α→Bool} {a b:List α} (h:((a.length:Int) !=(b.length:Int))=false):a.length=b.length∧sameL eq a b=zfa eq a b 0:=by
 have hl:a.length=b.length:=by simp at h;omega
 unfold sameL zfa
 simp[hl]
def zgh (a b:Int):Bool:=a==b
def zl2 (a b:Grant):Bool:=(a.name.toList==b.name.toList)&&(a.token==b.token)
def zj2 (a b:Sess):Bool:=(a.client==b.client)&&((a.num==b.num)&&(a.renewed==b.renewed))
def eqLk (a b:Lk):Bool:=(a.name.toList==b.name.toList)&&(a.holder==b.holder)&&(a.token==b.token)&&sameL zgh a.line b.line
def eqRe (a b:Reply):Bool:=(a.code==b.code)&&(a.session==b.session)&&(a.ahead==b.ahead)&&sameL zl2 a.held b.held
def eqMe (a b:Memo):Bool:=(a.client==b.client)&&(a.seq==b.seq)&&(a.reply.code==b.reply.code)&&(a.reply.session==b.reply.session)&&(a.reply.ahead==b.reply.ahead)&&sameL zl2 a.reply.held b.reply.held
def zpW (a b:St):Bool:=(a.time==b.time)&&(a.num==b.num)&&(a.token==b.token)&&sameL zj2 a.sess b.sess&&sameL eqLk a.locks b.locks&&sameL eqMe a.memos b.memos
theorem znZ {a b:List Int}:sameI a b=sameL zgh a b:=rfl
set_option maxHeartbeats 1000000 in
theorem zp4 (a b:List Int) (ha:a.length<2^30) (hb:b.length<2^30):CallOK Tryz.prog 48 [.f (al a.length (za3 a)), .f (al b.length (za3 b))] (fun r o=>r=[rb (sameL zgh a b)]∧o=[]):=by
 refine zae zam mixed (T:=Ty) (n:=26) Tryz.func48 (c:=Tryz.f48.body.getD .skip) rfl Tryz.results48 Tryz.ntmps48 Tryz.call48 ?_
 simp only[Tryz.f48,Option.getD]
 cases hl:((a.length:Int) !=(b.length:Int))
 ·obtain⟨hle,hsr⟩:=zc0 (eq:=zgh) hl
  rw[hsr]
  repeat'(first|refine zq hl ?_|exact zd hl|(refine zaa ?_ ?_<;>intro hb)|(refine And.intro ?_ ?_;exact zI)|(refine And.intro ?_ ?_<;>intro hg)|exact zC|fail)
  refine zah (τ:=Nat) (fun i=>⟨[al a.length (za3 a),al b.length (za3 b),dd,dd,dd,dd,dd,dd,dd,dd,dd,dd,ai a.length,ai i,dd,dd,dd,dd,dd,dd,dd,dd,dd,dd,dd,dd],[]⟩)
   (fun i=>i≤a.length) (fun i=>zfa zgh a b i) (fun i=>a.length - i) 0
   (Gh.canon [] [] [] zK rfl rfl) (Nat.zero_le _) ?_
  intro i hi0 hF K hK
  refine zw ?_
  refine zaa (fun hlt=> ?_) (fun hge=> ?_)
  ·have hi:i<a.length:=by simpa using hlt
   have hi2:i<b.length:=by omega
   have hat:=zce hi
   have hat2:=zce hi2
   have hw:=zai hi (by omega)
   have hlb:decide ((i:Int)<a.length)=true:=by simp;omega
   have hst:=zbZ (eq:=zgh) hi hi2
   cases hq:zgh a[i] b[i]
   ·rw[hq]at hst
    have he:(a[i] !=b[i])=true:=by unfold zgh at hq;rw[bne,hq];rfl
    rw[←hF,hst]
    repeat'(first|refine zq (I hat (I hat2 (I hlb (I he (I @Bool.not_true (I @Bool.not_false (I @Bool.and_self (I @zaq zca)))))))) ?_|exact zd (I hat (I hat2 (I hlb (I he (I @Bool.not_true (I @Bool.not_false (I @Bool.and_self (I @zaq zca))))))))|(refine zaa ?_ ?_<;>intro hb)|(refine And.intro ?_ ?_;exact zI)|(refine And.intro ?_ ?_<;>intro hg)|exact zC|fail)
   ·rw[hq,Bool.true_and]at hst
    have he:(a[i] !=b[i])=false:=by unfold zgh at hq;rw[bne,hq];rfl
    repeat'(first|refine zq (I hat (I hat2 (I hlb (I he (I @Bool.not_true (I @Bool.not_false (I @Bool.and_self (I @zaq zca)))))))) ?_|exact zd (I hat (I hat2 (I hlb (I he (I @Bool.not_true (I @Bool.not_false (I @Bool.and_self (I @zaq zca))))))))|(refine zaa ?_ ?_<;>intro hb)|(refine And.intro ?_ ?_;exact zI)|(refine And.intro ?_ ?_<;>intro hg)|exact zC|fail)
    exact hK _ (i+1) (Gh.canon [] [] [] (zk hw) rfl rfl) hi hst.symm (by omega)
  ·have hi:i=a.length:=by
    have:¬(i:Int)<a.length:=by simpa using hge
    omega
   rw[←hF,zcn hi]
   repeat'(first|refine zq0 ?_|exact zd0|(refine zaa ?_ ?_<;>intro hb)|(refine And.intro ?_ ?_;exact zI)|(refine And.intro ?_ ?_<;>intro hg)|exact zC|fail)
 ·rw[zcZ hl]
  repeat'(first|refine zq hl ?_|exact zd hl|(refine zaa ?_ ?_<;>intro hb)|(refine And.intro ?_ ?_;exact zI)|(refine And.intro ?_ ?_<;>intro hg)|exact zC|fail)
set_option maxHeartbeats 1000000 in
theorem zm2 (a b:List Grant) (ha:a.length<2^30) (hb:b.length<2^30):CallOK Tryz.prog 51 [.f (al a.length (zaO a)), .f (al b.length (zaO b))] (fun r o=>r=[rb (sameL zl2 a b)]∧o=[]):=by
 refine zae zam mixed (T:=Ty) (n:=26) Tryz.func51 (c:=Tryz.f51.body.getD .skip) rfl Tryz.results51 Tryz.ntmps51 Tryz.call51 ?_
 simp only[Tryz.f51,Option.getD]
 cases hl:((a.length:Int) !=(b.length:Int))
 ·obtain⟨hle,hsr⟩:=zc0 (eq:=zl2) hl
  rw[hsr]
  repeat'(first|refine zq hl ?_|exact zd hl|(refine zaa ?_ ?_<;>intro hb)|(refine And.intro ?_ ?_;exact zI)|(refine And.intro ?_ ?_<;>intro hg)|exact zC|fail)
  refine zah (τ:=Nat) (fun i=>⟨[al a.length (zaO a),al b.length (zaO b),dd,dd,dd,dd,dd,dd,dd,dd,dd,dd,ai a.length,ai i,dd,dd,dd,dd,dd,dd,dd,dd,dd,dd,dd,dd],[]⟩)
   (fun i=>i≤a.length) (fun i=>zfa zl2 a b i) (fun i=>a.length - i) 0
   (Gh.canon [] [] [] zK rfl rfl) (Nat.zero_le _) ?_
  intro i hi0 hF K hK
  refine zw ?_
  refine zaa (fun hlt=> ?_) (fun hge=> ?_)
  ·have hi:i<a.length:=by simpa using hlt
   have hi2:i<b.length:=by omega
   have hat:=zbL hi
   have hat2:=zbL hi2
   have hw:=zai hi (by omega)
   have hlb:decide ((i:Int)<a.length)=true:=by simp;omega
   have hst:=zbZ (eq:=zl2) hi hi2
   cases hq:zl2 a[i] b[i]
   ·rw[hq]at hst
    have he:((a[i].name.toList==b[i].name.toList)&&(a[i].token==b[i].token))=false:=by exact hq
    rw[←hF,hst]
    repeat'(first|refine zq (I hat (I hat2 (I hlb (I he (I @Bool.not_true (I @Bool.not_false (I @Bool.and_self (I @zaw zca)))))))) ?_|exact zd (I hat (I hat2 (I hlb (I he (I @Bool.not_true (I @Bool.not_false (I @Bool.and_self (I @zaw zca))))))))|(refine zaa ?_ ?_<;>intro hb)|(refine And.intro ?_ ?_;exact zI)|(refine And.intro ?_ ?_<;>intro hg)|exact zC|fail)
   ·rw[hq,Bool.true_and]at hst
    have he:((a[i].name.toList==b[i].name.toList)&&(a[i].token==b[i].token))=true:=by exact hq
    repeat'(first|refine zq (I hat (I hat2 (I hlb (I he (I @Bool.not_true (I @Bool.not_false (I @Bool.and_self (I @zaw zca)))))))) ?_|exact zd (I hat (I hat2 (I hlb (I he (I @Bool.not_true (I @Bool.not_false (I @Bool.and_self (I @zaw zca))))))))|(refine zaa ?_ ?_<;>intro hb)|(refine And.intro ?_ ?_;exact zI)|(refine And.intro ?_ ?_<;>intro hg)|exact zC|fail)
    exact hK _ (i+1) (Gh.canon [] [] [] (zk hw) rfl rfl) hi hst.symm (by omega)
  ·have hi:i=a.length:=by
    have:¬(i:Int)<a.length:=by simpa using hge
    omega
   rw[←hF,zcn hi]
   repeat'(first|refine zq0 ?_|exact zd0|(refine zaa ?_ ?_<;>intro hb)|(refine And.intro ?_ ?_;exact zI)|(refine And.intro ?_ ?_<;>intro hg)|exact zC|fail)
 ·rw[zcZ hl]
  repeat'(first|refine zq hl ?_|exact zd hl|(refine zaa ?_ ?_<;>intro hb)|(refine And.intro ?_ ?_;exact zI)|(refine And.intro ?_ ?_<;>intro hg)|exact zC|fail)
set_option maxHeartbeats 1000000 in
theorem zp5 (a b:List Sess) (ha:a.length<2^30) (hb:b.length<2^30):CallOK Tryz.prog 45 [.f (al a.length (zaN a)), .f (al b.length (zaN b))] (fun r o=>r=[rb (sameL zj2 a b)]∧o=[]):=by
 refine zae zam mixed (T:=Ty) (n:=26) Tryz.func45 (c:=Tryz.f45.body.getD .skip) rfl Tryz.results45 Tryz.ntmps45 Tryz.call45 ?_
 simp only[Tryz.f45,Option.getD]
 cases hl:((a.length:Int) !=(b.length:Int))
 ·obtain⟨hle,hsr⟩:=zc0 (eq:=zj2) hl
  rw[hsr]
  repeat'(first|refine zq hl ?_|exact zd hl|(refine zaa ?_ ?_<;>intro hb)|(refine And.intro ?_ ?_;exact zI)|(refine And.intro ?_ ?_<;>intro hg)|exact zC|fail)
  refine zah (τ:=Nat) (fun i=>⟨[al a.length (zaN a),al b.length (zaN b),dd,dd,dd,dd,dd,dd,dd,dd,dd,dd,ai a.length,ai i,dd,dd,dd,dd,dd,dd,dd,dd,dd,dd,dd,dd],[]⟩)
   (fun i=>i≤a.length) (fun i=>zfa zj2 a b i) (fun i=>a.length - i) 0
   (Gh.canon [] [] [] zK rfl rfl) (Nat.zero_le _) ?_
  intro i hi0 hF K hK
  refine zw ?_
  refine zaa (fun hlt=> ?_) (fun hge=> ?_)
  ·have hi:i<a.length:=by simpa using hlt
   have hi2:i<b.length:=by omega
   have hat:=zbu hi
   have hat2:=zbu hi2
   have hw:=zai hi (by omega)
   have hlb:decide ((i:Int)<a.length)=true:=by simp;omega
   have hst:=zbZ (eq:=zj2) hi hi2
   cases hq:zj2 a[i] b[i]
   ·rw[hq]at hst
    have he:((a[i].client==b[i].client)&&((a[i].num==b[i].num)&&(a[i].renewed==b[i].renewed)))=false:=by exact hq
    rw[←hF,hst]
    repeat'(first|refine zq (I hat (I hat2 (I hlb (I he (I @Bool.not_true (I @Bool.not_false (I @Bool.and_self (I @zas zca)))))))) ?_|exact zd (I hat (I hat2 (I hlb (I he (I @Bool.not_true (I @Bool.not_false (I @Bool.and_self (I @zas zca))))))))|(refine zaa ?_ ?_<;>intro hb)|(refine And.intro ?_ ?_;exact zI)|(refine And.intro ?_ ?_<;>intro hg)|exact zC|fail)
   ·rw[hq,Bool.true_and]at hst
    have he:((a[i].client==b[i].client)&&((a[i].num==b[i].num)&&(a[i].renewed==b[i].renewed)))=true:=by exact hq
    repeat'(first|refine zq (I hat (I hat2 (I hlb (I he (I @Bool.not_true (I @Bool.not_false (I @Bool.and_self (I @zas zca)))))))) ?_|exact zd (I hat (I hat2 (I hlb (I he (I @Bool.not_true (I @Bool.not_false (I @Bool.and_self (I @zas zca))))))))|(refine zaa ?_ ?_<;>intro hb)|(refine And.intro ?_ ?_;exact zI)|(refine And.intro ?_ ?_<;>intro hg)|exact zC|fail)
    exact hK _ (i+1) (Gh.canon [] [] [] (zk hw) rfl rfl) hi hst.symm (by omega)
  ·have hi:i=a.length:=by
    have:¬(i:Int)<a.length:=by simpa using hge
    omega
   rw[←hF,zcn hi]
   repeat'(first|refine zq0 ?_|exact zd0|(refine zaa ?_ ?_<;>intro hb)|(refine And.intro ?_ ?_;exact zI)|(refine And.intro ?_ ?_<;>intro hg)|exact zC|fail)
 ·rw[zcZ hl]
  repeat'(first|refine zq hl ?_|exact zd hl|(refine zaa ?_ ?_<;>intro hb)|(refine And.intro ?_ ?_;exact zI)|(refine And.intro ?_ ?_<;>intro hg)|exact zC|fail)
theorem zp6 (a b:Lk) (ha:a.line.length<2^30) (hb:b.line.length<2^30):CallOK Tryz.prog 47 [.f (.agg (a.enc.map C.d)), .f (.agg (b.enc.map C.d))] (fun r o=>r=[rb (eqLk a b)]∧o=[]):=by
 refine zae zam mixed (T:=Ty) (n:=31) Tryz.func47 (c:=Tryz.f47.body.getD .skip) rfl Tryz.results47 Tryz.ntmps47 Tryz.call47 ?_
 simp only[Tryz.f47,Option.getD]
 have hi:=zp4 a.line b.line ha hb
 repeat'(first|refine zq0 ?_|exact zd0|refine zc (hi) ?_|refine zg (hi) ?_|(refine zaa ?_ ?_<;>intro hb)|(refine And.intro ?_ ?_;exact zI)|(refine And.intro ?_ ?_<;>intro hg)|exact zC|fail)
 rfl
theorem zp7 (a b:Memo) (ha:a.reply.held.length<2^30) (hb:b.reply.held.length<2^30):CallOK Tryz.prog 50 [.f (.agg (a.enc.map C.d)), .f (.agg (b.enc.map C.d))] (fun r o=>r=[rb (eqMe a b)]∧o=[]):=by
 refine zae zam mixed (T:=Ty) (n:=51) Tryz.func50 (c:=Tryz.f50.body.getD .skip) rfl Tryz.results50 Tryz.ntmps50 Tryz.call50 ?_
 simp only[Tryz.f50,Option.getD]
 have hi:=zm2 a.reply.held b.reply.held ha hb
 repeat'(first|refine zq0 ?_|exact zd0|refine zc (hi) ?_|refine zg (hi) ?_|(refine zaa ?_ ?_<;>intro hb)|(refine And.intro ?_ ?_;exact zI)|(refine And.intro ?_ ?_<;>intro hg)|exact zC|fail)
 rfl
abbrev afn (n:Nat):AV:= .one (.d (.v (.func (.func n) #[] #[])))
set_option maxHeartbeats 1000000 in
theorem zn0 (a b:List Lk) (ha:a.length<2^30) (hb:b.length<2^30) (hla:∀x∈a,x.line.length<2^30) (hlb2:∀x∈b,x.line.length<2^30):CallOK Tryz.prog 46 [.f (al a.length (zax a)), .f (al b.length (zax b)), .f (afn 47)] (fun r o=>r=[rb (sameL eqLk a b)]∧o=[]):=by
 refine zae zam mixed (T:=Ty) (n:=32) Tryz.func46 (c:=Tryz.f46.body.getD .skip) rfl Tryz.results46 Tryz.ntmps46 Tryz.call46 ?_
 simp only[Tryz.f46,Option.getD]
 have hfn:∀(Z:List Nat) (r:Rs) (xs ys:List AV),fgc Z r (afn 47::xs) (afn 47::ys)=fgc Z r xs ys:=fun Z r xs ys=>zje rfl rfl
 cases hl:((a.length:Int) !=(b.length:Int))
 ·obtain⟨hle,hsr⟩:=zc0 (eq:=eqLk) hl
  rw[hsr]
  repeat'(first|refine zq hl ?_|exact zd hl|(refine zaa ?_ ?_<;>intro hb)|(refine And.intro ?_ ?_;exact zI)|(refine And.intro ?_ ?_<;>intro hg)|exact zC|fail)
  refine zah (τ:=Nat) (fun i=>⟨[dd,al b.length (zax b),afn 47,dd,dd,dd,dd,dd,dd,dd,dd,dd,dd,dd,dd,al a.length (zax a),ai a.length,ai i,dd,dd,dd,dd,dd,dd,dd,dd,dd,dd,dd,dd,dd,dd],[(8,⟨2,[]⟩),(9,⟨2,[]⟩)]⟩)
   (fun i=>i≤a.length) (fun i=>zfa eqLk a b i) (fun i=>a.length - i) 0
   (Gh.canon [] [8,9] [] (zk hfn) rfl rfl) (Nat.zero_le _) ?_
  intro i hi0 hF K hK
  refine zw ?_
  refine zaa (fun hlt=> ?_) (fun hge=> ?_)
  ·have hi:i<a.length:=by simpa using hlt
   have hi2:i<b.length:=by omega
   have hat:=zbd hi
   have hat2:=zbd hi2
   have hw:=zai hi (by omega)
   have hlb:decide ((i:Int)<a.length)=true:=by simp;omega
   have hst:=zbZ (eq:=eqLk) hi hi2
   have hc:=zp6 a[i] b[i] (hla _ (List.getElem_mem hi)) (hlb2 _ (List.getElem_mem hi2))
   cases hq:eqLk a[i] b[i]
   ·rw[hq]at hst
    have he:(!eqLk a[i] b[i])=true:=by rw[hq];rfl
    rw[←hF,hst]
    repeat'(first|refine zq (I hat (I hat2 (I hlb (I he (I @Bool.not_true (I @Bool.not_false (I @Bool.and_self (I @zal zca)))))))) ?_|exact zd (I hat (I hat2 (I hlb (I he (I @Bool.not_true (I @Bool.not_false (I @Bool.and_self (I @zal zca))))))))|refine zc (hc) ?_|refine zg (hc) ?_|(refine zaa ?_ ?_<;>intro hb)|(refine And.intro ?_ ?_;exact zI)|(refine And.intro ?_ ?_<;>intro hg)|exact zC|fail)
   ·rw[hq,Bool.true_and]at hst
    have he:(!eqLk a[i] b[i])=false:=by rw[hq];rfl
    repeat'(first|refine zq (I hat (I hat2 (I hlb (I he (I @Bool.not_true (I @Bool.not_false (I @Bool.and_self (I @zal zca)))))))) ?_|exact zd (I hat (I hat2 (I hlb (I he (I @Bool.not_true (I @Bool.not_false (I @Bool.and_self (I @zal zca))))))))|refine zc (hc) ?_|refine zg (hc) ?_|(refine zaa ?_ ?_<;>intro hb)|(refine And.intro ?_ ?_;exact zI)|(refine And.intro ?_ ?_<;>intro hg)|exact zC|fail)
    exact hK _ (i+1) (Gh.canon [] [] [] (zk (I hw hfn)) rfl rfl) hi hst.symm (by omega)
  ·have hi:i=a.length:=by
    have:¬(i:Int)<a.length:=by simpa using hge
    omega
   rw[←hF,zcn hi]
   repeat'(first|refine zq0 ?_|exact zd0|(refine zaa ?_ ?_<;>intro hb)|(refine And.intro ?_ ?_;exact zI)|(refine And.intro ?_ ?_<;>intro hg)|exact zC|fail)
 ·rw[zcZ hl]
  repeat'(first|refine zq hl ?_|exact zd hl|(refine zaa ?_ ?_<;>intro hb)|(refine And.intro ?_ ?_;exact zI)|(refine And.intro ?_ ?_<;>intro hg)|exact zC|fail)
set_option maxHeartbeats 1000000 in
theorem zn1 (a b:List Memo) (ha:a.length<2^30) (hb:b.length<2^30) (hla:∀x∈a,x.reply.held.length<2^30) (hlb2:∀x∈b,x.reply.held.length<2^30):CallOK Tryz.prog 49 [.f (al a.length (zaG a)), .f (al b.length (zaG b)), .f (afn 50)] (fun r o=>r=[rb (sameL eqMe a b)]∧o=[]):=by
 refine zae zam mixed (T:=Ty) (n:=32) Tryz.func49 (c:=Tryz.f49.body.getD .skip) rfl Tryz.results49 Tryz.ntmps49 Tryz.call49 ?_
 simp only[Tryz.f49,Option.getD]
 have hfn:∀(Z:List Nat) (r:Rs) (xs ys:List AV),fgc Z r (afn 50::xs) (afn 50::ys)=fgc Z r xs ys:=fun Z r xs ys=>zje rfl rfl
 cases hl:((a.length:Int) !=(b.length:Int))
 ·obtain⟨hle,hsr⟩:=zc0 (eq:=eqMe) hl
  rw[hsr]
  repeat'(first|refine zq hl ?_|exact zd hl|(refine zaa ?_ ?_<;>intro hb)|(refine And.intro ?_ ?_;exact zI)|(refine And.intro ?_ ?_<;>intro hg)|exact zC|fail)
  refine zah (τ:=Nat) (fun i=>⟨[dd,al b.length (zaG b),afn 50,dd,dd,dd,dd,dd,dd,dd,dd,dd,dd,dd,dd,al a.length (zaG a),ai a.length,ai i,dd,dd,dd,dd,dd,dd,dd,dd,dd,dd,dd,dd,dd,dd],[(8,⟨2,[]⟩),(9,⟨2,[]⟩)]⟩)
   (fun i=>i≤a.length) (fun i=>zfa eqMe a b i) (fun i=>a.length - i) 0
   (Gh.canon [] [8,9] [] (zk hfn) rfl rfl) (Nat.zero_le _) ?_
  intro i hi0 hF K hK
  refine zw ?_
  refine zaa (fun hlt=> ?_) (fun hge=> ?_)
  ·have hi:i<a.length:=by simpa using hlt
   have hi2:i<b.length:=by omega
   have hat:=zb0 hi
   have hat2:=zb0 hi2
   have hw:=zai hi (by omega)
   have hlb:decide ((i:Int)<a.length)=true:=by simp;omega
   have hst:=zbZ (eq:=eqMe) hi hi2
   have hc:=zp7 a[i] b[i] (hla _ (List.getElem_mem hi)) (hlb2 _ (List.getElem_mem hi2))
   cases hq:eqMe a[i] b[i]
   ·rw[hq]at hst
    have he:(!eqMe a[i] b[i])=true:=by rw[hq];rfl
    rw[←hF,hst]
    repeat'(first|refine zq (I hat (I hat2 (I hlb (I he (I @Bool.not_true (I @Bool.not_false (I @Bool.and_self (I @zaC zca)))))))) ?_|exact zd (I hat (I hat2 (I hlb (I he (I @Bool.not_true (I @Bool.not_false (I @Bool.and_self (I @zaC zca))))))))|refine zc (hc) ?_|refine zg (hc) ?_|(refine zaa ?_ ?_<;>intro hb)|(refine And.intro ?_ ?_;exact zI)|(refine And.intro ?_ ?_<;>intro hg)|exact zC|fail)
   ·rw[hq,Bool.true_and]at hst
    have he:(!eqMe a[i] b[i])=false:=by rw[hq];rfl
    repeat'(first|refine zq (I hat (I hat2 (I hlb (I he (I @Bool.not_true (I @Bool.not_false (I @Bool.and_self (I @zaC zca)))))))) ?_|exact zd (I hat (I hat2 (I hlb (I he (I @Bool.not_true (I @Bool.not_false (I @Bool.and_self (I @zaC zca))))))))|refine zc (hc) ?_|refine zg (hc) ?_|(refine zaa ?_ ?_<;>intro hb)|(refine And.intro ?_ ?_;exact zI)|(refine And.intro ?_ ?_<;>intro hg)|exact zC|fail)
    exact hK _ (i+1) (Gh.canon [] [] [] (zk (I hw hfn)) rfl rfl) hi hst.symm (by omega)
  ·have hi:i=a.length:=by
    have:¬(i:Int)<a.length:=by simpa using hge
    omega
   rw[←hF,zcn hi]
   repeat'(first|refine zq0 ?_|exact zd0|(refine zaa ?_ ?_<;>intro hb)|(refine And.intro ?_ ?_;exact zI)|(refine And.intro ?_ ?_<;>intro hg)|exact zC|fail)
 ·rw[zcZ hl]
  repeat'(first|refine zq hl ?_|exact zd hl|(refine zaa ?_ ?_<;>intro hb)|(refine And.intro ?_ ?_;exact zI)|(refine And.intro ?_ ?_<;>intro hg)|exact zC|fail)
theorem zuV {p q r s t u:Bool}:((!(!p|| !q|| !r|| !s))&&t&&u)=(p&&q&&r&&s&&t&&u):=by cases p<;>cases q<;>cases r<;>cases s<;>simp
set_option maxHeartbeats 1000000 in
theorem zgT (a b:St) (ha:Small a) (hb:Small b):CallOK Tryz.prog 22 [.f (.agg a.lent), .f (.agg b.lent)] (fun r o=>r=[rb (zpW a b)]∧o=[]):=by
 refine zae zam mixed (T:=Ty) (n:=44) Tryz.func22 (c:=Tryz.f22.body.getD .skip) rfl Tryz.results22 Tryz.ntmps22 Tryz.call22 ?_
 simp only[Tryz.f22,Option.getD]
 have h1:=zp5 a.sess b.sess ha.sess hb.sess
 have h2:=zn0 a.locks b.locks ha.locks hb.locks (fun k hk=>(ha.line k hk).1) (fun k hk=>(hb.line k hk).1)
 have h3:=zn1 a.memos b.memos ha.memos hb.memos (fun k hk=>(ha.held k hk).1) (fun k hk=>(hb.held k hk).1)
 cases hq:((((a.time !=b.time)||(a.num !=b.num))||(a.token !=b.token))|| !sameL zj2 a.sess b.sess)
 ·have he:zpW a b=(sameL eqLk a.locks b.locks&&sameL eqMe a.memos b.memos):=by
   unfold zpW
   rw[←zuV,show(!(!(a.time==b.time)|| !(a.num==b.num)|| !(a.token==b.token)|| !sameL zj2 a.sess b.sess))=true from by revert hq;simp only[bne];cases(a.time==b.time)<;>cases(a.num==b.num)<;>cases(a.token==b.token)<;>cases sameL zj2 a.sess b.sess<;>simp]
   simp
  rw[he]
  repeat'(first|refine zq hq ?_|exact zd hq|refine zc (h1) ?_|refine zg (h1) ?_|refine zc (h2) ?_|refine zg (h2) ?_|refine zc (h3) ?_|refine zg (h3) ?_|(refine zaa ?_ ?_<;>intro hb)|(refine And.intro ?_ ?_;exact zI)|(refine And.intro ?_ ?_<;>intro hg)|exact zC|fail)
 ·have he:zpW a b=false:=by
   unfold zpW
   rw[←zuV,show(!(!(a.time==b.time)|| !(a.num==b.num)|| !(a.token==b.token)|| !sameL zj2 a.sess b.sess))=false from by revert hq;simp only[bne];cases(a.time==b.time)<;>cases(a.num==b.num)<;>cases(a.token==b.token)<;>cases sameL zj2 a.sess b.sess<;>simp]
   simp
  rw[he]
  repeat'(first|refine zq hq ?_|exact zd hq|refine zc (h1) ?_|refine zg (h1) ?_|refine zc (h2) ?_|refine zg (h2) ?_|refine zc (h3) ?_|refine zg (h3) ?_|(refine zaa ?_ ?_<;>intro hb)|(refine And.intro ?_ ?_;exact zI)|(refine And.intro ?_ ?_<;>intro hg)|exact zC|fail)
set_option maxHeartbeats 1000000 in
theorem zm3 (a b:List Grant) (ha:a.length<2^30) (hb:b.length<2^30):CallOK Tryz.prog 68 [.f (al a.length (zaO a)), .f (al b.length (zaO b))] (fun r o=>r=[rb (sameL zl2 a b)]∧o=[]):=by
 refine zae zam mixed (T:=Ty) (n:=26) Tryz.func68 (c:=Tryz.f68.body.getD .skip) rfl Tryz.results68 Tryz.ntmps68 Tryz.call68 ?_
 simp only[Tryz.f68,Option.getD]
 cases hl:((a.length:Int) !=(b.length:Int))
 ·obtain⟨hle,hsr⟩:=zc0 (eq:=zl2) hl
  rw[hsr]
  repeat'(first|refine zq hl ?_|exact zd hl|(refine zaa ?_ ?_<;>intro hb)|(refine And.intro ?_ ?_;exact zI)|(refine And.intro ?_ ?_<;>intro hg)|exact zC|fail)
  refine zah (τ:=Nat) (fun i=>⟨[al a.length (zaO a),al b.length (zaO b),dd,dd,dd,ai i,dd,dd,dd,dd,dd,dd,dd,dd,dd,dd,dd,dd,dd,dd,dd,dd,dd,dd,dd,dd],[]⟩)
   (fun i=>i≤a.length) (fun i=>zfa zl2 a b i) (fun i=>a.length - i) 0
   (Gh.canon [] [] [] zK rfl rfl) (Nat.zero_le _) ?_
  intro i hi0 hF K hK
  refine zw ?_
  refine zaa (fun hlt=> ?_) (fun hge=> ?_)
  ·have hi:i<a.length:=by simpa using hlt
   have hi2:i<b.length:=by omega
   have hat:=zbL hi
   have hat2:=zbL hi2
   have hw:=zai hi (by omega)
   have hlb:decide ((i:Int)<a.length)=true:=by simp;omega
   have hst:=zbZ (eq:=zl2) hi hi2
   cases hq:zl2 a[i] b[i]
   ·rw[hq]at hst
    have he:((a[i].name.toList==b[i].name.toList)&&(a[i].token==b[i].token))=false:=by exact hq
    rw[←hF,hst]
    repeat'(first|refine zq (I hat (I hat2 (I hlb (I he (I @Bool.not_true (I @Bool.not_false (I @Bool.and_self (I @zaw zca)))))))) ?_|exact zd (I hat (I hat2 (I hlb (I he (I @Bool.not_true (I @Bool.not_false (I @Bool.and_self (I @zaw zca))))))))|(refine zaa ?_ ?_<;>intro hb)|(refine And.intro ?_ ?_;exact zI)|(refine And.intro ?_ ?_<;>intro hg)|exact zC|fail)
   ·rw[hq,Bool.true_and]at hst
    have he:((a[i].name.toList==b[i].name.toList)&&(a[i].token==b[i].token))=true:=by exact hq
    repeat'(first|refine zq (I hat (I hat2 (I hlb (I he (I @Bool.not_true (I @Bool.not_false (I @Bool.and_self (I @zaw zca)))))))) ?_|exact zd (I hat (I hat2 (I hlb (I he (I @Bool.not_true (I @Bool.not_false (I @Bool.and_self (I @zaw zca))))))))|(refine zaa ?_ ?_<;>intro hb)|(refine And.intro ?_ ?_;exact zI)|(refine And.intro ?_ ?_<;>intro hg)|exact zC|fail)
    exact hK _ (i+1) (Gh.canon [] [] [] (zk hw) rfl rfl) hi hst.symm (by omega)
  ·have hi:i=a.length:=by
    have:¬(i:Int)<a.length:=by simpa using hge
    omega
   rw[←hF,zcn hi]
   repeat'(first|refine zq0 ?_|exact zd0|(refine zaa ?_ ?_<;>intro hb)|(refine And.intro ?_ ?_;exact zI)|(refine And.intro ?_ ?_<;>intro hg)|exact zC|fail)
 ·rw[zcZ hl]
  repeat'(first|refine zq hl ?_|exact zd hl|(refine zaa ?_ ?_<;>intro hb)|(refine And.intro ?_ ?_;exact zI)|(refine And.intro ?_ ?_<;>intro hg)|exact zC|fail)
theorem zn2 (a b:Reply) (ha:a.held.length<2^30) (hb:b.held.length<2^30):CallOK Tryz.prog 29 [.f (.agg a.lent), .f (.agg b.lent)] (fun r o=>r=[rb (eqRe a b)]∧o=[]):=by
 refine zae zam mixed (T:=Ty) (n:=31) Tryz.func29 (c:=Tryz.f29.body.getD .skip) rfl Tryz.results29 Tryz.ntmps29 Tryz.call29 ?_
 simp only[Tryz.f29,Option.getD]
 have hi:=zm3 a.held b.held ha hb
 repeat'(first|refine zq0 ?_|exact zd0|refine zc (hi) ?_|refine zg (hi) ?_|(refine zaa ?_ ?_<;>intro hb)|(refine And.intro ?_ ?_;exact zI)|(refine And.intro ?_ ?_<;>intro hg)|exact zC|fail)
 rfl
set_option maxHeartbeats 1000000 in
theorem zn3 (a b:List Sess) (ha:a.length<2^30) (hb:b.length<2^30):CallOK Tryz.prog 52 [.f (al a.length (zaN a)), .f (al b.length (zaN b))] (fun r o=>r=[rb (sameL zj2 a b)]∧o=[]):=by
 refine zae zam mixed (T:=Ty) (n:=26) Tryz.func52 (c:=Tryz.f52.body.getD .skip) rfl Tryz.results52 Tryz.ntmps52 Tryz.call52 ?_
 simp only[Tryz.f52,Option.getD]
 cases hl:((a.length:Int) !=(b.length:Int))
 ·obtain⟨hle,hsr⟩:=zc0 (eq:=zj2) hl
  rw[hsr]
  repeat'(first|refine zq hl ?_|exact zd hl|(refine zaa ?_ ?_<;>intro hb)|(refine And.intro ?_ ?_;exact zI)|(refine And.intro ?_ ?_<;>intro hg)|exact zC|fail)
  refine zah (τ:=Nat) (fun i=>⟨[al a.length (zaN a),al b.length (zaN b),dd,dd,dd,ai i,dd,dd,dd,dd,dd,dd,dd,dd,dd,dd,dd,dd,dd,dd,dd,dd,dd,dd,dd,dd],[]⟩)
   (fun i=>i≤a.length) (fun i=>zfa zj2 a b i) (fun i=>a.length - i) 0
   (Gh.canon [] [] [] zK rfl rfl) (Nat.zero_le _) ?_
  intro i hi0 hF K hK
  refine zw ?_
  refine zaa (fun hlt=> ?_) (fun hge=> ?_)
  ·have hi:i<a.length:=by simpa using hlt
   have hi2:i<b.length:=by omega
   have hat:=zbu hi
   have hat2:=zbu hi2
   have hw:=zai hi (by omega)
   have hlb:decide ((i:Int)<a.length)=true:=by simp;omega
   have hst:=zbZ (eq:=zj2) hi hi2
   cases hq:zj2 a[i] b[i]
   ·rw[hq]at hst
    have he:((a[i].client==b[i].client)&&((a[i].num==b[i].num)&&(a[i].renewed==b[i].renewed)))=false:=by exact hq
    rw[←hF,hst]
    repeat'(first|refine zq (I hat (I hat2 (I hlb (I he (I @Bool.not_true (I @Bool.not_false (I @Bool.and_self (I @zas zca)))))))) ?_|exact zd (I hat (I hat2 (I hlb (I he (I @Bool.not_true (I @Bool.not_false (I @Bool.and_self (I @zas zca))))))))|(refine zaa ?_ ?_<;>intro hb)|(refine And.intro ?_ ?_;exact zI)|(refine And.intro ?_ ?_<;>intro hg)|exact zC|fail)
   ·rw[hq,Bool.true_and]at hst
    have he:((a[i].client==b[i].client)&&((a[i].num==b[i].num)&&(a[i].renewed==b[i].renewed)))=true:=by exact hq
    repeat'(first|refine zq (I hat (I hat2 (I hlb (I he (I @Bool.not_true (I @Bool.not_false (I @Bool.and_self (I @zas zca)))))))) ?_|exact zd (I hat (I hat2 (I hlb (I he (I @Bool.not_true (I @Bool.not_false (I @Bool.and_self (I @zas zca))))))))|(refine zaa ?_ ?_<;>intro hb)|(refine And.intro ?_ ?_;exact zI)|(refine And.intro ?_ ?_<;>intro hg)|exact zC|fail)
    exact hK _ (i+1) (Gh.canon [] [] [] (zk hw) rfl rfl) hi hst.symm (by omega)
  ·have hi:i=a.length:=by
    have:¬(i:Int)<a.length:=by simpa using hge
    omega
   rw[←hF,zcn hi]
   repeat'(first|refine zq0 ?_|exact zd0|(refine zaa ?_ ?_<;>intro hb)|(refine And.intro ?_ ?_;exact zI)|(refine And.intro ?_ ?_<;>intro hg)|exact zC|fail)
 ·rw[zcZ hl]
  repeat'(first|refine zq hl ?_|exact zd hl|(refine zaa ?_ ?_<;>intro hb)|(refine And.intro ?_ ?_;exact zI)|(refine And.intro ?_ ?_<;>intro hg)|exact zC|fail)
set_option maxHeartbeats 1000000 in
theorem zm4 (a b:List Lk) (ha:a.length<2^30) (hb:b.length<2^30) (hla:∀x∈a,x.line.length<2^30) (hlb2:∀x∈b,x.line.length<2^30):CallOK Tryz.prog 53 [.f (al a.length (zax a)), .f (al b.length (zax b))] (fun r o=>r=[rb (sameL eqLk a b)]∧o=[]):=by
 refine zae zam mixed (T:=Ty) (n:=68) Tryz.func53 (c:=Tryz.f53.body.getD .skip) rfl Tryz.results53 Tryz.ntmps53 Tryz.call53 ?_
 simp only[Tryz.f53,Option.getD]
 cases hl:((a.length:Int) !=(b.length:Int))
 ·obtain⟨hle,hsr⟩:=zc0 (eq:=eqLk) hl
  rw[hsr]
  repeat'(first|refine zq hl ?_|exact zd hl|(refine zaa ?_ ?_<;>intro hb)|(refine And.intro ?_ ?_;exact zI)|(refine And.intro ?_ ?_<;>intro hg)|exact zC|fail)
  refine zah (τ:=Nat) (fun i=>⟨[al a.length (zax a),al b.length (zax b),dd,dd,dd,ai i,dd,dd,dd,dd,dd,dd,dd,dd,dd,dd,dd,dd,dd,dd,dd,dd,dd,dd,dd,dd,dd,dd,dd,dd,dd,dd,dd,dd,dd,dd,dd,dd,dd,dd,dd,dd,dd,dd,dd,dd,dd,dd,dd,dd,dd,dd,dd,dd,dd,dd,dd,dd,dd,dd,dd,dd,dd,dd,dd,dd,dd,dd],[]⟩)
   (fun i=>i≤a.length) (fun i=>zfa eqLk a b i) (fun i=>a.length - i) 0
   (Gh.canon [] [] [] zK rfl rfl) (Nat.zero_le _) ?_
  intro i hi0 hF K hK
  refine zw ?_
  refine zaa (fun hlt=> ?_) (fun hge=> ?_)
  ·have hi:i<a.length:=by simpa using hlt
   have hi2:i<b.length:=by omega
   have hat:=zbd hi
   have hat2:=zbd hi2
   have hw:=zai hi (by omega)
   have hlb:decide ((i:Int)<a.length)=true:=by simp;omega
   have hst:=zbZ (eq:=eqLk) hi hi2
   have hd1:(zax a).drop (i*4+1)=iD a[i].holder::iD a[i].token:: .sl a[i].line.length (za3 a[i].line)::zax (a.drop (i+1)):=by rw[←List.drop_drop,hat];rfl
   have hd2:(zax b).drop (i*4+1)=iD b[i].holder::iD b[i].token:: .sl b[i].line.length (za3 b[i].line)::zax (b.drop (i+1)):=by rw[←List.drop_drop,hat2];rfl
   have hsi:=zln a[i].line b[i].line (by have:=hla _ (List.getElem_mem hi);omega) (by have:=hlb2 _ (List.getElem_mem hi2);omega)
   cases hq:eqLk a[i] b[i]
   ·rw[hq]at hst
    have he:((((!(a[i].name.toList==b[i].name.toList))||(a[i].holder !=b[i].holder))||(a[i].token !=b[i].token))|| !sameI a[i].line b[i].line)=true:=by unfold eqLk at hq;rw[znZ];revert hq;cases sameL zgh a[i].line b[i].line<;>cases h1:(a[i].name.toList==b[i].name.toList)<;>cases h2:(a[i].holder==b[i].holder)<;>cases h3:(a[i].token==b[i].token)<;>simp[bne,h1,h2,h3]
    rw[←hF,hst]
    repeat'(first|refine zq (I hat (I hat2 (I hlb (I he (I @Bool.not_true (I @Bool.not_false (I @Bool.and_self (I hd1 (I hd2 (I @zal zca)))))))))) ?_|exact zd (I hat (I hat2 (I hlb (I he (I @Bool.not_true (I @Bool.not_false (I @Bool.and_self (I hd1 (I hd2 (I @zal zca))))))))))|refine zc (hsi) ?_|refine zg (hsi) ?_|(refine zaa ?_ ?_<;>intro hb)|(refine And.intro ?_ ?_;exact zI)|(refine And.intro ?_ ?_<;>intro hg)|exact zC|fail)
   ·rw[hq,Bool.true_and]at hst
    have he:((((!(a[i].name.toList==b[i].name.toList))||(a[i].holder !=b[i].holder))||(a[i].token !=b[i].token))|| !sameI a[i].line b[i].line)=false:=by unfold eqLk at hq;rw[znZ];revert hq;cases sameL zgh a[i].line b[i].line<;>cases h1:(a[i].name.toList==b[i].name.toList)<;>cases h2:(a[i].holder==b[i].holder)<;>cases h3:(a[i].token==b[i].token)<;>simp[bne,h1,h2,h3]
    repeat'(first|refine zq (I hat (I hat2 (I hlb (I he (I @Bool.not_true (I @Bool.not_false (I @Bool.and_self (I hd1 (I hd2 (I @zal zca)))))))))) ?_|exact zd (I hat (I hat2 (I hlb (I he (I @Bool.not_true (I @Bool.not_false (I @Bool.and_self (I hd1 (I hd2 (I @zal zca))))))))))|refine zc (hsi) ?_|refine zg (hsi) ?_|(refine zaa ?_ ?_<;>intro hb)|(refine And.intro ?_ ?_;exact zI)|(refine And.intro ?_ ?_<;>intro hg)|exact zC|fail)
    exact hK _ (i+1) (Gh.canon [] [] [] (zk hw) rfl rfl) hi hst.symm (by omega)
  ·have hi:i=a.length:=by
    have:¬(i:Int)<a.length:=by simpa using hge
    omega
   rw[←hF,zcn hi]
   repeat'(first|refine zq0 ?_|exact zd0|(refine zaa ?_ ?_<;>intro hb)|(refine And.intro ?_ ?_;exact zI)|(refine And.intro ?_ ?_<;>intro hg)|exact zC|fail)
 ·rw[zcZ hl]
  repeat'(first|refine zq hl ?_|exact zd hl|(refine zaa ?_ ?_<;>intro hb)|(refine And.intro ?_ ?_;exact zI)|(refine And.intro ?_ ?_<;>intro hg)|exact zC|fail)
set_option maxHeartbeats 1000000 in
theorem zm5 (a b:List Memo) (ha:a.length<2^30) (hb:b.length<2^30) (hla:∀x∈a,x.reply.held.length<2^30) (hlb2:∀x∈b,x.reply.held.length<2^30):CallOK Tryz.prog 54 [.f (al a.length (zaG a)), .f (al b.length (zaG b))] (fun r o=>r=[rb (sameL eqMe a b)]∧o=[]):=by
 refine zae zam mixed (T:=Ty) (n:=55) Tryz.func54 (c:=Tryz.f54.body.getD .skip) rfl Tryz.results54 Tryz.ntmps54 Tryz.call54 ?_
 simp only[Tryz.f54,Option.getD]
 cases hl:((a.length:Int) !=(b.length:Int))
 ·obtain⟨hle,hsr⟩:=zc0 (eq:=eqMe) hl
  rw[hsr]
  repeat'(first|refine zq hl ?_|exact zd hl|(refine zaa ?_ ?_<;>intro hb)|(refine And.intro ?_ ?_;exact zI)|(refine And.intro ?_ ?_<;>intro hg)|exact zC|fail)
  refine zah (τ:=Nat) (fun i=>⟨[al a.length (zaG a),al b.length (zaG b),dd,dd,dd,ai i,dd,dd,dd,dd,dd,dd,dd,dd,dd,dd,dd,dd,dd,dd,dd,dd,dd,dd,dd,dd,dd,dd,dd,dd,dd,dd,dd,dd,dd,dd,dd,dd,dd,dd,dd,dd,dd,dd,dd,dd,dd,dd,dd,dd,dd,dd,dd,dd,dd],[]⟩)
   (fun i=>i≤a.length) (fun i=>zfa eqMe a b i) (fun i=>a.length - i) 0
   (Gh.canon [] [] [] zK rfl rfl) (Nat.zero_le _) ?_
  intro i hi0 hF K hK
  refine zw ?_
  refine zaa (fun hlt=> ?_) (fun hge=> ?_)
  ·have hi:i<a.length:=by simpa using hlt
   have hi2:i<b.length:=by omega
   have hat:=zb0 hi
   have hat2:=zb0 hi2
   have hw:=zai hi (by omega)
   have hlb:decide ((i:Int)<a.length)=true:=by simp;omega
   have hst:=zbZ (eq:=eqMe) hi hi2
   have hd1:(zaG a).drop (i*6+1)=iD a[i].seq::(a[i].reply.enc++zaG (a.drop (i+1))):=by rw[←List.drop_drop,hat];rfl
   have hd2:(zaG b).drop (i*6+1)=iD b[i].seq::(b[i].reply.enc++zaG (b.drop (i+1))):=by rw[←List.drop_drop,hat2];rfl
   have hsr:=zn2 a[i].reply b[i].reply (hla _ (List.getElem_mem hi)) (hlb2 _ (List.getElem_mem hi2))
   have hme:eqMe a[i] b[i]=((a[i].client==b[i].client)&&(a[i].seq==b[i].seq)&&eqRe a[i].reply b[i].reply):=by unfold eqMe eqRe;simp only[Bool.and_assoc]
   cases hq:eqMe a[i] b[i]
   ·rw[hq]at hst
    have he:(((a[i].client !=b[i].client)||(a[i].seq !=b[i].seq))|| !eqRe a[i].reply b[i].reply)=true:=by rw[hme]at hq;revert hq;cases eqRe a[i].reply b[i].reply<;>cases h1:(a[i].client==b[i].client)<;>cases h2:(a[i].seq==b[i].seq)<;>simp[bne,h1,h2]
    rw[←hF,hst]
    repeat'(first|refine zq (I hat (I hat2 (I hlb (I he (I @Bool.not_true (I @Bool.not_false (I @Bool.and_self (I hd1 (I hd2 (I @zaC zca)))))))))) ?_|exact zd (I hat (I hat2 (I hlb (I he (I @Bool.not_true (I @Bool.not_false (I @Bool.and_self (I hd1 (I hd2 (I @zaC zca))))))))))|refine zc (hsr) ?_|refine zg (hsr) ?_|(refine zaa ?_ ?_<;>intro hb)|(refine And.intro ?_ ?_;exact zI)|(refine And.intro ?_ ?_<;>intro hg)|exact zC|fail)
   ·rw[hq,Bool.true_and]at hst
    have he:(((a[i].client !=b[i].client)||(a[i].seq !=b[i].seq))|| !eqRe a[i].reply b[i].reply)=false:=by rw[hme]at hq;revert hq;cases eqRe a[i].reply b[i].reply<;>cases h1:(a[i].client==b[i].client)<;>cases h2:(a[i].seq==b[i].seq)<;>simp[bne,h1,h2]
    repeat'(first|refine zq (I hat (I hat2 (I hlb (I he (I @Bool.not_true (I @Bool.not_false (I @Bool.and_self (I hd1 (I hd2 (I @zaC zca)))))))))) ?_|exact zd (I hat (I hat2 (I hlb (I he (I @Bool.not_true (I @Bool.not_false (I @Bool.and_self (I hd1 (I hd2 (I @zaC zca))))))))))|refine zc (hsr) ?_|refine zg (hsr) ?_|(refine zaa ?_ ?_<;>intro hb)|(refine And.intro ?_ ?_;exact zI)|(refine And.intro ?_ ?_<;>intro hg)|exact zC|fail)
    exact hK _ (i+1) (Gh.canon [] [] [] (zk hw) rfl rfl) hi hst.symm (by omega)
  ·have hi:i=a.length:=by
    have:¬(i:Int)<a.length:=by simpa using hge
    omega
   rw[←hF,zcn hi]
   repeat'(first|refine zq0 ?_|exact zd0|(refine zaa ?_ ?_<;>intro hb)|(refine And.intro ?_ ?_;exact zI)|(refine And.intro ?_ ?_<;>intro hg)|exact zC|fail)
 ·rw[zcZ hl]
  repeat'(first|refine zq hl ?_|exact zd hl|(refine zaa ?_ ?_<;>intro hb)|(refine And.intro ?_ ?_;exact zI)|(refine And.intro ?_ ?_<;>intro hg)|exact zC|fail)
theorem zgU (a b:St) (ha:Small a) (hb:Small b):CallOK Tryz.prog 23 [.f (.agg a.lent), .f (.agg b.lent)] (fun r o=>r=[rb (zpW a b)]∧o=[]):=by
 refine zae zam mixed (T:=Ty) (n:=45) Tryz.func23 (c:=Tryz.f23.body.getD .skip) rfl Tryz.results23 Tryz.ntmps23 Tryz.call23 ?_
 simp only[Tryz.f23,Option.getD]
 have h1:=zn3 a.sess b.sess ha.sess hb.sess
 have h2:=zm4 a.locks b.locks ha.locks hb.locks (fun k hk=>(ha.line k hk).1) (fun k hk=>(hb.line k hk).1)
 have h3:=zm5 a.memos b.memos ha.memos hb.memos (fun k hk=>(ha.held k hk).1) (fun k hk=>(hb.held k hk).1)
 repeat'(first|refine zq0 ?_|exact zd0|refine zc (h1) ?_|refine zg (h1) ?_|refine zc (h2) ?_|refine zg (h2) ?_|refine zc (h3) ?_|refine zg (h3) ?_|(refine zaa ?_ ?_<;>intro hb)|(refine And.intro ?_ ?_;exact zI)|(refine And.intro ?_ ?_<;>intro hg)|exact zC|fail)
 rfl
theorem zlZ (n:Nat) (ds:List D) (p k:Int) (hn:n<2^60) (hp:i64 p):
  CallOK Tryz.prog 143 [.f (al n ds), .f (ai p), .f (ai k)] (fun r o=>r=[rb (!shortP n p k)]∧o=[]):=by
 refine zae zam mixed (T:=Ty) (n:=23) Tryz.func143 (c:=Tryz.f143.body.getD .skip) rfl Tryz.results143 Tryz.ntmps143 Tryz.call143 ?_
 simp only[Tryz.f143,Option.getD]
 cases h1:decide (p≥0)
 ·have hs:shortP n p k=true:=by unfold shortP;simp at h1⊢;omega
  rw[hs]
  repeat'(first|refine zq (I h1 @Bool.not_true) ?_|exact zd (I h1 @Bool.not_true)|(refine zaa ?_ ?_<;>intro hb)|(refine And.intro ?_ ?_;exact zI)|(refine And.intro ?_ ?_<;>intro hg)|exact zC|fail)
 ·cases h2:decide (p≤(n:Int))
  ·have hs:shortP n p k=true:=by unfold shortP;simp at h1 h2⊢;omega
   rw[hs]
   repeat'(first|refine zq (I h1 (I h2 @Bool.not_true)) ?_|exact zd (I h1 (I h2 @Bool.not_true))|(refine zaa ?_ ?_<;>intro hb)|(refine And.intro ?_ ?_;exact zI)|(refine And.intro ?_ ?_<;>intro hg)|exact zC|fail)
  ·have h3:IntKind.i64.wrap ((n:Int) - p)=(n:Int) - p:=by simp at h1 h2;exact wrap64 (by omega) (by omega)
   have hs:(!shortP n p k)=decide ((n:Int) - p≥k):=by
    simp at h1 h2
    unfold shortP
    rw[show decide (p<0)=false from by simp;omega,show decide (p>(n:Int))=false from by simp;omega]
    by_cases h:(n:Int) - p<k
    ·simp[h]
    ·simp[h];omega
   rw[hs]
   repeat'(first|refine zq (I h1 (I h2 h3)) ?_|exact zd (I h1 (I h2 h3))|(refine zaa ?_ ?_<;>intro hb)|(refine And.intro ?_ ?_;exact zI)|(refine And.intro ?_ ?_<;>intro hg)|exact zC|fail)
theorem ze9 (bs:List Int) (p:Int) (h:BsOk bs) (hp:i64 p):
  CallOK Tryz.prog 138 [.f (al bs.length (zab bs)), .f (ai p)] (fun r o=>r=[ri (zaQ bs p).1,ri (zaQ bs p).2.1,ri (zaQ bs p).2.2]∧o=[]):=by
 refine zae zam mixed (T:=Ty) (n:=18) Tryz.func138 (c:=Tryz.f138.body.getD .skip) rfl Tryz.results138 Tryz.ntmps138 Tryz.call138 ?_
 simp only[Tryz.f138,Option.getD]
 have hr:=zlZ bs.length (zab bs) p 1 h.l hp
 unfold zaQ
 cases hs:shortP bs.length p 1
 ·rw[hs]at hr
  obtain⟨g1,g2,g3⟩:=zb7 hs
  obtain⟨q,rfl⟩:=Int.eq_ofNat_of_zero_le g1
  have hq:q<bs.length:=by omega
  have hat:=zdK hq
  have hb:=zdo hq h.b
  unfold zbI at hb
  have hw:IntKind.i64.wrap (bs.getD q 0)=bs.getD q 0:=wrap64 (by omega) (by omega)
  have hw2:IntKind.i64.wrap ((q:Int)+1)=(q:Int)+1:=wrap64 (by omega) (by have:=h.l;omega)
  rw[if_neg (by simp),Int.toNat_natCast]
  repeat'(first|refine zq (I hat (I hw (I hw2 (I @zaA (I @Bool.not_false (I @Bool.not_true @Int.toNat_natCast)))))) ?_|exact zd (I hat (I hw (I hw2 (I @zaA (I @Bool.not_false (I @Bool.not_true @Int.toNat_natCast))))))|refine zc (hr) ?_|refine zg (hr) ?_|(refine zaa ?_ ?_<;>intro hb)|(refine And.intro ?_ ?_;exact zI)|(refine And.intro ?_ ?_<;>intro hg)|exact zC|fail)
 ·rw[hs]at hr
  rw[if_pos rfl]
  repeat'(first|refine zq (I @Bool.not_true @Bool.not_false) ?_|exact zd (I @Bool.not_true @Bool.not_false)|refine zc (hr) ?_|refine zg (hr) ?_|(refine zaa ?_ ?_<;>intro hb)|(refine And.intro ?_ ?_;exact zI)|(refine And.intro ?_ ?_<;>intro hg)|exact zC|fail)
theorem zmV:∀{l:List Int} {a:Int},(∀c∈l,zbI c)→a*256^l.length≤l.foldl (fun u c=>u*256+c) a
 |[],a,_=>by simp
 |c::l,a,h=>by
  have h2:=h c (by simp)
  unfold zbI at h2
  have h3:=zmV (l:=l) (a:=a*256+c) fun x hx=>h x (by simp[hx])
  refine Int.le_trans ?_ h3
  rw[List.length_cons,Int.pow_succ,Int.mul_comm (256^l.length) 256,←Int.mul_assoc]
  exact Int.mul_le_mul_of_nonneg_right (by omega) (Int.pow_nonneg (by decide))
theorem zpU {c:List Int} (h8:c.length=8) (h:∀x∈c,zbI x):decide (c.getD 0 0≥64)= !decide (zd4 c<4611686018427387904):=by
 match c,h8 with
 |a::l,h8=>
  have hl:l.length=7:=by simpa using h8
  have ha:=h a (by simp)
  unfold zbI at ha
  have h1:=zmV (l:=l) (a:=a) fun x hx=>h x (by simp[hx])
  have h2:=(ze6 (l:=l) (a:=a) ha.1 fun x hx=>h x (by simp[hx])).2
  have e:zd4 (a::l)=l.foldl (fun u c=>u*256+c) a:=by
   unfold zd4;rw[List.foldl_cons];congr 1;omega
  rw[hl]at h1 h2
  rw[e]
  simp only[List.getD_cons_zero]
  have h7:(256:Int)^7=72057594037927936:=by decide
  rw[h7]at h1 h2
  by_cases hc:a≥64
  ·have:¬l.foldl (fun u c=>u*256+c) a<4611686018427387904:=by omega
   simp[hc,this]
  ·have:l.foldl (fun u c=>u*256+c) a<4611686018427387904:=by omega
   simp[hc,this]
end Go.Proofs.YtbpmcjeeeiffhaaGreat
