import Derived.Test.YtbpmcjeeeiffhaaGreatW1
namespace Go.Proofs.YtbpmcjeeeiffhaaGreat
open Go.Pk
set_option maxRecDepth 100000
set_option linter.unusedSimpArgs false
set_option linter.unusedVariables false
theorem ztb {u c:Int} (hu:0≤u∧u<18014398509481984) (hc:0≤c∧c≤255):
  IntKind.i64.wrap (BitVec.ofInt IntKind.i64.bits (u*256)|||BitVec.ofInt IntKind.i64.bits c).toNat=u*256+c:=by
 have h:=zr3 (u:=u) (c:=c) ⟨hu.1,by omega⟩ hc
 have e1:(BitVec.ofInt IntKind.u64.bits (u*256)|||BitVec.ofInt IntKind.u64.bits c).toNat<2^64:=(BitVec.ofInt IntKind.u64.bits (u*256)|||BitVec.ofInt IntKind.u64.bits c).isLt
 have hb:IntKind.i64.bits=IntKind.u64.bits:=rfl
 rw[hb]
 generalize (BitVec.ofInt IntKind.u64.bits (u*256)|||BitVec.ofInt IntKind.u64.bits c).toNat=x at*
 rw[zre (by omega) (by omega)]at h
 rw[h]
 exact wrap64 (by omega) (by omega)
theorem ztc {c:List Int} (h8:c.length=8) (h:∀x∈c,zbI x) (h0:c.getD 0 0<64) {i:Nat} (hi:i<8):zd4 (c.take i)<18014398509481984:=by
 match c,h8 with
 |a::l,h8=>
  have ha:=h a (by simp)
  unfold zbI at ha
  simp only[List.getD_cons_zero]at h0
  cases i with
  |zero=>rw[List.take_zero];decide
  |succ i=>
   rw[List.take_succ_cons]
   have h2:=(ze6 (l:=l.take i) (a:=a) ha.1 fun x hx=>h x (by simp[List.mem_of_mem_take hx])).2
   have e:zd4 (a::l.take i)=(l.take i).foldl (fun u c=>u*256+c) a:=by
    unfold zd4;rw[List.foldl_cons];congr 1;omega
   rw[e]
   refine Int.lt_of_lt_of_le h2 ?_
   have hl:(l.take i).length≤6:=by rw[List.length_take];omega
   have hp:(256:Int)^(l.take i).length≤281474976710656:=by
    rcases(show(l.take i).length=0∨(l.take i).length=1∨(l.take i).length=2∨(l.take i).length=3∨(l.take i).length=4∨(l.take i).length=5∨(l.take i).length=6 by omega)with h|h|h|h|h|h|h<;>rw[h]<;>decide
   have hq:(0:Int)≤256^(l.take i).length:=Int.pow_nonneg (by decide)
   calc (a+1)*256^(l.take i).length≤64*256^(l.take i).length:=Int.mul_le_mul_of_nonneg_right (by omega) hq
    _≤18014398509481984:=by omega
set_option maxHeartbeats 1000000 in
theorem zhi (bs:List Int) (p:Int) (h:BsOk bs) (hp:i64 p):
  CallOK Tryz.prog 94 [.f (al bs.length (zab bs)), .f (ai p)] (fun r o=>r=[ri (zcz bs p).1,ri (zcz bs p).2.1,ri (zcz bs p).2.2]∧o=[]):=by
 refine zae zam mixed (T:=Ty) (n:=35) Tryz.func94 (c:=Tryz.f94.body.getD .skip) rfl Tryz.results94 Tryz.ntmps94 Tryz.call94 ?_
 simp only[Tryz.f94,Option.getD]
 have hr:=zlZ bs.length (zab bs) p 8 h.l hp
 unfold zcz
 cases hs:shortP bs.length p 8
 ·rw[hs]at hr
  obtain⟨g1,g2,g3⟩:=zb7 hs
  obtain⟨q,rfl⟩:=Int.eq_ofNat_of_zero_le g1
  have hq:q+8≤bs.length:=by omega
  have hat:=zdK (l:=bs) (i:=q) (by omega)
  rw[if_neg (by simp),Int.toNat_natCast]
  obtain⟨c,hc⟩:∃c,c=(bs.drop q).take 8:=⟨_,rfl⟩
  have hc8:c.length=8:=by rw[hc,List.length_take,List.length_drop];omega
  have hcb:∀x∈c,zbI x:=fun x hx=>by rw[hc]at hx;exact h.b x (List.mem_of_mem_drop (List.mem_of_mem_take hx))
  have hcd:∀i,i<8→bs.getD (q+i) 0=c.getD i 0:=fun i hi=>by
   rw[hc,List.getD_eq_getElem?_getD,List.getD_eq_getElem?_getD,List.getElem?_take,if_pos hi,List.getElem?_drop]
  have hfi:=zpU hc8 hcb
  have h0:=hcd 0 (by omega)
  rw[Nat.add_zero]at h0
  rw[←hc]
  have hbl:=h.l
  have w9:IntKind.i64.wrap ((q:Int)+8)=(q:Int)+8:=wrap64 (by omega) (by omega)
  cases hlt:decide (zd4 c<4611686018427387904)
  ·rw[hlt]at hfi
   have hfi:decide (c.getD 0 0≥64)=true:=hfi
   rw[if_neg (by simpa using hlt)]
   repeat'(first|refine zq (I hat (I h0 (I hfi (I @zaA (I @Bool.not_false (I @Bool.not_true @Int.toNat_natCast)))))) ?_|exact zd (I hat (I h0 (I hfi (I @zaA (I @Bool.not_false (I @Bool.not_true @Int.toNat_natCast))))))|refine zc (hr) ?_|refine zg (hr) ?_|(refine zaa ?_ ?_<;>intro hb)|(refine And.intro ?_ ?_;exact zI)|(refine And.intro ?_ ?_<;>intro hg)|exact zC|fail)
  ·rw[hlt]at hfi
   have hfi:decide (c.getD 0 0≥64)=false:=hfi
   rw[if_pos (by simpa using hlt)]
   repeat'(first|refine zq (I hat (I h0 (I hfi (I @zaA (I @Bool.not_false (I @Bool.not_true @Int.toNat_natCast)))))) ?_|exact zd (I hat (I h0 (I hfi (I @zaA (I @Bool.not_false (I @Bool.not_true @Int.toNat_natCast))))))|refine zc (hr) ?_|refine zg (hr) ?_|(refine zaa ?_ ?_<;>intro hb)|(refine And.intro ?_ ?_;exact zI)|(refine And.intro ?_ ?_<;>intro hg)|exact zC|fail)
   have hc64:c.getD 0 0<64:=by have:=of_decide_eq_false hfi;omega
   refine zfV Ty Tryz.prog (τ:=Nat) (fun i=>⟨[al bs.length (zab bs),ai q,dd,dd,dd,dd,dd,ai (zd4 (c.take i)),ai i,dd,dd,dd,dd,dd,dd,dd,dd,dd,dd,dd,dd,dd,dd,dd,dd,dd,dd,dd,dd,dd,dd,dd,dd,dd,dd],[]⟩)
    (fun i=>i≤8) (fun i=>8 - i) 0 (Gh.canon [] [] [] zK rfl rfl) (Nat.zero_le _) ?_
   intro i hi0 K hK
   refine zw ?_
   refine zaa (fun hlt2=> ?_) (fun hge=> ?_)
   ·have hi:i<8:=by simp at hlt2;omega
    have hi2:i<c.length:=by omega
    have hat2:=zdK (l:=bs) (i:=q+i) (by omega)
    rw[hcd i hi]at hat2
    have hw:=zai (i:=i) (n:=8) hi (by omega)
    have hx:=zdo hi2 hcb
    unfold zbI at hx
    have hbi:=(zgz (l:=c.take i) fun x hx=>hcb x (List.mem_of_mem_take hx)).1
    have hpr:=ztc hc8 hcb hc64 hi
    have w0:IntKind.i64.wrap ((q:Int)+i)=((q+i:Nat):Int):=by rw[wrap64 (by omega) (by omega)];omega
    have w1:min (Int.toNat 8) IntKind.i64.bits=8:=by decide
    have w2:IntKind.i64.wrap (zd4 (c.take i)*2^8)=zd4 (c.take i)*256:=wrap64 (by omega) (by omega)
    have w3:IntKind.i64.wrap (c.getD i 0)=c.getD i 0:=wrap64 (by omega) (by omega)
    have w4:=ztb (u:=zd4 (c.take i)) (c:=c.getD i 0) ⟨hbi,hpr⟩ ⟨hx.1,by omega⟩
    have w5:=zk6 hi2
    have w6:¬((8:Int)<0):=by decide
    repeat'(first|(with_reducible first|refine zac _ _ ?_|refine zaD ?_|refine zaE ?_)|rw[zay]|simp only[hat2,zaA,w0,w1,w2,w3,w4,if_neg w6,Int.toNat_natCast,zY,Int.reduceEq,Int.reduceBEq,Int.reduceBNe,Nat.reduceSub,Nat.reduceEqDiff,Nat.reduceAdd,Nat.reduceMul,Nat.reduceLeDiff,Nat.reduceLT,Nat.reduceBEq,reduceCtorEq]|refine zat ?_|refine zaa (fun hb=> ?_) (fun hb=> ?_)|(refine And.intro ?_ ?_;exact zI)|refine And.intro (fun hg=> ?_) (fun hg=> ?_)|exact zC|fail)
    exact hK _ (i+1) (Gh.canon [] [] [] (zk (I hw w5)) rfl rfl) hi (by omega)
   ·have hi:i=8:=by
     have:¬(i:Int)<8:=by simpa using hge
     omega
    subst hi
    have ht:c.take 8=c:=List.take_of_length_le (by omega)
    repeat'(first|refine zq (I ht w9) ?_|exact zd (I ht w9)|(refine zaa ?_ ?_<;>intro hb)|(refine And.intro ?_ ?_;exact zI)|(refine And.intro ?_ ?_<;>intro hg)|exact zC|fail)
 ·rw[hs]at hr
  rw[if_pos rfl]
  repeat'(first|refine zq (I @Bool.not_true @Bool.not_false) ?_|exact zd (I @Bool.not_true @Bool.not_false)|refine zc (hr) ?_|refine zg (hr) ?_|(refine zaa ?_ ?_<;>intro hb)|(refine And.intro ?_ ?_;exact zI)|(refine And.intro ?_ ?_<;>intro hg)|exact zC|fail)
theorem zli (bs:List Int) (p:Int) (h:BsOk bs) (hp:i64 p):
  CallOK Tryz.prog 139 [.f (al bs.length (zab bs)), .f (ai p), .f (ai 12)] (fun r o=>r=[.one (.d (sD (zbf bs p 12).1)),ri (zbf bs p 12).2.1,ri (zbf bs p 12).2.2]∧o=[]):=by
 refine zae zam mixed (T:=Ty) (n:=40) Tryz.func139 (c:=Tryz.f139.body.getD .skip) rfl Tryz.results139 Tryz.ntmps139 Tryz.call139 ?_
 simp only[Tryz.f139,Option.getD]
 have hb:=ze9 bs p h hp
 have hbl:=h.l
 unfold zbf
 unfold zaQ at hb
 cases hs:shortP bs.length p 1
 ·rw[hs,if_neg (by simp)]at hb
  rw[if_neg (by simp)]
  obtain⟨g1,g2,g3⟩:=zb7 hs
  obtain⟨q,rfl⟩:=Int.eq_ofNat_of_zero_le g1
  have hx:=zdo (l:=bs) (i:=q) (by omega) h.b
  unfold zbI at hx
  rw[Int.toNat_natCast]at*
  have hr:=zlZ bs.length (zab bs) ((q:Int)+1) (bs.getD q 0) h.l (by unfold i64;omega)
  cases hm:decide (bs.getD q 0>12)
  ·rw[if_neg (by simpa using hm)]
   cases hs2:shortP bs.length ((q:Int)+1) (bs.getD q 0)
   ·rw[hs2]at hr
    rw[if_neg (by simp)]
    obtain⟨k1,k2,k3⟩:=zb7 hs2
    obtain⟨x,hxe⟩:=Int.eq_ofNat_of_zero_le hx.1
    simp only[hxe]at hr hm hx k3 hb⊢
    have w1:IntKind.i64.wrap ((q:Int)+1+(x:Int))=((q+1+x:Nat):Int):=by rw[wrap64 (by omega) (by omega)];omega
    have hq1:((q:Int)+1)=((q+1:Nat):Int):=by omega
    have hsub:q+1+x - (q+1)=x:=by omega
    have hbo:bytesOf (((zab bs).drop (q+1)).take x)=some ((((bs.drop (q+1)).take x)).map fun n=>UInt8.ofNat n.toNat):=by
     rw[←List.map_drop,←List.map_take];exact zb8 _
    have hln:(((zab bs).drop (q+1)).take x).length=x:=by rw[List.length_take,List.length_drop,zaA];omega
    simp only[hq1]at hr hb k1 k2 k3 w1⊢
    simp only[Int.toNat_natCast]
    repeat'(first|refine zq (I hm (I w1 (I hsub (I hbo (I hln (I @zaA (I @Bool.not_false (I @Bool.not_true @Int.toNat_natCast)))))))) ?_|exact zd (I hm (I w1 (I hsub (I hbo (I hln (I @zaA (I @Bool.not_false (I @Bool.not_true @Int.toNat_natCast))))))))|refine zc (hb) ?_|refine zg (hb) ?_|refine zc (hr) ?_|refine zg (hr) ?_|(refine zaa ?_ ?_<;>intro hb)|(refine And.intro ?_ ?_;exact zI)|(refine And.intro ?_ ?_<;>intro hg)|exact zC|fail)
    rfl
   ·rw[hs2]at hr
    rw[if_pos rfl]
    repeat'(first|refine zq (I hm (I @Bool.not_false @Bool.not_true)) ?_|exact zd (I hm (I @Bool.not_false @Bool.not_true))|refine zc (hb) ?_|refine zg (hb) ?_|refine zc (hr) ?_|refine zg (hr) ?_|(refine zaa ?_ ?_<;>intro hb)|(refine And.intro ?_ ?_;exact zI)|(refine And.intro ?_ ?_<;>intro hg)|exact zC|fail)
    rfl
  ·rw[if_pos (by simpa using hm)]
   repeat'(first|refine zq hm ?_|exact zd hm|refine zc (hb) ?_|refine zg (hb) ?_|(refine zaa ?_ ?_<;>intro hb)|(refine And.intro ?_ ?_;exact zI)|(refine And.intro ?_ ?_<;>intro hg)|exact zC|fail)
   rfl
 ·rw[hs,if_pos rfl]at hb
  rw[if_pos rfl]
  repeat'(first|refine zq0 ?_|exact zd0|refine zc (hb) ?_|refine zg (hb) ?_|(refine zaa ?_ ?_<;>intro hb)|(refine And.intro ?_ ?_;exact zI)|(refine And.intro ?_ ?_<;>intro hg)|exact zC|fail)
  rfl
set_option maxHeartbeats 4000000 in
theorem zlh (bs:List Int) (p:Int) (h:BsOk bs) (hp:i64 p):
  CallOK Tryz.prog 140 [.f (al bs.length (zab bs)), .f (ai p)] (fun r o=>r=[zps (zcQ bs p).1,ri (zcQ bs p).2.1,ri (zcQ bs p).2.2]∧o=[]):=by
 refine CallOK.nil ?_
 refine zae zam mixed (T:=Ty) (n:=113) Tryz.func140 (c:=Tryz.f140.body.getD .skip) rfl Tryz.results140 Tryz.ntmps140 Tryz.call140 ?_
 simp only[Tryz.f140,Option.getD]
 have hl:=h.l
 have h1:=ze9 bs p h hp
 have h2:=zhi bs (zaQ bs p).2.1 h (zbV h.l zbG)
 have h3:=ze9 bs (zcz bs (zaQ bs p).2.1).2.1 h (zbV h.l zcx)
 have h4:=ze9 bs (zaQ bs (zcz bs (zaQ bs p).2.1).2.1).2.1 h (zbV h.l zbG)
 unfold zcQ
 simp only
 obtain⟨b,hb⟩:∃b,b=zaQ bs p:=⟨_,rfl⟩
 rw[←hb]at h1 h2 h3 h4⊢
 obtain⟨s,hs⟩:∃s,s=zcz bs b.2.1:=⟨_,rfl⟩
 rw[←hs]at h2 h3 h4⊢
 obtain⟨a,ha⟩:∃a,a=zaQ bs s.2.1:=⟨_,rfl⟩
 rw[←ha]at h3 h4⊢
 obtain⟨n,hn⟩:∃n,n=zaQ bs a.2.1:=⟨_,rfl⟩
 rw[←hn]at h4⊢
 have hnv:zbI n.1:=by rw[hn];exact zdJ h
 have hnn:i64 n.2.1:=by rw[hn];exact zbV h.l zbG
 have hbv:zbI b.1:=by rw[hb];exact zdJ h
 unfold zbI at hnv hbv
 cases e1:(b.2.2 !=0)
 case true=>
  rw[if_pos (by simpa using e1)]
  repeat'(first|refine zq e1 ?_|exact zd e1|refine zc (h1) ?_|refine zg (h1) ?_|(refine zaa ?_ ?_<;>intro hb)|(refine And.intro ?_ ?_;exact zI)|(refine And.intro ?_ ?_<;>intro hg)|exact zC|fail)
  show(zar _ _∧zar _ _∧zar _ _∧zar _ _∧True)∧zar _ _∧zar _ _∧True
  simp[zar]
 rw[if_neg (by simpa using e1)]
 cases e2:(s.2.2 !=0)
 case true=>
  rw[if_pos (by simpa using e2)]
  repeat'(first|refine zq (I e1 e2) ?_|exact zd (I e1 e2)|refine zc (h1) ?_|refine zg (h1) ?_|refine zc (h2) ?_|refine zg (h2) ?_|(refine zaa ?_ ?_<;>intro hb)|(refine And.intro ?_ ?_;exact zI)|(refine And.intro ?_ ?_<;>intro hg)|exact zC|fail)
  show(zar _ _∧zar _ _∧zar _ _∧zar _ _∧True)∧zar _ _∧zar _ _∧True
  simp[zar]
 rw[if_neg (by simpa using e2)]
 cases e3:(a.2.2 !=0)
 case true=>
  rw[if_pos (by simpa using e3)]
  repeat'(first|refine zq (I e1 (I e2 e3)) ?_|exact zd (I e1 (I e2 e3))|refine zc (h1) ?_|refine zg (h1) ?_|refine zc (h2) ?_|refine zg (h2) ?_|refine zc (h3) ?_|refine zg (h3) ?_|(refine zaa ?_ ?_<;>intro hb)|(refine And.intro ?_ ?_;exact zI)|(refine And.intro ?_ ?_<;>intro hg)|exact zC|fail)
  show(zar _ _∧zar _ _∧zar _ _∧zar _ _∧True)∧zar _ _∧zar _ _∧True
  simp[zar]
 rw[if_neg (by simpa using e3)]
 cases e4:(n.2.2 !=0)
 case true=>
  rw[if_pos (by simpa using e4)]
  repeat'(first|refine zq (I e1 (I e2 (I e3 e4))) ?_|exact zd (I e1 (I e2 (I e3 e4)))|refine zc (h1) ?_|refine zg (h1) ?_|refine zc (h2) ?_|refine zg (h2) ?_|refine zc (h3) ?_|refine zg (h3) ?_|refine zc (h4) ?_|refine zg (h4) ?_|(refine zaa ?_ ?_<;>intro hb)|(refine And.intro ?_ ?_;exact zI)|(refine And.intro ?_ ?_<;>intro hg)|exact zC|fail)
  show(zar _ _∧zar _ _∧zar _ _∧zar _ _∧True)∧zar _ _∧zar _ _∧True
  simp[zar]
 rw[if_neg (by simpa using e4)]
 cases e5:decide (n.1>4)
 case true=>
  rw[if_pos (by simpa using e5)]
  repeat'(first|refine zq (I e1 (I e2 (I e3 (I e4 e5)))) ?_|exact zd (I e1 (I e2 (I e3 (I e4 e5))))|refine zc (h1) ?_|refine zg (h1) ?_|refine zc (h2) ?_|refine zg (h2) ?_|refine zc (h3) ?_|refine zg (h3) ?_|refine zc (h4) ?_|refine zg (h4) ?_|(refine zaa ?_ ?_<;>intro hb)|(refine And.intro ?_ ?_;exact zI)|(refine And.intro ?_ ?_<;>intro hg)|exact zC|fail)
  show(zar _ _∧zar _ _∧zar _ _∧zar _ _∧True)∧zar _ _∧zar _ _∧True
  simp[zar]
 rw[if_neg (by simpa using e5)]
 have hn4:n.1≤4:=by simpa using e5
 have hgk:=ze3 (bs:=bs) (n:=n.1.toNat) (p:=n.2.1) (acc:=[]) (by simp)
 obtain⟨g,hg⟩:∃g,g=zbl bs n.1.toNat n.2.1 []:=⟨_,rfl⟩
 rw[←hg]at hgk⊢
 have h6:=zdl ⟨b.1,s.1,a.1,g.1⟩ ⟨by have:=hgk.1;simp only[List.length_nil]at this;simp only;omega,fun x hx=>by have:=hgk.2 x hx;omega⟩
 clear hgk
 repeat'(first|refine zq (I e1 (I e2 (I e3 (I e4 e5)))) ?_|exact zd (I e1 (I e2 (I e3 (I e4 e5))))|refine zc (h1) ?_|refine zg (h1) ?_|refine zc (h2) ?_|refine zg (h2) ?_|refine zc (h3) ?_|refine zg (h3) ?_|refine zc (h4) ?_|refine zg (h4) ?_|(refine zaa ?_ ?_<;>intro hb)|(refine And.intro ?_ ?_;exact zI)|(refine And.intro ?_ ?_<;>intro hg)|exact zC|fail)
 refine zah (τ:=Nat×Int×List Grant) (fun t=>⟨[al bs.length (zab bs),ai t.2.1,dd,dd, .one (.ptr ⟨4,0,1⟩ 0),dd,dd,dd,dd,dd,dd,ai n.1, .one (.ptr ⟨12,0,1⟩ 0),ai t.1,dd,dd,dd,dd,dd,dd,dd,dd,dd,dd,dd,dd,dd,dd,dd,dd,dd,dd,dd,dd,dd,dd,dd,dd,dd,dd,dd,dd,dd,dd,dd,dd,dd,dd,dd,dd,dd,dd,dd,dd,dd,dd,dd,dd,dd,dd,dd,dd,dd,dd,dd,dd,dd,dd,dd,dd,dd,dd,dd,dd,dd,dd,dd,dd,dd,dd,dd,dd,dd,dd,dd,dd,dd,dd,dd,dd,dd,dd,dd,dd,dd,dd,dd,dd,dd,dd,dd,dd,dd,dd,dd,dd,dd,dd,dd,dd,dd,dd,dd],[(4,{next:=2,l:=[some {e:=1,var:=true,fz:=false,sz:=0,cells:=[di 0,di 0,di 0, .d (.v (.slice none 0 0))]},none,none,none,none]}),(12,{next:=2,l:=[some {e:=1,var:=true,fz:=false,sz:=0,cells:=[di b.1,di s.1,di a.1, .own ⟨12,4,1⟩ 0 t.2.2.length]},none,none,none,some {e:=1,var:=false,fz:=false,sz:=2,cells:=(zaO t.2.2).map C.d}]}),(103,⟨2,[]⟩),(104,⟨2,[]⟩)]⟩)
  (fun t=>t.1≤n.1.toNat∧i64 t.2.1∧t.2.2.length=t.1) (fun t=>zbl bs (n.1.toNat - t.1) t.2.1 t.2.2) (fun t=>n.1.toNat - t.1) (0,n.2.1,[])
  ((Gh.nilF 12 3 2 rfl).trans (Gh.canon [4,12] [103,104] [] zK rfl rfl)) ⟨Nat.zero_le _,hnn,rfl⟩ ?_
 intro⟨i,q,acc⟩ ⟨hi0,hq,hac⟩ hF K hK
 simp only[Nat.sub_zero]at hi0 hq hac hF hK⊢
 rw[←hg]at hF
 refine zw ?_
 refine zaa (fun hlt=> ?_) (fun hge=> ?_)
 ·have hi:i<n.1.toNat:=by simp at hlt;omega
  have hw:=zai hi (by omega)
  have ht:=zli bs q h hq
  have hm:=zhi bs (zbf bs q 12).2.1 h (zbV h.l (ze5 h))
  have hst:n.1.toNat - i=(n.1.toNat - (i+1))+1:=by omega
  have hF2:=hF
  rw[hst,zbl]at hF2
  cases g1:((zbf bs q 12).2.2 !=0)
  ·have g1':(zbf bs q 12).2.2=0:=by simpa using g1
   rw[if_neg (by simp[g1'])]at hF2
   cases g2:((zcz bs (zbf bs q 12).2.1).2.2 !=0)
   ·have g2':(zcz bs (zbf bs q 12).2.1).2.2=0:=by simpa using g2
    rw[if_neg (by simp[g2'])]at hF2
    repeat'(first|refine zq (I g1 (I g2 @zaw)) ?_|exact zd (I g1 (I g2 @zaw))|refine zc (ht) ?_|refine zg (ht) ?_|refine zc (hm) ?_|refine zg (hm) ?_|(refine zaa ?_ ?_<;>intro hb)|(refine And.intro ?_ ?_;exact zI)|(refine And.intro ?_ ?_<;>intro hg)|exact zC|fail)
    refine hK _ (i+1,(zcz bs (zbf bs q 12).2.1).2.1,acc++[⟨(zbf bs q 12).1,(zcz bs (zbf bs q 12).2.1).1⟩]) (Gh.canon [4,12] [] [] (zk (I hw (I @List.length_append.{0} @List.length_singleton.{0}))) rfl (by simp only[List.length_append,List.length_singleton];rw[zgG];rfl)) ⟨hi,zbV h.l zcx,by simp only[List.length_append,List.length_singleton];omega⟩ ?_ (by simp only;omega)
    simp only
    rw[hF2,hF]
   ·have g2':(zcz bs (zbf bs q 12).2.1).2.2≠0:=by simpa using g2
    rw[if_pos g2']at hF2
    rw[←hF2,if_pos g2']
    repeat'(first|refine zq (I g1 g2) ?_|exact zd (I g1 g2)|refine zc (ht) ?_|refine zg (ht) ?_|refine zc (hm) ?_|refine zg (hm) ?_|(refine zaa ?_ ?_<;>intro hb)|(refine And.intro ?_ ?_;exact zI)|(refine And.intro ?_ ?_<;>intro hg)|exact zC|fail)
    show(zar _ _∧zar _ _∧zar _ _∧zar _ _∧True)∧zar _ _∧zar _ _∧True
    simp[zar]
  ·have g1':(zbf bs q 12).2.2≠0:=by simpa using g1
   rw[if_pos g1']at hF2
   rw[←hF2,if_pos g1']
   repeat'(first|refine zq g1 ?_|exact zd g1|refine zc (ht) ?_|refine zg (ht) ?_|(refine zaa ?_ ?_<;>intro hb)|(refine And.intro ?_ ?_;exact zI)|(refine And.intro ?_ ?_<;>intro hg)|exact zC|fail)
   show(zar _ _∧zar _ _∧zar _ _∧zar _ _∧True)∧zar _ _∧zar _ _∧True
   simp[zar]
 ·have hi:i=n.1.toNat:=by
   have:¬(i:Int)<n.1:=by simpa using hge
   omega
  rw[hi,Nat.sub_self,zbl]at hF
  rw[←hF]at h6⊢
  rw[if_neg (by simp)]
  cases e7:zbz ⟨b.1,s.1,a.1,acc⟩
  ·rw[e7]at h6
   rw[if_pos rfl]
   repeat'(first|refine zq @zcE ?_|exact zd @zcE|refine zc (h6) ?_|refine zg (h6) ?_|(refine zaa ?_ ?_<;>intro hb)|(refine And.intro ?_ ?_;exact zI)|(refine And.intro ?_ ?_<;>intro hg)|exact zC|fail)
   show(zar _ _∧zar _ _∧zar _ _∧zar _ _∧True)∧zar _ _∧zar _ _∧True
   simp[zar]
  ·rw[e7]at h6
   rw[if_neg (by simp)]
   repeat'(first|refine zq @zcE ?_|exact zd @zcE|refine zc (h6) ?_|refine zg (h6) ?_|(refine zaa ?_ ?_<;>intro hb)|(refine And.intro ?_ ?_;exact zI)|(refine And.intro ?_ ?_<;>intro hg)|exact zC|fail)
   show(zar _ _∧zar _ _∧zar _ _∧zar _ _∧True)∧zar _ _∧zar _ _∧True
   simp[zar, -List.length_flatMap,zaw]
set_option maxHeartbeats 1000000 in
theorem zjZ (bs:List Int) (p:Int) (h:BsOk bs) (hp:i64 p):
  CallOK Tryz.prog 91 [.f (al bs.length (zab bs)), .f (ai p)] (fun r o=>r=[zpD (zaR bs p).1,ri (zaR bs p).2.1,ri (zaR bs p).2.2]∧o=[]):=by
 refine CallOK.nil ?_
 refine zae zam mixed (T:=Ty) (n:=55) Tryz.func91 (c:=Tryz.f91.body.getD .skip) rfl Tryz.results91 Tryz.ntmps91 Tryz.call91 ?_
 simp only[Tryz.f91,Option.getD]
 have h1:=ze9 bs p h hp
 have h2:=zhi bs (zaQ bs p).2.1 h (zbV h.l zbG)
 have h3:=zlh bs (zcz bs (zaQ bs p).2.1).2.1 h (zbV h.l zcx)
 have hf:=(zcR h (p:=(zcz bs (zaQ bs p).2.1).2.1)).2
 unfold zaR
 simp only
 obtain⟨b,hb⟩:∃b,b=zaQ bs p:=⟨_,rfl⟩
 rw[←hb]at h1 h2 h3 hf⊢
 obtain⟨s,hs⟩:∃s,s=zcz bs b.2.1:=⟨_,rfl⟩
 rw[←hs]at h2 h3 hf⊢
 obtain⟨a,ha⟩:∃a,a=zcQ bs s.2.1:=⟨_,rfl⟩
 rw[←ha]at h3 hf⊢
 have h4:=zdS ⟨b.1,s.1,a.1⟩ hf
 cases e1:(b.2.2 !=0)
 ·rw[if_neg (by simpa using e1)]
  cases e2:(s.2.2 !=0)
  ·rw[if_neg (by simpa using e2)]
   cases e3:(a.2.2 !=0)
   ·rw[if_neg (by simpa using e3)]
    cases e7:answerB ⟨b.1,s.1,a.1⟩
    ·rw[e7]at h4
     rw[if_pos rfl]
     repeat'(first|refine zq (I e1 (I e2 e3)) ?_|exact zd (I e1 (I e2 e3))|refine zc (h1) ?_|refine zg (h1) ?_|refine zc (h2) ?_|refine zg (h2) ?_|refine zc (h3) ?_|refine zg (h3) ?_|refine zc (h4) ?_|refine zg (h4) ?_|(refine zaa ?_ ?_<;>intro hb)|(refine And.intro ?_ ?_;exact zI)|(refine And.intro ?_ ?_<;>intro hg)|exact zC|fail)
     show(zar _ _∧zar _ _∧zar _ _∧zar _ _∧zar _ _∧zar _ _∧True)∧zar _ _∧zar _ _∧True
     simp[zar]
    ·rw[e7]at h4
     rw[if_neg (by simp)]
     repeat'(first|refine zq (I e1 (I e2 e3)) ?_|exact zd (I e1 (I e2 e3))|refine zc (h1) ?_|refine zg (h1) ?_|refine zc (h2) ?_|refine zg (h2) ?_|refine zc (h3) ?_|refine zg (h3) ?_|refine zc (h4) ?_|refine zg (h4) ?_|(refine zaa ?_ ?_<;>intro hb)|(refine And.intro ?_ ?_;exact zI)|(refine And.intro ?_ ?_<;>intro hg)|exact zC|fail)
     show(zar _ _∧zar _ _∧zar _ _∧zar _ _∧zar _ _∧zar _ _∧True)∧zar _ _∧zar _ _∧True
     simp[zar]
   ·rw[if_pos (by simpa using e3)]
    repeat'(first|refine zq (I e1 (I e2 e3)) ?_|exact zd (I e1 (I e2 e3))|refine zc (h1) ?_|refine zg (h1) ?_|refine zc (h2) ?_|refine zg (h2) ?_|refine zc (h3) ?_|refine zg (h3) ?_|(refine zaa ?_ ?_<;>intro hb)|(refine And.intro ?_ ?_;exact zI)|(refine And.intro ?_ ?_<;>intro hg)|exact zC|fail)
    show(zar _ _∧zar _ _∧zar _ _∧zar _ _∧zar _ _∧zar _ _∧True)∧zar _ _∧zar _ _∧True
    simp[zar]
  ·rw[if_pos (by simpa using e2)]
   repeat'(first|refine zq (I e1 e2) ?_|exact zd (I e1 e2)|refine zc (h1) ?_|refine zg (h1) ?_|refine zc (h2) ?_|refine zg (h2) ?_|(refine zaa ?_ ?_<;>intro hb)|(refine And.intro ?_ ?_;exact zI)|(refine And.intro ?_ ?_<;>intro hg)|exact zC|fail)
   show(zar _ _∧zar _ _∧zar _ _∧zar _ _∧zar _ _∧zar _ _∧True)∧zar _ _∧zar _ _∧True
   simp[zar]
 ·rw[if_pos (by simpa using e1)]
  repeat'(first|refine zq e1 ?_|exact zd e1|refine zc (h1) ?_|refine zg (h1) ?_|(refine zaa ?_ ?_<;>intro hb)|(refine And.intro ?_ ?_;exact zI)|(refine And.intro ?_ ?_<;>intro hg)|exact zC|fail)
  show(zar _ _∧zar _ _∧zar _ _∧zar _ _∧zar _ _∧zar _ _∧True)∧zar _ _∧zar _ _∧True
  simp[zar]
abbrev rdE (bs:List Int) (p e:Int):List RO:=[.d (.sl bs.length (zab bs)), .d (iD p), .d (iD e)]
def zb9 (bs:List Int) (p e:Int):Int×Int×Int:=if e≠0 then(0,p,e)else zcz bs p
def zbi (bs:List Int) (p e:Int):Int×Int×Int:=if e≠0 then(0,p,e)else zaQ bs p
def zcV (bs:List Int) (p e:Int):ByteArray×Int×Int:=if e≠0 then(.empty,p,e)else zbf bs p 12
def zbh (bs:List Int) (p e most:Int):Int×Int×Int:=
 if(zbi bs p e).2.2≠0 then(0,(zbi bs p e).2.1,(zbi bs p e).2.2)else
 if(zbi bs p e).1>most then(0,(zbi bs p e).2.1,4)else zbi bs p e
theorem zd1 (bs:List Int) (p e:Int) (h:BsOk bs) (hp:i64 p):
  CallOK Tryz.prog 43 [.obj (rdE bs p e)] (fun r o=>r=[ri (zb9 bs p e).1]∧o=[rdE bs (zb9 bs p e).2.1 (zb9 bs p e).2.2]):=by
 refine zae zam mixed (T:=Ty) (n:=33) Tryz.func43 (c:=Tryz.f43.body.getD .skip) rfl Tryz.results43 Tryz.ntmps43 Tryz.call43 ?_
 simp only[Tryz.f43,Option.getD]
 have h1:=zhi bs p h hp
 unfold zb9
 cases he:(e !=0)
 ·rw[if_neg (by simpa using he)]
  repeat'(first|refine zq he ?_|exact zd he|refine zc (h1) ?_|refine zg (h1) ?_|(refine zaa ?_ ?_<;>intro hb)|(refine And.intro ?_ ?_;exact zI)|(refine And.intro ?_ ?_<;>intro hg)|exact zC|fail)
 ·rw[if_pos (by simpa using he)]
  repeat'(first|refine zq he ?_|exact zd he|(refine zaa ?_ ?_<;>intro hb)|(refine And.intro ?_ ?_;exact zI)|(refine And.intro ?_ ?_<;>intro hg)|exact zC|fail)
theorem zhh (bs:List Int) (p e:Int) (h:BsOk bs) (hp:i64 p):
  CallOK Tryz.prog 89 [.obj (rdE bs p e)] (fun r o=>r=[ri (zbi bs p e).1]∧o=[rdE bs (zbi bs p e).2.1 (zbi bs p e).2.2]):=by
 refine zae zam mixed (T:=Ty) (n:=33) Tryz.func89 (c:=Tryz.f89.body.getD .skip) rfl Tryz.results89 Tryz.ntmps89 Tryz.call89 ?_
 simp only[Tryz.f89,Option.getD]
 have h1:=ze9 bs p h hp
 unfold zbi
 cases he:(e !=0)
 ·rw[if_neg (by simpa using he)]
  repeat'(first|refine zq he ?_|exact zd he|refine zc (h1) ?_|refine zg (h1) ?_|(refine zaa ?_ ?_<;>intro hb)|(refine And.intro ?_ ?_;exact zI)|(refine And.intro ?_ ?_<;>intro hg)|exact zC|fail)
 ·rw[if_pos (by simpa using he)]
  repeat'(first|refine zq he ?_|exact zd he|(refine zaa ?_ ?_<;>intro hb)|(refine And.intro ?_ ?_;exact zI)|(refine And.intro ?_ ?_<;>intro hg)|exact zC|fail)
theorem zrm (bs:List Int) (p e:Int) (h:BsOk bs) (hp:i64 p):
  CallOK Tryz.prog 90 [.obj (rdE bs p e)] (fun r o=>r=[.one (.d (sD (zcV bs p e).1))]∧o=[rdE bs (zcV bs p e).2.1 (zcV bs p e).2.2]):=by
 refine zae zam mixed (T:=Ty) (n:=33) Tryz.func90 (c:=Tryz.f90.body.getD .skip) rfl Tryz.results90 Tryz.ntmps90 Tryz.call90 ?_
 simp only[Tryz.f90,Option.getD]
 have h1:=zli bs p h hp
 unfold zcV
 cases he:(e !=0)
 ·rw[if_neg (by simpa using he)]
  repeat'(first|refine zq he ?_|exact zd he|refine zc (h1) ?_|refine zg (h1) ?_|(refine zaa ?_ ?_<;>intro hb)|(refine And.intro ?_ ?_;exact zI)|(refine And.intro ?_ ?_<;>intro hg)|exact zC|fail)
 ·rw[if_pos (by simpa using he)]
  repeat'(first|refine zq he ?_|exact zd he|(refine zaa ?_ ?_<;>intro hb)|(refine And.intro ?_ ?_;exact zI)|(refine And.intro ?_ ?_<;>intro hg)|exact zC|fail)
  rfl
theorem zgf (bs:List Int) (p e most:Int) (h:BsOk bs) (hp:i64 p):
  CallOK Tryz.prog 88 [.obj (rdE bs p e), .f (ai most)] (fun r o=>r=[ri (zbh bs p e most).1]∧o=[rdE bs (zbh bs p e most).2.1 (zbh bs p e most).2.2]):=by
 refine zae zam mixed (T:=Ty) (n:=27) Tryz.func88 (c:=Tryz.f88.body.getD .skip) rfl Tryz.results88 Tryz.ntmps88 Tryz.call88 ?_
 simp only[Tryz.f88,Option.getD]
 have h1:=zhh bs p e h hp
 unfold zbh
 generalize zbi bs p e=b at*
 repeat'(first|refine zq0 ?_|exact zd0|(refine zaa ?_ ?_<;>intro hb)|(refine And.intro ?_ ?_;exact zI)|(refine And.intro ?_ ?_<;>intro hg)|exact zC|fail)
 refine zj (h1) ?_
 cases he:(b.2.2==0)
 ·have hne:(b.2.2 !=0)=true:=by simpa using he
  rw[if_pos (by simpa using he)]
  repeat'(first|refine zq (I he hne) ?_|exact zd (I he hne)|(refine zaa ?_ ?_<;>intro hb)|(refine And.intro ?_ ?_;exact zI)|(refine And.intro ?_ ?_<;>intro hg)|exact zC|fail)
 ·have hne:(b.2.2 !=0)=false:=by simpa using he
  rw[if_neg (by simpa using he)]
  cases hm:decide (b.1>most)
  ·rw[if_neg (by simpa using hm)]
   repeat'(first|refine zq (I he (I hne hm)) ?_|exact zd (I he (I hne hm))|(refine zaa ?_ ?_<;>intro hb)|(refine And.intro ?_ ?_;exact zI)|(refine And.intro ?_ ?_<;>intro hg)|exact zC|fail)
  ·rw[if_pos (by simpa using hm)]
   repeat'(first|refine zq (I he (I hne hm)) ?_|exact zd (I he (I hne hm))|(refine zaa ?_ ?_<;>intro hb)|(refine And.intro ?_ ?_;exact zI)|(refine And.intro ?_ ?_<;>intro hg)|exact zC|fail)
theorem zbt {bs:List Int} {p e:Int} (h:BsOk bs) (hp:i64 p):i64 (zb9 bs p e).2.1:=by
 unfold zb9;split
 ·exact hp
 ·exact zbV h.l zcx
theorem zcK {bs:List Int} {p e:Int} (h:BsOk bs) (hp:i64 p):i64 (zbi bs p e).2.1:=by
 unfold zbi;split
 ·exact hp
 ·exact zbV h.l zbG
theorem zi4 {bs:List Int} {p e:Int} (h:BsOk bs) (hp:i64 p):i64 (zcV bs p e).2.1:=by
 unfold zcV;split
 ·exact hp
 ·exact zbV h.l (ze5 h)
theorem zlg {bs:List Int} {p e:Int} (h:BsOk bs):0≤(zbi bs p e).1∧(zbi bs p e).1<256:=by
 unfold zbi;split
 ·exact⟨Int.le_refl 0,by show(0:Int)<256;decide⟩
 ·exact zdJ h
theorem zbK {bs:List Int} {p e most:Int} (h:BsOk bs) (hp:i64 p) (hm:0≤most):i64 (zbh bs p e most).2.1∧0≤(zbh bs p e most).1∧(zbh bs p e most).1≤most:=by
 have h1:=zcK (e:=e) h hp
 have h2:=zlg (p:=p) (e:=e) h
 unfold zbh
 split
 ·exact⟨h1,by simp,hm⟩
 ·split
  ·exact⟨h1,by simp,hm⟩
  ·exact⟨h1,h2.1,by omega⟩
def zdZ (bs:List Int) (p e:Int):Sess×Int×Int:=
 let c:=zbi bs p e
 let n:=zb9 bs c.2.1 c.2.2
 let r:=zb9 bs n.2.1 n.2.2
 (⟨c.1,n.1,r.1⟩,r.2)
def zbW {α:Type} (f:Int→Int→α×Int×Int):Nat→Int→Int→List α→List α×Int×Int
 |0,p,e,acc=>(acc,p,e)
 |n+1,p,e,acc=>zbW f n (f p e).2.1 (f p e).2.2 (acc++[(f p e).1])
def zd5 (bs:List Int) (p e:Int):Lk×Int×Int:=
 let nm:=zcV bs p e
 let hd:=zbi bs nm.2.1 nm.2.2
 let tk:=zb9 bs hd.2.1 hd.2.2
 let m:=zbh bs tk.2.1 tk.2.2 3
 let l:=zbW (zbi bs) m.1.toNat m.2.1 m.2.2 []
 (⟨nm.1,hd.1,tk.1,l.1⟩,l.2)
def zcC (bs:List Int):Nat→Int→Int→List Memo→List Memo×Int×Int
 |0,p,e,acc=>(acc,p,e)
 |n+1,p,e,acc=>if e≠0 then(acc,p,e)else zcC bs n (zaR bs p).2.1 (zaR bs p).2.2 (acc++[(zaR bs p).1])
def zdL (bs:List Int) (p e:Int):St×Int×Int:=
 let t:=zb9 bs p e
 let u:=zb9 bs t.2.1 t.2.2
 let k:=zb9 bs u.2.1 u.2.2
 let n:=zbh bs k.2.1 k.2.2 5
 let ss:=zbW (zdZ bs) n.1.toNat n.2.1 n.2.2 []
 let n2:=zbh bs ss.2.1 ss.2.2 4
 let ls:=zbW (zd5 bs) n2.1.toNat n2.2.1 n2.2.2 []
 let n3:=zbh bs ls.2.1 ls.2.2 8
 let ms:=zcC bs n3.1.toNat n3.2.1 n3.2.2 []
 (⟨t.1,u.1,k.1,ss.1,ls.1,ms.1⟩,ms.2)
theorem zlf {bs:List Int} (h:BsOk bs) {p:Int}:i64 (zaR bs p).2.1:=by
 have hz:i64 0:=by unfold i64;omega
 unfold zaR
 simp only
 split
 ·exact hz
 split
 ·exact hz
 split
 ·exact hz
 split
 ·exact hz
 exact zbV h.l (zcR h).1
theorem zi2 {bs:List Int} {p e:Int} (h:BsOk bs) (hp:i64 p):i64 (zdZ bs p e).2.1:=zbt h (zbt h (zcK h hp))
theorem ze8 {α:Type} {f:Int→Int→α×Int×Int} (hf:∀p e,i64 p→i64 (f p e).2.1):∀{n:Nat} {p e:Int} {acc:List α},i64 p→i64 (zbW f n p e acc).2.1∧(zbW f n p e acc).1.length=acc.length+n
 |0,p,e,acc,hp=>⟨hp,rfl⟩
 |n+1,p,e,acc,hp=>by
  rw[zbW]
  have:=ze8 hf (n:=n) (e:=(f p e).2.2) (acc:=acc++[(f p e).1]) (hf p e hp)
  rw[List.length_append,List.length_singleton]at this
  exact⟨this.1,by omega⟩
theorem zi3 {bs:List Int} {p e:Int} (h:BsOk bs) (hp:i64 p):i64 (zd5 bs p e).2.1:=by
 unfold zd5
 simp only
 exact(ze8 (fun p e hp=>zcK h hp) (zbK h (zbt h (zcK h (zi4 h hp))) (by decide)).1).1
abbrev zuo (bs:List Int) (q e:Int) (nx:Nat):Nat×RS:=(0,{next:=nx,l:=[some {e:=0,var:=true,fz:=false,bor:=true,sz:=0,cells:=[.d (.sl bs.length (zab bs)),di q,di e]},none,none,none]})
set_option maxHeartbeats 4000000 in
theorem zpT (bs:List Int) (p e:Int) (h:BsOk bs) (hp:i64 p):
  CallOK Tryz.prog 40 [.obj (rdE bs p e)] (fun r o=>r=[(zdL bs p e).1.rf]∧o=[rdE bs (zdL bs p e).2.1 (zdL bs p e).2.2]):=by
 refine zae zam mixed (T:=Ty) (n:=130) Tryz.func40 (c:=Tryz.f40.body.getD .skip) rfl Tryz.results40 Tryz.ntmps40 Tryz.call40 ?_
 simp only[Tryz.f40,Option.getD]
 unfold zdL
 simp only
 have h1:=zd1 bs p e h hp
 have p1:=zbt (e:=e) h hp
 generalize zb9 bs p e=t at*
 have h2:=zd1 bs t.2.1 t.2.2 h p1
 have p2:=zbt (e:=t.2.2) h p1
 generalize zb9 bs t.2.1 t.2.2=u at*
 have h3:=zd1 bs u.2.1 u.2.2 h p2
 have p3:=zbt (e:=u.2.2) h p2
 generalize zb9 bs u.2.1 u.2.2=k at*
 have h4:=zgf bs k.2.1 k.2.2 5 h p3
 obtain⟨p4,n1,n2⟩:=zbK (e:=k.2.2) (most:=5) h p3 (by decide)
 generalize zbh bs k.2.1 k.2.2 5=n at*
 repeat'(first|refine zq0 ?_|exact zd0|(refine zaa ?_ ?_<;>intro hb)|(refine And.intro ?_ ?_;exact zI)|(refine And.intro ?_ ?_<;>intro hg)|exact zC|fail)
 refine zj (h1) ?_
 repeat'(first|refine zq0 ?_|exact zd0|(refine zaa ?_ ?_<;>intro hb)|(refine And.intro ?_ ?_;exact zI)|(refine And.intro ?_ ?_<;>intro hg)|exact zC|fail)
 refine zj (h2) ?_
 repeat'(first|refine zq0 ?_|exact zd0|(refine zaa ?_ ?_<;>intro hb)|(refine And.intro ?_ ?_;exact zI)|(refine And.intro ?_ ?_<;>intro hg)|exact zC|fail)
 refine zj (h3) ?_
 repeat'(first|refine zq0 ?_|exact zd0|(refine zaa ?_ ?_<;>intro hb)|(refine And.intro ?_ ?_;exact zI)|(refine And.intro ?_ ?_<;>intro hg)|exact zC|fail)
 refine zj (h4) ?_
 repeat'(first|refine zq0 ?_|exact zd0|(refine zaa ?_ ?_<;>intro hb)|(refine And.intro ?_ ?_;exact zI)|(refine And.intro ?_ ?_<;>intro hg)|exact zC|fail)
 refine zah (τ:=Nat×Int×Int×List Sess×Nat) (fun a=>⟨[.one (.ptr ⟨0,0,0⟩ 0),dd, .one (.ptr ⟨2,0,1⟩ 0), .one (.ptr ⟨3,0,1⟩ 0),ai n.1,ai a.1,dd,dd,dd,dd,dd,dd,dd,dd,dd,dd,dd,dd,dd,dd,dd,dd,dd,dd,dd,dd,dd,dd,dd,dd,dd,dd,dd,dd,dd,dd,dd,dd,dd,dd,dd,dd,dd,dd,dd,dd,dd,dd,dd,dd,dd,dd,dd,dd,dd,dd,dd,dd,dd,dd,dd,dd,dd,dd,dd,dd,dd,dd,dd,dd,dd,dd,dd,dd,dd,dd,dd,dd,dd,dd,dd,dd,dd,dd,dd,dd,dd,dd,dd,dd,dd,dd,dd,dd,dd,dd,dd,dd,dd,dd,dd,dd,dd,dd,dd,dd,dd,dd,dd,dd,dd,dd,dd,dd,dd,dd,dd,dd,dd,dd,dd,dd,dd,dd,dd,dd,dd,dd,dd,dd],[zuo bs a.2.1 a.2.2.1 a.2.2.2.2,(2,{next:=2,l:=[some {e:=1,var:=true,fz:=false,sz:=0,cells:=[di 0,di 0,di 0, .d (.v zd2), .d (.v zd2), .d (.v zd2)]},none,none,none,none,none,none]}),(3,{next:=2,l:=[some {e:=1,var:=true,fz:=false,sz:=0,cells:=[di t.1,di u.1,di k.1, .own ⟨3,4,1⟩ 0 a.2.2.2.1.length, .d (.v zd2), .d (.v zd2)]},none,none,none,some {e:=1,var:=false,fz:=false,sz:=3,cells:=(zaN a.2.2.2.1).map C.d},none,none]}),(6,⟨2,[]⟩),(43,⟨2,[]⟩),(44,⟨2,[]⟩)]⟩)
  (fun a=>a.1≤n.1.toNat∧i64 a.2.1∧a.2.2.2.1.length=a.1) (fun a=>zbW (zdZ bs) (n.1.toNat - a.1) a.2.1 a.2.2.1 a.2.2.2.1) (fun a=>n.1.toNat - a.1) (0,n.2.1,n.2.2,[],5)
  ((Gh.nilF 3 3 3 rfl).trans (Gh.canon [0,2,3] [6,43,44] [0] zK rfl rfl)) ⟨Nat.zero_le _,p4,rfl⟩ ?_
 intro⟨i,q,c,acc,nx⟩ ⟨hi0,hq,ha⟩ hF K hK
 simp only[Nat.sub_zero]at hi0 hq ha hF hK⊢
 refine zw ?_
 refine zaa (fun hlt=> ?_) (fun hge=> ?_)
 ·have hi:i<n.1.toNat:=by simp at hlt;omega
  have hw:=zai hi (by omega)
  have hst:n.1.toNat - i=(n.1.toNat - (i+1))+1:=by omega
  have g1:=zhh bs q c h hq
  have q1:=zcK (e:=c) h hq
  have g2:=zd1 bs _ (zbi bs q c).2.2 h q1
  have q2:=zbt (e:=(zbi bs q c).2.2) h q1
  have g3:=zd1 bs _ (zb9 bs (zbi bs q c).2.1 (zbi bs q c).2.2).2.2 h q2
  have q3:=zi2 (e:=c) h hq
  have hF2:zbW (zdZ bs) (n.1.toNat - (i+1)) (zdZ bs q c).2.1 (zdZ bs q c).2.2 (acc++[(zdZ bs q c).1])=zbW (zdZ bs) (n.1.toNat - i) q c acc:=by rw[hst,zbW]
  repeat'(first|refine zq0 ?_|exact zd0|(refine zaa ?_ ?_<;>intro hb)|(refine And.intro ?_ ?_;exact zI)|(refine And.intro ?_ ?_<;>intro hg)|exact zC|fail)
  refine zj (g1) ?_
  repeat'(first|refine zq0 ?_|exact zd0|(refine zaa ?_ ?_<;>intro hb)|(refine And.intro ?_ ?_;exact zI)|(refine And.intro ?_ ?_<;>intro hg)|exact zC|fail)
  refine zj (g2) ?_
  repeat'(first|refine zq0 ?_|exact zd0|(refine zaa ?_ ?_<;>intro hb)|(refine And.intro ?_ ?_;exact zI)|(refine And.intro ?_ ?_<;>intro hg)|exact zC|fail)
  refine zj (g3) ?_
  repeat'(first|refine zq @zas ?_|exact zd @zas|(refine zaa ?_ ?_<;>intro hb)|(refine And.intro ?_ ?_;exact zI)|(refine And.intro ?_ ?_<;>intro hg)|exact zC|fail)
  refine hK _ (i+1,(zdZ bs q c).2.1,(zdZ bs q c).2.2,acc++[(zdZ bs q c).1],nx+3) (Gh.canon [0,2,3] [] [0] (zk (I hw (I @List.length_append.{0} @List.length_singleton.{0}))) rfl (by simp only[List.length_append,List.length_singleton];rw[zim];rfl)) ⟨hi,q3,by simp only[List.length_append,List.length_singleton];omega⟩ (by simp only;rw[hF2,hF]) (by simp only;omega)
 ·have hi:i=n.1.toNat:=by
   have:¬(i:Int)<n.1:=by simpa using hge
   omega
  rw[hi,Nat.sub_self,zbW]at hF
  rw[←hF]
  simp only
  clear hK hF
  have hal:acc.length≤5:=by omega
  have h5:=zgf bs q c 4 h hq
  obtain⟨p5,m1,m2⟩:=zbK (e:=c) (most:=4) h hq (by decide)
  generalize zbh bs q c 4=n2 at*
  repeat'(first|refine zq0 ?_|exact zd0|(refine zaa ?_ ?_<;>intro hb)|(refine And.intro ?_ ?_;exact zI)|(refine And.intro ?_ ?_<;>intro hg)|exact zC|fail)
  refine zj (h5) ?_
  repeat'(first|refine zq0 ?_|exact zd0|(refine zaa ?_ ?_<;>intro hb)|(refine And.intro ?_ ?_;exact zI)|(refine And.intro ?_ ?_<;>intro hg)|exact zC|fail)
  refine zah (τ:=Nat×Int×Int×List Lk×Nat) (fun a=>⟨[.one (.ptr ⟨0,0,0⟩ 0),dd, .one (.ptr ⟨2,0,1⟩ 0), .one (.ptr ⟨3,0,1⟩ 0),ai n2.1,dd,dd,ai a.1,dd,dd,dd,dd,dd,dd,dd,dd,dd,dd,dd,dd,dd,dd,dd,dd,dd,dd,dd,dd,dd,dd,dd,dd,dd,dd,dd,dd,dd,dd,dd,dd,dd,dd,dd,dd,dd,dd,dd,dd,dd,dd,dd,dd,dd,dd,dd,dd,dd,dd,dd,dd,dd,dd,dd,dd,dd,dd,dd,dd,dd,dd,dd,dd,dd,dd,dd,dd,dd,dd,dd,dd,dd,dd,dd,dd,dd,dd,dd,dd,dd,dd,dd,dd,dd,dd,dd,dd,dd,dd,dd,dd,dd,dd,dd,dd,dd,dd,dd,dd,dd,dd,dd,dd,dd,dd,dd,dd,dd,dd,dd,dd,dd,dd,dd,dd,dd,dd,dd,dd,dd,dd],[zuo bs a.2.1 a.2.2.1 a.2.2.2.2,(2,{next:=2,l:=[some {e:=1,var:=true,fz:=false,sz:=0,cells:=[di 0,di 0,di 0, .d (.v zd2), .d (.v zd2), .d (.v zd2)]},none,none,none,none,none,none]}),(3,{next:=2,l:=[some {e:=1,var:=true,fz:=false,sz:=0,cells:=[di t.1,di u.1,di k.1, .own ⟨3,4,1⟩ 0 acc.length, .own ⟨3,5,1⟩ 0 a.2.2.2.1.length, .d (.v zd2)]},none,none,none,some {e:=1,var:=false,fz:=false,sz:=3,cells:=(zaN acc).map C.d},some {e:=1,var:=false,fz:=false,sz:=4,cells:=(zax a.2.2.2.1).map C.d},none]}),(6,⟨2,[]⟩),(43,⟨2,[]⟩),(44,⟨2,[]⟩),(8,⟨2,[]⟩),(73,⟨2,[]⟩),(74,⟨2,[]⟩),(79,⟨2,[]⟩),(80,⟨2,[]⟩)]⟩)
   (fun a=>a.1≤n2.1.toNat∧i64 a.2.1∧a.2.2.2.1.length=a.1) (fun a=>zbW (zd5 bs) (n2.1.toNat - a.1) a.2.1 a.2.2.1 a.2.2.2.1) (fun a=>n2.1.toNat - a.1) (0,n2.2.1,n2.2.2,[],nx+1)
   ((Gh.nilF 3 4 4 rfl).trans (Gh.canon [0,2,3] [8,73,74,79,80] [0] zK rfl rfl)) ⟨Nat.zero_le _,p5,rfl⟩ ?_
  intro⟨j,q2,c2,ls,nx2⟩ ⟨hj0,hq2,hl⟩ hF K hK
  simp only[Nat.sub_zero]at hj0 hq2 hl hF hK⊢
  refine zw ?_
  refine zaa (fun hlt2=> ?_) (fun hge2=> ?_)
  ·have hj:j<n2.1.toNat:=by simp at hlt2;omega
   have hw:=zai hj (by omega)
   have hst:n2.1.toNat - j=(n2.1.toNat - (j+1))+1:=by omega
   obtain⟨X,hX⟩:∃X,X=zd5 bs q2 c2:=⟨_,rfl⟩
   have hF2:zbW (zd5 bs) (n2.1.toNat - (j+1)) X.2.1 X.2.2 (ls++[X.1])=zbW (zd5 bs) (n2.1.toNat - j) q2 c2 ls:=by rw[hX,hst,zbW]
   have ql:i64 X.2.1:=by rw[hX];exact zi3 h hq2
   unfold zd5 at hX
   simp only at hX
   have g1:=zrm bs q2 c2 h hq2
   have q3:=zi4 (e:=c2) h hq2
   generalize zcV bs q2 c2=nm at*
   have g2:=zhh bs nm.2.1 nm.2.2 h q3
   have q4:=zcK (e:=nm.2.2) h q3
   generalize zbi bs nm.2.1 nm.2.2=hd at*
   have g3:=zd1 bs hd.2.1 hd.2.2 h q4
   have q5:=zbt (e:=hd.2.2) h q4
   generalize zb9 bs hd.2.1 hd.2.2=tk at*
   have g4:=zgf bs tk.2.1 tk.2.2 3 h q5
   obtain⟨q6,m3,m4⟩:=zbK (e:=tk.2.2) (most:=3) h q5 (by decide)
   generalize zbh bs tk.2.1 tk.2.2 3=m at*
   repeat'(first|refine zq0 ?_|exact zd0|(refine zaa ?_ ?_<;>intro hb)|(refine And.intro ?_ ?_;exact zI)|(refine And.intro ?_ ?_<;>intro hg)|exact zC|fail)
   refine zj (g1) ?_
   repeat'(first|refine zq0 ?_|exact zd0|(refine zaa ?_ ?_<;>intro hb)|(refine And.intro ?_ ?_;exact zI)|(refine And.intro ?_ ?_<;>intro hg)|exact zC|fail)
   refine zj (g2) ?_
   repeat'(first|refine zq0 ?_|exact zd0|(refine zaa ?_ ?_<;>intro hb)|(refine And.intro ?_ ?_;exact zI)|(refine And.intro ?_ ?_<;>intro hg)|exact zC|fail)
   refine zj (g3) ?_
   repeat'(first|refine zq0 ?_|exact zd0|(refine zaa ?_ ?_<;>intro hb)|(refine And.intro ?_ ?_;exact zI)|(refine And.intro ?_ ?_<;>intro hg)|exact zC|fail)
   refine zj (g4) ?_
   repeat'(first|refine zq0 ?_|exact zd0|(refine zaa ?_ ?_<;>intro hb)|(refine And.intro ?_ ?_;exact zI)|(refine And.intro ?_ ?_<;>intro hg)|exact zC|fail)
   refine zah (τ:=Nat×Int×Int×List Int×Nat) (fun a=>⟨[.one (.ptr ⟨0,0,0⟩ 0),dd, .one (.ptr ⟨2,0,1⟩ 0), .one (.ptr ⟨3,0,1⟩ 0),ai n2.1,dd,dd,ai j, .one (.ptr ⟨8,0,1⟩ 0),ai m.1,ai a.1,dd,dd,dd,dd,dd,dd,dd,dd,dd,dd,dd,dd,dd,dd,dd,dd,dd,dd,dd,dd,dd,dd,dd,dd,dd,dd,dd,dd,dd,dd,dd,dd,dd,dd,dd,dd,dd,dd,dd,dd,dd,dd,dd,dd,dd,dd,dd,dd,dd,dd,dd,dd,dd,dd,dd,dd,dd,dd,dd,dd,dd,dd,dd,dd,dd,dd,dd,dd,dd,dd,dd,dd,dd,dd,dd,dd,dd,dd,dd,dd,dd,dd,dd,dd,dd,dd,dd,dd,dd,dd,dd,dd,dd,dd,dd,dd,dd,dd,dd,dd,dd,dd,dd,dd,dd,dd,dd,dd,dd,dd,dd,dd,dd,dd,dd,dd,dd,dd,dd],[zuo bs a.2.1 a.2.2.1 a.2.2.2.2,(2,{next:=2,l:=[some {e:=1,var:=true,fz:=false,sz:=0,cells:=[di 0,di 0,di 0, .d (.v zd2), .d (.v zd2), .d (.v zd2)]},none,none,none,none,none,none]}),(3,{next:=2,l:=[some {e:=1,var:=true,fz:=false,sz:=0,cells:=[di t.1,di u.1,di k.1, .own ⟨3,4,1⟩ 0 acc.length, .own ⟨3,5,1⟩ 0 ls.length, .d (.v zd2)]},none,none,none,some {e:=1,var:=false,fz:=false,sz:=3,cells:=(zaN acc).map C.d},some {e:=1,var:=false,fz:=false,sz:=4,cells:=(zax ls).map C.d},none]}),(6,⟨2,[]⟩),(43,⟨2,[]⟩),(44,⟨2,[]⟩),(8,{next:=2,l:=[some {e:=1,var:=true,fz:=false,sz:=0,cells:=[dS nm.1,di hd.1,di tk.1, .own ⟨8,4,1⟩ 0 a.2.2.2.1.length]},none,none,none,some {e:=1,var:=false,fz:=false,sz:=1,cells:=(za3 a.2.2.2.1).map C.d}]}),(73,⟨2,[]⟩),(74,⟨2,[]⟩),(79,⟨2,[]⟩),(80,⟨2,[]⟩)]⟩)
    (fun a=>a.1≤m.1.toNat∧i64 a.2.1∧a.2.2.2.1.length=a.1) (fun a=>zbW (zbi bs) (m.1.toNat - a.1) a.2.1 a.2.2.1 a.2.2.2.1) (fun a=>m.1.toNat - a.1) (0,m.2.1,m.2.2,[],nx2+4)
    ((Gh.nilF 8 3 1 rfl).trans (Gh.canon [0,2,3,8] [] [0] zK rfl rfl)) ⟨Nat.zero_le _,q6,rfl⟩ ?_
   intro⟨x,q7,c7,li,nx3⟩ ⟨hx0,hq7,hli⟩ hF7 K2 hK2
   simp only[Nat.sub_zero]at hx0 hq7 hli hF7 hK2⊢
   refine zw ?_
   refine zaa (fun hlt3=> ?_) (fun hge3=> ?_)
   ·have hx:x<m.1.toNat:=by simp at hlt3;omega
    have hw3:=zai hx (by omega)
    have hst3:m.1.toNat - x=(m.1.toNat - (x+1))+1:=by omega
    have g5:=zhh bs q7 c7 h hq7
    have q8:=zcK (e:=c7) h hq7
    have hF8:zbW (zbi bs) (m.1.toNat - (x+1)) (zbi bs q7 c7).2.1 (zbi bs q7 c7).2.2 (li++[(zbi bs q7 c7).1])=zbW (zbi bs) (m.1.toNat - x) q7 c7 li:=by rw[hst3,zbW]
    repeat'(first|refine zq0 ?_|exact zd0|(refine zaa ?_ ?_<;>intro hb)|(refine And.intro ?_ ?_;exact zI)|(refine And.intro ?_ ?_<;>intro hg)|exact zC|fail)
    refine zj (g5) ?_
    repeat'(first|refine zq @zaq ?_|exact zd @zaq|(refine zaa ?_ ?_<;>intro hb)|(refine And.intro ?_ ?_;exact zI)|(refine And.intro ?_ ?_<;>intro hg)|exact zC|fail)
    refine hK2 _ (x+1,(zbi bs q7 c7).2.1,(zbi bs q7 c7).2.2,li++[(zbi bs q7 c7).1],nx3+1) (Gh.canon [0,2,3,8] [] [0] (zk (I hw3 (I @List.length_append.{0} @List.length_singleton.{0}))) rfl (by simp only[List.length_append,List.length_singleton];rw[zil];rfl)) ⟨hx,q8,by simp only[List.length_append,List.length_singleton];omega⟩ (by simp only;rw[hF8]) (by simp only;omega)
   ·have hx:x=m.1.toNat:=by
     have:¬(x:Int)<m.1:=by simpa using hge3
     omega
    rw[hx,Nat.sub_self,zbW]at hF7
    rw[←hF7]at hX
    rw[hX]at hF2 ql
    simp only at hF2 ql
    repeat'(first|refine zq (I @zal @zea) ?_|exact zd (I @zal @zea)|(refine zaa ?_ ?_<;>intro hb)|(refine And.intro ?_ ?_;exact zI)|(refine And.intro ?_ ?_<;>intro hg)|exact zC|fail)
    refine hK _ (j+1,q7,c7,ls++[⟨nm.1,hd.1,tk.1,li⟩],nx3) (Gh.canon [0,2,3] [] [0] (zk (I hw (I @List.length_append.{0} @List.length_singleton.{0}))) rfl (by simp only[List.length_append,List.length_singleton];rw[ziQ];rfl)) ⟨hj,ql,by simp only[List.length_append,List.length_singleton];omega⟩ hF2 (by simp only;omega)
  ·have hj:j=n2.1.toNat:=by
    have:¬(j:Int)<n2.1:=by simpa using hge2
    omega
   rw[hj,Nat.sub_self,zbW]at hF
   rw[←hF]
   simp only
   clear hK hF
   have hll:ls.length≤4:=by omega
   have h6:=zgf bs q2 c2 8 h hq2
   obtain⟨p6,m5,m6⟩:=zbK (e:=c2) (most:=8) h hq2 (by decide)
   generalize zbh bs q2 c2 8=n3 at*
   repeat'(first|refine zq0 ?_|exact zd0|(refine zaa ?_ ?_<;>intro hb)|(refine And.intro ?_ ?_;exact zI)|(refine And.intro ?_ ?_<;>intro hg)|exact zC|fail)
   refine zj (h6) ?_
   repeat'(first|refine zq0 ?_|exact zd0|(refine zaa ?_ ?_<;>intro hb)|(refine And.intro ?_ ?_;exact zI)|(refine And.intro ?_ ?_<;>intro hg)|exact zC|fail)
   refine zah (τ:=Nat×Int×Int×List Memo×Nat) (fun a=>⟨[.one (.ptr ⟨0,0,0⟩ 0),dd, .one (.ptr ⟨2,0,1⟩ 0), .one (.ptr ⟨3,0,1⟩ 0),ai n3.1,dd,dd,dd,dd,dd,dd,ai a.1,dd,dd,dd,dd,dd,dd,dd,dd,dd,dd,dd,dd,dd,dd,dd,dd,dd,dd,dd,dd,dd,dd,dd,dd,dd,dd,dd,dd,dd,dd,dd,dd,dd,dd,dd,dd,dd,dd,dd,dd,dd,dd,dd,dd,dd,dd,dd,dd,dd,dd,dd,dd,dd,dd,dd,dd,dd,dd,dd,dd,dd,dd,dd,dd,dd,dd,dd,dd,dd,dd,dd,dd,dd,dd,dd,dd,dd,dd,dd,dd,dd,dd,dd,dd,dd,dd,dd,dd,dd,dd,dd,dd,dd,dd,dd,dd,dd,dd,dd,dd,dd,dd,dd,dd,dd,dd,dd,dd,dd,dd,dd,dd,dd,dd,dd,dd,dd,dd],[zuo bs a.2.1 a.2.2.1 a.2.2.2.2,(2,{next:=2,l:=[some {e:=1,var:=true,fz:=false,sz:=0,cells:=[di 0,di 0,di 0, .d (.v zd2), .d (.v zd2), .d (.v zd2)]},none,none,none,none,none,none]}),(3,{next:=2,l:=[some {e:=1,var:=true,fz:=false,sz:=0,cells:=[di t.1,di u.1,di k.1, .own ⟨3,4,1⟩ 0 acc.length, .own ⟨3,5,1⟩ 0 ls.length, .own ⟨3,6,1⟩ 0 a.2.2.2.1.length]},none,none,none,some {e:=1,var:=false,fz:=false,sz:=3,cells:=(zaN acc).map C.d},some {e:=1,var:=false,fz:=false,sz:=4,cells:=(zax ls).map C.d},some {e:=1,var:=false,fz:=false,sz:=6,cells:=(zaG a.2.2.2.1).map C.d}]}),(6,⟨2,[]⟩),(43,⟨2,[]⟩),(44,⟨2,[]⟩),(8,⟨2,[]⟩),(73,⟨2,[]⟩),(74,⟨2,[]⟩),(79,⟨2,[]⟩),(80,⟨2,[]⟩),(12,⟨2,[]⟩),(105,⟨2,[]⟩),(126,⟨2,[]⟩),(127,⟨2,[]⟩)]⟩)
    (fun a=>a.1≤n3.1.toNat∧i64 a.2.1∧a.2.2.2.1.length=a.1) (fun a=>zcC bs (n3.1.toNat - a.1) a.2.1 a.2.2.1 a.2.2.2.1) (fun a=>n3.1.toNat - a.1) (0,n3.2.1,n3.2.2,[],nx2+1)
    ((Gh.nilF 3 5 6 rfl).trans (Gh.canon [0,2,3] [12,105,126,127] [0] zK rfl rfl)) ⟨Nat.zero_le _,p6,rfl⟩ ?_
   intro⟨x,q3,c3,ms,nx3⟩ ⟨hx0,hq3,hml⟩ hF K hK
   simp only[Nat.sub_zero]at hx0 hq3 hml hF hK⊢
   refine zw ?_
   refine zaa (fun hlt3=> ?_) (fun hge3=> ?_)
   ·simp only[Bool.and_eq_true,decide_eq_true_eq,beq_iff_eq]at hlt3
    have hx:x<n3.1.toNat:=by omega
    have hc3:c3=0:=hlt3.2
    have hw:=zai hx (by omega)
    have hst:n3.1.toNat - x=(n3.1.toNat - (x+1))+1:=by omega
    have g1:=zjZ bs q3 h hq3
    have hF2:zcC bs (n3.1.toNat - (x+1)) (zaR bs q3).2.1 (zaR bs q3).2.2 (ms++[(zaR bs q3).1])=zcC bs (n3.1.toNat - x) q3 c3 ms:=by rw[hst,zcC,if_neg (by rw[hc3];simp)]
    repeat'(first|refine zq @zaC ?_|exact zd @zaC|refine zc (g1) ?_|refine zg (g1) ?_|(refine zaa ?_ ?_<;>intro hb)|(refine And.intro ?_ ?_;exact zI)|(refine And.intro ?_ ?_<;>intro hg)|exact zC|fail)
    refine hK _ (x+1,(zaR bs q3).2.1,(zaR bs q3).2.2,ms++[(zaR bs q3).1],nx3+2) (Gh.canon [0,2,3] [] [0] (zk (I hw (I @List.length_append.{0} @List.length_singleton.{0}))) rfl (by simp only[List.length_append,List.length_singleton];rw[zhq];rfl)) ⟨hx,zlf h,by simp only[List.length_append,List.length_singleton];omega⟩ (by simp only;rw[hF2,hF]) (by simp only;omega)
   ·have hend:zcC bs (n3.1.toNat - x) q3 c3 ms=(ms,q3,c3):=by
     by_cases hc:c3=0
     ·have hx:¬(x:Int)<n3.1:=by
       intro hx
       rw[hc]at hge3
       simp[hx]at hge3
      rw[show n3.1.toNat - x=0 by omega,zcC]
     ·cases n3.1.toNat - x with
      |zero=>rfl
      |succ y=>rw[zcC,if_pos hc]
    rw[hend]at hF
    rw[←hF]
    repeat'(first|refine zq0 ?_|exact zd0|(refine zaa ?_ ?_<;>intro hb)|(refine And.intro ?_ ?_;exact zI)|(refine And.intro ?_ ?_<;>intro hg)|exact zC|fail)
    rfl
def E2 {α:Type} (x:α×Int×Int) (r:Rr α):Prop:=match r with
 | .ok y=>x=(y.1,y.2,0)
 | .error c=>x.2.2=c∧c≠0
theorem zle {α:Type} (x:α×Int×Int):E2 x (rOf x):=by
 unfold rOf
 split
 ·rename_i h
  show x=(x.1,x.2.1,0)
  rw[←h]
 ·rename_i h
  exact⟨rfl,h⟩
theorem zpP {bs:List Int} {p:Int}:zb9 bs p 0=zcz bs p:=by unfold zb9;rw[if_neg (by simp)]
theorem zlY {bs:List Int} {p:Int}:zbi bs p 0=zaQ bs p:=by unfold zbi;rw[if_neg (by simp)]
theorem zs9 {bs:List Int} {p:Int}:zcV bs p 0=zbf bs p 12:=by unfold zcV;rw[if_neg (by simp)]
theorem zd3 {bs:List Int} {p e:Int}:e=0∨(zb9 bs p e).2.2=e:=by
 by_cases h:e=0
 ·exact .inl h
 ·right;unfold zb9;rw[if_pos h]
theorem zfv {bs:List Int} {p e:Int}:e=0∨(zbi bs p e).2.2=e:=by
 by_cases h:e=0
 ·exact .inl h
 ·right;unfold zbi;rw[if_pos h]
theorem zpQ {bs:List Int} {p e:Int}:e=0∨(zcV bs p e).2.2=e:=by
 by_cases h:e=0
 ·exact .inl h
 ·right;unfold zcV;rw[if_pos h]
theorem zge {bs:List Int} {p e m:Int}:e=0∨(zbh bs p e m).2.2=e:=by
 rcases zfv (bs:=bs) (p:=p) (e:=e)with h|h
 ·exact .inl h
 ·by_cases h0:e=0
  ·exact .inl h0
  ·right;unfold zbh;rw[if_pos (by rw[h];exact h0)];exact h
theorem zgC {α:Type} {f:Int→Int→α×Int×Int} (hf:∀p e,e=0∨(f p e).2.2=e):∀{n:Nat} {p e:Int} {acc:List α},e=0∨(zbW f n p e acc).2.2=e
 |0,p,e,acc=> .inr rfl
 |n+1,p,e,acc=>by
  rw[zbW]
  rcases hf p e with h|h
  ·exact .inl h
  ·rw[h];exact zgC hf
theorem zmT {bs:List Int}:∀{n:Nat} {p e:Int} {acc:List Memo},e=0∨(zcC bs n p e acc).2.2=e
 |0,p,e,acc=> .inr rfl
 |n+1,p,e,acc=>by
  rw[zcC]
  by_cases h:e=0
  ·exact .inl h
  ·rw[if_pos h];exact .inr rfl
theorem zpR {bs:List Int} {p e:Int}:e=0∨(zdZ bs p e).2.2=e:=by
 unfold zdZ
 simp only
 have h1:=zfv (bs:=bs) (p:=p) (e:=e)
 generalize zbi bs p e=c at*
 have h2:=zd3 (bs:=bs) (p:=c.2.1) (e:=c.2.2)
 generalize zb9 bs c.2.1 c.2.2=n at*
 have h3:=zd3 (bs:=bs) (p:=n.2.1) (e:=n.2.2)
 omega
theorem zpS {bs:List Int} {p e:Int}:e=0∨(zd5 bs p e).2.2=e:=by
 unfold zd5
 simp only
 have h1:=zpQ (bs:=bs) (p:=p) (e:=e)
 generalize zcV bs p e=c at*
 have h2:=zfv (bs:=bs) (p:=c.2.1) (e:=c.2.2)
 generalize zbi bs c.2.1 c.2.2=n at*
 have h3:=zd3 (bs:=bs) (p:=n.2.1) (e:=n.2.2)
 generalize zb9 bs n.2.1 n.2.2=k at*
 have h4:=zge (bs:=bs) (p:=k.2.1) (e:=k.2.2) (m:=3)
 generalize zbh bs k.2.1 k.2.2 3=m at*
 have h5:=zgC (f:=zbi bs) (fun p e=>zfv) (n:=m.1.toNat) (p:=m.2.1) (e:=m.2.2) (acc:=[])
 omega
theorem zhg {bs:List Int} {p m:Int}:E2 (zbh bs p 0 m) (zbF bs p m):=by
 unfold zbh zbF
 rw[zlY]
 have h:=zle (zaQ bs p)
 unfold zcJ
 cases hr:rOf (zaQ bs p)with
 |error c=>
  rw[hr]at h
  rw[if_pos (by rw[h.1];exact h.2)]
  exact h
 |ok y=>
  rw[hr]at h
  have h:zaQ bs p=(y.1,y.2,0):=h
  rw[h]
  simp only
  rw[if_neg (by simp)]
  split
  ·exact⟨rfl,by decide⟩
  ·rfl
theorem zjY {α:Type} {f:Int→Int→α×Int×Int} {g:Int→Rr α} (h1:∀p,E2 (f p 0) (g p)) (h2:∀p e,e=0∨(f p e).2.2=e):∀{n:Nat} {p:Int} {acc:List α},E2 (zbW f n p 0 acc) (zbO g n p acc)
 |0,p,acc=>rfl
 |n+1,p,acc=>by
  rw[zbW,zbO]
  have h:=h1 p
  cases hr:g p with
  |error c=>
   rw[hr]at h
   obtain⟨h,h0⟩:=h
   rw[h]
   refine⟨?_,h0⟩
   rcases zgC h2 (n:=n) (p:=(f p 0).2.1) (e:=c) (acc:=acc++[(f p 0).1])with k|k
   ·exact absurd k h0
   ·exact k
  |ok y=>
   rw[hr]at h
   have h:f p 0=(y.1,y.2,0):=h
   rw[h]
   exact zjY h1 h2
theorem zmU {bs:List Int}:∀{n:Nat} {p:Int} {acc:List Memo},E2 (zcC bs n p 0 acc) (zbO (zf0 bs) n p acc)
 |0,p,acc=>rfl
 |n+1,p,acc=>by
  rw[zcC,zbO,if_neg (by simp)]
  have h:=zle (zaR bs p)
  unfold zf0
  cases hr:rOf (zaR bs p)with
  |error c=>
   rw[hr]at h
   obtain⟨h,h0⟩:=h
   rw[h]
   refine⟨?_,h0⟩
   rcases zmT (bs:=bs) (n:=n) (p:=(zaR bs p).2.1) (e:=c) (acc:=acc++[(zaR bs p).1])with k|k
   ·exact absurd k h0
   ·exact k
  |ok y=>
   rw[hr]at h
   have h:zaR bs p=(y.1,y.2,0):=h
   rw[h]
   exact zmU
theorem zta {bs:List Int} {p:Int}:E2 (zdZ bs p 0) (zgP bs p):=by
 unfold zdZ zgP
 simp only
 rw[zlY]
 have h:=zle (zaQ bs p)
 unfold zcJ zdt
 cases hr:rOf (zaQ bs p)with
 |error c=>
  rw[hr]at h
  obtain⟨h,h0⟩:=h
  generalize zaQ bs p=c1 at*
  have h2:=zd3 (bs:=bs) (p:=c1.2.1) (e:=c1.2.2)
  generalize zb9 bs c1.2.1 c1.2.2=n at*
  have h3:=zd3 (bs:=bs) (p:=n.2.1) (e:=n.2.2)
  exact⟨by simp only;omega,h0⟩
 |ok y=>
  rw[hr]at h
  have h:zaQ bs p=(y.1,y.2,0):=h
  rw[h]
  simp only
  rw[zpP]
  have k:=zle (zcz bs y.2)
  cases hr2:rOf (zcz bs y.2)with
  |error c=>
   rw[hr2]at k
   obtain⟨k,k0⟩:=k
   generalize zcz bs y.2=n at*
   have h3:=zd3 (bs:=bs) (p:=n.2.1) (e:=n.2.2)
   exact⟨by simp only;omega,k0⟩
  |ok z=>
   rw[hr2]at k
   have k:zcz bs y.2=(z.1,z.2,0):=k
   rw[k]
   simp only
   rw[zpP]
   have l:=zle (zcz bs z.2)
   cases hr3:rOf (zcz bs z.2)with
   |error c=>rw[hr3]at l;exact l
   |ok x=>
    rw[hr3]at l
    have l:zcz bs z.2=(x.1,x.2,0):=l
    rw[l]
    rfl
theorem zh7 {bs:List Int} {p:Int}:E2 (zb9 bs p 0) (zdt bs p):=by rw[zpP];exact zle _
theorem zpO {bs:List Int} {p:Int}:E2 (zbi bs p 0) (zcJ bs p):=by rw[zlY];exact zle _
theorem zs7 {bs:List Int} {p:Int}:E2 (zcV bs p 0) (zhS bs p):=by rw[zs9];exact zle _
theorem zeE {α:Type} {x:α×Int×Int} {r:Rr α} {y:α×Int} (h:E2 x r) (hr:r= .ok y):x=(y.1,y.2,0):=by subst hr;exact h
theorem zeF {α:Type} {x:α×Int×Int} {r:Rr α} {c:Int} (h:E2 x r) (hr:r= .error c):x.2.2=c∧c≠0:=by subst hr;exact h
theorem zs8 {bs:List Int} {p:Int}:E2 (zd5 bs p 0) (zey bs p):=by
 unfold zd5
 simp only
 have k1:=zpQ (bs:=bs) (p:=p) (e:=0)
 have E1:=zs7 (bs:=bs) (p:=p)
 obtain⟨c,hc⟩:∃c,c=zcV bs p 0:=⟨_,rfl⟩
 rw[←hc]at k1 E1⊢
 have k2:=zfv (bs:=bs) (p:=c.2.1) (e:=c.2.2)
 obtain⟨n,hn⟩:∃n,n=zbi bs c.2.1 c.2.2:=⟨_,rfl⟩
 rw[←hn]at k2⊢
 have k3:=zd3 (bs:=bs) (p:=n.2.1) (e:=n.2.2)
 obtain⟨k,hk⟩:∃k,k=zb9 bs n.2.1 n.2.2:=⟨_,rfl⟩
 rw[←hk]at k3⊢
 have k4:=zge (bs:=bs) (p:=k.2.1) (e:=k.2.2) (m:=3)
 obtain⟨m,hm⟩:∃m,m=zbh bs k.2.1 k.2.2 3:=⟨_,rfl⟩
 rw[←hm]at k4⊢
 have k5:=zgC (f:=zbi bs) (fun p e=>zfv) (n:=m.1.toNat) (p:=m.2.1) (e:=m.2.2) (acc:=[])
 obtain⟨l,hl⟩:∃l,l=zbW (zbi bs) m.1.toNat m.2.1 m.2.2 []:=⟨_,rfl⟩
 rw[←hl]at k5⊢
 unfold zey
 cases e1:zhS bs p with
 |error x=>obtain⟨a,b⟩:=zeF E1 e1;exact⟨by simp only;omega,b⟩
 |ok y=>
 have E1:=zeE E1 e1
 rw[E1]at hn
 simp only at hn
 have E2':=zpO (bs:=bs) (p:=y.2)
 rw[←hn]at E2'
 simp only
 cases e2:zcJ bs y.2 with
 |error x=>obtain⟨a,b⟩:=zeF E2' e2;exact⟨by simp only;omega,b⟩
 |ok z=>
 have E3:=zeE E2' e2
 rw[E3]at hk
 simp only at hk
 have E4:=zh7 (bs:=bs) (p:=z.2)
 rw[←hk]at E4
 simp only
 cases e3:zdt bs z.2 with
 |error x=>obtain⟨a,b⟩:=zeF E4 e3;exact⟨by simp only;omega,b⟩
 |ok w=>
 have E5:=zeE E4 e3
 rw[E5]at hm
 simp only at hm
 have E6:=zhg (bs:=bs) (p:=w.2) (m:=3)
 rw[←hm]at E6
 simp only
 cases e4:zbF bs w.2 3 with
 |error x=>obtain⟨a,b⟩:=zeF E6 e4;exact⟨by simp only;omega,b⟩
 |ok v=>
 have E7:=zeE E6 e4
 rw[E7]at hl
 simp only at hl
 have E8:=zjY (fun p=>zpO (bs:=bs) (p:=p)) (fun p e=>zfv) (n:=v.1.toNat) (p:=v.2) (acc:=[])
 rw[←hl]at E8
 simp only
 rw[zgu]
 cases e5:zbO (zcJ bs) v.1.toNat v.2 []with
 |error x=>obtain⟨a,b⟩:=zeF E8 e5;exact⟨by simp only;omega,b⟩
 |ok u=>
 have E9:=zeE E8 e5
 show(_,_)=(_,_,_)
 rw[E1,E3,E5,E9]
theorem zh8 (bs:List Int) (p:Int):(∀y,zcB bs p= .ok y→zdL bs p 0=(y.1,y.2,0))∧
  ∀c,zcB bs p= .error c→c≠0∧((zdL bs p 0).2.2=c∨((zdL bs p 0).2.2=0∧zbn (zdL bs p 0).1=false∧c=4)):=by
 unfold zdL
 simp only
 have E1:=zh7 (bs:=bs) (p:=p)
 obtain⟨t,ht⟩:∃t,t=zb9 bs p 0:=⟨_,rfl⟩
 rw[←ht]at E1⊢
 have k2:=zd3 (bs:=bs) (p:=t.2.1) (e:=t.2.2)
 obtain⟨u,hu⟩:∃u,u=zb9 bs t.2.1 t.2.2:=⟨_,rfl⟩
 rw[←hu]at k2⊢
 have k3:=zd3 (bs:=bs) (p:=u.2.1) (e:=u.2.2)
 obtain⟨k,hk⟩:∃k,k=zb9 bs u.2.1 u.2.2:=⟨_,rfl⟩
 rw[←hk]at k3⊢
 have k4:=zge (bs:=bs) (p:=k.2.1) (e:=k.2.2) (m:=5)
 obtain⟨n,hn⟩:∃n,n=zbh bs k.2.1 k.2.2 5:=⟨_,rfl⟩
 rw[←hn]at k4⊢
 have k5:=zgC (f:=zdZ bs) (fun p e=>zpR) (n:=n.1.toNat) (p:=n.2.1) (e:=n.2.2) (acc:=[])
 obtain⟨ss,hss⟩:∃ss,ss=zbW (zdZ bs) n.1.toNat n.2.1 n.2.2 []:=⟨_,rfl⟩
 rw[←hss]at k5⊢
 have k6:=zge (bs:=bs) (p:=ss.2.1) (e:=ss.2.2) (m:=4)
 obtain⟨n2,hn2⟩:∃n2,n2=zbh bs ss.2.1 ss.2.2 4:=⟨_,rfl⟩
 rw[←hn2]at k6⊢
 have k7:=zgC (f:=zd5 bs) (fun p e=>zpS) (n:=n2.1.toNat) (p:=n2.2.1) (e:=n2.2.2) (acc:=[])
 obtain⟨ls,hls⟩:∃ls,ls=zbW (zd5 bs) n2.1.toNat n2.2.1 n2.2.2 []:=⟨_,rfl⟩
 rw[←hls]at k7⊢
 have k8:=zge (bs:=bs) (p:=ls.2.1) (e:=ls.2.2) (m:=8)
 obtain⟨n3,hn3⟩:∃n3,n3=zbh bs ls.2.1 ls.2.2 8:=⟨_,rfl⟩
 rw[←hn3]at k8⊢
 have k9:=zmT (bs:=bs) (n:=n3.1.toNat) (p:=n3.2.1) (e:=n3.2.2) (acc:=[])
 obtain⟨ms,hms⟩:∃ms,ms=zcC bs n3.1.toNat n3.2.1 n3.2.2 []:=⟨_,rfl⟩
 rw[←hms]at k9⊢
 have no:∀{x c:Int},(.error x:Rr St)= .error c→x=c:=fun h=>by cases h;rfl
 unfold zcB
 cases e1:zdt bs p with
 |error x=>obtain⟨a,b⟩:=zeF E1 e1;exact⟨fun y h=>(by cases h),fun c h=>by have:=no h;omega⟩
 |ok y1=>
 have E1:=zeE E1 e1
 rw[E1]at hu;simp only at hu
 have F:=zh7 (bs:=bs) (p:=y1.2)
 rw[←hu]at F
 simp only
 cases e2:zdt bs y1.2 with
 |error x=>obtain⟨a,b⟩:=zeF F e2;exact⟨fun y h=>(by cases h),fun c h=>by have:=no h;omega⟩
 |ok y2=>
 have E2':=zeE F e2
 rw[E2']at hk;simp only at hk
 have F:=zh7 (bs:=bs) (p:=y2.2)
 rw[←hk]at F
 simp only
 cases e3:zdt bs y2.2 with
 |error x=>obtain⟨a,b⟩:=zeF F e3;exact⟨fun y h=>(by cases h),fun c h=>by have:=no h;omega⟩
 |ok y3=>
 have E3:=zeE F e3
 rw[E3]at hn;simp only at hn
 have F:=zhg (bs:=bs) (p:=y3.2) (m:=5)
 rw[←hn]at F
 simp only
 cases e4:zbF bs y3.2 5 with
 |error x=>obtain⟨a,b⟩:=zeF F e4;exact⟨fun y h=>(by cases h),fun c h=>by have:=no h;omega⟩
 |ok y4=>
 have E4:=zeE F e4
 rw[E4]at hss;simp only at hss
 have F:=zjY (fun p=>zta (bs:=bs) (p:=p)) (fun p e=>zpR) (n:=y4.1.toNat) (p:=y4.2) (acc:=[])
 rw[←hss]at F
 simp only
 cases e5:zbO (zgP bs) y4.1.toNat y4.2 []with
 |error x=>obtain⟨a,b⟩:=zeF F e5;exact⟨fun y h=>(by cases h),fun c h=>by have:=no h;omega⟩
 |ok y5=>
 have E5:=zeE F e5
 rw[E5]at hn2;simp only at hn2
 have F:=zhg (bs:=bs) (p:=y5.2) (m:=4)
 rw[←hn2]at F
 simp only
 cases e6:zbF bs y5.2 4 with
 |error x=>obtain⟨a,b⟩:=zeF F e6;exact⟨fun y h=>(by cases h),fun c h=>by have:=no h;omega⟩
 |ok y6=>
 have E6:=zeE F e6
 rw[E6]at hls;simp only at hls
 have F:=zjY (fun p=>zs8 (bs:=bs) (p:=p)) (fun p e=>zpS) (n:=y6.1.toNat) (p:=y6.2) (acc:=[])
 rw[←hls]at F
 simp only
 cases e7:zbO (zey bs) y6.1.toNat y6.2 []with
 |error x=>obtain⟨a,b⟩:=zeF F e7;exact⟨fun y h=>(by cases h),fun c h=>by have:=no h;omega⟩
 |ok y7=>
 have E7:=zeE F e7
 rw[E7]at hn3;simp only at hn3
 have F:=zhg (bs:=bs) (p:=y7.2) (m:=8)
 rw[←hn3]at F
 simp only
 cases e8:zbF bs y7.2 8 with
 |error x=>obtain⟨a,b⟩:=zeF F e8;exact⟨fun y h=>(by cases h),fun c h=>by have:=no h;omega⟩
 |ok y8=>
 have E8:=zeE F e8
 rw[E8]at hms;simp only at hms
 have F:=zmU (bs:=bs) (n:=y8.1.toNat) (p:=y8.2) (acc:=[])
 rw[←hms]at F
 simp only
 cases e9:zbO (zf0 bs) y8.1.toNat y8.2 []with
 |error x=>obtain⟨a,b⟩:=zeF F e9;exact⟨fun y h=>(by cases h),fun c h=>by have:=no h;omega⟩
 |ok y9=>
 have E9:=zeE F e9
 rw[E1,E2',E3,E5,E7,E9]
 simp only
 split
 ·rename_i hr
  exact⟨fun y h=>by cases h;rfl,fun c h=>by cases h⟩
 ·rename_i hr
  exact⟨fun y h=>(by cases h),fun c h=>by have:=no h;exact⟨by omega, .inr ⟨trivial,by simpa using hr,this.symm⟩⟩⟩
end Go.Proofs.YtbpmcjeeeiffhaaGreat
