import Derived.Test.YtliimajkpggbhaaGreatPK
namespace Go.Proofs.YtliimajkpggbhaaGreat
open Go.Pk Tryz
set_option maxRecDepth 100000
set_option linter.unusedSimpArgs false
set_option linter.unusedVariables false
theorem zkM {bs:List Int} {p:Int} {y:Int×Int} (h:BsOk bs) (hy:zbh bs p= .ok y):0≤y.1∧y.1<4611686018427387904:=by
 obtain⟨_,rfl⟩:=zc7 hy
 unfold ze8
 split
 ·simp
 ·split
  ·rename_i h2
   exact⟨(zgX fun c hc=>h.b _ (List.mem_of_mem_drop (List.mem_of_mem_take hc))).1,h2⟩
  ·simp
theorem zq6 {bs:List Int} {p:Int} (h:BsOk bs) (hp:i64 p) {y:Int×Int} (hy:zbn bs p= .ok y):CallOK prog 138 [.f (asl bs.length (zaa bs)), .f (ai p)] (fun r o=>r=[ri y.1,ri y.2,ri 0]∧o=[]):=by
 obtain⟨h0,rfl⟩:=zc7 hy
 have:=zc4 bs p h hp
 rwa[h0]at this
theorem zs6 {bs:List Int} {p:Int} (h:BsOk bs) (hp:i64 p) {e:Int} (hy:zbn bs p= .error e):CallOK prog 138 [.f (asl bs.length (zaa bs)), .f (ai p)] (fun r o=>r=[ri (zbG bs p).1,ri (zbG bs p).2.1,ri e]∧o=[])∧(e !=0)=true:=by
 obtain⟨h0,h2⟩:=zbT hy
 have:=zc4 bs p h hp
 rw[h0]at this
 exact⟨this,by simpa using h2⟩
theorem zxW {bs:List Int} {p:Int} (h:BsOk bs) (hp:i64 p) {y:Int×Int} (hy:zbh bs p= .ok y):CallOK prog 139 [.f (asl bs.length (zaa bs)), .f (ai p)] (fun r o=>r=[ri y.1,ri y.2,ri 0]∧o=[]):=by
 obtain⟨h0,rfl⟩:=zc7 hy
 have:=zev bs p h hp
 rwa[h0]at this
theorem zxX {bs:List Int} {p:Int} (h:BsOk bs) (hp:i64 p) {e:Int} (hy:zbh bs p= .error e):CallOK prog 139 [.f (asl bs.length (zaa bs)), .f (ai p)] (fun r o=>r=[ri (ze8 bs p).1,ri (ze8 bs p).2.1,ri e]∧o=[])∧(e !=0)=true:=by
 obtain⟨h0,h2⟩:=zbT hy
 have:=zev bs p h hp
 rw[h0]at this
 exact⟨this,by simpa using h2⟩
theorem zxY {bs:List Int} {p:Int} (h:BsOk bs) (hp:i64 p) {y:ByteArray×Int} (hy:zgk bs p= .ok y):CallOK prog 175 [.f (asl bs.length (zaa bs)), .f (ai p), .f (ai 12)] (fun r o=>r=[.one (.d (sD y.1)),ri y.2,ri 0]∧o=[]):=by
 obtain⟨h0,rfl⟩:=zc7 hy
 have:=zgt bs p 12 h hp
 rwa[h0]at this
theorem zxZ {bs:List Int} {p:Int} (h:BsOk bs) (hp:i64 p) {e:Int} (hy:zgk bs p= .error e):CallOK prog 175 [.f (asl bs.length (zaa bs)), .f (ai p), .f (ai 12)] (fun r o=>r=[.one (.d (sD (zci bs p 12).1)),ri (zci bs p 12).2.1,ri e]∧o=[])∧(e !=0)=true:=by
 obtain⟨h0,h2⟩:=zbT hy
 have:=zgt bs p 12 h hp
 rw[h0]at this
 exact⟨this,by simpa using h2⟩
abbrev Cm:=Int×Int×ByteArray
def dOf {α:Type} (z:α) (r:Rr α):α×Int×Int:=match r with
 | .ok y=>(y.1,y.2,0)
 | .error e=>(z,0,e)
def zpc (bs:List Int) (p:Int):Rr Cm:=match zbn bs p with
 | .error e=> .error e
 | .ok k=>match zbh bs k.2 with
  | .error e=> .error e
  | .ok n=>match zgk bs n.2 with
   | .error e=> .error e
   | .ok s=>if zlY k.1 n.1 s.1=true then .ok ((k.1,n.1,s.1),s.2)else .error 4
abbrev zBb (c:Cm):RF:= .agg [.d (iD c.1), .d (iD c.2.1), .d (sD c.2.2)]
abbrev cm0:Cm:=(0,0, .empty)
theorem zq7 (bs:List Int) (p:Int) (h:BsOk bs) (hp:i64 p):CallOK prog 140 [.f (asl bs.length (zaa bs)), .f (ai p)] (fun r o=>r=[zBb (dOf cm0 (zpc bs p)).1,ri (dOf cm0 (zpc bs p)).2.1,ri (dOf cm0 (zpc bs p)).2.2]∧o=[]):=by
 refine zh func140 results140 ntmps140 call140 ?_
 simp only[f140,Option.getD]
 unfold zpc
 cases e1:zbn bs p with
 |error e=>
  obtain⟨h1,hq⟩:=zs6 h hp e1
  simp only[dOf]
  exact zW hq (h1)
 |ok k=>
 have h1:=zq6 h hp e1
 have p1:=za7 h e1
 simp only
 cases e2:zbh bs k.2 with
 |error e=>
  obtain⟨h2,hq⟩:=zxX h p1 e2
  simp only[dOf]
  exact zW hq (I (h1) (h2))
 |ok n=>
 have h2:=zxW h p1 e2
 have p2:=zar h e2
 simp only
 cases e3:zgk bs n.2 with
 |error e=>
  obtain⟨h3,hq⟩:=zxZ h p2 e3
  simp only[dOf]
  exact zW hq (I (h1) (I (h2) (h3)))
 |ok s=>
 have h3:=zxY h p2 e3
 have hs:s.1.size<2^62:=by have:=zjD e3;have:=h.l;omega
 have h4:=znY k.1 n.1 s.1 hs
 simp only
 cases hm:zlY k.1 n.1 s.1
 ·rw[hm]at h4
  rw[if_neg (by simp)]
  simp only[dOf]
  exact zW trivial (I (h1) (I (h2) (I (h3) (h4))))
 ·rw[hm]at h4
  rw[if_pos rfl]
  simp only[dOf]
  exact zW trivial (I (h1) (I (h2) (I (h3) (h4))))
def zkN (bs:List Int) (p:Int):Rr Req:=match zbn bs p with
 | .error e=> .error e
 | .ok k=>match zbh bs k.2 with
  | .error e=> .error e
  | .ok n=>match zpc bs n.2 with
   | .error e=> .error e
   | .ok c=>if Req.may ⟨k.1,n.1,c.1.1,c.1.2.1,c.1.2.2⟩=true then .ok (⟨k.1,n.1,c.1.1,c.1.2.1,c.1.2.2⟩,c.2)else .error 4
abbrev zx0 (r:Req):RF:= .agg (r.enc.map RO.d)
abbrev ziK:Req:=⟨0,0,0,0, .empty⟩
theorem zjQ {bs:List Int} {p:Int} {y:Cm×Int} (h:BsOk bs) (hy:zpc bs p= .ok y):i64 y.2∧zlY y.1.1 y.1.2.1 y.1.2.2=true:=by
 unfold zpc at hy
 cases e1:zbn bs p with
 |error x=>rw[e1]at hy;cases hy
 |ok k=>
 rw[e1]at hy;simp only at hy
 cases e2:zbh bs k.2 with
 |error x=>rw[e2]at hy;cases hy
 |ok n=>
 rw[e2]at hy;simp only at hy
 cases e3:zgk bs n.2 with
 |error x=>rw[e3]at hy;cases hy
 |ok s=>
 rw[e3]at hy;simp only at hy
 split at hy
 ·rename_i hm
  cases hy
  exact⟨zgS h e3,hm⟩
 ·cases hy
theorem zn7 {bs:List Int} {p e:Int} (hy:zpc bs p= .error e):(e !=0)=true:=by
 unfold zpc at hy
 cases e1:zbn bs p with
 |error x=>rw[e1]at hy;cases hy;simpa using(zbT e1).2
 |ok k=>
 rw[e1]at hy;simp only at hy
 cases e2:zbh bs k.2 with
 |error x=>rw[e2]at hy;cases hy;simpa using(zbT e2).2
 |ok n=>
 rw[e2]at hy;simp only at hy
 cases e3:zgk bs n.2 with
 |error x=>rw[e3]at hy;cases hy;simpa using(zbT e3).2
 |ok s=>
 rw[e3]at hy;simp only at hy
 split at hy
 ·cases hy
 ·cases hy;rfl
theorem zma (bs:List Int) (p:Int) (h:BsOk bs) (hp:i64 p):CallOK prog 90 [.f (asl bs.length (zaa bs)), .f (ai p)] (fun r o=>r=[zx0 (dOf ziK (zkN bs p)).1,ri (dOf ziK (zkN bs p)).2.1,ri (dOf ziK (zkN bs p)).2.2]∧o=[]):=by
 refine zh func90 results90 ntmps90 call90 ?_
 simp only[f90,Option.getD]
 unfold zkN
 cases e1:zbn bs p with
 |error e=>
  obtain⟨h1,hq⟩:=zs6 h hp e1
  simp only[dOf]
  refine zL hq (h1) ?_
  rfl
 |ok k=>
 have h1:=zq6 h hp e1
 have p1:=za7 h e1
 simp only
 cases e2:zbh bs k.2 with
 |error e=>
  obtain⟨h2,hq⟩:=zxX h p1 e2
  simp only[dOf]
  refine zL hq (I (h1) (h2)) ?_
  rfl
 |ok n=>
 have h2:=zxW h p1 e2
 have p2:=zar h e2
 simp only
 have h3:=zq7 bs n.2 h p2
 cases e3:zpc bs n.2 with
 |error e=>
  rw[e3]at h3
  have hq:(e !=0)=true:=zn7 e3
  simp only[dOf]at h3⊢
  refine zL hq (I (h1) (I (h2) (h3))) ?_
  rfl
 |ok c=>
 rw[e3]at h3
 obtain⟨p3,hc⟩:=zjQ h e3
 have f:=zcZ hc
 have hk:=ze4 h e1
 have hn:=zkM h e2
 have h4:=ze2 ⟨k.1,n.1,c.1.1,c.1.2.1,c.1.2.2⟩ (by unfold Req.ok i64;simp only;omega)
 simp only[dOf]at h3⊢
 cases hm:Req.may ⟨k.1,n.1,c.1.1,c.1.2.1,c.1.2.2⟩
 ·rw[hm]at h4
  rw[if_neg (by simp)]
  refine zL trivial (I (h1) (I (h2) (I (h3) (h4)))) ?_
  rfl
 ·rw[hm]at h4
  rw[if_pos rfl]
  refine zL trivial (I (h1) (I (h2) (I (h3) (h4)))) ?_
  rfl
theorem zg1 {bs:List Int} (h:BsOk bs) {p:Int} {y:Req×Int} (hy:zkN bs p= .ok y):i64 y.2∧Req.may y.1=true:=by
 unfold zkN at hy
 cases e1:zbn bs p with
 |error x=>rw[e1]at hy;cases hy
 |ok k=>
 rw[e1]at hy;simp only at hy
 cases e2:zbh bs k.2 with
 |error x=>rw[e2]at hy;cases hy
 |ok n=>
 rw[e2]at hy;simp only at hy
 cases e3:zpc bs n.2 with
 |error x=>rw[e3]at hy;cases hy
 |ok s=>
 rw[e3]at hy;simp only at hy
 split at hy
 ·rename_i hm
  cases hy
  exact⟨(zjQ h e3).1,hm⟩
 ·cases hy
theorem zkL {bs:List Int} {p e:Int} (hy:zkN bs p= .error e):(e !=0)=true:=by
 unfold zkN at hy
 cases e1:zbn bs p with
 |error x=>rw[e1]at hy;cases hy;simpa using(zbT e1).2
 |ok k=>
 rw[e1]at hy;simp only at hy
 cases e2:zbh bs k.2 with
 |error x=>rw[e2]at hy;cases hy;simpa using(zbT e2).2
 |ok n=>
 rw[e2]at hy;simp only at hy
 cases e3:zpc bs n.2 with
 |error x=>rw[e3]at hy;cases hy;exact zn7 e3
 |ok s=>
 rw[e3]at hy;simp only at hy
 split at hy
 ·cases hy
 ·cases hy;rfl
def zi4 (bs:List Int) (p:Int):Rr Batch:=match zbn bs p with
 | .error e=> .error e
 | .ok k=>if k.1>1 then .error 4 else if k.1=1 then .ok (⟨true,0,⟨0,0⟩,0,[]⟩,k.2)else match za1 (zbh bs) 4 k.2 []with
  | .error e=> .error e
  | .ok l=>match zbF bs l.2 3 with
   | .error e=> .error e
   | .ok n=>match za1 (zkN bs) n.1.toNat n.2 []with
    | .error e=> .error e
    | .ok rs=>if Batch.may ⟨false,l.1.getD 0 0,⟨l.1.getD 1 0,l.1.getD 2 0⟩,l.1.getD 3 0,rs.1⟩=true then .ok (⟨false,l.1.getD 0 0,⟨l.1.getD 1 0,l.1.getD 2 0⟩,l.1.getD 3 0,rs.1⟩,rs.2)else .error 4
abbrev ziJ:Batch:=⟨false,0,⟨0,0⟩,0,[]⟩
abbrev zw0 (b:Batch):RF:= .agg (b.enc.map RO.d)
theorem reqsE_snoc {l:List Req} {r:Req}:zbu (l++[r])=zbu l++r.enc:=by simp[zbu]
theorem reqs_take {l:List Req}:(zbu l).take (l.length*5)=zbu l:=zcH Req.enc 5 (fun _=>rfl) l
theorem zw2 {l:List Int} (h:l.length=2):∃a b,l=[a,b]:=by
 match l,h with
 |[a,b],_=>exact⟨a,b,rfl⟩
theorem zs5 {l:List Int} (h:l.length=3):∃a b c,l=[a,b,c]:=by
 match l,h with
 |[a,b,c],_=>exact⟨a,b,c,rfl⟩
theorem zvt {l:List Int} (h:l.length=4):∃a b c d,l=[a,b,c,d]:=by
 match l,h with
 |[a,b,c,d],_=>exact⟨a,b,c,d,rfl⟩
theorem zgB {Z:List Nat} {r:Rs} {h h':Hd} {a b c d:Nat} {xs ys:List AV}:fgc Z r (.agg [.ptr h a, .ptr h b, .ptr h c, .ptr h d]::xs) (.agg [.ptr h' a, .ptr h' b, .ptr h' c, .ptr h' d]::ys)=((ztm Z r h=true∧(⟨h.s,h.j,epZ Z h.s h.e⟩:Hd)=h')∧fgc Z r xs ys):=by
 simp only[fgc,zmp,zi6,zmq,zok,zhT,zlb,reduceCtorEq,false_or,AV.agg.injEq,List.cons.injEq,C.ptr.injEq,and_true,Bool.and_eq_true]
 apply propext
 constructor
 ·rintro⟨⟨h1,h2⟩,h3⟩;exact⟨⟨h1.1,h2.1⟩,h3⟩
 ·rintro⟨⟨h1,h2⟩,h3⟩;exact⟨⟨⟨h1,h1,h1,h1⟩,h2,h2,h2,h2⟩,h3⟩
set_option maxHeartbeats 4000000 in
theorem zl9 (bs:List Int) (p:Int) (h:BsOk bs) (hp:i64 p):CallOK prog 142 [.f (asl bs.length (zaa bs)), .f (ai p)] (fun r o=>r=[zw0 (dOf ziJ (zi4 bs p)).1,ri (dOf ziJ (zi4 bs p)).2.1,ri (dOf ziJ (zi4 bs p)).2.2]∧o=[]):=by
 refine CallOK.nil ?_
 refine zh func142 results142 ntmps142 call142 ?_
 simp only[f142,Option.getD]
 unfold zi4
 cases e1:zbn bs p with
 |error e=>
  obtain⟨h1,hq⟩:=zs6 h hp e1
  simp only[dOf]
  repeat'(first|exact zC|refine zq hq ?_|refine zx (h1) ?_|(apply zab<;>intro hb)|(apply I;exact zI)|(apply I<;>intro hg))
  simp[zbj,zdS,zbc,zaH]
 |ok k=>
 have h1:=zq6 h hp e1
 have p1:=za7 h e1
 simp only
 cases g1:decide (k.1>1)
 ·rw[if_neg (by simpa using g1)]
  cases g2:(k.1==1)
  ·rw[if_neg (by simpa using g2)]
   refine zL (I g1 g2) (h1) ?_
   refine zaf (τ:=Nat×Int×List Int) (fun a=>⟨(asl bs.length (zaa bs)::ai a.2.1::dq2 (ptq 4::dq4 (ptq 9::zrQ (.agg [.ptr ⟨9,0,1⟩ 1, .ptr ⟨9,0,1⟩ 2, .ptr ⟨9,0,1⟩ 3, .ptr ⟨9,0,1⟩ 4]::ai a.1::zrw (zdO []))))),[(4,⟨2,[obq 1 [db false,di 0,di 0,di 0,di 0, .d (.v zeC)],none,none,none,none,none,none]⟩),(9,⟨2,[obq 1 [db false,di (a.2.2.getD 0 0),di (a.2.2.getD 1 0),di (a.2.2.getD 2 0),di (a.2.2.getD 3 0), .d (.v zeC)],none,none,none,none,none,none]⟩)]⟩)
    (fun a=>a.1≤4∧i64 a.2.1∧a.2.2.length=a.1) (fun a=>za1 (zbh bs) (4 - a.1) a.2.1 a.2.2) (fun a=>4 - a.1) (0,k.2,[])
    (Gh.canon [4,9] [] [] (zk @zgB) rfl rfl) ⟨Nat.zero_le _,p1,rfl⟩ ?_
   intro⟨i,q,l⟩ ⟨hi0,hq,hl⟩ hF K hK
   simp only[Nat.sub_zero]at hi0 hq hl hF hK⊢
   refine zw ?_
   refine zab (fun hlt=> ?_) (fun hge=> ?_)
   ·have hi:i<4:=by simp at hlt;omega
    have hw:IntKind.i64.wrap ((i:Int)+1)=((i+1:Nat):Int):=zai hi (by omega)
    have hst:4 - i=(4 - (i+1))+1:=by omega
    rw[hst,za1]at hF
    rw[←hF]
    cases x1:zbh bs q with
    |error e=>
     obtain⟨h2,hz⟩:=zxX h hq x1
     simp only[dOf]
     rcases(show i=0∨i=1∨i=2∨i=3 by omega)with rfl|rfl|rfl|rfl
     all_goals
      repeat'(first|exact zC|refine zq hz ?_|refine zx (h2) ?_|(apply zab<;>intro hb)|(apply I;exact zI)|(apply I<;>intro hg))
      simp[zbj,zdS,zbc,zaH]
    |ok x=>
    have h2:=zxW h hq x1
    have hs2:za1 (zbh bs) (4 - (i+1)) x.2 (l++[x.1])=za1 (zbh bs) (4 - i) q l:=by rw[hst,za1,x1]
    have p2:=zar h x1
    rcases(show i=0∨i=1∨i=2∨i=3 by omega)with rfl|rfl|rfl|rfl
    ·have hl0:l=[]:=List.length_eq_zero_iff.1 hl
     subst hl0
     refine zL trivial (h2) ?_
     exact hK _ (0+1,x.2,[x.1]) (Gh.canon [4,9] [] [] (zk (I hw @zgB)) rfl rfl) ⟨by simp only;omega,p2,rfl⟩ hs2 (by simp only;omega)
    ·obtain⟨a,rfl⟩:=List.length_eq_one_iff.1 hl
     refine zL trivial (h2) ?_
     exact hK _ (1+1,x.2,[a,x.1]) (Gh.canon [4,9] [] [] (zk (I hw @zgB)) rfl rfl) ⟨by simp only;omega,p2,rfl⟩ hs2 (by simp only;omega)
    ·obtain⟨a,b,rfl⟩:=zw2 hl
     refine zL trivial (h2) ?_
     exact hK _ (2+1,x.2,[a,b,x.1]) (Gh.canon [4,9] [] [] (zk (I hw @zgB)) rfl rfl) ⟨by simp only;omega,p2,rfl⟩ hs2 (by simp only;omega)
    ·obtain⟨a,b,c,rfl⟩:=zs5 hl
     refine zL trivial (h2) ?_
     exact hK _ (3+1,x.2,[a,b,c,x.1]) (Gh.canon [4,9] [] [] (zk (I hw @zgB)) rfl rfl) ⟨by simp only;omega,p2,rfl⟩ hs2 (by simp only;omega)
   ·have hi:i=4:=by
     have:¬(i:Int)<4:=by simpa using hge
     omega
    subst hi
    rw[Nat.sub_self,za1]at hF
    have hval:=(zdI (ok:=fun v=>0≤v∧v<4611686018427387904) (fun q z hz=>⟨zar h hz,zkM h hz⟩) p1 (fun _ hx=>by cases hx) hF.symm).2.2
    rw[←hF]
    obtain⟨v0,v1,v2,v3,rfl⟩:=zvt hl
    have q0:=hval v0 (by simp)
    have q1:=hval v1 (by simp)
    have q2:=hval v2 (by simp)
    have q3:=hval v3 (by simp)
    clear hval hF hK
    simp only[List.getD_cons_zero,List.getD_cons_succ]
    cases e3:zbF bs q 3 with
    |error e=>
     rcases zfw e3 with hz|⟨z,hz,hgt,rfl⟩
     ·obtain⟨h3,hw⟩:=zs6 h hq hz
      simp only[dOf]
      repeat'(first|exact zC|refine zq hw ?_|refine zx (h3) ?_|(apply zab<;>intro hb)|(apply I;exact zI)|(apply I<;>intro hg))
      simp[zbj,zdS,zbc,zaH]
     ·have h3:=zq6 h hq hz
      have hgt:decide (z.1>3)=true:=by simpa using hgt
      simp only[dOf]
      repeat'(first|exact zC|refine zq hgt ?_|refine zx (h3) ?_|(apply zab<;>intro hb)|(apply I;exact zI)|(apply I<;>intro hg))
      simp[zbj,zdS,zbc,zaH]
    |ok n=>
    obtain⟨hz,hle⟩:=zir e3
    obtain⟨p3,n0,n3⟩:=zcB h e3
    have h3:=zq6 h hq hz
    have hgt:decide (n.1>3)=false:=by simp;omega
    simp only
    refine zL hgt (h3) ?_
    refine zaf (τ:=Nat×Int×List Req) (fun a=>⟨(asl bs.length (zaa bs)::ai a.2.1::dq2 (ptq 4::dq4 (ptq 9::zvF (zdO (ai n.1::ai a.1::zuo []))))),[(4,⟨2,[obq 1 [db false,di 0,di 0,di 0,di 0, .d (.v zeC)],none,none,none,none,none,none]⟩),(9,⟨2,[obq 1 [db false,di v0,di v1,di v2,di v3, .own ⟨9,6,1⟩ 0 a.2.2.length],none,none,none,none,none,roq 1 5 (zbu a.2.2)]⟩),(13,⟨2,[]⟩),(92,⟨2,[]⟩),(93,⟨2,[]⟩)]⟩)
     (fun a=>a.1≤n.1.toNat∧i64 a.2.1∧a.2.2.length=a.1∧∀r∈a.2.2,Req.may r=true) (fun a=>za1 (zkN bs) (n.1.toNat - a.1) a.2.1 a.2.2) (fun a=>n.1.toNat - a.1) (0,n.2,[])
     ((Gh.nilF 9 5 5 rfl).trans (Gh.canon [4,9] [13,92,93] [] zK rfl rfl)) ⟨Nat.zero_le _,p3,rfl,fun _ hx=>by cases hx⟩ ?_
    intro⟨i,q2,acc⟩ ⟨hi0,hq2,ha,hmy⟩ hF K hK
    simp only[Nat.sub_zero]at hi0 hq2 ha hmy hF hK⊢
    refine zw ?_
    refine zab (fun hlt=> ?_) (fun hge=> ?_)
    ·have hi:i<n.1.toNat:=by simp at hlt;omega
     have hw:=zai hi (by omega)
     have hst:n.1.toNat - i=(n.1.toNat - (i+1))+1:=by omega
     have h4:=zma bs q2 h hq2
     cases x1:zkN bs q2 with
     |error e=>
      rw[←hF,hst,za1,x1]
      rw[x1]at h4
      simp only[dOf]at h4⊢
      have hz:=zkL x1
      repeat'(first|exact zC|refine zq hz ?_|refine zx (h4) ?_|(apply zab<;>intro hb)|(apply I;exact zI)|(apply I<;>intro hg))
      simp[zbj,zdS,zbc,zaH]
     |ok x=>
     rw[x1]at h4
     simp only[dOf]at h4
     have hs2:za1 (zkN bs) (n.1.toNat - (i+1)) x.2 (acc++[x.1])=za1 (zkN bs) (n.1.toNat - i) q2 acc:=by rw[hst,za1,x1]
     have hcl:(acc.length+1≤2^47)=True:=eq_true (by omega)
     obtain⟨px,mx⟩:=zg1 h x1
     refine zL (I @reqs_take (I @zaD hcl)) (h4) ?_
     refine hK _ (i+1,x.2,acc++[x.1]) (Gh.canon [4,9] [] [] (zk (I hw (I @List.length_append.{0} @List.length_singleton.{0}))) rfl (by simp only[List.length_append,List.length_singleton];rw[reqsE_snoc];rfl)) ⟨hi,px,by simp only[List.length_append,List.length_singleton];omega,fun r hr=> ?_⟩ hs2 (by simp only;omega)
     rcases List.mem_append.1 hr with hr|hr
     ·exact hmy r hr
     ·simp at hr;subst hr;exact mx
    ·have hi:i=n.1.toNat:=by simp at hge;omega
     rw[hi,Nat.sub_self,za1]at hF
     rw[←hF]
     simp only
     have hm:=zc0 ⟨false,v0,⟨v1,v2⟩,v3,acc⟩ ⟨by unfold i64;simp only;omega,by unfold i64;simp only;omega,by unfold i64;simp only;omega,by unfold i64;simp only;omega,by simp only;omega,fun r hr=>(zee (hmy r hr)).2.2.2⟩
     clear hK hF
     cases hb:Batch.may ⟨false,v0,⟨v1,v2⟩,v3,acc⟩
     ·rw[hb]at hm
      rw[if_neg (by simp)]
      simp only[dOf]
      repeat'(first|exact zC|refine zq @reqs_take ?_|refine zx (hm) ?_|(apply zab<;>intro hb)|(apply I;exact zI)|(apply I<;>intro hg))
      simp[zbj,zdS,zbc,zaH]
     ·rw[hb]at hm
      rw[if_pos rfl]
      simp only[dOf]
      repeat'(first|exact zC|refine zq @reqs_take ?_|refine zx (hm) ?_|(apply zab<;>intro hb)|(apply I;exact zI)|(apply I<;>intro hg))
      simp[zbj,zdS,zbc,zaH, -List.length_flatMap,zaD]
  ·rw[if_pos (by simpa using g2)]
   simp only[dOf]
   repeat'(first|exact zC|refine zq (I g1 g2) ?_|refine zx (h1) ?_|(apply zab<;>intro hb)|(apply I;exact zI)|(apply I<;>intro hg))
   simp[zbj,zdS,zbc,zaH]
 ·rw[if_pos (by simpa using g1)]
  simp only[dOf]
  repeat'(first|exact zC|refine zq g1 ?_|refine zx (h1) ?_|(apply zab<;>intro hb)|(apply I;exact zI)|(apply I<;>intro hg))
  simp[zbj,zdS,zbc,zaH]
abbrev zvN:Value:=zeA 84 4
theorem zcv:CallOK prog 96 [.f (ai 0)] (fun r o=>r=[]∧o=[]):=by
 refine zh func96 results96 ntmps96 call96 ?_
 simp only[f96,Option.getD]
 exact zW0 trivial
theorem zed (e:Int) (h:(e !=0)=true):zbE prog 96 [.f (ai e)] zvN:=by
 refine zhy func96 ntmps96 call96 ?_
 simp only[f96,Option.getD]
 exact zW0 (I h @zac)
theorem zgz {α:Type} {f:Int→Rr α} (hf:∀p e,f p= .error e→(e !=0)=true):∀{n:Nat} {p:Int} {acc:List α} {e:Int},za1 f n p acc= .error e→(e !=0)=true
 |0,p,acc,e,h=>by cases h
 |n+1,p,acc,e,h=>by
  rw[za1]at h
  cases hx:f p with
  |error x=>rw[hx]at h;cases h;exact hf _ _ hx
  |ok x=>rw[hx]at h;exact zgz hf h
theorem zs4 {bs:List Int} {p e:Int} (hy:zi4 bs p= .error e):(e !=0)=true:=by
 unfold zi4 at hy
 cases e1:zbn bs p with
 |error x=>rw[e1]at hy;cases hy;simpa using(zbT e1).2
 |ok k=>
 rw[e1]at hy;simp only at hy
 split at hy
 ·cases hy;rfl
 split at hy
 ·cases hy
 cases e2:za1 (zbh bs) 4 k.2 []with
 |error x=>rw[e2]at hy;cases hy;exact zgz (fun q z hz=>by simpa using(zbT hz).2) e2
 |ok l=>
 rw[e2]at hy;simp only at hy
 cases e3:zbF bs l.2 3 with
 |error x=>
  rw[e3]at hy;cases hy
  rcases zfw e3 with hz|⟨_,_,_,rfl⟩
  ·simpa using(zbT hz).2
  ·rfl
 |ok n=>
 rw[e3]at hy;simp only at hy
 cases e4:za1 (zkN bs) n.1.toNat n.2 []with
 |error x=>rw[e4]at hy;cases hy;exact zgz (fun q z hz=>zkL hz) e4
 |ok rs=>
 rw[e4]at hy;simp only at hy
 split at hy
 ·cases hy
 ·cases hy;rfl
theorem zkH (bs:List Int) (p:Int) (h:BsOk bs) (hp:i64 p) {y:Int×Int} (hy:zbn bs p= .ok y):
  CallOK prog 89 [.obj (rds bs p)] (fun r o=>r=[ri y.1]∧o=[rds bs y.2]):=by
 obtain⟨h0,rfl⟩:=zc7 hy
 refine zh func89 results89 ntmps89 call89 ?_
 simp only[f89,Option.getD]
 have h1:=zc4 bs p h hp
 rw[h0]at h1
 exact zW trivial (I (h1) (zcv))
theorem ziG (bs:List Int) (p:Int) (h:BsOk bs) (hp:i64 p) {e:Int} (hy:zbn bs p= .error e):
  zbE prog 89 [.obj (rds bs p)] zvN:=by
 obtain⟨h0,h2⟩:=zbT hy
 have h2:(e !=0)=true:=by simpa using h2
 refine zhy func89 ntmps89 call89 ?_
 simp only[f89,Option.getD]
 have h1:=zc4 bs p h hp
 rw[h0]at h1
 refine zL trivial (h1) ?_
 refine zc2 (zed e h2) rfl ?_
 first|refine zs @zac ?_|exact zt @zac
theorem zbZ (bs:List Int) (p:Int) (h:BsOk bs) (hp:i64 p) {y:Int×Int} (hy:zbh bs p= .ok y):
  CallOK prog 92 [.obj (rds bs p)] (fun r o=>r=[ri y.1]∧o=[rds bs y.2]):=by
 obtain⟨h0,rfl⟩:=zc7 hy
 refine zh func92 results92 ntmps92 call92 ?_
 simp only[f92,Option.getD]
 have h1:=zev bs p h hp
 rw[h0]at h1
 exact zW trivial (I (h1) (zcv))
theorem zbx (bs:List Int) (p:Int) (h:BsOk bs) (hp:i64 p) {e:Int} (hy:zbh bs p= .error e):
  zbE prog 92 [.obj (rds bs p)] zvN:=by
 obtain⟨h0,h2⟩:=zbT hy
 have h2:(e !=0)=true:=by simpa using h2
 refine zhy func92 ntmps92 call92 ?_
 simp only[f92,Option.getD]
 have h1:=zev bs p h hp
 rw[h0]at h1
 refine zL trivial (h1) ?_
 refine zc2 (zed e h2) rfl ?_
 first|refine zs @zac ?_|exact zt @zac
theorem zkI (bs:List Int) (p:Int) (h:BsOk bs) (hp:i64 p) {y:Batch×Int} (hy:zi4 bs p= .ok y):
  CallOK prog 94 [.obj (rds bs p)] (fun r o=>r=[zw0 y.1]∧o=[rds bs y.2]):=by
 refine zh func94 results94 ntmps94 call94 ?_
 simp only[f94,Option.getD]
 have h1:=zl9 bs p h hp
 rw[hy]at h1
 simp only[dOf]at h1
 refine zL trivial (I (h1) (zcv)) ?_
 rfl
theorem ziH (bs:List Int) (p:Int) (h:BsOk bs) (hp:i64 p) {e:Int} (hy:zi4 bs p= .error e):
  zbE prog 94 [.obj (rds bs p)] zvN:=by
 have h2:=zs4 hy
 refine zhy func94 ntmps94 call94 ?_
 simp only[f94,Option.getD]
 have h1:=zl9 bs p h hp
 rw[hy]at h1
 simp only[dOf]at h1
 refine zL trivial (h1) ?_
 refine zc2 (zed e h2) rfl ?_
 first|refine zs @zac ?_|exact zt @zac
def zkJ (bs:List Int) (p:Int):Rr Vote:=match zbh bs p with
 | .error e=> .error e
 | .ok s=>match zbh bs s.2 with
  | .error e=> .error e
  | .ok b=>match zi4 bs b.2 with
   | .error e=> .error e
   | .ok x=> .ok (⟨s.1,b.1,x.1⟩,x.2)
def zkK (bs:List Int) (p:Int):Rr Prom:=match zbn bs p with
 | .error e=> .error e
 | .ok f=>match zbh bs f.2 with
  | .error e=> .error e
  | .ok d=>match zbh bs d.2 with
   | .error e=> .error e
   | .ok v=>match zbh bs v.2 with
    | .error e=> .error e
    | .ok s=>match zbh bs s.2 with
     | .error e=> .error e
     | .ok t=>match zbn bs t.2 with
      | .error e=> .error e
      | .ok n=>match za1 (zkJ bs) n.1.toNat n.2 []with
       | .error e=> .error e
       | .ok l=> .ok (⟨f.1,d.1,⟨v.1,s.1⟩,t.1,l.1⟩,l.2)
theorem votesE_snoc (b:List Vote) (v:Vote):zbe (b++[v])=zbe b++v.enc:=by simp[zbe]
theorem votes_take {l:List Vote}:(zbe l).take (l.length*8)=zbe l:=zcH Vote.enc 8 (fun _=>rfl) l
theorem zgA {bs:List Int} (h:BsOk bs) {p:Int} {y:Batch×Int} (hy:zi4 bs p= .ok y):i64 y.2:=by
 unfold zi4 at hy
 cases e1:zbn bs p with
 |error x=>rw[e1]at hy;cases hy
 |ok k=>
 have p1:=za7 h e1
 rw[e1]at hy;simp only at hy
 split at hy
 ·cases hy
 split at hy
 ·cases hy;exact p1
 cases e2:za1 (zbh bs) 4 k.2 []with
 |error x=>rw[e2]at hy;cases hy
 |ok l=>
 have p2:=(zdI (ok:=fun _=>True) (fun q z hz=>⟨zar h hz,trivial⟩) p1 (fun _ _=>trivial) e2).1
 rw[e2]at hy;simp only at hy
 cases e3:zbF bs l.2 3 with
 |error x=>rw[e3]at hy;cases hy
 |ok n=>
 have p3:=(zcB h e3).1
 rw[e3]at hy;simp only at hy
 cases e4:za1 (zkN bs) n.1.toNat n.2 []with
 |error x=>rw[e4]at hy;cases hy
 |ok rs=>
 have p4:=(zdI (ok:=fun _=>True) (fun q z hz=>⟨(zg1 h hz).1,trivial⟩) p3 (fun _ _=>trivial) e4).1
 rw[e4]at hy;simp only at hy
 split at hy
 ·cases hy;exact p4
 ·cases hy
set_option maxHeartbeats 4000000 in
theorem ziI (bs:List Int) (p:Int) (h:BsOk bs) (hp:i64 p) (b:Bool) (y:Prom×Int) (e:Int) (hy:zkS b y e (zkK bs p)):
  (b=true→CallOK prog 93 [.obj (rds bs p)] (fun r o=>zbj r [.agg (y.1.enc.map RO.d)]∧o=[rds bs y.2]))∧(b=false→zbE prog 93 [.obj (rds bs p)] zvN):=by
 refine zhb func93 results93 ntmps93 call93 ?_
 simp only[f93,Option.getD]
 unfold zkK at hy
 cases e1:zbn bs p with
 |error x=>
  rw[e1]at hy
  obtain⟨rfl,rfl⟩:=zav hy
  have hr:=ziG bs _ h hp e1
  refine zL0 trivial ?_
  refine zp (rds bs p) (hr) ?_
  first|refine zs (I @zaj @zac) ?_|exact zt (I @zaj @zac)
 |ok f=>
 have he1:=zkH bs _ h hp e1
 have p1:=za7 h e1
 rw[e1]at hy
 simp only at hy
 refine zL0 trivial ?_
 refine zj (he1) ?_
 cases e2:zbh bs f.2 with
 |error x=>
  rw[e2]at hy
  obtain⟨rfl,rfl⟩:=zav hy
  have hr:=zbx bs _ h p1 e2
  refine zL0 trivial ?_
  refine zp (rds bs p) (hr) ?_
  first|refine zs (I @zaj @zac) ?_|exact zt (I @zaj @zac)
 |ok d=>
 have he2:=zbZ bs _ h p1 e2
 have p2:=zar h e2
 rw[e2]at hy
 simp only at hy
 refine zL0 trivial ?_
 refine zj (he2) ?_
 cases e3:zbh bs d.2 with
 |error x=>
  rw[e3]at hy
  obtain⟨rfl,rfl⟩:=zav hy
  have hr:=zbx bs _ h p2 e3
  refine zL0 trivial ?_
  refine zp (rds bs p) (hr) ?_
  first|refine zs (I @zaj @zac) ?_|exact zt (I @zaj @zac)
 |ok v=>
 have he3:=zbZ bs _ h p2 e3
 have p3:=zar h e3
 rw[e3]at hy
 simp only at hy
 refine zL0 trivial ?_
 refine zj (he3) ?_
 cases e4:zbh bs v.2 with
 |error x=>
  rw[e4]at hy
  obtain⟨rfl,rfl⟩:=zav hy
  have hr:=zbx bs _ h p3 e4
  refine zL0 trivial ?_
  refine zp (rds bs p) (hr) ?_
  first|refine zs (I @zaj @zac) ?_|exact zt (I @zaj @zac)
 |ok s=>
 have he4:=zbZ bs _ h p3 e4
 have p4:=zar h e4
 rw[e4]at hy
 simp only at hy
 refine zL0 trivial ?_
 refine zj (he4) ?_
 cases e5:zbh bs s.2 with
 |error x=>
  rw[e5]at hy
  obtain⟨rfl,rfl⟩:=zav hy
  have hr:=zbx bs _ h p4 e5
  refine zL0 trivial ?_
  refine zp (rds bs p) (hr) ?_
  first|refine zs (I @zaj @zac) ?_|exact zt (I @zaj @zac)
 |ok t=>
 have he5:=zbZ bs _ h p4 e5
 have p5:=zar h e5
 rw[e5]at hy
 simp only at hy
 refine zL0 trivial ?_
 refine zj (he5) ?_
 cases e6:zbn bs t.2 with
 |error x=>
  rw[e6]at hy
  obtain⟨rfl,rfl⟩:=zav hy
  have hr:=ziG bs _ h p5 e6
  refine zL0 trivial ?_
  refine zp (rds bs p) (hr) ?_
  first|refine zs (I @zaj @zac) ?_|exact zt (I @zaj @zac)
 |ok n=>
 have he6:=zkH bs _ h p5 e6
 have p6:=za7 h e6
 rw[e6]at hy
 simp only at hy
 refine zL0 trivial ?_
 refine zj (he6) ?_
 have hnv:=ze4 h e6
 refine zL0 trivial ?_
 refine zaf (τ:=Nat×Int×List Vote×Nat) (fun a=>⟨(.one (.ptr ⟨0,0,0⟩ 0)::dd::ptq 2::ptq 3::zvE (ai n.1::ai a.1::zrw [])),[zwP bs a.2.1 a.2.2.2,(2,⟨2,[obq 1 [di 0,di 0,di 0,di 0,di 0, .d (.v zeC)],none,none,none,none,none,none]⟩),(3,⟨2,[obq 1 [di f.1,di d.1,di v.1,di s.1,di t.1, .own ⟨3,6,1⟩ 0 a.2.2.1.length],none,none,none,none,none,roq 1 8 (zbe a.2.2.1)]⟩),(4,⟨2,[]⟩),(38,⟨2,[]⟩),(39,⟨2,[]⟩)]⟩)
  (fun a=>a.1≤n.1.toNat∧i64 a.2.1∧a.2.2.1.length=a.1) (fun a=>za1 (zkJ bs) (n.1.toNat - a.1) a.2.1 a.2.2.1) (fun a=>n.1.toNat - a.1) (0,n.2,[],7)
  ((Gh.nilF 3 5 8 rfl).trans (Gh.canon [0,2,3] [4,38,39] [0] zK rfl rfl)) ⟨Nat.zero_le _,p6,rfl⟩ ?_
 intro⟨i,q,acc,nx⟩ ⟨hi0,hq,ha⟩ hF K hK
 simp only[Nat.sub_zero]at hi0 hq ha hF hK⊢
 rw[←hF]at hy
 refine zw ?_
 refine zab (fun hlt=> ?_) (fun hge=> ?_)
 ·have hi:i<n.1.toNat:=by simp at hlt;omega
  have hw:=zai hi (by omega)
  have hst:n.1.toNat - i=(n.1.toNat - (i+1))+1:=by omega
  rw[hst,za1,zkJ]at hy
  cases x1:zbh bs q with
  |error x=>
   rw[x1]at hy
   obtain⟨rfl,rfl⟩:=zav hy
   have hr:=zbx bs q h hq x1
   refine zL0 trivial ?_
   refine zp (rds bs p) (hr) ?_
   first|refine zs (I @zaj @zac) ?_|exact zt (I @zaj @zac)
  |ok c=>
  rw[x1]at hy
  simp only at hy
  have hr1:=zbZ bs q h hq x1
  refine zL0 trivial ?_
  refine zj (hr1) ?_
  cases x2:zbh bs c.2 with
  |error x=>
   rw[x2]at hy
   obtain⟨rfl,rfl⟩:=zav hy
   have hr:=zbx bs _ h (zar h x1) x2
   refine zL0 trivial ?_
   refine zp (rds bs p) (hr) ?_
   first|refine zs (I @zaj @zac) ?_|exact zt (I @zaj @zac)
  |ok m=>
  rw[x2]at hy
  simp only at hy
  have hr2:=zbZ bs _ h (zar h x1) x2
  refine zL0 trivial ?_
  refine zj (hr2) ?_
  cases x3:zi4 bs m.2 with
  |error x=>
   rw[x3]at hy
   obtain⟨rfl,rfl⟩:=zav hy
   have hr:=ziH bs _ h (zar h x2) x3
   refine zL0 trivial ?_
   refine zp (rds bs p) (hr) ?_
   first|refine zs (I @zaj @zac) ?_|exact zt (I @zaj @zac)
  |ok r=>
  rw[x3]at hy
  simp only at hy
  have hr3:=zkI bs _ h (zar h x2) x3
  refine zL0 trivial ?_
  refine zj (hr3) ?_
  have hcl:(acc.length+1≤2^47)=True:=eq_true (by omega)
  have hF2:za1 (zkJ bs) (n.1.toNat - (i+1)) r.2 (acc++[⟨c.1,m.1,r.1⟩])=za1 (zkJ bs) (n.1.toNat - i) q acc:=by rw[hst,za1,zkJ,x1];simp only;rw[x2];simp only;rw[x3]
  refine zL0 (I @votes_take (I @zaA hcl)) ?_
  refine hK _ (i+1,r.2,acc++[⟨c.1,m.1,r.1⟩],nx+3) (Gh.canon [0,2,3] [] [0] (zk (I hw (I @List.length_append.{0} @List.length_singleton.{0}))) rfl (by simp only[List.length_append,List.length_singleton];rw[votesE_snoc];rfl)) ⟨hi,zgA h x3,by simp only[List.length_append,List.length_singleton];omega⟩ hF2 (by simp only;omega)
 ·have hi:i=n.1.toNat:=by simp at hge;omega
  rw[hi,Nat.sub_self,za1]at hy
  obtain⟨rfl,rfl⟩:=zdb hy
  clear hK hF
  repeat'(first|exact zC|refine zq (I @zda @votes_take) ?_|(apply zab<;>intro hb)|(apply I;exact zI)|(apply I<;>intro hg))
  simp[zbj,zdS,zbc,zaH, -List.length_flatMap,zaA]
def Cut {α:Type} (m:Nat) (p:Int) (r r':Rr α):Prop:=∀y,r= .ok y→p≤y.2∧(y.2≤m→r'= .ok y)∧(p≤m→m<y.2→r'= .error 2)
abbrev zaI {α β:Type} (r:Rr α) (k:α×Int→Rr β):Rr β:=match r with
 | .error e=> .error e
 | .ok x=>k x
section
variable {bs:List Int} {m:Nat} (hm:m≤bs.length)
include hm
def zxV (bs:List Int) (n:Nat) (p:Int) (acc:List Grant):Rr (List Grant):=rOf (zcc bs n p acc)
end
abbrev zdX:Prom:=⟨0,0,⟨0,0⟩,0,[]⟩
abbrev pk0 (k:Int):Pkt:=⟨k,0,0,0,ziK,zdk,ziJ,zdX,sn0⟩
def zq5 (bs:List Int) (k p:Int):Rr Pkt:=
 if k=1 then zaI (zkN bs p) fun x=> .ok ({pk0 k with req:=x.1},x.2)
 else if k=2 then zaI (zgT bs p) fun x=> .ok ({pk0 k with ans:=x.1},x.2)
 else if k=3 then zaI (zbh bs p) fun x=> .ok ({pk0 k with ballot:=x.1},x.2)
 else if k=4 then zaI (zbh bs p) fun x=>zaI (zkK bs x.2) fun y=> .ok ({pk0 k with ballot:=x.1,prom:=y.1},y.2)
 else if k=5 then zaI (zbh bs p) fun x=>zaI (zbh bs x.2) fun y=>zaI (zi4 bs y.2) fun z=> .ok ({pk0 k with ballot:=x.1,slot:=y.1,bat:=z.1},z.2)
 else if k=6 then zaI (zbh bs p) fun x=>zaI (zbh bs x.2) fun y=>zaI (zi4 bs y.2) fun z=> .ok ({pk0 k with ballot:=x.1,slot:=y.1,bat:=z.1},z.2)
 else if k=7 then zaI (zbh bs p) fun x=>zaI (zbh bs x.2) fun y=> .ok ({pk0 k with ballot:=x.1,done:=y.1},y.2)
 else if k=8 then zaI (zbh bs p) fun x=> .ok ({pk0 k with done:=x.1},x.2)
 else if k=9 then zaI (zky bs p) fun x=> .ok ({pk0 k with snap:=x.1},x.2)
 else .error 4
def zwX (bs:List Int) (p:Int):Rr Pkt:=zaI (zbn bs p) fun k=>zq5 bs k.1 k.2
def NZ {α:Type} (r:Rr α):Prop:=∀e,r= .error e→(e !=0)=true
theorem zs3 {α:Type} {x:α×Int×Int}:NZ (rOf x):=fun e h=>by simpa using(zbT h).2
theorem zwY {α:Type} {x:α×Int}:NZ (.ok x:Rr α):=fun e h=>by cases h
theorem zwZ {α:Type} {c:Prop} [Decidable c] {x:α×Int}:NZ (if c then(.ok x:Rr α)else .error 4):=fun e h=>by
 split at h
 ·cases h
 ·cases h;rfl
theorem zbK {α β:Type} {r:Rr α} {k:α×Int→Rr β} (h1:NZ r) (h2:∀x,NZ (k x)):NZ (zaI r k):=fun e h=>by
 cases r with
 |error z=>cases h;exact h1 _ rfl
 |ok x=>exact h2 x e h
theorem zkG {α:Type} {f:Int→Rr α} (hf:∀p,NZ (f p)) {n:Nat} {p:Int} {acc:List α}:NZ (za1 f n p acc):=fun e h=>zgz (fun p e h=>hf p e h) h
theorem zhJ {bs:List Int} {p m:Int}:NZ (zbF bs p m):=fun e h=>by
 rcases zfw h with hz|⟨_,_,_,rfl⟩
 ·simpa using(zbT hz).2
 ·rfl
theorem zvs {bs:List Int} {p:Int}:NZ (zky bs p):=by
 have hn:∀p,NZ (zbh bs p):=fun p=>zs3
 have hb:∀p,NZ (zbn bs p):=fun p=>zs3
 have hs:∀p,NZ (zi2 bs p):=fun p=>by
  rw[show zi2 bs p=zaI (zbn bs p) fun c=>zaI (zbh bs c.2) fun n=>zaI (zbh bs n.2) fun r=> .ok (⟨c.1,n.1,r.1⟩,r.2) from by kernel_rfl]
  exact zbK (hb _) fun _=>zbK (hn _) fun _=>zbK (hn _) fun _=>zwY
 have hl:∀p,NZ (zfU bs p):=fun p=>by
  rw[show zfU bs p=zaI (zgk bs p) fun nm=>zaI (zbn bs nm.2) fun hd=>zaI (zbh bs hd.2) fun tk=>zaI (zbF bs tk.2 3) fun n=>zaI (zgj bs n.1.toNat n.2 []) fun x=> .ok (⟨nm.1,hd.1,tk.1,x.1⟩,x.2) from by kernel_rfl]
  refine zbK zs3 fun _=>zbK (hb _) fun _=>zbK (hn _) fun _=>zbK zhJ fun _=>zbK ?_ fun _=>zwY
  rw[zjC]
  exact zkG hb
 have hst:∀p,NZ (ze3 bs p):=fun p=>by
  rw[show ze3 bs p=zaI (zbh bs p) fun t=>zaI (zbh bs t.2) fun u=>zaI (zbh bs u.2) fun k=>zaI (zbF bs k.2 5) fun n=>zaI (za1 (zi2 bs) n.1.toNat n.2 []) fun ss=>zaI (zbF bs ss.2 4) fun n2=>zaI (za1 (zfU bs) n2.1.toNat n2.2 []) fun ls=>zaI (zbF bs ls.2 8) fun n3=>zaI (za1 (zgT bs) n3.1.toNat n3.2 []) fun ms=>
   if zbV ⟨t.1,u.1,k.1,ss.1,ls.1,ms.1⟩=true then .ok (⟨t.1,u.1,k.1,ss.1,ls.1,ms.1⟩,ms.2)else .error 4 from by kernel_rfl]
  exact zbK (hn _) fun _=>zbK (hn _) fun _=>zbK (hn _) fun _=>zbK zhJ fun _=>zbK (zkG hs) fun _=>zbK zhJ fun _=>zbK (zkG hl) fun _=>zbK zhJ fun _=>zbK (zkG fun _=>zs3) fun _=>zwZ
 rw[show zky bs p=zaI (zbh bs p) fun d=>zaI (zbh bs d.2) fun v=>zaI (zbh bs v.2) fun l=>zaI (ze3 bs l.2) fun s=>if zaZ ⟨d.1,v.1,l.1,s.1⟩=true then .ok (⟨d.1,v.1,l.1,s.1⟩,s.2)else .error 4 from by kernel_rfl]
 exact zbK (hn _) fun _=>zbK (hn _) fun _=>zbK (hn _) fun _=>zbK (hst _) fun _=>zwZ
set_option maxHeartbeats 8000000 in
theorem zjP (bs:List Int) (p:Int) (h:BsOk bs) (hp:i64 p) (b:Bool) (y:Pkt×Int) (e:Int) (hy:zkS b y e (zwX bs p)):
  (b=true→CallOK prog 49 [.obj (rds bs p)] (fun r o=>zbj r [.agg (y.1.enc.map RO.d)]∧o=[rds bs y.2]))∧(b=false→zbE prog 49 [.obj (rds bs p)] zvN):=by
 refine zhb func49 results49 ntmps49 call49 ?_
 simp only[f49,Option.getD]
 unfold zwX at hy
 cases e1:zbn bs p with
 |error x=>
  rw[e1]at hy
  obtain⟨rfl,rfl⟩:=zav hy
  have hr:=ziG bs _ h hp e1
  refine zL0 trivial ?_
  refine zp (rds bs p) (hr) ?_
  first|refine zs (I @zaj @zac) ?_|exact zt (I @zaj @zac)
 |ok k=>
 have he1:=zkH bs _ h hp e1
 have p1:=za7 h e1
 rw[e1]at hy
 obtain⟨kv,kq⟩:=k
 have hy:zkS b y e (zq5 bs kv kq):=hy
 simp only at he1 p1
 refine zL0 trivial ?_
 refine zj (he1) ?_
 rcases kinds kv with rfl|rfl|rfl|rfl|rfl|rfl|rfl|rfl|rfl|⟨k1,k2,k3,k4,k5,k6,k7,k8,k9⟩
 ·have hy:zkS b y e (zaI (zkN bs kq) fun x=> .ok ({pk0 1 with req:=x.1},x.2)):=hy
  have h1:=zma bs kq h p1
  cases x1:zkN bs kq with
  |error er=>
   rw[x1]at hy
   obtain⟨rfl,rfl⟩:=zav hy
   rw[x1]at h1;simp only[dOf]at h1;have hq:=zkL x1
   refine zL trivial (h1) ?_
   refine zc2 (zed _ hq) rfl ?_
   first|refine zs (I @zaj @zac) ?_|exact zt (I @zaj @zac)
  |ok x=>
  rw[x1]at hy
  obtain⟨rfl,rfl⟩:=zdb hy
  rw[x1]at h1;simp only[dOf]at h1
  repeat'(first|exact zC|refine zq @zda ?_|refine zx (h1) ?_|refine zx (zcv) ?_|(apply zab<;>intro hb)|(apply I;exact zI)|(apply I<;>intro hg))
  simp[zbj,zdS,zbc,zaH,st0, -List.length_flatMap,zam,zaD,zaA,zat,zan,zaw]
 ·have hy:zkS b y e (zaI (zgT bs kq) fun x=> .ok ({pk0 2 with ans:=x.1},x.2)):=hy
  have h1:=ze7 bs kq h p1
  cases x1:zgT bs kq with
  |error er=>
   rw[x1]at hy
   obtain⟨rfl,rfl⟩:=zav hy
   have h9:=zbT x1;rw[h9.1]at h1;have hq:=h9.2;rw[←bne_iff_ne]at hq
   refine zL trivial (h1) ?_
   refine zc2 (zed _ hq) rfl ?_
   first|refine zs (I @zaj @zac) ?_|exact zt (I @zaj @zac)
  |ok x=>
  rw[x1]at hy
  obtain⟨rfl,rfl⟩:=zdb hy
  obtain⟨h0,rfl⟩:=zc7 x1;rw[h0]at h1
  repeat'(first|exact zC|refine zq @zda ?_|refine zx (h1) ?_|refine zx (zcv) ?_|(apply zab<;>intro hb)|(apply I;exact zI)|(apply I<;>intro hg))
  simp[zbj,zdS,zbc,zaH,st0, -List.length_flatMap,zam,zaD,zaA,zat,zan,zaw]
 ·have hy:zkS b y e (zaI (zbh bs kq) fun x=> .ok ({pk0 3 with ballot:=x.1},x.2)):=hy
  cases xx:zbh bs kq with
  |error er=>
   rw[xx]at hy
   obtain⟨rfl,rfl⟩:=zav hy
   have hr:=zbx bs _ h p1 xx
   refine zL0 trivial ?_
   refine zp (rds bs p) (hr) ?_
   first|refine zs (I @zaj @zac) ?_|exact zt (I @zaj @zac)
  |ok x=>
  rw[xx]at hy
  simp only[zaI]at hy
  have hrx:=zbZ bs _ h p1 xx
  have px:=zar h xx
  refine zL0 trivial ?_
  refine zj (hrx) ?_
  obtain⟨rfl,rfl⟩:=zdb hy
  repeat'(first|exact zC|refine zq @zda ?_|refine zx (zcv) ?_|(apply zab<;>intro hb)|(apply I;exact zI)|(apply I<;>intro hg))
  simp[zbj,zdS,zbc,zaH,st0, -List.length_flatMap,zam,zaD,zaA,zat,zan,zaw]
 ·have hy:zkS b y e (zaI (zbh bs kq) fun x=>zaI (zkK bs x.2) fun y=> .ok ({pk0 4 with ballot:=x.1,prom:=y.1},y.2)):=hy
  cases xx:zbh bs kq with
  |error er=>
   rw[xx]at hy
   obtain⟨rfl,rfl⟩:=zav hy
   have hr:=zbx bs _ h p1 xx
   refine zL0 trivial ?_
   refine zp (rds bs p) (hr) ?_
   first|refine zs (I @zaj @zac) ?_|exact zt (I @zaj @zac)
  |ok x=>
  rw[xx]at hy
  have hrx:=zbZ bs _ h p1 xx
  have px:=zar h xx
  refine zL0 trivial ?_
  refine zj (hrx) ?_
  cases xy:zkK bs x.2 with
  |error er=>
   have hy:zkS b y e (zaI (zkK bs x.2) fun y=> .ok ({pk0 4 with ballot:=x.1,prom:=y.1},y.2)):=hy
   rw[xy]at hy
   obtain⟨rfl,rfl⟩:=zav hy
   have hr:=(ziI bs _ h px false (zdX,0) _ xy).2 rfl
   refine zL0 trivial ?_
   refine zp (rds bs p) (hr) ?_
   first|refine zs (I @zaj @zac) ?_|exact zt (I @zaj @zac)
  |ok z=>
  have hy:zkS b y e (zaI (zkK bs x.2) fun y=> .ok ({pk0 4 with ballot:=x.1,prom:=y.1},y.2)):=hy
  rw[xy]at hy
  have hry:=CallOK.nil ((ziI bs _ h px true z 0 xy).1 rfl)
  refine zL0 trivial ?_
  refine zj (hry) ?_
  obtain⟨rfl,rfl⟩:=zdb hy
  repeat'(first|exact zC|refine zq @zda ?_|refine zx (zcv) ?_|(apply zab<;>intro hb)|(apply I;exact zI)|(apply I<;>intro hg))
  simp[zbj,zdS,zbc,zaH,st0, -List.length_flatMap,zam,zaD,zaA,zat,zan,zaw]
 ·have hy:zkS b y e (zaI (zbh bs kq) fun x=>zaI (zbh bs x.2) fun w=>zaI (zi4 bs w.2) fun z=> .ok ({pk0 5 with ballot:=x.1,slot:=w.1,bat:=z.1},z.2)):=hy
  cases xx:zbh bs kq with
  |error er=>
   rw[xx]at hy
   obtain⟨rfl,rfl⟩:=zav hy
   have hr:=zbx bs _ h p1 xx
   refine zL0 trivial ?_
   refine zp (rds bs p) (hr) ?_
   first|refine zs (I @zaj @zac) ?_|exact zt (I @zaj @zac)
  |ok x=>
  rw[xx]at hy
  simp only[zaI]at hy
  have hrx:=zbZ bs _ h p1 xx
  have px:=zar h xx
  refine zL0 trivial ?_
  refine zj (hrx) ?_
  cases xw:zbh bs x.2 with
  |error er=>
   rw[xw]at hy
   obtain⟨rfl,rfl⟩:=zav hy
   have hr:=zbx bs _ h px xw
   refine zL0 trivial ?_
   refine zp (rds bs p) (hr) ?_
   first|refine zs (I @zaj @zac) ?_|exact zt (I @zaj @zac)
  |ok w=>
  rw[xw]at hy
  simp only[zaI]at hy
  have hrw:=zbZ bs _ h px xw
  have pw:=zar h xw
  refine zL0 trivial ?_
  refine zj (hrw) ?_
  cases xz:zi4 bs w.2 with
  |error er=>
   rw[xz]at hy
   obtain⟨rfl,rfl⟩:=zav hy
   have hr:=ziH bs _ h pw xz
   refine zL0 trivial ?_
   refine zp (rds bs p) (hr) ?_
   first|refine zs (I @zaj @zac) ?_|exact zt (I @zaj @zac)
  |ok z=>
  rw[xz]at hy
  simp only[zaI]at hy
  have hrz:=zkI bs _ h pw xz
  have pz:=zgA h xz
  refine zL0 trivial ?_
  refine zj (hrz) ?_
  obtain⟨rfl,rfl⟩:=zdb hy
  repeat'(first|exact zC|refine zq @zda ?_|refine zx (zcv) ?_|(apply zab<;>intro hb)|(apply I;exact zI)|(apply I<;>intro hg))
  simp[zbj,zdS,zbc,zaH,st0, -List.length_flatMap,zam,zaD,zaA,zat,zan,zaw]
 ·have hy:zkS b y e (zaI (zbh bs kq) fun x=>zaI (zbh bs x.2) fun w=>zaI (zi4 bs w.2) fun z=> .ok ({pk0 6 with ballot:=x.1,slot:=w.1,bat:=z.1},z.2)):=hy
  cases xx:zbh bs kq with
  |error er=>
   rw[xx]at hy
   obtain⟨rfl,rfl⟩:=zav hy
   have hr:=zbx bs _ h p1 xx
   refine zL0 trivial ?_
   refine zp (rds bs p) (hr) ?_
   first|refine zs (I @zaj @zac) ?_|exact zt (I @zaj @zac)
  |ok x=>
  rw[xx]at hy
  simp only[zaI]at hy
  have hrx:=zbZ bs _ h p1 xx
  have px:=zar h xx
  refine zL0 trivial ?_
  refine zj (hrx) ?_
  cases xw:zbh bs x.2 with
  |error er=>
   rw[xw]at hy
   obtain⟨rfl,rfl⟩:=zav hy
   have hr:=zbx bs _ h px xw
   refine zL0 trivial ?_
   refine zp (rds bs p) (hr) ?_
   first|refine zs (I @zaj @zac) ?_|exact zt (I @zaj @zac)
  |ok w=>
  rw[xw]at hy
  simp only[zaI]at hy
  have hrw:=zbZ bs _ h px xw
  have pw:=zar h xw
  refine zL0 trivial ?_
  refine zj (hrw) ?_
  cases xz:zi4 bs w.2 with
  |error er=>
   rw[xz]at hy
   obtain⟨rfl,rfl⟩:=zav hy
   have hr:=ziH bs _ h pw xz
   refine zL0 trivial ?_
   refine zp (rds bs p) (hr) ?_
   first|refine zs (I @zaj @zac) ?_|exact zt (I @zaj @zac)
  |ok z=>
  rw[xz]at hy
  simp only[zaI]at hy
  have hrz:=zkI bs _ h pw xz
  have pz:=zgA h xz
  refine zL0 trivial ?_
  refine zj (hrz) ?_
  obtain⟨rfl,rfl⟩:=zdb hy
  repeat'(first|exact zC|refine zq @zda ?_|refine zx (zcv) ?_|(apply zab<;>intro hb)|(apply I;exact zI)|(apply I<;>intro hg))
  simp[zbj,zdS,zbc,zaH,st0, -List.length_flatMap,zam,zaD,zaA,zat,zan,zaw]
 ·have hy:zkS b y e (zaI (zbh bs kq) fun x=>zaI (zbh bs x.2) fun w=> .ok ({pk0 7 with ballot:=x.1,done:=w.1},w.2)):=hy
  cases xx:zbh bs kq with
  |error er=>
   rw[xx]at hy
   obtain⟨rfl,rfl⟩:=zav hy
   have hr:=zbx bs _ h p1 xx
   refine zL0 trivial ?_
   refine zp (rds bs p) (hr) ?_
   first|refine zs (I @zaj @zac) ?_|exact zt (I @zaj @zac)
  |ok x=>
  rw[xx]at hy
  simp only[zaI]at hy
  have hrx:=zbZ bs _ h p1 xx
  have px:=zar h xx
  refine zL0 trivial ?_
  refine zj (hrx) ?_
  cases xw:zbh bs x.2 with
  |error er=>
   rw[xw]at hy
   obtain⟨rfl,rfl⟩:=zav hy
   have hr:=zbx bs _ h px xw
   refine zL0 trivial ?_
   refine zp (rds bs p) (hr) ?_
   first|refine zs (I @zaj @zac) ?_|exact zt (I @zaj @zac)
  |ok w=>
  rw[xw]at hy
  simp only[zaI]at hy
  have hrw:=zbZ bs _ h px xw
  have pw:=zar h xw
  refine zL0 trivial ?_
  refine zj (hrw) ?_
  obtain⟨rfl,rfl⟩:=zdb hy
  repeat'(first|exact zC|refine zq @zda ?_|refine zx (zcv) ?_|(apply zab<;>intro hb)|(apply I;exact zI)|(apply I<;>intro hg))
  simp[zbj,zdS,zbc,zaH,st0, -List.length_flatMap,zam,zaD,zaA,zat,zan,zaw]
 ·have hy:zkS b y e (zaI (zbh bs kq) fun x=> .ok ({pk0 8 with done:=x.1},x.2)):=hy
  cases xx:zbh bs kq with
  |error er=>
   rw[xx]at hy
   obtain⟨rfl,rfl⟩:=zav hy
   have hr:=zbx bs _ h p1 xx
   refine zL0 trivial ?_
   refine zp (rds bs p) (hr) ?_
   first|refine zs (I @zaj @zac) ?_|exact zt (I @zaj @zac)
  |ok x=>
  rw[xx]at hy
  simp only[zaI]at hy
  have hrx:=zbZ bs _ h p1 xx
  have px:=zar h xx
  refine zL0 trivial ?_
  refine zj (hrx) ?_
  obtain⟨rfl,rfl⟩:=zdb hy
  repeat'(first|exact zC|refine zq @zda ?_|refine zx (zcv) ?_|(apply zab<;>intro hb)|(apply I;exact zI)|(apply I<;>intro hg))
  simp[zbj,zdS,zbc,zaH,st0, -List.length_flatMap,zam,zaD,zaA,zat,zan,zaw]
 ·have hy:zkS b y e (zaI (zky bs kq) fun x=> .ok ({pk0 9 with snap:=x.1},x.2)):=hy
  have h1:=zi1 bs kq h p1
  cases x1:zky bs kq with
  |error er=>
   rw[x1]at hy
   obtain⟨rfl,rfl⟩:=zav hy
   have hq:=zvs _ x1;unfold dSn at h1;rw[x1]at h1;simp only at h1
   refine zL trivial (h1) ?_
   refine zc2 (zed _ hq) rfl ?_
   first|refine zs (I @zaj @zac) ?_|exact zt (I @zaj @zac)
  |ok x=>
  rw[x1]at hy
  obtain⟨rfl,rfl⟩:=zdb hy
  unfold dSn at h1;rw[x1]at h1;simp only at h1
  repeat'(first|exact zC|refine zq @zda ?_|refine zx (h1) ?_|refine zx (zcv) ?_|(apply zab<;>intro hb)|(apply I;exact zI)|(apply I<;>intro hg))
  simp[zbj,zdS,zbc,zaH,st0, -List.length_flatMap,zam,zaD,zaA,zat,zan,zaw]
 ·have hz:zq5 bs kv kq= .error 4:=by
   simp only[beq_eq_false_iff_ne,ne_eq]at k1 k2 k3 k4 k5 k6 k7 k8 k9
   unfold zq5
   simp only[k1,k2,k3,k4,k5,k6,k7,k8,k9,if_false]
  rw[hz]at hy
  obtain⟨rfl,rfl⟩:=zav hy
  exact zW0 (I k1 (I k2 (I k3 (I k4 (I k5 (I k6 (I k7 (I k8 (I k9 (I @zaj @zac))))))))))
theorem zjO (a b:List Int) (ha:a.length<2^40) (hb:b.length<2^40):CallOK prog 50 [.f (al a.length (zaa a)), .f (al b.length (zaa b))] (fun r o=>r=[rb ((strOf a).toList==(strOf b).toList)]∧o=[]):=by
 refine zh func50 results50 ntmps50 call50 ?_
 simp only[f50,Option.getD]
 refine zL0 (I @zdm @zah) ?_
 rfl
def szP (k:Nat):Nat:=if k=2 then 36 else 1
def zBa:List Value:=[.int .i64 0, .int .i64 0, .int .i64 0, .int .i64 0, .int .i64 0, .int .i64 0, .int .i64 0, .int .i64 0, .string .empty, .int .i64 0, .int .i64 0, .int .i64 0, .int .i64 0, .int .i64 0,zeC, .bool false, .int .i64 0, .int .i64 0, .int .i64 0, .int .i64 0,zeC, .int .i64 0, .int .i64 0, .int .i64 0, .int .i64 0, .int .i64 0,zeC, .int .i64 0, .int .i64 0, .int .i64 0, .int .i64 0, .int .i64 0, .int .i64 0,zeC,zeC,zeC]
def zq4:List C:=[di 0,di 0,di 0,di 0,di 0,di 0,di 0,di 0,dS .empty,di 0,di 0,di 0,di 0,di 0, .d (.v zeC),db false,di 0,di 0,di 0,di 0, .d (.v zeC),di 0,di 0,di 0,di 0,di 0, .d (.v zeC),di 0,di 0,di 0,di 0,di 0,di 0, .d (.v zeC), .d (.v zeC), .d (.v zeC)]
def nwP (x:Value) (k:Nat):List Value:=if k=2 then zBa else [codeOf x]
theorem zb8 {l:List Value} {n:Nat} (h:l.length=n+1):∃a m,l=a::m∧m.length=n:=by
 cases l with
 |nil=>cases h
 |cons a m=>exact⟨a,m,rfl,by simpa using h⟩
theorem zs2:(prog.info? 84).bind (·.zero)=some (.agg #[.int .i64 0]):=by kernel_rfl
theorem zm5:zh3 prog 48 [2,3] szP nwP (ziy 84):=by
 refine zeG zco mixed (T:=Ty) func48 rfl rfl ntmps48 rfl rfl rfl rfl rfl rfl rfl (by decide) (by decide) (by decide) ?_
 rintro x ⟨n,rfl⟩ ls hl hs
 obtain⟨y,z,rfl⟩:∃y z,ls=[y,z]:=by
  match ls,hl with
  |[y,z],_=>exact⟨y,z,rfl⟩
 have h1:y.length=35+1:=hs 0 2 y rfl rfl
 obtain⟨g,rfl⟩:=zvL (hs 1 3 z rfl rfl)
 clear hl hs
 obtain⟨a0,y0,rfl,k0⟩:=zb8 h1
 obtain⟨a1,y1,rfl,k1⟩:=zb8 k0
 obtain⟨a2,y2,rfl,k2⟩:=zb8 k1
 obtain⟨a3,y3,rfl,k3⟩:=zb8 k2
 obtain⟨a4,y4,rfl,k4⟩:=zb8 k3
 obtain⟨a5,y5,rfl,k5⟩:=zb8 k4
 obtain⟨a6,y6,rfl,k6⟩:=zb8 k5
 obtain⟨a7,y7,rfl,k7⟩:=zb8 k6
 obtain⟨a8,y8,rfl,k8⟩:=zb8 k7
 obtain⟨a9,y9,rfl,k9⟩:=zb8 k8
 obtain⟨a10,y10,rfl,k10⟩:=zb8 k9
 obtain⟨a11,y11,rfl,k11⟩:=zb8 k10
 obtain⟨a12,y12,rfl,k12⟩:=zb8 k11
 obtain⟨a13,y13,rfl,k13⟩:=zb8 k12
 obtain⟨a14,y14,rfl,k14⟩:=zb8 k13
 obtain⟨a15,y15,rfl,k15⟩:=zb8 k14
 obtain⟨a16,y16,rfl,k16⟩:=zb8 k15
 obtain⟨a17,y17,rfl,k17⟩:=zb8 k16
 obtain⟨a18,y18,rfl,k18⟩:=zb8 k17
 obtain⟨a19,y19,rfl,k19⟩:=zb8 k18
 obtain⟨a20,y20,rfl,k20⟩:=zb8 k19
 obtain⟨a21,y21,rfl,k21⟩:=zb8 k20
 obtain⟨a22,y22,rfl,k22⟩:=zb8 k21
 obtain⟨a23,y23,rfl,k23⟩:=zb8 k22
 obtain⟨a24,y24,rfl,k24⟩:=zb8 k23
 obtain⟨a25,y25,rfl,k25⟩:=zb8 k24
 obtain⟨a26,y26,rfl,k26⟩:=zb8 k25
 obtain⟨a27,y27,rfl,k27⟩:=zb8 k26
 obtain⟨a28,y28,rfl,k28⟩:=zb8 k27
 obtain⟨a29,y29,rfl,k29⟩:=zb8 k28
 obtain⟨a30,y30,rfl,k30⟩:=zb8 k29
 obtain⟨a31,y31,rfl,k31⟩:=zb8 k30
 obtain⟨a32,y32,rfl,k32⟩:=zb8 k31
 obtain⟨a33,y33,rfl,k33⟩:=zb8 k32
 obtain⟨a34,y34,rfl,k34⟩:=zb8 k33
 obtain⟨a35,y35,rfl,k35⟩:=zb8 k34
 obtain rfl:=List.length_eq_zero_iff.1 k35
 refine⟨.tuple #[.agg #[.int .i64 n], .bool true], .tup [.agg [di n],ab true], ?_, ?_,rfl, ?_⟩
 ·intro w
  simp[Instr.typeAssert,Tryz.underlying84]
 ·intro cx w r β
  simp[ReA,ReAs,ReC,ReCs,Rd,flat]
 ·simp only[zbi,plainO,List.map_cons,List.map_nil]
  first|refine zs0 ?_|exact zt0
  refine zL0 trivial ?_
  rfl
theorem zo5:zmH prog 48 2:=by
 refine zdw zco mixed (T:=Ty) func48 rfl rfl ntmps48 rfl rfl rfl rfl rfl rfl rfl (by decide) (y7:= .tuple #[.agg #[.int .i64 0], .bool false]) (V7:= .tup [.agg [di 0],ab false]) ?_ ?_ (by decide) rfl ?_
 ·intro w
  simp[Instr.typeAssert,Tryz.underlying84,ziz zs2 w]
 ·intro cx w r β
  simp[ReA,ReAs,ReC,ReCs,Rd,flat]
 ·simp only[List.replicate]
  first|refine zs0 ?_|exact zt0
  exact zW0 trivial
def Fx {α:Type} (Q:α×Int→Prop) (r:Rr α):Prop:=∀y,r= .ok y→Q y
theorem ziF {α:Type} {Q:α×Int→Prop} {x:α×Int} (h:Q x):Fx Q (.ok x):=fun y hy=>by cases hy;exact h
theorem za3 {α β:Type} {Q:α×Int→Prop} {R:β×Int→Prop} {r:Rr α} {k:α×Int→Rr β} (h1:Fx Q r) (h2:∀x,Q x→Fx R (k x)):Fx R (zaI r k):=fun y hy=>by
 cases r with
 |error e=>cases hy
 |ok x=>exact h2 x (h1 x rfl) y hy
theorem zxT {α:Type} {Q:α×Int→Prop} {c:Prop} [Decidable c] {x:α×Int} {e:Int} (h:c→Q x):Fx Q (if c then .ok x else .error e):=fun y hy=>by
 split at hy
 ·rename_i hc;cases hy;exact h hc
 ·cases hy
theorem zvp {bs:List Int} {p:Int}:Fx (fun y=>Small y.1.st) (zky bs p):=by
 rw[show zky bs p=zaI (zbh bs p) fun d=>zaI (zbh bs d.2) fun v=>zaI (zbh bs v.2) fun l=>zaI (ze3 bs l.2) fun s=>if zaZ ⟨d.1,v.1,l.1,s.1⟩=true then .ok (⟨d.1,v.1,l.1,s.1⟩,s.2)else .error 4 from by kernel_rfl]
 exact za3 (Q:=fun _=>True) (fun _ _=>trivial) fun _ _=>za3 (Q:=fun _=>True) (fun _ _=>trivial) fun _ _=>za3 (Q:=fun _=>True) (fun _ _=>trivial) fun _ _=>za3 (Q:=fun s=>Small s.1) (fun y hy=>zcU (zdY.1 (zhd hy))) fun _ hs=>zxT fun _=>hs
theorem zdK {n:Int} (h:0≤n∧n<4611686018427387904):i64 n:=by unfold i64;omega
theorem zt8 {k:Int} (hk:i64 k):(pk0 k).ok:=⟨hk,zc1,zc1,zc1,⟨zc1,zc1,zc1,zc1,(by show(ByteArray.empty).size<2^62;decide)⟩,⟨by simp,by simp⟩,⟨zc1,zc1,zc1,zc1,by simp,by simp⟩,by simp,⟨zc1,zc1,zc1,zc1,zc1,by simp,by simp⟩,by simp,by simp,(show Small st0 from zrf)⟩
section
variable {bs:List Int} (h:BsOk bs)
include h
theorem zdL {p:Int}:Fx (fun y=>i64 y.2∧0≤y.1∧y.1<4611686018427387904) (zbh bs p):=fun y hy=>⟨zar h hy,zkM h hy⟩
theorem zq3 {p:Int}:Fx (fun y=>i64 y.2∧Batch.may y.1=true) (zi4 bs p):=fun y hy=>by
 refine⟨zgA h hy, ?_⟩
 unfold zi4 at hy
 cases e1:zbn bs p with
 |error x=>rw[e1]at hy;cases hy
 |ok k=>
 rw[e1]at hy;simp only at hy
 split at hy
 ·cases hy
 split at hy
 ·cases hy;rfl
 cases e2:za1 (zbh bs) 4 k.2 []with
 |error x=>rw[e2]at hy;cases hy
 |ok l=>
 rw[e2]at hy;simp only at hy
 cases e3:zbF bs l.2 3 with
 |error x=>rw[e3]at hy;cases hy
 |ok n=>
 rw[e3]at hy;simp only at hy
 cases e4:za1 (zkN bs) n.1.toNat n.2 []with
 |error x=>rw[e4]at hy;cases hy
 |ok rs=>
 rw[e4]at hy;simp only at hy
 split at hy
 ·rename_i hm;cases hy;exact hm
 ·cases hy
def zn6 (v:Vote):Prop:=(0≤v.slot∧v.slot<4611686018427387904)∧(0≤v.ballot∧v.ballot<4611686018427387904)∧Batch.may v.batch=true
theorem zvq {p:Int}:Fx (fun y=>i64 y.2∧zn6 y.1) (zkJ bs p):=by
 rw[show zkJ bs p=zaI (zbh bs p) fun s=>zaI (zbh bs s.2) fun b=>zaI (zi4 bs b.2) fun x=> .ok (⟨s.1,b.1,x.1⟩,x.2) from by kernel_rfl]
 exact za3 (zdL h) fun s hs=>za3 (zdL h) fun b hb=>za3 (zq3 h) fun x hx=>ziF ⟨hx.1,hs.2,hb.2,hx.2⟩
structure PromR (p:Prom):Prop where
 src:0≤p.src∧p.src<256
 done:0≤p.done∧p.done<4611686018427387904
 view:0≤p.tip.view∧p.tip.view<4611686018427387904
 slot:0≤p.tip.slot∧p.tip.slot<4611686018427387904
 time:0≤p.time∧p.time<4611686018427387904
 len:p.votes.length<256
 votes:∀v∈p.votes,zn6 v
theorem zvr {p:Int}:Fx (fun y=>i64 y.2∧PromR y.1) (zkK bs p):=by
 rw[show zkK bs p=zaI (zbn bs p) fun f=>zaI (zbh bs f.2) fun d=>zaI (zbh bs d.2) fun v=>zaI (zbh bs v.2) fun s=>zaI (zbh bs s.2) fun t=>zaI (zbn bs t.2) fun n=>zaI (za1 (zkJ bs) n.1.toNat n.2 []) fun l=> .ok (⟨f.1,d.1,⟨v.1,s.1⟩,t.1,l.1⟩,l.2) from by kernel_rfl]
 have hb:∀p,Fx (fun y=>i64 y.2∧0≤y.1∧y.1<256) (zbn bs p):=fun p y hy=>⟨za7 h hy,ze4 h hy⟩
 refine za3 (hb _) fun f hf=>za3 (zdL h) fun d hd=>za3 (zdL h) fun v hv=>za3 (zdL h) fun s hs=>za3 (zdL h) fun t ht=>za3 (hb _) fun n hn=> ?_
 refine za3 (Q:=fun l=>i64 l.2∧l.1.length<256∧∀v∈l.1,zn6 v) (fun l hl=> ?_) fun l hl=>ziF ⟨hl.1,hf.2,hd.2,hv.2,hs.2,ht.2,hl.2.1,hl.2.2⟩
 have:=zdI (ok:=zn6) (fun p y hy=>zvq h y hy) hn.1 (fun _ hx=>by cases hx) hl
 refine⟨this.1, ?_,this.2.2⟩
 have h3:=this.2.1
 simp only[List.length_nil]at h3
 omega
theorem zwV {p:Int}:Fx (fun y=>y.1.ok) (zwX bs p):=by
 have hb:∀p,Fx (fun y=>i64 y.2∧0≤y.1∧y.1<256) (zbn bs p):=fun p y hy=>⟨za7 h hy,ze4 h hy⟩
 refine za3 (hb _) fun k hk=> ?_
 have h0:=zt8 (k:=k.1) (by unfold i64;omega)
 have hbo:∀b,Batch.may b=true→b.ok∧b.reqs.length<2^30:=fun b hb=>⟨zkP hb,by have:=(zfa hb).1;omega⟩
 unfold zq5
 split
 ·exact za3 (Q:=fun x=>Req.may x.1=true) (fun y hy=>(zg1 h hy).2) fun x hx=>ziF {h0 with req:=(zee hx).2.2.2}
 split
 ·exact za3 (Q:=fun x=>zcl x.1.reply) (fun y hy=>(zin h hy).2) fun x hx=>ziF {h0 with ans:=hx}
 split
 ·exact za3 (zdL h) fun x hx=>ziF {h0 with b:=zdK hx.2}
 split
 ·refine za3 (zdL h) fun x hx=>za3 (zvr h) fun y hy=>ziF {h0 with b:=zdK hx.2,prom:= ?_,pl:= ?_,vl:= ?_}
  ·have m:=hy.2
   have hsr:i64 y.1.src:=by have:=m.src;unfold i64;omega
   have hvl:y.1.votes.length<2^42:=by have:=m.len;omega
   exact⟨hsr,zdK m.done,zdK m.view,zdK m.slot,zdK m.time,hvl,fun v hv=>⟨zdK (m.votes v hv).1,zdK (m.votes v hv).2.1,(hbo _ (m.votes v hv).2.2).1⟩⟩
  ·have:=hy.2.len;show y.1.votes.length<_;omega
  ·exact fun v hv=>(hbo _ (hy.2.votes v hv).2.2).2
 split
 ·exact za3 (zdL h) fun x hx=>za3 (zdL h) fun w hw=>za3 (zq3 h) fun z hz=>ziF {h0 with b:=zdK hx.2,s:=zdK hw.2,bat:=(hbo _ hz.2).1,bl:=(hbo _ hz.2).2}
 split
 ·exact za3 (zdL h) fun x hx=>za3 (zdL h) fun w hw=>za3 (zq3 h) fun z hz=>ziF {h0 with b:=zdK hx.2,s:=zdK hw.2,bat:=(hbo _ hz.2).1,bl:=(hbo _ hz.2).2}
 split
 ·exact za3 (zdL h) fun x hx=>za3 (zdL h) fun w hw=>ziF {h0 with b:=zdK hx.2,d:=zdK hw.2}
 split
 ·exact za3 (zdL h) fun x hx=>ziF {h0 with d:=zdK hx.2}
 split
 ·exact za3 zvp fun x hx=>ziF {h0 with snap:=hx}
 ·intro y hy;cases hy
end
def zxU (p:Pkt):List Int:=if zmm p=true then pkI p else []
def zwW (bs:List Int):Pkt×Int:=if bs.length>2048 then(pk0 0,3)else match zwX bs 0 with
 | .error _=>(pk0 0,4)
 | .ok y=>if(y.2 !=(bs.length:Int)|| !((strOf (zxU y.1)).toList==(strOf bs).toList))=true then(pk0 0,4)else(y.1,0)
theorem zjN (e:Int):zmr 39 [2,3] (nwP (zeA 84 e))=⟨(dq2 (.one (.ptr ⟨2,0,0⟩ 0):: .one (.ptr ⟨3,0,0⟩ 0)::zup [])),[(2,{next:=1,l:=[obq 0 (zq4)]}),(3,{next:=1,l:=[obq 0 [di e]]})]⟩:=rfl
theorem zdM:zq4=[di 0,di 0,di 0,di 0,di 0,di 0,di 0,di 0,dS .empty,di 0,di 0,di 0,di 0,di 0, .d (.v zeC),db false,di 0,di 0,di 0,di 0, .d (.v zeC),di 0,di 0,di 0,di 0,di 0, .d (.v zeC),di 0,di 0,di 0,di 0,di 0,di 0, .d (.v zeC), .d (.v zeC), .d (.v zeC)]:=rfl
set_option maxHeartbeats 4000000 in
theorem zl8 (bs:List Int) (h:BsOk bs) (hl:bs.length<2^30):
  CallOK prog 15 [.f (asl bs.length (zaa bs))] (fun r o=>r=[.agg ((zwW bs).1.enc.map RO.d),ri (zwW bs).2]∧o=[]):=by
 refine CallOK.nil ?_
 refine zbt zco mixed (T:=Ty) func15 rfl results15 ntmps15 call15 call48 (ks:=[2,3]) rfl rfl rfl rfl rfl rfl (by decide) (by decide)
  (xs:=[asl bs.length (zaa bs)]) (sz:=szP) (nw:=nwP) zo5 zm5 ⟨(asl bs.length (zaa bs)::dd:: .one (.ptr ⟨2,0,0⟩ 0):: .one (.ptr ⟨3,0,0⟩ 0)::zup []),[(2,{next:=1,l:=[obq 0 (zq4),none,none,none,none,none,none,none,none,none,none,none,none,none,none,none,none,none,none,none,none,none,none,none,none,none,none,none,none,none,none,none,none,none,none,none,none]}),(3,{next:=1,l:=[obq 0 [di 0],none]})]⟩ ?_ ?_ rfl ?_
 ·simp only[List.map_cons,List.map_nil]
  refine zL0 trivial ?_
  exact fun _ _ _ h=>h
 ·exact⟨⟨_,rfl,rfl,rfl,rfl,rfl⟩,⟨_,rfl,rfl,rfl,rfl,rfl⟩,trivial⟩
 ·unfold zwW
  rw[zdM]
  cases hlen:decide ((bs.length:Int)>2048)
  ·rw[if_neg (by simp at hlen;omega)]
   cases e1:zwX bs 0 with
   |error e=>
    have hr:=(zjP bs 0 h zc1 false (pk0 0,0) e e1).2 rfl
    refine zL0 hlen ?_
    refine zp (rds bs 0) (hr) ?_
    simp only[zaT,zaU,zaS,za2]
    refine⟨⟨_,rfl⟩,rfl,⟨⟨_,rfl,rfl,rfl,rfl,rfl⟩,⟨_,rfl,rfl,rfl,rfl,rfl⟩,trivial⟩, ?_⟩
    rw[zjN,zdM]
    first|refine zs0 ?_|exact zt0
    simp[zbj,zdS,zbc,zaH,st0]
   |ok y=>
   have hr:=CallOK.nil ((zjP bs 0 h zc1 true y 0 e1).1 rfl)
   have hok:=zwV h y e1
   refine zL0 hlen ?_
   refine zj (hr) ?_
   have hbl:bs.length<2^40:=by omega
   cases hm:zmm y.1
   ·have hp:=zmh y.1 hok hm
    have he:=zjO [] bs (by simp) hbl
    simp only[zxU,hm,Bool.false_eq_true,if_false]
    cases hc:(y.2 !=(bs.length:Int))
    ·cases hd:((strOf ([])).toList==(strOf bs).toList)
     ·refine zL (I hc hd) (I (hp) (he)) ?_
      simp only[zaT,zaU,zaS,za2]
      refine⟨⟨_,rfl⟩,rfl,⟨⟨_,rfl,rfl,rfl,rfl,rfl⟩,⟨_,rfl,rfl,rfl,rfl,rfl⟩,trivial⟩, ?_⟩
      rw[zjN,zdM]
      first|refine zs0 ?_|exact zt0
      simp[zbj,zdS,zbc,zaH,st0]
     ·repeat'(first|exact zC|refine zq (I hc (I hd @zfk)) ?_|refine zx (hp) ?_|refine zx (he) ?_|(apply zab<;>intro hb)|(apply I;exact zI)|(apply I<;>intro hg))
      simp[zbj,zdS,zbc,zaH, -List.length_flatMap,zam,zaD,zaA,zat,zan,zaw]
    ·refine zL hc (hp) ?_
     simp only[zaT,zaU,zaS,za2]
     refine⟨⟨_,rfl⟩,rfl,⟨⟨_,rfl,rfl,rfl,rfl,rfl⟩,⟨_,rfl,rfl,rfl,rfl,rfl⟩,trivial⟩, ?_⟩
     rw[zjN,zdM]
     first|refine zs0 ?_|exact zt0
     simp[zbj,zdS,zbc,zaH,st0]
   ·have hp:=ziQ y.1 hok hm
    have hl9:=ziP hm
    have he:=zjO (pkI y.1) bs (by rw[pkI,List.length_append,List.length_singleton];omega) hbl
    simp only[zxU,hm,if_true]
    cases hc:(y.2 !=(bs.length:Int))
    ·cases hd:((strOf (pkI y.1)).toList==(strOf bs).toList)
     ·refine zL (I hc (I hd @zah)) (I (hp) (he)) ?_
      simp only[zaT,zaU,zaS,za2]
      refine⟨⟨_,rfl⟩,rfl,⟨⟨_,rfl,rfl,rfl,rfl,rfl⟩,⟨_,rfl,rfl,rfl,rfl,rfl⟩,trivial⟩, ?_⟩
      rw[zjN,zdM]
      first|refine zs0 ?_|exact zt0
      simp[zbj,zdS,zbc,zaH,st0]
     ·repeat'(first|exact zC|refine zq (I hc (I hd (I @zah @zfk))) ?_|refine zx (hp) ?_|refine zx (he) ?_|(apply zab<;>intro hb)|(apply I;exact zI)|(apply I<;>intro hg))
      simp[zbj,zdS,zbc,zaH, -List.length_flatMap,zam,zaD,zaA,zat,zan,zaw]
    ·refine zL (I hc @zah) (hp) ?_
     simp only[zaT,zaU,zaS,za2]
     refine⟨⟨_,rfl⟩,rfl,⟨⟨_,rfl,rfl,rfl,rfl,rfl⟩,⟨_,rfl,rfl,rfl,rfl,rfl⟩,trivial⟩, ?_⟩
     rw[zjN,zdM]
     first|refine zs0 ?_|exact zt0
     simp[zbj,zdS,zbc,zaH,st0]
  ·rw[if_pos (by simp at hlen;omega)]
   refine zL0 hlen ?_
   simp only[zaT,zaU,zaS,za2]
   refine⟨⟨_,rfl⟩,rfl,⟨⟨_,rfl,rfl,rfl,rfl,rfl⟩,⟨_,rfl,rfl,rfl,rfl,rfl⟩,trivial⟩, ?_⟩
   rw[zjN,zdM]
   first|refine zs0 ?_|exact zt0
   simp[zbj,zdS,zbc,zaH,st0]
end Go.Proofs.YtliimajkpggbhaaGreat
