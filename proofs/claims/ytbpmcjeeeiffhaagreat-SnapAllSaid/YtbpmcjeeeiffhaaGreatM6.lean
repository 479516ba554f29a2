import Derived.Test.YtbpmcjeeeiffhaaGreatK8
import Derived.Test.YtbpmcjeeeiffhaaGreatM1
namespace Go.Proofs.YtbpmcjeeeiffhaaGreat
open Go.Pk
set_option maxRecDepth 100000
set_option linter.unusedSimpArgs false
set_option linter.unusedVariables false
abbrev rds (bs:List Int) (p:Int):List RO:=rdr bs.length (zab bs) p
abbrev znR (e:Int):Value:=zeB 83 e
abbrev Rr (α:Type):=Except Int (α×Int)
def rOf {α:Type} (x:α×Int×Int):Rr α:=if x.2.2=0 then .ok (x.1,x.2.1)else .error x.2.2
theorem zfj {α:Type} {x:α×Int×Int} {y:α×Int} (h:rOf x= .ok y):x.2.2=0∧y=(x.1,x.2.1):=by
 unfold rOf at h
 split at h
 ·rename_i h0;cases h;exact⟨h0,rfl⟩
 ·cases h
theorem zjP {α:Type} {x:α×Int×Int} {e:Int} (h:rOf x= .error e):x.2.2=e∧e≠0:=by
 unfold rOf at h
 split at h
 ·cases h
 ·rename_i h0;cases h;exact⟨rfl,h0⟩
def zdt (bs:List Int) (p:Int):Rr Int:=rOf (zcz bs p)
def zcJ (bs:List Int) (p:Int):Rr Int:=rOf (zaQ bs p)
def zhS (bs:List Int) (p:Int):Rr ByteArray:=rOf (zbf bs p 12)
def zf0 (bs:List Int) (p:Int):Rr Memo:=rOf (zaR bs p)
def zbF (bs:List Int) (p most:Int):Rr Int:=match zcJ bs p with
 | .error e=> .error e
 | .ok (n,q)=>if n>most then .error 4 else .ok (n,q)
theorem zdn:CallOK Tryz.prog 93 [.f (ai 0)] (fun r o=>r=[]∧o=[]):=by
 refine zae zam mixed (T:=Ty) (n:=7) Tryz.func93 (c:=Tryz.f93.body.getD .skip) rfl Tryz.results93 Tryz.ntmps93 Tryz.call93 ?_
 simp only[Tryz.f93,Option.getD]
 repeat'(first|refine zq0 ?_|exact zd0|(refine zaa ?_ ?_<;>intro hb)|(refine And.intro ?_ ?_;exact zI)|(refine And.intro ?_ ?_<;>intro hg)|exact zC|fail)
theorem zf1 (e:Int) (h:e≠0):zcc Tryz.prog 93 [.f (ai e)] (znR e):=by
 refine zcN zam mixed (T:=Ty) (n:=7) Tryz.func93 (c:=Tryz.f93.body.getD .skip) rfl Tryz.ntmps93 Tryz.call93 ?_
 simp only[Tryz.f93,Option.getD]
 have h1:(e !=0)=true:=by simpa using h
 repeat'(first|refine zq (I h1 @zaf) ?_|exact zd (I h1 @zaf)|(refine zaa ?_ ?_<;>intro hb)|(refine And.intro ?_ ?_;exact zI)|(refine And.intro ?_ ?_<;>intro hg)|exact zC|fail)
theorem zc2 (bs:List Int) (p:Int) (h:BsOk bs) (hp:i64 p) {y:Int×Int} (hy:zdt bs p= .ok y):
  CallOK Tryz.prog 42 [.obj (rds bs p)] (fun r o=>r=[ri y.1]∧o=[rds bs y.2]):=by
 obtain⟨h0,rfl⟩:=zfj hy
 refine zae zam mixed (T:=Ty) (n:=26) Tryz.func42 (c:=Tryz.f42.body.getD .skip) rfl Tryz.results42 Tryz.ntmps42 Tryz.call42 ?_
 simp only[Tryz.f42,Option.getD]
 have h1:=zh0 bs p h hp
 rw[h0]at h1
 repeat'(first|refine zq0 ?_|exact zd0|refine zc (h1) ?_|refine zg (h1) ?_|refine zc (zdn) ?_|refine zg (zdn) ?_|(refine zaa ?_ ?_<;>intro hb)|(refine And.intro ?_ ?_;exact zI)|(refine And.intro ?_ ?_<;>intro hg)|exact zC|fail)
theorem zcw (bs:List Int) (p:Int) (h:BsOk bs) (hp:i64 p) {e:Int} (hy:zdt bs p= .error e):
  zcc Tryz.prog 42 [.obj (rds bs p)] (znR e):=by
 obtain⟨h0,h2⟩:=zjP hy
 refine zcN zam mixed (T:=Ty) (n:=26) Tryz.func42 (c:=Tryz.f42.body.getD .skip) rfl Tryz.ntmps42 Tryz.call42 ?_
 simp only[Tryz.f42,Option.getD]
 have h1:=zh0 bs p h hp
 rw[h0]at h1
 repeat'(first|refine zq0 ?_|exact zd0|refine zc (h1) ?_|refine zg (h1) ?_|(refine zaa ?_ ?_<;>intro hb)|(refine And.intro ?_ ?_;exact zI)|(refine And.intro ?_ ?_<;>intro hg)|exact zC|fail)
 refine zg3 (zf1 e h2) rfl ?_
 first|refine zs @zaf ?_|exact zt @zaf
theorem zf2 (bs:List Int) (p:Int) (h:BsOk bs) (hp:i64 p) {y:Int×Int} (hy:zcJ bs p= .ok y):
  CallOK Tryz.prog 85 [.obj (rds bs p)] (fun r o=>r=[ri y.1]∧o=[rds bs y.2]):=by
 obtain⟨h0,rfl⟩:=zfj hy
 refine zae zam mixed (T:=Ty) (n:=26) Tryz.func85 (c:=Tryz.f85.body.getD .skip) rfl Tryz.results85 Tryz.ntmps85 Tryz.call85 ?_
 simp only[Tryz.f85,Option.getD]
 have h1:=ze4 bs p h hp
 rw[h0]at h1
 repeat'(first|refine zq0 ?_|exact zd0|refine zc (h1) ?_|refine zg (h1) ?_|refine zc (zdn) ?_|refine zg (zdn) ?_|(refine zaa ?_ ?_<;>intro hb)|(refine And.intro ?_ ?_;exact zI)|(refine And.intro ?_ ?_<;>intro hg)|exact zC|fail)
theorem zf3 (bs:List Int) (p:Int) (h:BsOk bs) (hp:i64 p) {e:Int} (hy:zcJ bs p= .error e):
  zcc Tryz.prog 85 [.obj (rds bs p)] (znR e):=by
 obtain⟨h0,h2⟩:=zjP hy
 refine zcN zam mixed (T:=Ty) (n:=26) Tryz.func85 (c:=Tryz.f85.body.getD .skip) rfl Tryz.ntmps85 Tryz.call85 ?_
 simp only[Tryz.f85,Option.getD]
 have h1:=ze4 bs p h hp
 rw[h0]at h1
 repeat'(first|refine zq0 ?_|exact zd0|refine zc (h1) ?_|refine zg (h1) ?_|(refine zaa ?_ ?_<;>intro hb)|(refine And.intro ?_ ?_;exact zI)|(refine And.intro ?_ ?_<;>intro hg)|exact zC|fail)
 refine zg3 (zf1 e h2) rfl ?_
 first|refine zs @zaf ?_|exact zt @zaf
theorem zpw (bs:List Int) (p:Int) (h:BsOk bs) (hp:i64 p) {y:ByteArray×Int} (hy:zhS bs p= .ok y):
  CallOK Tryz.prog 136 [.obj (rds bs p)] (fun r o=>r=[.one (.d (sD y.1))]∧o=[rds bs y.2]):=by
 obtain⟨h0,rfl⟩:=zfj hy
 refine zae zam mixed (T:=Ty) (n:=26) Tryz.func136 (c:=Tryz.f136.body.getD .skip) rfl Tryz.results136 Tryz.ntmps136 Tryz.call136 ?_
 simp only[Tryz.f136,Option.getD]
 have h1:=zjV bs p 12 h hp
 rw[h0]at h1
 repeat'(first|refine zq0 ?_|exact zd0|refine zc (h1) ?_|refine zg (h1) ?_|refine zc (zdn) ?_|refine zg (zdn) ?_|(refine zaa ?_ ?_<;>intro hb)|(refine And.intro ?_ ?_;exact zI)|(refine And.intro ?_ ?_<;>intro hg)|exact zC|fail)
theorem znE (bs:List Int) (p:Int) (h:BsOk bs) (hp:i64 p) {e:Int} (hy:zhS bs p= .error e):
  zcc Tryz.prog 136 [.obj (rds bs p)] (znR e):=by
 obtain⟨h0,h2⟩:=zjP hy
 refine zcN zam mixed (T:=Ty) (n:=26) Tryz.func136 (c:=Tryz.f136.body.getD .skip) rfl Tryz.ntmps136 Tryz.call136 ?_
 simp only[Tryz.f136,Option.getD]
 have h1:=zjV bs p 12 h hp
 rw[h0]at h1
 repeat'(first|refine zq0 ?_|exact zd0|refine zc (h1) ?_|refine zg (h1) ?_|(refine zaa ?_ ?_<;>intro hb)|(refine And.intro ?_ ?_;exact zI)|(refine And.intro ?_ ?_<;>intro hg)|exact zC|fail)
 refine zg3 (zf1 e h2) rfl ?_
 first|refine zs @zaf ?_|exact zt @zaf
theorem zpx (bs:List Int) (p:Int) (h:BsOk bs) (hp:i64 p) {y:Memo×Int} (hy:zf0 bs p= .ok y):
  CallOK Tryz.prog 87 [.obj (rds bs p)] (fun r o=>r=[zpD y.1]∧o=[rds bs y.2]):=by
 obtain⟨h0,rfl⟩:=zfj hy
 refine zae zam mixed (T:=Ty) (n:=32) Tryz.func87 (c:=Tryz.f87.body.getD .skip) rfl Tryz.results87 Tryz.ntmps87 Tryz.call87 ?_
 simp only[Tryz.f87,Option.getD]
 have h1:=zgM bs p h hp
 rw[h0]at h1
 repeat'(first|refine zq0 ?_|exact zd0|refine zc (h1) ?_|refine zg (h1) ?_|refine zc (zdn) ?_|refine zg (zdn) ?_|(refine zaa ?_ ?_<;>intro hb)|(refine And.intro ?_ ?_;exact zI)|(refine And.intro ?_ ?_<;>intro hg)|exact zC|fail)
 rfl
theorem znF (bs:List Int) (p:Int) (h:BsOk bs) (hp:i64 p) {e:Int} (hy:zf0 bs p= .error e):
  zcc Tryz.prog 87 [.obj (rds bs p)] (znR e):=by
 obtain⟨h0,h2⟩:=zjP hy
 refine zcN zam mixed (T:=Ty) (n:=32) Tryz.func87 (c:=Tryz.f87.body.getD .skip) rfl Tryz.ntmps87 Tryz.call87 ?_
 simp only[Tryz.f87,Option.getD]
 have h1:=zgM bs p h hp
 rw[h0]at h1
 repeat'(first|refine zq0 ?_|exact zd0|refine zc (h1) ?_|refine zg (h1) ?_|(refine zaa ?_ ?_<;>intro hb)|(refine And.intro ?_ ?_;exact zI)|(refine And.intro ?_ ?_<;>intro hg)|exact zC|fail)
 refine zg3 (zf1 e h2) rfl ?_
 first|refine zs @zaf ?_|exact zt @zaf
theorem zk4 {bs:List Int} {p most:Int} {y:Int×Int} (hy:zbF bs p most= .ok y):zcJ bs p= .ok y∧y.1≤most:=by
 unfold zbF at hy
 cases hz:zcJ bs p with
 |error e=>rw[hz]at hy;cases hy
 |ok z=>
  rw[hz]at hy
  simp only at hy
  split at hy
  ·cases hy
  ·rename_i hgt
   cases hy
   exact⟨rfl,by simp only;omega⟩
theorem znG {bs:List Int} {p most:Int} {e:Int} (hy:zbF bs p most= .error e):zcJ bs p= .error e∨∃z,zcJ bs p= .ok z∧z.1>most∧e=4:=by
 unfold zbF at hy
 cases hz:zcJ bs p with
 |error e=>rw[hz]at hy;cases hy;exact .inl rfl
 |ok z=>
  rw[hz]at hy
  simp only at hy
  split at hy
  ·rename_i hgt;cases hy;exact .inr ⟨z,rfl,hgt,rfl⟩
  ·cases hy
theorem ze0 (bs:List Int) (p most:Int) (h:BsOk bs) (hp:i64 p) {y:Int×Int} (hy:zbF bs p most= .ok y):
  CallOK Tryz.prog 84 [.obj (rds bs p), .f (ai most)] (fun r o=>r=[ri y.1]∧o=[rds bs y.2]):=by
 obtain⟨hz,hle⟩:=zk4 hy
 have h1:=zf2 bs p h hp hz
 have h2:decide (y.1>most)=false:=by simpa using hle
 refine zae zam mixed (T:=Ty) (n:=14) Tryz.func84 (c:=Tryz.f84.body.getD .skip) rfl Tryz.results84 Tryz.ntmps84 Tryz.call84 ?_
 simp only[Tryz.f84,Option.getD]
 repeat'(first|refine zq0 ?_|exact zd0|(refine zaa ?_ ?_<;>intro hb)|(refine And.intro ?_ ?_;exact zI)|(refine And.intro ?_ ?_<;>intro hg)|exact zC|fail)
 refine zj (h1) ?_
 repeat'(first|refine zq h2 ?_|exact zd h2|(refine zaa ?_ ?_<;>intro hb)|(refine And.intro ?_ ?_;exact zI)|(refine And.intro ?_ ?_<;>intro hg)|exact zC|fail)
theorem zdT (bs:List Int) (p most:Int) (h:BsOk bs) (hp:i64 p) {e:Int} (hy:zbF bs p most= .error e):
  zcc Tryz.prog 84 [.obj (rds bs p), .f (ai most)] (znR e):=by
 refine zcN zam mixed (T:=Ty) (n:=14) Tryz.func84 (c:=Tryz.f84.body.getD .skip) rfl Tryz.ntmps84 Tryz.call84 ?_
 simp only[Tryz.f84,Option.getD]
 rcases znG hy with hz|⟨z,hz,hgt,rfl⟩
 ·have h1:=zf3 bs p h hp hz
  repeat'(first|refine zq0 ?_|exact zd0|(refine zaa ?_ ?_<;>intro hb)|(refine And.intro ?_ ?_;exact zI)|(refine And.intro ?_ ?_<;>intro hg)|exact zC|fail)
  refine zp (rds bs p) (h1) ?_
  first|refine zs @zaf ?_|exact zt @zaf
 ·have h1:=zf2 bs p h hp hz
  have h2:decide (z.1>most)=true:=by simpa using hgt
  repeat'(first|refine zq0 ?_|exact zd0|(refine zaa ?_ ?_<;>intro hb)|(refine And.intro ?_ ?_;exact zI)|(refine And.intro ?_ ?_<;>intro hg)|exact zC|fail)
  refine zj (h1) ?_
  repeat'(first|refine zq (I h2 @zaf) ?_|exact zd (I h2 @zaf)|(refine zaa ?_ ?_<;>intro hb)|(refine And.intro ?_ ?_;exact zI)|(refine And.intro ?_ ?_<;>intro hg)|exact zC|fail)
def zgv (bs:List Int):Nat→Int→List Int→Rr (List Int)
 |0,p,acc=> .ok (acc,p)
 |n+1,p,acc=>match zcJ bs p with
  | .error e=> .error e
  | .ok x=>zgv bs n x.2 (acc++[x.1])
def zey (bs:List Int) (p:Int):Rr Lk:=match zhS bs p with
 | .error e=> .error e
 | .ok nm=>match zcJ bs nm.2 with
  | .error e=> .error e
  | .ok hd=>match zdt bs hd.2 with
   | .error e=> .error e
   | .ok tk=>match zbF bs tk.2 3 with
    | .error e=> .error e
    | .ok n=>match zgv bs n.1.toNat n.2 []with
     | .error e=> .error e
     | .ok l=> .ok (⟨nm.1,hd.1,tk.1,l.1⟩,l.2)
theorem za2 {bs:List Int} {p:Int} {y:Int×Int} (h:BsOk bs) (hy:zdt bs p= .ok y):i64 y.2:=by
 obtain⟨_,rfl⟩:=zfj hy
 exact zbV h.l zcx
theorem zcI {bs:List Int} {p:Int} {y:Int×Int} (h:BsOk bs) (hy:zcJ bs p= .ok y):i64 y.2:=by
 obtain⟨_,rfl⟩:=zfj hy
 exact zbV h.l zbG
theorem zpu {bs:List Int} {p:Int} {y:Int×Int} (h:BsOk bs) (hy:zcJ bs p= .ok y):0≤y.1∧y.1<256:=by
 obtain⟨_,rfl⟩:=zfj hy
 exact zdJ h
theorem ziT {bs:List Int} {p:Int} {y:ByteArray×Int} (h:BsOk bs) (hy:zhS bs p= .ok y):i64 y.2:=by
 obtain⟨_,rfl⟩:=zfj hy
 exact zbV h.l (ze5 h)
theorem zdg {bs:List Int} {p m:Int} {y:Int×Int} (h:BsOk bs) (hy:zbF bs p m= .ok y):i64 y.2∧0≤y.1∧y.1≤m:=by
 obtain⟨h1,h2⟩:=zk4 hy
 exact⟨zcI h h1,(zpu h h1).1,h2⟩
abbrev zun (bs:List Int) (q:Int) (nx:Nat):Nat×RS:=(0,{next:=nx,l:=[some {e:=0,var:=true,fz:=false,bor:=true,sz:=0,cells:=[.d (.sl bs.length (zab bs)),di q]},none,none]})
abbrev zw2 (k:Lk):RF:= .agg [.d (sD k.name), .d (iD k.holder), .d (iD k.token), .own 1 k.line.length (za3 k.line) false]
set_option maxHeartbeats 2000000 in
theorem zhQ (bs:List Int) (p:Int) (h:BsOk bs) (hp:i64 p) (b:Bool) (y:Lk×Int) (e:Int) (hy:zul b y e (zey bs p)):
  (b=true→CallOK Tryz.prog 86 [.obj (rds bs p)] (fun r o=>r=[zw2 y.1]∧o=[rds bs y.2]))∧(b=false→zcc Tryz.prog 86 [.obj (rds bs p)] (znR e)):=by
 refine zmi zam mixed (T:=Ty) (n:=26) Tryz.func86 (c:=Tryz.f86.body.getD .skip) rfl Tryz.results86 Tryz.ntmps86 Tryz.call86 ?_
 simp only[Tryz.f86,Option.getD]
 unfold zey at hy
 cases e1:zhS bs p with
 |error x=>
  rw[e1]at hy
  obtain⟨rfl,rfl⟩:=zbr hy
  have h1:=znE bs p h hp e1
  repeat'(first|refine zq0 ?_|exact zd0|(refine zaa ?_ ?_<;>intro hb)|(refine And.intro ?_ ?_;exact zI)|(refine And.intro ?_ ?_<;>intro hg)|exact zC|fail)
  refine zp (rds bs p) (h1) ?_
  first|refine zs (I @zaP @zaf) ?_|exact zt (I @zaP @zaf)
 |ok nm=>
 have h1:=zpw bs p h hp e1
 rw[e1]at hy
 simp only at hy
 repeat'(first|refine zq0 ?_|exact zd0|(refine zaa ?_ ?_<;>intro hb)|(refine And.intro ?_ ?_;exact zI)|(refine And.intro ?_ ?_<;>intro hg)|exact zC|fail)
 refine zj (h1) ?_
 cases e2:zcJ bs nm.2 with
 |error x=>
  rw[e2]at hy
  obtain⟨rfl,rfl⟩:=zbr hy
  have h2:=zf3 bs _ h (ziT h e1) e2
  repeat'(first|refine zq0 ?_|exact zd0|(refine zaa ?_ ?_<;>intro hb)|(refine And.intro ?_ ?_;exact zI)|(refine And.intro ?_ ?_<;>intro hg)|exact zC|fail)
  refine zp (rds bs p) (h2) ?_
  first|refine zs (I @zaP @zaf) ?_|exact zt (I @zaP @zaf)
 |ok hd=>
 have h2:=zf2 bs _ h (ziT h e1) e2
 rw[e2]at hy
 simp only at hy
 repeat'(first|refine zq0 ?_|exact zd0|(refine zaa ?_ ?_<;>intro hb)|(refine And.intro ?_ ?_;exact zI)|(refine And.intro ?_ ?_<;>intro hg)|exact zC|fail)
 refine zj (h2) ?_
 cases e3:zdt bs hd.2 with
 |error x=>
  rw[e3]at hy
  obtain⟨rfl,rfl⟩:=zbr hy
  have h3:=zcw bs _ h (zcI h e2) e3
  repeat'(first|refine zq0 ?_|exact zd0|(refine zaa ?_ ?_<;>intro hb)|(refine And.intro ?_ ?_;exact zI)|(refine And.intro ?_ ?_<;>intro hg)|exact zC|fail)
  refine zp (rds bs p) (h3) ?_
  first|refine zs (I @zaP @zaf) ?_|exact zt (I @zaP @zaf)
 |ok tk=>
 have h3:=zc2 bs _ h (zcI h e2) e3
 rw[e3]at hy
 simp only at hy
 repeat'(first|refine zq0 ?_|exact zd0|(refine zaa ?_ ?_<;>intro hb)|(refine And.intro ?_ ?_;exact zI)|(refine And.intro ?_ ?_<;>intro hg)|exact zC|fail)
 refine zj (h3) ?_
 cases e4:zbF bs tk.2 3 with
 |error x=>
  rw[e4]at hy
  obtain⟨rfl,rfl⟩:=zbr hy
  have h4:=zdT bs _ 3 h (za2 h e3) e4
  repeat'(first|refine zq0 ?_|exact zd0|(refine zaa ?_ ?_<;>intro hb)|(refine And.intro ?_ ?_;exact zI)|(refine And.intro ?_ ?_<;>intro hg)|exact zC|fail)
  refine zp (rds bs p) (h4) ?_
  first|refine zs (I @zaP @zaf) ?_|exact zt (I @zaP @zaf)
 |ok n=>
 have h4:=ze0 bs _ 3 h (za2 h e3) e4
 obtain⟨hn1,hn2,hn3⟩:=zdg h e4
 rw[e4]at hy
 simp only at hy
 repeat'(first|refine zq0 ?_|exact zd0|(refine zaa ?_ ?_<;>intro hb)|(refine And.intro ?_ ?_;exact zI)|(refine And.intro ?_ ?_<;>intro hg)|exact zC|fail)
 refine zj (h4) ?_
 repeat'(first|refine zq0 ?_|exact zd0|(refine zaa ?_ ?_<;>intro hb)|(refine And.intro ?_ ?_;exact zI)|(refine And.intro ?_ ?_<;>intro hg)|exact zC|fail)
 refine zah (τ:=Nat×Int×List Int×Nat) (fun t=>⟨[.one (.ptr ⟨0,0,0⟩ 0),dd, .one (.ptr ⟨2,0,1⟩ 0), .one (.ptr ⟨3,0,1⟩ 0),dd,dd,dd,dd,dd,dd,dd,dd,dd,dd,ai n.1,ai t.1,dd,dd,dd,dd,dd,dd,dd,dd,dd,dd],[zun bs t.2.1 t.2.2.2,(2,{next:=2,l:=[some {e:=1,var:=true,fz:=false,sz:=0,cells:=[dS .empty,di 0,di 0, .d (.v (.slice none 0 0))]},none,none,none,none]}),(3,{next:=2,l:=[some {e:=1,var:=true,fz:=false,sz:=0,cells:=[dS nm.1,di hd.1,di tk.1, .own ⟨3,4,1⟩ 0 t.2.2.1.length]},none,none,none,some {e:=1,var:=false,fz:=false,sz:=1,cells:=(za3 t.2.2.1).map C.d}]}),(21,⟨2,[]⟩),(22,⟨2,[]⟩)]⟩)
  (fun t=>t.1≤n.1.toNat∧i64 t.2.1∧t.2.2.1.length=t.1) (fun t=>zgv bs (n.1.toNat - t.1) t.2.1 t.2.2.1) (fun t=>n.1.toNat - t.1) (0,n.2,[],5)
  ((Gh.nilF 3 3 1 rfl).trans (Gh.canon [0,2,3] [21,22] [0] zK rfl rfl)) ⟨Nat.zero_le _,hn1,rfl⟩ ?_
 intro⟨i,q,acc,nx⟩ ⟨hi0,hq,ha⟩ hF K hK
 simp only[Nat.sub_zero]at hi0 hq ha hF hK⊢
 rw[←hF]at hy
 refine zw ?_
 refine zaa (fun hlt=> ?_) (fun hge=> ?_)
 ·have hi:i<n.1.toNat:=by simp at hlt;omega
  have hw:=zai hi (by omega)
  have hst:n.1.toNat - i=(n.1.toNat - (i+1))+1:=by omega
  rw[hst,zgv]at hy
  cases hx:zcJ bs q with
  |error x=>
   rw[hx]at hy
   obtain⟨rfl,rfl⟩:=zbr hy
   have hr:=zf3 bs q h hq hx
   first|refine zs0 ?_|exact zt0
   refine zjM _ _ (zjl zam mixed 3 [false,false,false,true,true,true,true,true] (znR e) (fun g=> ?_) ?_)
   ·first|refine zs (I @zaP @zaf) ?_|exact zt (I @zaP @zaf)
   ·simp only[zlw,zlx,zht]
    repeat'(first|refine zq0 ?_|exact zd0|(refine zaa ?_ ?_<;>intro hb)|(refine And.intro ?_ ?_;exact zI)|(refine And.intro ?_ ?_<;>intro hg)|exact zC|fail)
    exact zn (rds bs q) (hr)
  |ok x=>
   have hF2:zgv bs (n.1.toNat - (i+1)) x.2 (acc++[x.1])=zgv bs (n.1.toNat - i) q acc:=by rw[hst,zgv,hx]
   have hr:=zf2 bs q h hq hx
   repeat'(first|refine zq0 ?_|exact zd0|(refine zaa ?_ ?_<;>intro hb)|(refine And.intro ?_ ?_;exact zI)|(refine And.intro ?_ ?_<;>intro hg)|exact zC|fail)
   refine zj (hr) ?_
   repeat'(first|refine zq @zaq ?_|exact zd @zaq|(refine zaa ?_ ?_<;>intro hb)|(refine And.intro ?_ ?_;exact zI)|(refine And.intro ?_ ?_<;>intro hg)|exact zC|fail)
   refine hK _ (i+1,x.2,acc++[x.1],nx+1) (Gh.canon [0,2,3] [] [0] (zk (I hw (I @List.length_append.{0} @List.length_singleton.{0}))) rfl (by simp only[List.length_append,List.length_singleton];rw[zil];rfl)) ⟨hi,zcI h hx,by simp only[List.length_append,List.length_singleton];omega⟩ hF2 (by simp only;omega)
 ·have hi:i=n.1.toNat:=by
   have:¬(i:Int)<n.1:=by simpa using hge
   omega
  rw[hi,Nat.sub_self,zgv]at hy
  obtain⟨rfl,rfl⟩:=zow hy
  repeat'(first|refine zq @zjm ?_|exact zd @zjm|(refine zaa ?_ ?_<;>intro hb)|(refine And.intro ?_ ?_;exact zI)|(refine And.intro ?_ ?_<;>intro hg)|exact zC|fail)
theorem zpv (bs:List Int) (p:Int) (h:BsOk bs) (hp:i64 p) {y:Lk×Int} (hy:zey bs p= .ok y):CallOK Tryz.prog 86 [.obj (rds bs p)] (fun r o=>r=[zw2 y.1]∧o=[rds bs y.2]):=
 (zhQ bs p h hp true y 0 hy).1 rfl
theorem znC (bs:List Int) (p:Int) (h:BsOk bs) (hp:i64 p) {e:Int} (hy:zey bs p= .error e):zcc Tryz.prog 86 [.obj (rds bs p)] (znR e):=
 (zhQ bs p h hp false (⟨.empty,0,0,[]⟩,0) e hy).2 rfl
theorem zhR {bs:List Int} (h:BsOk bs):∀{n:Nat} {p:Int} {acc:List Int} {y:List Int×Int},i64 p→zgv bs n p acc= .ok y→i64 y.2∧y.1.length=acc.length+n
 |0,p,acc,y,hp,hy=>by cases hy;exact⟨hp,rfl⟩
 |n+1,p,acc,y,hp,hy=>by
  rw[zgv]at hy
  cases hx:zcJ bs p with
  |error x=>rw[hx]at hy;cases hy
  |ok x=>
   rw[hx]at hy
   have:=zhR h (zcI h hx) hy
   rw[List.length_append,List.length_singleton]at this
   exact⟨this.1,by omega⟩
theorem znD {bs:List Int} {p:Int} {y:ByteArray×Int} (hy:zhS bs p= .ok y):y.1.size≤bs.length:=by
 obtain⟨_,rfl⟩:=zfj hy
 exact zgy
theorem zlQ {bs:List Int} (h:BsOk bs) {p:Int} {y:Lk×Int} (hy:zey bs p= .ok y):i64 y.2∧y.1.line.length≤3∧y.1.name.size≤bs.length:=by
 unfold zey at hy
 cases e1:zhS bs p with
 |error x=>rw[e1]at hy;cases hy
 |ok nm=>
 rw[e1]at hy;simp only at hy
 cases e2:zcJ bs nm.2 with
 |error x=>rw[e2]at hy;cases hy
 |ok hd=>
 rw[e2]at hy;simp only at hy
 cases e3:zdt bs hd.2 with
 |error x=>rw[e3]at hy;cases hy
 |ok tk=>
 rw[e3]at hy;simp only at hy
 cases e4:zbF bs tk.2 3 with
 |error x=>rw[e4]at hy;cases hy
 |ok n=>
 rw[e4]at hy;simp only at hy
 obtain⟨hn1,hn2,hn3⟩:=zdg h e4
 cases e5:zgv bs n.1.toNat n.2 []with
 |error x=>rw[e5]at hy;cases hy
 |ok l=>
 rw[e5]at hy;simp only at hy
 obtain⟨f1,f2⟩:=zhR h hn1 e5
 cases hy
 simp only[List.length_nil]at f2
 exact⟨f1,by simp only;omega,znD e1⟩
def zgP (bs:List Int) (p:Int):Rr Sess:=match zcJ bs p with
 | .error e=> .error e
 | .ok c=>match zdt bs c.2 with
  | .error e=> .error e
  | .ok n=>match zdt bs n.2 with
   | .error e=> .error e
   | .ok r=> .ok (⟨c.1,n.1,r.1⟩,r.2)
def zbO {α:Type} (f:Int→Rr α):Nat→Int→List α→Rr (List α)
 |0,p,acc=> .ok (acc,p)
 |n+1,p,acc=>match f p with
  | .error e=> .error e
  | .ok x=>zbO f n x.2 (acc++[x.1])
def zcB (bs:List Int) (p:Int):Rr St:=match zdt bs p with
 | .error e=> .error e
 | .ok t=>match zdt bs t.2 with
  | .error e=> .error e
  | .ok u=>match zdt bs u.2 with
   | .error e=> .error e
   | .ok k=>match zbF bs k.2 5 with
    | .error e=> .error e
    | .ok n=>match zbO (zgP bs) n.1.toNat n.2 []with
     | .error e=> .error e
     | .ok ss=>match zbF bs ss.2 4 with
      | .error e=> .error e
      | .ok n2=>match zbO (zey bs) n2.1.toNat n2.2 []with
       | .error e=> .error e
       | .ok ls=>match zbF bs ls.2 8 with
        | .error e=> .error e
        | .ok n3=>match zbO (zf0 bs) n3.1.toNat n3.2 []with
         | .error e=> .error e
         | .ok ms=>if zbn ⟨t.1,u.1,k.1,ss.1,ls.1,ms.1⟩=true then .ok (⟨t.1,u.1,k.1,ss.1,ls.1,ms.1⟩,ms.2)else .error 4
theorem zlP {bs:List Int} (h:BsOk bs) {p:Int} {y:Memo×Int} (hy:zf0 bs p= .ok y):i64 y.2∧zbS y.1.reply:=by
 obtain⟨h0,rfl⟩:=zfj hy
 simp only
 unfold zaR at h0⊢
 simp only at h0⊢
 split at h0
 ·rename_i h1;exact absurd h0 h1
 rename_i h1
 rw[if_neg h1]
 split at h0
 ·rename_i h2;exact absurd h0 h2
 rename_i h2
 rw[if_neg h2]
 split at h0
 ·rename_i h3;exact absurd h0 h3
 rename_i h3
 rw[if_neg h3]
 split at h0
 ·exact absurd h0 (by decide)
 rename_i h4
 rw[if_neg h4]
 obtain⟨g1,g2⟩:=zcR h (p:=(zcz bs (zaQ bs p).2.1).2.1)
 exact⟨zbV h.l g1,g2⟩
set_option maxHeartbeats 4000000 in
theorem zdm (bs:List Int) (p:Int) (h:BsOk bs) (hp:i64 p) (b:Bool) (y:St×Int) (e:Int) (hy:zul b y e (zcB bs p)):
  (b=true→CallOK Tryz.prog 39 [.obj (rds bs p)] (fun r o=>r=[y.1.rf]∧o=[rds bs y.2]))∧(b=false→zcc Tryz.prog 39 [.obj (rds bs p)] (znR e)):=by
 refine zmi zam mixed (T:=Ty) (n:=65) Tryz.func39 (c:=Tryz.f39.body.getD .skip) rfl Tryz.results39 Tryz.ntmps39 Tryz.call39 ?_
 simp only[Tryz.f39,Option.getD]
 unfold zcB at hy
 cases e1:zdt bs p with
 |error x=>
  rw[e1]at hy
  obtain⟨rfl,rfl⟩:=zbr hy
  have hr:=zcw bs p h hp e1
  repeat'(first|refine zq0 ?_|exact zd0|(refine zaa ?_ ?_<;>intro hb)|(refine And.intro ?_ ?_;exact zI)|(refine And.intro ?_ ?_<;>intro hg)|exact zC|fail)
  refine zp (rds bs p) (hr) ?_
  first|refine zs (I @zaP @zaf) ?_|exact zt (I @zaP @zaf)
 |ok t=>
 have he1:=zc2 bs p h hp e1
 rw[e1]at hy
 simp only at hy
 repeat'(first|refine zq0 ?_|exact zd0|(refine zaa ?_ ?_<;>intro hb)|(refine And.intro ?_ ?_;exact zI)|(refine And.intro ?_ ?_<;>intro hg)|exact zC|fail)
 refine zj (he1) ?_
 cases e2:zdt bs t.2 with
 |error x=>
  rw[e2]at hy
  obtain⟨rfl,rfl⟩:=zbr hy
  have hr:=zcw bs _ h (za2 h e1) e2
  repeat'(first|refine zq0 ?_|exact zd0|(refine zaa ?_ ?_<;>intro hb)|(refine And.intro ?_ ?_;exact zI)|(refine And.intro ?_ ?_<;>intro hg)|exact zC|fail)
  refine zp (rds bs p) (hr) ?_
  first|refine zs (I @zaP @zaf) ?_|exact zt (I @zaP @zaf)
 |ok u=>
 have he2:=zc2 bs _ h (za2 h e1) e2
 rw[e2]at hy
 simp only at hy
 repeat'(first|refine zq0 ?_|exact zd0|(refine zaa ?_ ?_<;>intro hb)|(refine And.intro ?_ ?_;exact zI)|(refine And.intro ?_ ?_<;>intro hg)|exact zC|fail)
 refine zj (he2) ?_
 cases e3:zdt bs u.2 with
 |error x=>
  rw[e3]at hy
  obtain⟨rfl,rfl⟩:=zbr hy
  have hr:=zcw bs _ h (za2 h e2) e3
  repeat'(first|refine zq0 ?_|exact zd0|(refine zaa ?_ ?_<;>intro hb)|(refine And.intro ?_ ?_;exact zI)|(refine And.intro ?_ ?_<;>intro hg)|exact zC|fail)
  refine zp (rds bs p) (hr) ?_
  first|refine zs (I @zaP @zaf) ?_|exact zt (I @zaP @zaf)
 |ok k=>
 have he3:=zc2 bs _ h (za2 h e2) e3
 rw[e3]at hy
 simp only at hy
 repeat'(first|refine zq0 ?_|exact zd0|(refine zaa ?_ ?_<;>intro hb)|(refine And.intro ?_ ?_;exact zI)|(refine And.intro ?_ ?_<;>intro hg)|exact zC|fail)
 refine zj (he3) ?_
 cases e4:zbF bs k.2 5 with
 |error x=>
  rw[e4]at hy
  obtain⟨rfl,rfl⟩:=zbr hy
  have hr:=zdT bs _ 5 h (za2 h e3) e4
  repeat'(first|refine zq0 ?_|exact zd0|(refine zaa ?_ ?_<;>intro hb)|(refine And.intro ?_ ?_;exact zI)|(refine And.intro ?_ ?_<;>intro hg)|exact zC|fail)
  refine zp (rds bs p) (hr) ?_
  first|refine zs (I @zaP @zaf) ?_|exact zt (I @zaP @zaf)
 |ok n=>
 have he4:=ze0 bs _ 5 h (za2 h e3) e4
 rw[e4]at hy
 simp only at hy
 repeat'(first|refine zq0 ?_|exact zd0|(refine zaa ?_ ?_<;>intro hb)|(refine And.intro ?_ ?_;exact zI)|(refine And.intro ?_ ?_<;>intro hg)|exact zC|fail)
 refine zj (he4) ?_
 obtain⟨hn1,hn2,hn3⟩:=zdg h e4
 repeat'(first|refine zq0 ?_|exact zd0|(refine zaa ?_ ?_<;>intro hb)|(refine And.intro ?_ ?_;exact zI)|(refine And.intro ?_ ?_<;>intro hg)|exact zC|fail)
 refine zah (τ:=Nat×Int×List Sess×Nat) (fun a=>⟨[.one (.ptr ⟨0,0,0⟩ 0),dd, .one (.ptr ⟨2,0,1⟩ 0), .one (.ptr ⟨3,0,1⟩ 0),dd,dd,dd,dd,dd,dd,dd,dd,dd,dd,dd,dd,ai n.1,ai a.1,dd,dd,dd,dd,dd,dd,dd,dd,dd,dd,dd,dd,dd,dd,dd,dd,dd,dd,dd,dd,dd,dd,dd,dd,dd,dd,dd,dd,dd,dd,dd,dd,dd,dd,dd,dd,dd,dd,dd,dd,dd,dd,dd,dd,dd,dd,dd],[zun bs a.2.1 a.2.2.2,(2,{next:=2,l:=[some {e:=1,var:=true,fz:=false,sz:=0,cells:=[di 0,di 0,di 0, .d (.v (.slice none 0 0)), .d (.v (.slice none 0 0)), .d (.v (.slice none 0 0))]},none,none,none,none,none,none]}),(3,{next:=2,l:=[some {e:=1,var:=true,fz:=false,sz:=0,cells:=[di t.1,di u.1,di k.1, .own ⟨3,4,1⟩ 0 a.2.2.1.length, .d (.v (.slice none 0 0)), .d (.v (.slice none 0 0))]},none,none,none,some {e:=1,var:=false,fz:=false,sz:=3,cells:=(zaN a.2.2.1).map C.d},none,none]}),(4,⟨2,[]⟩),(31,⟨2,[]⟩),(32,⟨2,[]⟩)]⟩)
  (fun a=>a.1≤n.1.toNat∧i64 a.2.1∧a.2.2.1.length=a.1) (fun a=>zbO (zgP bs) (n.1.toNat - a.1) a.2.1 a.2.2.1) (fun a=>n.1.toNat - a.1) (0,n.2,[],5)
  ((Gh.nilF 3 3 3 rfl).trans (Gh.canon [0,2,3] [4,31,32] [0] zK rfl rfl)) ⟨Nat.zero_le _,hn1,rfl⟩ ?_
 intro⟨i,q,acc,nx⟩ ⟨hi0,hq,ha⟩ hF K hK
 simp only[Nat.sub_zero]at hi0 hq ha hF hK⊢
 rw[←hF]at hy
 refine zw ?_
 refine zaa (fun hlt=> ?_) (fun hge=> ?_)
 ·have hi:i<n.1.toNat:=by simp at hlt;omega
  have hw:=zai hi (by omega)
  have hst:n.1.toNat - i=(n.1.toNat - (i+1))+1:=by omega
  rw[hst,zbO,zgP]at hy
  cases x1:zcJ bs q with
  |error x=>
   rw[x1]at hy
   obtain⟨rfl,rfl⟩:=zbr hy
   have hr:=zf3 bs q h hq x1
   repeat'(first|refine zq0 ?_|exact zd0|(refine zaa ?_ ?_<;>intro hb)|(refine And.intro ?_ ?_;exact zI)|(refine And.intro ?_ ?_<;>intro hg)|exact zC|fail)
   refine zp (rds bs p) (hr) ?_
   first|refine zs (I @zaP @zaf) ?_|exact zt (I @zaP @zaf)
  |ok c=>
  rw[x1]at hy
  simp only at hy
  have hr1:=zf2 bs q h hq x1
  repeat'(first|refine zq0 ?_|exact zd0|(refine zaa ?_ ?_<;>intro hb)|(refine And.intro ?_ ?_;exact zI)|(refine And.intro ?_ ?_<;>intro hg)|exact zC|fail)
  refine zj (hr1) ?_
  cases x2:zdt bs c.2 with
  |error x=>
   rw[x2]at hy
   obtain⟨rfl,rfl⟩:=zbr hy
   have hr:=zcw bs _ h (zcI h x1) x2
   repeat'(first|refine zq0 ?_|exact zd0|(refine zaa ?_ ?_<;>intro hb)|(refine And.intro ?_ ?_;exact zI)|(refine And.intro ?_ ?_<;>intro hg)|exact zC|fail)
   refine zp (rds bs p) (hr) ?_
   first|refine zs (I @zaP @zaf) ?_|exact zt (I @zaP @zaf)
  |ok m=>
  rw[x2]at hy
  simp only at hy
  have hr2:=zc2 bs _ h (zcI h x1) x2
  repeat'(first|refine zq0 ?_|exact zd0|(refine zaa ?_ ?_<;>intro hb)|(refine And.intro ?_ ?_;exact zI)|(refine And.intro ?_ ?_<;>intro hg)|exact zC|fail)
  refine zj (hr2) ?_
  cases x3:zdt bs m.2 with
  |error x=>
   rw[x3]at hy
   obtain⟨rfl,rfl⟩:=zbr hy
   have hr:=zcw bs _ h (za2 h x2) x3
   repeat'(first|refine zq0 ?_|exact zd0|(refine zaa ?_ ?_<;>intro hb)|(refine And.intro ?_ ?_;exact zI)|(refine And.intro ?_ ?_<;>intro hg)|exact zC|fail)
   refine zp (rds bs p) (hr) ?_
   first|refine zs (I @zaP @zaf) ?_|exact zt (I @zaP @zaf)
  |ok r=>
  have hr3:=zc2 bs _ h (za2 h x2) x3
  have hF2:zbO (zgP bs) (n.1.toNat - (i+1)) r.2 (acc++[⟨c.1,m.1,r.1⟩])=zbO (zgP bs) (n.1.toNat - i) q acc:=by rw[hst,zbO,zgP,x1];simp only;rw[x2];simp only;rw[x3]
  repeat'(first|refine zq0 ?_|exact zd0|(refine zaa ?_ ?_<;>intro hb)|(refine And.intro ?_ ?_;exact zI)|(refine And.intro ?_ ?_<;>intro hg)|exact zC|fail)
  refine zj (hr3) ?_
  repeat'(first|refine zq @zas ?_|exact zd @zas|(refine zaa ?_ ?_<;>intro hb)|(refine And.intro ?_ ?_;exact zI)|(refine And.intro ?_ ?_<;>intro hg)|exact zC|fail)
  refine hK _ (i+1,r.2,acc++[⟨c.1,m.1,r.1⟩],nx+3) (Gh.canon [0,2,3] [] [0] (zk (I hw (I @List.length_append.{0} @List.length_singleton.{0}))) rfl (by simp only[List.length_append,List.length_singleton];rw[zim];rfl)) ⟨hi,za2 h x3,by simp only[List.length_append,List.length_singleton];omega⟩ hF2 (by simp only;omega)
 ·have hi:i=n.1.toNat:=by
   have:¬(i:Int)<n.1:=by simpa using hge
   omega
  rw[hi,Nat.sub_self,zbO]at hy
  simp only at hy
  clear hK hF
  have hpq:=hq
  cases e5:zbF bs q 4 with
  |error x=>
   rw[e5]at hy
   obtain⟨rfl,rfl⟩:=zbr hy
   have hr:=zdT bs _ 4 h hq e5
   repeat'(first|refine zq0 ?_|exact zd0|(refine zaa ?_ ?_<;>intro hb)|(refine And.intro ?_ ?_;exact zI)|(refine And.intro ?_ ?_<;>intro hg)|exact zC|fail)
   refine zp (rds bs p) (hr) ?_
   first|refine zs (I @zaP @zaf) ?_|exact zt (I @zaP @zaf)
  |ok n2=>
  have hr5:=ze0 bs _ 4 h hq e5
  obtain⟨hn4,hn5,hn6⟩:=zdg h e5
  rw[e5]at hy
  simp only at hy
  repeat'(first|refine zq0 ?_|exact zd0|(refine zaa ?_ ?_<;>intro hb)|(refine And.intro ?_ ?_;exact zI)|(refine And.intro ?_ ?_<;>intro hg)|exact zC|fail)
  refine zj (hr5) ?_
  repeat'(first|refine zq0 ?_|exact zd0|(refine zaa ?_ ?_<;>intro hb)|(refine And.intro ?_ ?_;exact zI)|(refine And.intro ?_ ?_<;>intro hg)|exact zC|fail)
  refine zah (τ:=Nat×Int×List Lk×Nat) (fun a=>⟨[.one (.ptr ⟨0,0,0⟩ 0),dd, .one (.ptr ⟨2,0,1⟩ 0), .one (.ptr ⟨3,0,1⟩ 0),dd,dd,dd,dd,dd,dd,dd,dd,dd,dd,dd,dd,dd,dd,dd,dd,dd,dd,dd,dd,dd,dd,dd,dd,dd,dd,dd,dd,dd,dd,dd,dd,ai n2.1,ai a.1,dd,dd,dd,dd,dd,dd,dd,dd,dd,dd,dd,dd,dd,dd,dd,dd,dd,dd,dd,dd,dd,dd,dd,dd,dd,dd,dd],[zun bs a.2.1 a.2.2.2,(2,{next:=2,l:=[some {e:=1,var:=true,fz:=false,sz:=0,cells:=[di 0,di 0,di 0, .d (.v (.slice none 0 0)), .d (.v (.slice none 0 0)), .d (.v (.slice none 0 0))]},none,none,none,none,none,none]}),(3,{next:=2,l:=[some {e:=1,var:=true,fz:=false,sz:=0,cells:=[di t.1,di u.1,di k.1, .own ⟨3,4,1⟩ 0 acc.length, .own ⟨3,5,1⟩ 0 a.2.2.1.length, .d (.v (.slice none 0 0))]},none,none,none,some {e:=1,var:=false,fz:=false,sz:=3,cells:=(zaN acc).map C.d},some {e:=1,var:=false,fz:=false,sz:=4,cells:=(zax a.2.2.1).map C.d},none]}),(4,⟨2,[]⟩),(31,⟨2,[]⟩),(32,⟨2,[]⟩),(42,⟨2,[]⟩),(43,⟨2,[]⟩),(44,⟨2,[]⟩)]⟩)
   (fun a=>a.1≤n2.1.toNat∧i64 a.2.1∧a.2.2.1.length=a.1∧∀k∈a.2.2.1,k.line.length≤3∧k.name.size≤bs.length) (fun a=>zbO (zey bs) (n2.1.toNat - a.1) a.2.1 a.2.2.1) (fun a=>n2.1.toNat - a.1) (0,n2.2,[],nx+1)
   ((Gh.nilF 3 4 4 rfl).trans (Gh.canon [0,2,3] [42,43,44] [0] zK rfl rfl)) ⟨Nat.zero_le _,hn4,rfl,by simp⟩ ?_
  intro⟨j,q2,ls,nx2⟩ ⟨hj0,hq2,hl,hlk⟩ hF K hK
  simp only[Nat.sub_zero]at hj0 hq2 hl hlk hF hK⊢
  rw[←hF]at hy
  refine zw ?_
  refine zaa (fun hlt2=> ?_) (fun hge2=> ?_)
  ·have hj:j<n2.1.toNat:=by simp at hlt2;omega
   have hw:=zai hj (by omega)
   have hst:n2.1.toNat - j=(n2.1.toNat - (j+1))+1:=by omega
   rw[hst,zbO]at hy
   cases x1:zey bs q2 with
   |error x=>
    rw[x1]at hy
    obtain⟨rfl,rfl⟩:=zbr hy
    have hr:=znC bs q2 h hq2 x1
    first|refine zs0 ?_|exact zt0
    refine zjM _ _ (zjl zam mixed 3 [false,false,false,true,true,true,true,true] (znR e) (fun g=> ?_) ?_)
    ·first|refine zs (I @zaP @zaf) ?_|exact zt (I @zaP @zaf)
    ·simp only[zlw,zlx,zht]
     repeat'(first|refine zq0 ?_|exact zd0|(refine zaa ?_ ?_<;>intro hb)|(refine And.intro ?_ ?_;exact zI)|(refine And.intro ?_ ?_<;>intro hg)|exact zC|fail)
     exact zn (rds bs q) (hr)
   |ok x=>
   have hr1:=zpv bs q2 h hq2 x1
   obtain⟨g1,g2,g3⟩:=zlQ h x1
   have hF2:zbO (zey bs) (n2.1.toNat - (j+1)) x.2 (ls++[x.1])=zbO (zey bs) (n2.1.toNat - j) q2 ls:=by rw[hst,zbO,x1]
   repeat'(first|refine zq0 ?_|exact zd0|(refine zaa ?_ ?_<;>intro hb)|(refine And.intro ?_ ?_;exact zI)|(refine And.intro ?_ ?_<;>intro hg)|exact zC|fail)
   refine zj (hr1) ?_
   have htl:(za3 x.1.line).take x.1.line.length=za3 x.1.line:=zea
   repeat'(first|refine zq (I @zal htl) ?_|exact zd (I @zal htl)|(refine zaa ?_ ?_<;>intro hb)|(refine And.intro ?_ ?_;exact zI)|(refine And.intro ?_ ?_<;>intro hg)|exact zC|fail)
   refine hK _ (j+1,x.2,ls++[x.1],nx2+1) (Gh.canon [0,2,3] [] [0] (zk (I hw (I @List.length_append.{0} @List.length_singleton.{0}))) rfl (by simp only[List.length_append,List.length_singleton];rw[ziQ];rfl)) ⟨hj,g1,by simp only[List.length_append,List.length_singleton];omega, ?_⟩ hF2 (by simp only;omega)
   intro k hk
   rcases List.mem_append.1 hk with hk|hk
   ·exact hlk k hk
   ·simp at hk;subst hk;exact⟨g2,g3⟩
  ·have hj:j=n2.1.toNat:=by
    have:¬(j:Int)<n2.1:=by simpa using hge2
    omega
   rw[hj,Nat.sub_self,zbO]at hy
   simp only at hy
   clear hK hF
   cases e6:zbF bs q2 8 with
   |error x=>
    rw[e6]at hy
    obtain⟨rfl,rfl⟩:=zbr hy
    have hr:=zdT bs _ 8 h hq2 e6
    repeat'(first|refine zq0 ?_|exact zd0|(refine zaa ?_ ?_<;>intro hb)|(refine And.intro ?_ ?_;exact zI)|(refine And.intro ?_ ?_<;>intro hg)|exact zC|fail)
    refine zp (rds bs p) (hr) ?_
    first|refine zs (I @zaP @zaf) ?_|exact zt (I @zaP @zaf)
   |ok n3=>
   have hr6:=ze0 bs _ 8 h hq2 e6
   obtain⟨hn7,hn8,hn9⟩:=zdg h e6
   rw[e6]at hy
   simp only at hy
   repeat'(first|refine zq0 ?_|exact zd0|(refine zaa ?_ ?_<;>intro hb)|(refine And.intro ?_ ?_;exact zI)|(refine And.intro ?_ ?_<;>intro hg)|exact zC|fail)
   refine zj (hr6) ?_
   repeat'(first|refine zq0 ?_|exact zd0|(refine zaa ?_ ?_<;>intro hb)|(refine And.intro ?_ ?_;exact zI)|(refine And.intro ?_ ?_<;>intro hg)|exact zC|fail)
   refine zah (τ:=Nat×Int×List Memo×Nat) (fun a=>⟨[.one (.ptr ⟨0,0,0⟩ 0),dd, .one (.ptr ⟨2,0,1⟩ 0), .one (.ptr ⟨3,0,1⟩ 0),dd,dd,dd,dd,dd,dd,dd,dd,dd,dd,dd,dd,dd,dd,dd,dd,dd,dd,dd,dd,dd,dd,dd,dd,dd,dd,dd,dd,dd,dd,dd,dd,dd,dd,dd,dd,dd,dd,dd,dd,dd,dd,dd,dd,ai n3.1,ai a.1,dd,dd,dd,dd,dd,dd,dd,dd,dd,dd,dd,dd,dd,dd,dd],[zun bs a.2.1 a.2.2.2,(2,{next:=2,l:=[some {e:=1,var:=true,fz:=false,sz:=0,cells:=[di 0,di 0,di 0, .d (.v (.slice none 0 0)), .d (.v (.slice none 0 0)), .d (.v (.slice none 0 0))]},none,none,none,none,none,none]}),(3,{next:=2,l:=[some {e:=1,var:=true,fz:=false,sz:=0,cells:=[di t.1,di u.1,di k.1, .own ⟨3,4,1⟩ 0 acc.length, .own ⟨3,5,1⟩ 0 ls.length, .own ⟨3,6,1⟩ 0 a.2.2.1.length]},none,none,none,some {e:=1,var:=false,fz:=false,sz:=3,cells:=(zaN acc).map C.d},some {e:=1,var:=false,fz:=false,sz:=4,cells:=(zax ls).map C.d},some {e:=1,var:=false,fz:=false,sz:=6,cells:=(zaG a.2.2.1).map C.d}]}),(4,⟨2,[]⟩),(31,⟨2,[]⟩),(32,⟨2,[]⟩),(42,⟨2,[]⟩),(43,⟨2,[]⟩),(44,⟨2,[]⟩),(54,⟨2,[]⟩),(55,⟨2,[]⟩),(56,⟨2,[]⟩)]⟩)
    (fun a=>a.1≤n3.1.toNat∧i64 a.2.1∧a.2.2.1.length=a.1∧∀m∈a.2.2.1,zbS m.reply) (fun a=>zbO (zf0 bs) (n3.1.toNat - a.1) a.2.1 a.2.2.1) (fun a=>n3.1.toNat - a.1) (0,n3.2,[],nx2+1)
    ((Gh.nilF 3 5 6 rfl).trans (Gh.canon [0,2,3] [54,55,56] [0] zK rfl rfl)) ⟨Nat.zero_le _,hn7,rfl,by simp⟩ ?_
   intro⟨m,q3,ms,nx3⟩ ⟨hm0,hq3,hml,hmk⟩ hF K hK
   simp only[Nat.sub_zero]at hm0 hq3 hml hmk hF hK⊢
   rw[←hF]at hy
   refine zw ?_
   refine zaa (fun hlt3=> ?_) (fun hge3=> ?_)
   ·have hm:m<n3.1.toNat:=by simp at hlt3;omega
    have hw:=zai hm (by omega)
    have hst:n3.1.toNat - m=(n3.1.toNat - (m+1))+1:=by omega
    rw[hst,zbO]at hy
    cases x1:zf0 bs q3 with
    |error x=>
     rw[x1]at hy
     obtain⟨rfl,rfl⟩:=zbr hy
     have hr:=znF bs q3 h hq3 x1
     first|refine zs0 ?_|exact zt0
     refine zjM _ _ (zjl zam mixed 3 [false,false,false,true,true,true,true,true] (znR e) (fun g=> ?_) ?_)
     ·first|refine zs (I @zaP @zaf) ?_|exact zt (I @zaP @zaf)
     ·simp only[zlw,zlx,zht]
      repeat'(first|refine zq0 ?_|exact zd0|(refine zaa ?_ ?_<;>intro hb)|(refine And.intro ?_ ?_;exact zI)|(refine And.intro ?_ ?_<;>intro hg)|exact zC|fail)
      exact zn (rds bs q) (hr)
    |ok x=>
    have hr1:=zpx bs q3 h hq3 x1
    obtain⟨g1,g2⟩:=zlP h x1
    have hF2:zbO (zf0 bs) (n3.1.toNat - (m+1)) x.2 (ms++[x.1])=zbO (zf0 bs) (n3.1.toNat - m) q3 ms:=by rw[hst,zbO,x1]
    repeat'(first|refine zq0 ?_|exact zd0|(refine zaa ?_ ?_<;>intro hb)|(refine And.intro ?_ ?_;exact zI)|(refine And.intro ?_ ?_<;>intro hg)|exact zC|fail)
    refine zj (hr1) ?_
    repeat'(first|refine zq @zaC ?_|exact zd @zaC|(refine zaa ?_ ?_<;>intro hb)|(refine And.intro ?_ ?_;exact zI)|(refine And.intro ?_ ?_<;>intro hg)|exact zC|fail)
    refine hK _ (m+1,x.2,ms++[x.1],nx3+1) (Gh.canon [0,2,3] [] [0] (zk (I hw (I @List.length_append.{0} @List.length_singleton.{0}))) rfl (by simp only[List.length_append,List.length_singleton];rw[zhq];rfl)) ⟨hm,g1,by simp only[List.length_append,List.length_singleton];omega, ?_⟩ hF2 (by simp only;omega)
    intro k hk
    rcases List.mem_append.1 hk with hk|hk
    ·exact hmk k hk
    ·simp at hk;subst hk;exact g2
   ·have hm:m=n3.1.toNat:=by
     have:¬(m:Int)<n3.1:=by simpa using hge3
     omega
    rw[hm,Nat.sub_self,zbO]at hy
    simp only at hy
    clear hK hF
    have hbl:=h.l
    have hri:=zgV ⟨t.1,u.1,k.1,acc,ls,ms⟩ ⟨by simp only;omega,by simp only;omega,by simp only;omega,fun k hk=>⟨by have:=(hlk k hk).1;omega,by have:=(hlk k hk).2;omega⟩,hmk⟩
    cases hR:zbn ⟨t.1,u.1,k.1,acc,ls,ms⟩
    ·rw[hR]at hri hy
     rw[if_neg (by simp)]at hy
     obtain⟨rfl,rfl⟩:=zbr hy
     repeat'(first|refine zq (I @zaP (I @zaf (I @zaS (I @zaI @zaJ)))) ?_|exact zd (I @zaP (I @zaf (I @zaS (I @zaI @zaJ))))|refine zc (hri) ?_|refine zg (hri) ?_|(refine zaa ?_ ?_<;>intro hb)|(refine And.intro ?_ ?_;exact zI)|(refine And.intro ?_ ?_<;>intro hg)|exact zC|fail)
    ·rw[hR]at hri hy
     rw[if_pos rfl]at hy
     obtain⟨rfl,rfl⟩:=zow hy
     repeat'(first|refine zq (I @zjm (I @zaS (I @zaI @zaJ))) ?_|exact zd (I @zjm (I @zaS (I @zaI @zaJ)))|refine zc (hri) ?_|refine zg (hri) ?_|(refine zaa ?_ ?_<;>intro hb)|(refine And.intro ?_ ?_;exact zI)|(refine And.intro ?_ ?_<;>intro hg)|exact zC|fail)
     rfl
abbrev zd2:Value:= .slice none 0 0
def szS (k:Nat):Nat:=if k=4 then 6 else 1
def nwS (x:Value) (k:Nat):List Value:=if k=4 then [.int .i64 0, .int .i64 0, .int .i64 0,zd2,zd2,zd2]else if k=5 then [.int .i64 0]else [codeOf x]
theorem zxk {l:List Value} (h:l.length=6):∃a b c d e f,l=[a,b,c,d,e,f]:=by
 match l,h with
 |[a,b,c,d,e,f],_=>exact⟨a,b,c,d,e,f,rfl⟩
theorem zxl {l:List Value} (h:l.length=9):∃a b c d e f g i j,l=[a,b,c,d,e,f,g,i,j]:=by
 match l,h with
 |[a,b,c,d,e,f,g,i,j],_=>exact⟨a,b,c,d,e,f,g,i,j,rfl⟩
theorem cellsS {ls:List (List Value)} (h:ls.length=[4,5,6].length) (hs:∀(i k:Nat) (l:List Value),[4,5,6][i]? =some k→ls[i]? =some l→l.length=szS k):∃a b c d e f g i,ls=[[a,b,c,d,e,f],[g],[i]]:=by
 match ls,h with
 |[x,y,z],_=>
  obtain⟨a,b,c,d,e,f,rfl⟩:=zxk (hs 0 4 x rfl rfl)
  obtain⟨g,rfl⟩:=zsZ (hs 1 5 y rfl rfl)
  obtain⟨i,rfl⟩:=zsZ (hs 2 6 z rfl rfl)
  exact⟨a,b,c,d,e,f,g,i,rfl⟩
theorem zmN:(Tryz.prog.info? 83).bind (·.zero)=some (.agg #[.int .i64 0]):=by kernel_rfl
theorem zlO:zhx Tryz.prog 38 [4,5,6] szS nwS (zh1 83):=by
 refine zeb zam mixed (T:=Ty) Tryz.func38 rfl rfl Tryz.ntmps38 rfl rfl rfl rfl rfl rfl rfl (by decide) (by decide) (by decide) ?_
 rintro x ⟨n,rfl⟩ ls hl hs
 obtain⟨a,b,c,d,e,f,g,i,rfl⟩:=cellsS hl hs
 refine⟨.tuple #[.agg #[.int .i64 n], .bool true], .tup [.agg [di n],ab true], ?_, ?_,rfl, ?_⟩
 ·intro w
  simp[Instr.typeAssert,Tryz.underlying83]
 ·intro cx w r β
  simp[ReA,ReAs,ReC,ReCs,Rd,flat]
 ·simp only[za5,plainO,List.map_cons,List.map_nil]
  first|refine zs0 ?_|exact zt0
  repeat'(first|refine zq0 ?_|exact zd0|(refine zaa ?_ ?_<;>intro hb)|(refine And.intro ?_ ?_;exact zI)|(refine And.intro ?_ ?_<;>intro hg)|exact zC|fail)
  rfl
theorem znB:zlz Tryz.prog 38 3:=by
 refine zc6 zam mixed (T:=Ty) Tryz.func38 rfl rfl Tryz.ntmps38 rfl rfl rfl rfl rfl rfl rfl (by decide) (y7:= .tuple #[.agg #[.int .i64 0], .bool false]) (V7:= .tup [.agg [di 0],ab false]) ?_ ?_ (by decide) rfl ?_
 ·intro w
  simp[Instr.typeAssert,Tryz.underlying83,zh2 zmN w]
 ·intro cx w r β
  simp[ReA,ReAs,ReC,ReCs,Rd,flat]
 ·simp only[List.replicate]
  first|refine zs0 ?_|exact zt0
  repeat'(first|refine zq0 ?_|exact zd0|(refine zaa ?_ ?_<;>intro hb)|(refine And.intro ?_ ?_;exact zI)|(refine And.intro ?_ ?_<;>intro hg)|exact zC|fail)
def dSt (bs:List Int) (p:Int):St×Int×Int:=match zcB bs p with
 | .ok y=>(y.1,y.2,0)
 | .error e=>(st0,0,e)
theorem ziS (bs:List Int) (p:Int) (h:BsOk bs) (hp:i64 p):
  CallOK Tryz.prog 16 [.f (asl bs.length (zab bs)), .f (ai p)] (fun r o=>r=[zuW (dSt bs p).1,ri (dSt bs p).2.1,ri (dSt bs p).2.2]∧o=[]):=by
 refine CallOK.nil ?_
 refine zbg zam mixed (T:=Ty) Tryz.func16 rfl Tryz.results16 Tryz.ntmps16 Tryz.call16 Tryz.call38 (ks:=[4,5,6]) rfl rfl rfl rfl rfl rfl (by decide) (by decide)
  (xs:=[asl bs.length (zab bs),ai p]) (sz:=szS) (nw:=nwS) znB zlO ⟨[asl bs.length (zab bs),ai p,dd,dd, .one (.ptr ⟨4,0,0⟩ 0), .one (.ptr ⟨5,0,0⟩ 0), .one (.ptr ⟨6,0,0⟩ 0),dd,dd,dd,dd,dd,dd,dd,dd,dd,dd,dd,dd,dd],[(4,{next:=1,l:=[some {e:=0,var:=true,fz:=false,sz:=0,cells:=[di 0,di 0,di 0, .d (.v zd2), .d (.v zd2), .d (.v zd2)]},none,none,none,none,none,none]}),(5,{next:=1,l:=[some {e:=0,var:=true,fz:=false,sz:=0,cells:=[di 0]},none]}),(6,{next:=1,l:=[some {e:=0,var:=true,fz:=false,sz:=0,cells:=[di 0]},none]})]⟩ ?_ ?_ rfl ?_
 ·simp only[List.map_cons,List.map_nil]
  repeat'(first|refine zq0 ?_|exact zd0|(refine zaa ?_ ?_<;>intro hb)|(refine And.intro ?_ ?_;exact zI)|(refine And.intro ?_ ?_<;>intro hg)|exact zC|fail)
  exact fun _ _ _ h=>h
 ·exact⟨⟨_,rfl,rfl,rfl,rfl,rfl⟩,⟨_,rfl,rfl,rfl,rfl,rfl⟩,⟨_,rfl,rfl,rfl,rfl,rfl⟩,trivial⟩
 ·unfold dSt
  cases hs:zcB bs p with
  |ok y=>
   have hr:=(zdm bs p h hp true y 0 hs).1 rfl
   repeat'(first|refine zq0 ?_|exact zd0|(refine zaa ?_ ?_<;>intro hb)|(refine And.intro ?_ ?_;exact zI)|(refine And.intro ?_ ?_<;>intro hg)|exact zC|fail)
   refine zj (hr) ?_
   repeat'(first|(with_reducible first|refine zjf 4 ?_|refine zg0 4 ?_|refine zg1 4 ?_)|refine zu0 ?_|exact zd0|(with_reducible first|refine zac _ _ ?_)|(refine zaa ?_ ?_<;>intro hb)|(refine And.intro ?_ ?_;exact zI)|(refine And.intro ?_ ?_<;>intro hg)|exact zC|fail)
   refine zji (zdp (Gh.sealF 4 3 (.own ⟨4,4,4⟩ 0 y.1.sess.length) ?_) ?_)
   ·exact zo @zaS
   refine zf @zaS ?_
   refine zdp (Gh.sealF 4 4 (.own ⟨4,5,5⟩ 0 y.1.locks.length) ?_) ?_
   ·exact zo @zaI
   refine zf @zaI ?_
   refine zdp (Gh.sealF 4 5 (.own ⟨4,6,6⟩ 0 y.1.memos.length) ?_) ?_
   ·exact zo @zaJ
   refine zf @zaJ ?_
   repeat'(first|refine zq @zc1 ?_|exact zd @zc1|(refine zaa ?_ ?_<;>intro hb)|(refine And.intro ?_ ?_;exact zI)|(refine And.intro ?_ ?_<;>intro hg)|exact zC|fail)
   simp[zdq,zlj,zcM,zar]
  |error e=>
   have hr:=(zdm bs p h hp false (st0,0) e hs).2 rfl
   repeat'(first|refine zq0 ?_|exact zd0|(refine zaa ?_ ?_<;>intro hb)|(refine And.intro ?_ ?_;exact zI)|(refine And.intro ?_ ?_<;>intro hg)|exact zC|fail)
   refine zp (rds bs p) (hr) ?_
   simp only[za8,za9,za7,zbq]
   refine⟨⟨_,rfl⟩,rfl,⟨⟨_,rfl,rfl,rfl,rfl,rfl⟩,⟨_,rfl,rfl,rfl,rfl,rfl⟩,⟨_,rfl,rfl,rfl,rfl,rfl⟩,trivial⟩, ?_⟩
   rw[show zlk 20 [4,5,6] (nwS (zeB 83 e))=⟨[dd,dd,dd,dd, .one (.ptr ⟨4,0,0⟩ 0), .one (.ptr ⟨5,0,0⟩ 0), .one (.ptr ⟨6,0,0⟩ 0),dd,dd,dd,dd,dd,dd,dd,dd,dd,dd,dd,dd,dd],[(4,{next:=1,l:=[some {e:=0,var:=true,fz:=false,sz:=0,cells:=[di 0,di 0,di 0, .d (.v zd2), .d (.v zd2), .d (.v zd2)]}]}),(5,{next:=1,l:=[some {e:=0,var:=true,fz:=false,sz:=0,cells:=[di 0]}]}),(6,{next:=1,l:=[some {e:=0,var:=true,fz:=false,sz:=0,cells:=[di e]}]})]⟩ from rfl]
   first|refine zs0 ?_|exact zt0
   simp[zdq,zlj,zcM,zar,st0]
structure Sn where
 done:Int
 view:Int
 slot:Int
 st:St
abbrev Sn.lent (s:Sn):List C:=di s.done::di s.view::di s.slot::s.st.lent
abbrev zw1 (s:Sn):RF:= .agg (.d (iD s.done):: .d (iD s.view):: .d (iD s.slot)::(stE s.st).map RO.d)
def zaZ (s:Sn):Bool:=within s.done&&(within s.view&&(within s.slot&&zbn s.st))
theorem zcP (n:Int):within n=(!(decide (n<0))&& !(decide (n>2305843009213693952))):=by
 unfold within
 have hH:zdu=2305843009213693952:=rfl
 rw[hH]
 by_cases h1:n<0<;>by_cases h2:n>2305843009213693952<;>simp[h1,h2]<;>omega
set_option maxHeartbeats 1000000 in
theorem zeZ (s:Sn) (h:Small s.st):CallOK Tryz.prog 11 [.f (.agg s.lent)] (fun r o=>r=[rb (zaZ s)]∧o=[]):=by
 refine zae zam mixed (T:=Ty) (n:=27) Tryz.func11 (c:=Tryz.f11.body.getD .skip) rfl Tryz.results11 Tryz.ntmps11 Tryz.call11 ?_
 simp only[Tryz.f11,Option.getD]
 have hri:=zgV s.st h
 have hagg:∀(Z:List Nat) (r:Rs) (xs ys:List AV),fgc Z r (AV.agg [di s.done,di s.view,di s.slot]::xs) (AV.agg [di s.done,di s.view,di s.slot]::ys)=fgc Z r xs ys:=fun Z r xs ys=>zje rfl rfl
 repeat'(first|refine zq0 ?_|exact zd0|(refine zaa ?_ ?_<;>intro hb)|(refine And.intro ?_ ?_;exact zI)|(refine And.intro ?_ ?_<;>intro hg)|exact zC|fail)
 refine zah (τ:=Nat) (fun i=>⟨[dd, .one (.ptr ⟨1,0,1⟩ 0),dd,dd,dd,dd,dd,dd,dd,dd,dd,dd,dd, .agg [di s.done,di s.view,di s.slot],ai i,dd,dd,dd,dd,dd,dd,dd,dd,dd,dd,dd,dd],[(1,{next:=2,l:=[some {e:=1,var:=true,fz:=false,sz:=0,cells:=[di s.done,di s.view,di s.slot,di s.st.time,di s.st.num,di s.st.token, .lent s.st.sess.length (zaN s.st.sess), .lent s.st.locks.length (zax s.st.locks), .lent s.st.memos.length (zaG s.st.memos)]},none,none,none,none,none,none,none,none,none]})]⟩)
  (fun i=>i≤3) (fun i=>if i=0 then zaZ s else if i=1 then within s.view&&(within s.slot&&zbn s.st)else if i=2 then within s.slot&&zbn s.st else zbn s.st) (fun i=>3 - i) 0
  (Gh.canon [1] [] [] (zk hagg) rfl rfl) (Nat.zero_le _) ?_
 intro i hi0 hF K hK
 rw[if_pos rfl]at hF
 refine zw ?_
 refine zaa (fun hlt=> ?_) (fun hge=> ?_)
 ·have hi:i<3:=by simp at hlt;omega
  have hw:IntKind.i64.wrap ((i:Int)+1)=((i+1:Nat):Int):=zai hi (by omega)
  rcases(show i=0∨i=1∨i=2 by omega)with rfl|rfl|rfl
  ·have hb:=zcP s.done
   cases h1:decide (s.done<0)
   ·cases h2:decide (s.done>2305843009213693952)
    ·rw[h1,h2]at hb
     repeat'(first|refine zq (I h1 h2) ?_|exact zd (I h1 h2)|(refine zaa ?_ ?_<;>intro hb)|(refine And.intro ?_ ?_;exact zI)|(refine And.intro ?_ ?_<;>intro hg)|exact zC|fail)
     exact hK _ 1 (Gh.canon [1] [] [] (zk (I hw hagg)) rfl rfl) (by omega) (by simp[zaZ,hb]) (by omega)
    ·rw[h1,h2]at hb
     have hz:zaZ s=false:=by simp[zaZ,hb]
     repeat'(first|refine zq (I h1 (I h2 hz)) ?_|exact zd (I h1 (I h2 hz))|(refine zaa ?_ ?_<;>intro hb)|(refine And.intro ?_ ?_;exact zI)|(refine And.intro ?_ ?_<;>intro hg)|exact zC|fail)
   ·rw[h1]at hb
    have hz:zaZ s=false:=by simp[zaZ,hb]
    repeat'(first|refine zq (I h1 hz) ?_|exact zd (I h1 hz)|(refine zaa ?_ ?_<;>intro hb)|(refine And.intro ?_ ?_;exact zI)|(refine And.intro ?_ ?_<;>intro hg)|exact zC|fail)
  ·have hb:=zcP s.view
   simp only[Nat.reduceEqDiff,if_true,if_false]at hF
   rw[←hF]
   cases h1:decide (s.view<0)
   ·cases h2:decide (s.view>2305843009213693952)
    ·rw[h1,h2]at hb
     repeat'(first|refine zq (I h1 h2) ?_|exact zd (I h1 h2)|(refine zaa ?_ ?_<;>intro hb)|(refine And.intro ?_ ?_;exact zI)|(refine And.intro ?_ ?_<;>intro hg)|exact zC|fail)
     exact hK _ 2 (Gh.canon [1] [] [] (zk (I hw hagg)) rfl rfl) (by omega) (by simp[hb]) (by omega)
    ·rw[h1,h2]at hb
     have hz:(within s.view&&(within s.slot&&zbn s.st))=false:=by simp[hb]
     repeat'(first|refine zq (I h1 (I h2 hz)) ?_|exact zd (I h1 (I h2 hz))|(refine zaa ?_ ?_<;>intro hb)|(refine And.intro ?_ ?_;exact zI)|(refine And.intro ?_ ?_<;>intro hg)|exact zC|fail)
   ·rw[h1]at hb
    have hz:(within s.view&&(within s.slot&&zbn s.st))=false:=by simp[hb]
    repeat'(first|refine zq (I h1 hz) ?_|exact zd (I h1 hz)|(refine zaa ?_ ?_<;>intro hb)|(refine And.intro ?_ ?_;exact zI)|(refine And.intro ?_ ?_<;>intro hg)|exact zC|fail)
  ·have hb:=zcP s.slot
   simp only[Nat.reduceEqDiff,if_true,if_false]at hF
   rw[←hF]
   cases h1:decide (s.slot<0)
   ·cases h2:decide (s.slot>2305843009213693952)
    ·rw[h1,h2]at hb
     repeat'(first|refine zq (I h1 h2) ?_|exact zd (I h1 h2)|(refine zaa ?_ ?_<;>intro hb)|(refine And.intro ?_ ?_;exact zI)|(refine And.intro ?_ ?_<;>intro hg)|exact zC|fail)
     exact hK _ 3 (Gh.canon [1] [] [] (zk (I hw hagg)) rfl rfl) (by omega) (by simp[hb]) (by omega)
    ·rw[h1,h2]at hb
     have hz:(within s.slot&&zbn s.st)=false:=by simp[hb]
     repeat'(first|refine zq (I h1 (I h2 hz)) ?_|exact zd (I h1 (I h2 hz))|(refine zaa ?_ ?_<;>intro hb)|(refine And.intro ?_ ?_;exact zI)|(refine And.intro ?_ ?_<;>intro hg)|exact zC|fail)
   ·rw[h1]at hb
    have hz:(within s.slot&&zbn s.st)=false:=by simp[hb]
    repeat'(first|refine zq (I h1 hz) ?_|exact zd (I h1 hz)|(refine zaa ?_ ?_<;>intro hb)|(refine And.intro ?_ ?_;exact zI)|(refine And.intro ?_ ?_<;>intro hg)|exact zC|fail)
 ·have hi:i=3:=by
   have:¬(i:Int)<3:=by simpa using hge
   omega
  subst hi
  simp only[Nat.reduceEqDiff,if_false]at hF
  rw[←hF]
  repeat'(first|refine zq0 ?_|exact zd0|refine zc (hri) ?_|refine zg (hri) ?_|(refine zaa ?_ ?_<;>intro hb)|(refine And.intro ?_ ?_;exact zI)|(refine And.intro ?_ ?_<;>intro hg)|exact zC|fail)
def snI (s:Sn):List Int:=zaX s.done++(zaX s.view++(zaX s.slot++zcl s.st))
theorem within_iff {n:Int} (h:within n=true):0≤n∧n<4611686018427387904:=by
 rw[zcP]at h
 simp at h
 omega
theorem zfZ {s:Sn} (h:zaZ s=true):(0≤s.done∧s.done<4611686018427387904)∧(0≤s.view∧s.view<4611686018427387904)∧(0≤s.slot∧s.slot<4611686018427387904)∧RightS s.st:=by
 simp only[zaZ,Bool.and_eq_true]at h
 exact⟨within_iff h.1,within_iff h.2.1,within_iff h.2.2.1,zbP.1 h.2.2.2⟩
theorem znz (s:Sn) (h:zaZ s=true):CallOK Tryz.prog 10 [.f (.agg s.lent)] (fun r o=>r=[.one (.own 1 (snI s).length (zab (snI s)) false),ri 0]∧o=[]):=by
 obtain⟨f1,f2,f3,f4⟩:=zfZ h
 refine zae zam mixed (T:=Ty) (n:=29) Tryz.func10 (c:=Tryz.f10.body.getD .skip) rfl Tryz.results10 Tryz.ntmps10 Tryz.call10 ?_
 simp only[Tryz.f10,Option.getD]
 have hm:=zeZ s (zbJ f4)
 rw[h]at hm
 have hp:=zgw s.st f4
 have m1:=zdU s.done f1
 have m2:=zdU s.view f2
 have m3:=zdU s.slot f3
 have hl:=zjS f4 s.st.memos.length
 have hml:=zf6 f4
 have t8:∀v:Int,(zab (zaX v)).take 8=zab (zaX v):=fun v=>List.take_of_length_le (by rw[zcg];decide)
 have hcc:CallOK Tryz.prog 30 [.f (al 4 [.sl 8 (zab (zaX s.done)), .sl 8 (zab (zaX s.view)), .sl 8 (zab (zaX s.slot)), .sl (zcl s.st).length (zab (zcl s.st))])] (fun x o=>x=[.one (.own 1 (snI s).length (zab (snI s)) false)]∧o=[]):=by
  have hc:=zjQ [zaX s.done,zaX s.view,zaX s.slot,zcl s.st] (by simp) (fun l hl=>by
   simp only[List.mem_cons,List.not_mem_nil,or_false]at hl
   rcases hl with rfl|rfl|rfl|rfl
   ·rw[zaH];decide
   ·rw[zaH];decide
   ·rw[zaH];decide
   ·unfold zcl;omega)
  rw[show [zaX s.done,zaX s.view,zaX s.slot,zcl s.st].flatten=snI s from by simp[snI]]at hc
  exact hc
 repeat'(first|refine zq (I t8 @zaB) ?_|exact zd (I t8 @zaB)|refine zc (hm) ?_|refine zg (hm) ?_|refine zc (hp) ?_|refine zg (hp) ?_|refine zc (m1) ?_|refine zg (m1) ?_|refine zc (m2) ?_|refine zg (m2) ?_|refine zc (m3) ?_|refine zg (m3) ?_|refine zc (hcc) ?_|refine zg (hcc) ?_|(refine zaa ?_ ?_<;>intro hb)|(refine And.intro ?_ ?_;exact zI)|(refine And.intro ?_ ?_<;>intro hg)|exact zC|fail)
theorem ziR (s:Sn) (hs:Small s.st) (h:zaZ s=false):CallOK Tryz.prog 10 [.f (.agg s.lent)] (fun r o=>r=[.one (.d (.v zd2)),ri 1]∧o=[]):=by
 refine zae zam mixed (T:=Ty) (n:=29) Tryz.func10 (c:=Tryz.f10.body.getD .skip) rfl Tryz.results10 Tryz.ntmps10 Tryz.call10 ?_
 simp only[Tryz.f10,Option.getD]
 have hm:=zeZ s hs
 rw[h]at hm
 repeat'(first|refine zq0 ?_|exact zd0|refine zc (hm) ?_|refine zg (hm) ?_|(refine zaa ?_ ?_<;>intro hb)|(refine And.intro ?_ ?_;exact zI)|(refine And.intro ?_ ?_<;>intro hg)|exact zC|fail)
theorem znA (s:St) (hs:Small s) (h:zbn s=false):CallOK Tryz.prog 14 [.f (.agg s.lent)] (fun r o=>r=[.one (.d (.v zd2)),ri 1]∧o=[]):=by
 refine zae zam mixed (T:=Ty) (n:=137) Tryz.func14 (c:=Tryz.f14.body.getD .skip) rfl Tryz.results14 Tryz.ntmps14 Tryz.call14 ?_
 simp only[Tryz.f14,Option.getD]
 have hm:=zgV s hs
 rw[h]at hm
 repeat'(first|refine zq0 ?_|exact zd0|refine zc (hm) ?_|refine zg (hm) ?_|(refine zaa ?_ ?_<;>intro hb)|(refine And.intro ?_ ?_;exact zI)|(refine And.intro ?_ ?_<;>intro hg)|exact zC|fail)
end Go.Proofs.YtbpmcjeeeiffhaaGreat
