import Derived.Test.YtliimajkpggbhaaGreatK9
import Derived.JoinedOf
import Derived.Handed
import Derived.ProofKit
import Derived.Test.YtliimajkpggbhaaGreatWJ
namespace Go.Proofs.YtliimajkpggbhaaGreat
open Go.Pk
set_option maxRecDepth 100000
set_option linter.unusedSimpArgs false
set_option linter.unusedVariables false
abbrev zuM:Prom:=⟨0,0,⟨0,0⟩,0,[]⟩
abbrev pk0 (k:Int):Pkt:=⟨k,0,0,0,zvh,zpB,zvg,zuM,sn0⟩
def zpt (bs:List Int) (k p:Int):Rr Pkt:=
 if k=1 then zau (zjC bs p) fun x=> .ok ({pk0 k with req:=x.1},x.2)
 else if k=2 then zau (zf4 bs p) fun x=> .ok ({pk0 k with ans:=x.1},x.2)
 else if k=3 then zau (zaT bs p) fun x=> .ok ({pk0 k with ballot:=x.1},x.2)
 else if k=4 then zau (zaT bs p) fun x=>zau (zjz bs x.2) fun y=> .ok ({pk0 k with ballot:=x.1,prom:=y.1},y.2)
 else if k=5 then zau (zaT bs p) fun x=>zau (zaT bs x.2) fun y=>zau (zhP bs y.2) fun z=> .ok ({pk0 k with ballot:=x.1,slot:=y.1,bat:=z.1},z.2)
 else if k=6 then zau (zaT bs p) fun x=>zau (zaT bs x.2) fun y=>zau (zhP bs y.2) fun z=> .ok ({pk0 k with ballot:=x.1,slot:=y.1,bat:=z.1},z.2)
 else if k=7 then zau (zaT bs p) fun x=>zau (zaT bs x.2) fun y=> .ok ({pk0 k with ballot:=x.1,done:=y.1},y.2)
 else if k=8 then zau (zaT bs p) fun x=> .ok ({pk0 k with done:=x.1},x.2)
 else if k=9 then zau (zjt bs p) fun x=> .ok ({pk0 k with snap:=x.1},x.2)
 else .error 4
def zuN (bs:List Int) (p:Int):Rr Pkt:=zau (zaZ bs p) fun k=>zpt bs k.1 k.2
def NZ {α:Type} (r:Rr α):Prop:=∀e,r= .error e→(e !=0)=true
theorem zrc {α:Type} {x:α×Int×Int}:NZ (rOf x):=fun e h=>by simpa using(zby h).2
theorem zuO {α:Type} {x:α×Int}:NZ (.ok x:Rr α):=fun e h=>by cases h
theorem zuP {α:Type} {c:Prop} [Decidable c] {x:α×Int}:NZ (if c then(.ok x:Rr α)else .error 4):=fun e h=>by
 split at h
 ·cases h
 ·cases h;rfl
theorem zbo {α β:Type} {r:Rr α} {k:α×Int→Rr β} (h1:NZ r) (h2:∀x,NZ (k x)):NZ (zau r k):=fun e h=>by
 cases r with
 |error z=>cases h;exact h1 _ rfl
 |ok x=>exact h2 x e h
theorem zjs {α:Type} {f:Int→Rr α} (hf:∀p,NZ (f p)) {n:Nat} {p:Int} {acc:List α}:NZ (zaE f n p acc):=fun e h=>zfL (fun p e h=>hf p e h) h
theorem zgD {bs:List Int} {p m:Int}:NZ (zbl bs p m):=fun e h=>by
 rcases zeO h with hz|⟨_,_,_,rfl⟩
 ·simpa using(zby hz).2
 ·rfl
theorem zti {bs:List Int} {p:Int}:NZ (zjt bs p):=by
 have hn:∀p,NZ (zaT bs p):=fun p=>zrc
 have hb:∀p,NZ (zaZ bs p):=fun p=>zrc
 have hs:∀p,NZ (zhO bs p):=fun p=>by
  rw[show zhO bs p=zau (zaZ bs p) fun c=>zau (zaT bs c.2) fun n=>zau (zaT bs n.2) fun r=> .ok (⟨c.1,n.1,r.1⟩,r.2) from by kernel_rfl]
  exact zbo (hb _) fun _=>zbo (hn _) fun _=>zbo (hn _) fun _=>zuO
 have hl:∀p,NZ (zfc bs p):=fun p=>by
  rw[show zfc bs p=zau (zfE bs p) fun nm=>zau (zaZ bs nm.2) fun hd=>zau (zaT bs hd.2) fun tk=>zau (zbl bs tk.2 3) fun n=>zau (zfD bs n.1.toNat n.2 []) fun x=> .ok (⟨nm.1,hd.1,tk.1,x.1⟩,x.2) from by kernel_rfl]
  refine zbo zrc fun _=>zbo (hb _) fun _=>zbo (hn _) fun _=>zbo zgD fun _=>zbo ?_ fun _=>zuO
  rw[zis]
  exact zjs hb
 have hst:∀p,NZ (zen bs p):=fun p=>by
  rw[show zen bs p=zau (zaT bs p) fun t=>zau (zaT bs t.2) fun u=>zau (zaT bs u.2) fun k=>zau (zbl bs k.2 5) fun n=>zau (zaE (zhO bs) n.1.toNat n.2 []) fun ss=>zau (zbl bs ss.2 4) fun n2=>zau (zaE (zfc bs) n2.1.toNat n2.2 []) fun ls=>zau (zbl bs ls.2 8) fun n3=>zau (zaE (zf4 bs) n3.1.toNat n3.2 []) fun ms=>
   if zcg ⟨t.1,u.1,k.1,ss.1,ls.1,ms.1⟩=true then .ok (⟨t.1,u.1,k.1,ss.1,ls.1,ms.1⟩,ms.2)else .error 4 from by kernel_rfl]
  exact zbo (hn _) fun _=>zbo (hn _) fun _=>zbo (hn _) fun _=>zbo zgD fun _=>zbo (zjs hs) fun _=>zbo zgD fun _=>zbo (zjs hl) fun _=>zbo zgD fun _=>zbo (zjs fun _=>zrc) fun _=>zuP
 rw[show zjt bs p=zau (zaT bs p) fun d=>zau (zaT bs d.2) fun v=>zau (zaT bs v.2) fun l=>zau (zen bs l.2) fun s=>if zbk ⟨d.1,v.1,l.1,s.1⟩=true then .ok (⟨d.1,v.1,l.1,s.1⟩,s.2)else .error 4 from by kernel_rfl]
 exact zbo (hn _) fun _=>zbo (hn _) fun _=>zbo (hn _) fun _=>zbo (hst _) fun _=>zuP
set_option maxHeartbeats 8000000 in
theorem zir (bs:List Int) (p:Int) (h:BsOk bs) (hp:i64 p) (b:Bool) (y:Pkt×Int) (e:Int) (hy:zjF b y e (zuN bs p)):
  (b=true→CallOK Tryz.prog 49 [.obj (rds bs p)] (fun r o=>zbr r [.agg (y.1.enc.map RO.d)]∧o=[rds bs y.2]))∧(b=false→zbj Tryz.prog 49 [.obj (rds bs p)] ztE):=by
 refine zhb Tryz.func49 Tryz.results49 Tryz.ntmps49 Tryz.call49 ?_
 simp only[Tryz.f49,Option.getD]
 unfold zuN at hy
 cases e1:zaZ bs p with
 |error x=>
  rw[e1]at hy
  obtain⟨rfl,rfl⟩:=zaq hy
  have hr:=zhx bs _ h hp e1
  repeat'(first|exact zC|refine zq0 ?_|(apply zaa<;>intro hb)|(apply I;exact zI)|(apply I<;>intro hg))
  refine zp (rds bs p) (hr) ?_
  first|refine zs (I @zae @zab) ?_|exact zt (I @zae @zab)
 |ok k=>
 have he1:=zjw bs _ h hp e1
 have p1:=zaN h e1
 rw[e1]at hy
 obtain⟨kv,kq⟩:=k
 have hy:zjF b y e (zpt bs kv kq):=hy
 simp only at he1 p1
 repeat'(first|exact zC|refine zq0 ?_|(apply zaa<;>intro hb)|(apply I;exact zI)|(apply I<;>intro hg))
 refine zj (he1) ?_
 rcases kinds kv with rfl|rfl|rfl|rfl|rfl|rfl|rfl|rfl|rfl|⟨k1,k2,k3,k4,k5,k6,k7,k8,k9⟩
 ·have hy:zjF b y e (zau (zjC bs kq) fun x=> .ok ({pk0 1 with req:=x.1},x.2)):=hy
  have h1:=zkQ bs kq h p1
  cases x1:zjC bs kq with
  |error er=>
   rw[x1]at hy
   obtain⟨rfl,rfl⟩:=zaq hy
   rw[x1]at h1;simp only[dOf]at h1;have hq:=zjA x1
   repeat'(first|exact zC|refine zq0 ?_|refine zx (h1) ?_|(apply zaa<;>intro hb)|(apply I;exact zI)|(apply I<;>intro hg))
   refine zct (zdE _ hq) rfl ?_
   first|refine zs (I @zae @zab) ?_|exact zt (I @zae @zab)
  |ok x=>
  rw[x1]at hy
  obtain⟨rfl,rfl⟩:=zcE hy
  rw[x1]at h1;simp only[dOf]at h1
  repeat'(first|exact zC|refine zq @zcD ?_|refine zx (h1) ?_|refine zx (zbY) ?_|(apply zaa<;>intro hb)|(apply I;exact zI)|(apply I<;>intro hg))
  simp[zbr,zev,zbg,zaw,st0, -List.length_flatMap,zas,zaP,zaR,zaA,zaz,zaF]
 ·have hy:zjF b y e (zau (zf4 bs kq) fun x=> .ok ({pk0 2 with ans:=x.1},x.2)):=hy
  have h1:=zeq bs kq h p1
  cases x1:zf4 bs kq with
  |error er=>
   rw[x1]at hy
   obtain⟨rfl,rfl⟩:=zaq hy
   have h9:=zby x1;rw[h9.1]at h1;have hq:=h9.2;rw[←bne_iff_ne]at hq
   repeat'(first|exact zC|refine zq0 ?_|refine zx (h1) ?_|(apply zaa<;>intro hb)|(apply I;exact zI)|(apply I<;>intro hg))
   refine zct (zdE _ hq) rfl ?_
   first|refine zs (I @zae @zab) ?_|exact zt (I @zae @zab)
  |ok x=>
  rw[x1]at hy
  obtain⟨rfl,rfl⟩:=zcE hy
  obtain⟨h0,rfl⟩:=zcC x1;rw[h0]at h1
  repeat'(first|exact zC|refine zq @zcD ?_|refine zx (h1) ?_|refine zx (zbY) ?_|(apply zaa<;>intro hb)|(apply I;exact zI)|(apply I<;>intro hg))
  simp[zbr,zev,zbg,zaw,st0, -List.length_flatMap,zas,zaP,zaR,zaA,zaz,zaF]
 ·have hy:zjF b y e (zau (zaT bs kq) fun x=> .ok ({pk0 3 with ballot:=x.1},x.2)):=hy
  cases xx:zaT bs kq with
  |error er=>
   rw[xx]at hy
   obtain⟨rfl,rfl⟩:=zaq hy
   have hr:=zbc bs _ h p1 xx
   repeat'(first|exact zC|refine zq0 ?_|(apply zaa<;>intro hb)|(apply I;exact zI)|(apply I<;>intro hg))
   refine zp (rds bs p) (hr) ?_
   first|refine zs (I @zae @zab) ?_|exact zt (I @zae @zab)
  |ok x=>
  rw[xx]at hy
  simp only[zau]at hy
  have hrx:=zbD bs _ h p1 xx
  have px:=zal h xx
  repeat'(first|exact zC|refine zq0 ?_|(apply zaa<;>intro hb)|(apply I;exact zI)|(apply I<;>intro hg))
  refine zj (hrx) ?_
  obtain⟨rfl,rfl⟩:=zcE hy
  repeat'(first|exact zC|refine zq @zcD ?_|refine zx (zbY) ?_|(apply zaa<;>intro hb)|(apply I;exact zI)|(apply I<;>intro hg))
  simp[zbr,zev,zbg,zaw,st0, -List.length_flatMap,zas,zaP,zaR,zaA,zaz,zaF]
 ·have hy:zjF b y e (zau (zaT bs kq) fun x=>zau (zjz bs x.2) fun y=> .ok ({pk0 4 with ballot:=x.1,prom:=y.1},y.2)):=hy
  cases xx:zaT bs kq with
  |error er=>
   rw[xx]at hy
   obtain⟨rfl,rfl⟩:=zaq hy
   have hr:=zbc bs _ h p1 xx
   repeat'(first|exact zC|refine zq0 ?_|(apply zaa<;>intro hb)|(apply I;exact zI)|(apply I<;>intro hg))
   refine zp (rds bs p) (hr) ?_
   first|refine zs (I @zae @zab) ?_|exact zt (I @zae @zab)
  |ok x=>
  rw[xx]at hy
  have hrx:=zbD bs _ h p1 xx
  have px:=zal h xx
  repeat'(first|exact zC|refine zq0 ?_|(apply zaa<;>intro hb)|(apply I;exact zI)|(apply I<;>intro hg))
  refine zj (hrx) ?_
  cases xy:zjz bs x.2 with
  |error er=>
   have hy:zjF b y e (zau (zjz bs x.2) fun y=> .ok ({pk0 4 with ballot:=x.1,prom:=y.1},y.2)):=hy
   rw[xy]at hy
   obtain⟨rfl,rfl⟩:=zaq hy
   have hr:=(zhA bs _ h px false (zuM,0) _ xy).2 rfl
   repeat'(first|exact zC|refine zq0 ?_|(apply zaa<;>intro hb)|(apply I;exact zI)|(apply I<;>intro hg))
   refine zp (rds bs p) (hr) ?_
   first|refine zs (I @zae @zab) ?_|exact zt (I @zae @zab)
  |ok z=>
  have hy:zjF b y e (zau (zjz bs x.2) fun y=> .ok ({pk0 4 with ballot:=x.1,prom:=y.1},y.2)):=hy
  rw[xy]at hy
  have hry:=CallOK.nil ((zhA bs _ h px true z 0 xy).1 rfl)
  repeat'(first|exact zC|refine zq0 ?_|(apply zaa<;>intro hb)|(apply I;exact zI)|(apply I<;>intro hg))
  refine zj (hry) ?_
  obtain⟨rfl,rfl⟩:=zcE hy
  repeat'(first|exact zC|refine zq @zcD ?_|refine zx (zbY) ?_|(apply zaa<;>intro hb)|(apply I;exact zI)|(apply I<;>intro hg))
  simp[zbr,zev,zbg,zaw,st0, -List.length_flatMap,zas,zaP,zaR,zaA,zaz,zaF]
 ·have hy:zjF b y e (zau (zaT bs kq) fun x=>zau (zaT bs x.2) fun w=>zau (zhP bs w.2) fun z=> .ok ({pk0 5 with ballot:=x.1,slot:=w.1,bat:=z.1},z.2)):=hy
  cases xx:zaT bs kq with
  |error er=>
   rw[xx]at hy
   obtain⟨rfl,rfl⟩:=zaq hy
   have hr:=zbc bs _ h p1 xx
   repeat'(first|exact zC|refine zq0 ?_|(apply zaa<;>intro hb)|(apply I;exact zI)|(apply I<;>intro hg))
   refine zp (rds bs p) (hr) ?_
   first|refine zs (I @zae @zab) ?_|exact zt (I @zae @zab)
  |ok x=>
  rw[xx]at hy
  simp only[zau]at hy
  have hrx:=zbD bs _ h p1 xx
  have px:=zal h xx
  repeat'(first|exact zC|refine zq0 ?_|(apply zaa<;>intro hb)|(apply I;exact zI)|(apply I<;>intro hg))
  refine zj (hrx) ?_
  cases xw:zaT bs x.2 with
  |error er=>
   rw[xw]at hy
   obtain⟨rfl,rfl⟩:=zaq hy
   have hr:=zbc bs _ h px xw
   repeat'(first|exact zC|refine zq0 ?_|(apply zaa<;>intro hb)|(apply I;exact zI)|(apply I<;>intro hg))
   refine zp (rds bs p) (hr) ?_
   first|refine zs (I @zae @zab) ?_|exact zt (I @zae @zab)
  |ok w=>
  rw[xw]at hy
  simp only[zau]at hy
  have hrw:=zbD bs _ h px xw
  have pw:=zal h xw
  repeat'(first|exact zC|refine zq0 ?_|(apply zaa<;>intro hb)|(apply I;exact zI)|(apply I<;>intro hg))
  refine zj (hrw) ?_
  cases xz:zhP bs w.2 with
  |error er=>
   rw[xz]at hy
   obtain⟨rfl,rfl⟩:=zaq hy
   have hr:=zhz bs _ h pw xz
   repeat'(first|exact zC|refine zq0 ?_|(apply zaa<;>intro hb)|(apply I;exact zI)|(apply I<;>intro hg))
   refine zp (rds bs p) (hr) ?_
   first|refine zs (I @zae @zab) ?_|exact zt (I @zae @zab)
  |ok z=>
  rw[xz]at hy
  simp only[zau]at hy
  have hrz:=zjx bs _ h pw xz
  have pz:=zfM h xz
  repeat'(first|exact zC|refine zq0 ?_|(apply zaa<;>intro hb)|(apply I;exact zI)|(apply I<;>intro hg))
  refine zj (hrz) ?_
  obtain⟨rfl,rfl⟩:=zcE hy
  repeat'(first|exact zC|refine zq @zcD ?_|refine zx (zbY) ?_|(apply zaa<;>intro hb)|(apply I;exact zI)|(apply I<;>intro hg))
  simp[zbr,zev,zbg,zaw,st0, -List.length_flatMap,zas,zaP,zaR,zaA,zaz,zaF]
 ·have hy:zjF b y e (zau (zaT bs kq) fun x=>zau (zaT bs x.2) fun w=>zau (zhP bs w.2) fun z=> .ok ({pk0 6 with ballot:=x.1,slot:=w.1,bat:=z.1},z.2)):=hy
  cases xx:zaT bs kq with
  |error er=>
   rw[xx]at hy
   obtain⟨rfl,rfl⟩:=zaq hy
   have hr:=zbc bs _ h p1 xx
   repeat'(first|exact zC|refine zq0 ?_|(apply zaa<;>intro hb)|(apply I;exact zI)|(apply I<;>intro hg))
   refine zp (rds bs p) (hr) ?_
   first|refine zs (I @zae @zab) ?_|exact zt (I @zae @zab)
  |ok x=>
  rw[xx]at hy
  simp only[zau]at hy
  have hrx:=zbD bs _ h p1 xx
  have px:=zal h xx
  repeat'(first|exact zC|refine zq0 ?_|(apply zaa<;>intro hb)|(apply I;exact zI)|(apply I<;>intro hg))
  refine zj (hrx) ?_
  cases xw:zaT bs x.2 with
  |error er=>
   rw[xw]at hy
   obtain⟨rfl,rfl⟩:=zaq hy
   have hr:=zbc bs _ h px xw
   repeat'(first|exact zC|refine zq0 ?_|(apply zaa<;>intro hb)|(apply I;exact zI)|(apply I<;>intro hg))
   refine zp (rds bs p) (hr) ?_
   first|refine zs (I @zae @zab) ?_|exact zt (I @zae @zab)
  |ok w=>
  rw[xw]at hy
  simp only[zau]at hy
  have hrw:=zbD bs _ h px xw
  have pw:=zal h xw
  repeat'(first|exact zC|refine zq0 ?_|(apply zaa<;>intro hb)|(apply I;exact zI)|(apply I<;>intro hg))
  refine zj (hrw) ?_
  cases xz:zhP bs w.2 with
  |error er=>
   rw[xz]at hy
   obtain⟨rfl,rfl⟩:=zaq hy
   have hr:=zhz bs _ h pw xz
   repeat'(first|exact zC|refine zq0 ?_|(apply zaa<;>intro hb)|(apply I;exact zI)|(apply I<;>intro hg))
   refine zp (rds bs p) (hr) ?_
   first|refine zs (I @zae @zab) ?_|exact zt (I @zae @zab)
  |ok z=>
  rw[xz]at hy
  simp only[zau]at hy
  have hrz:=zjx bs _ h pw xz
  have pz:=zfM h xz
  repeat'(first|exact zC|refine zq0 ?_|(apply zaa<;>intro hb)|(apply I;exact zI)|(apply I<;>intro hg))
  refine zj (hrz) ?_
  obtain⟨rfl,rfl⟩:=zcE hy
  repeat'(first|exact zC|refine zq @zcD ?_|refine zx (zbY) ?_|(apply zaa<;>intro hb)|(apply I;exact zI)|(apply I<;>intro hg))
  simp[zbr,zev,zbg,zaw,st0, -List.length_flatMap,zas,zaP,zaR,zaA,zaz,zaF]
 ·have hy:zjF b y e (zau (zaT bs kq) fun x=>zau (zaT bs x.2) fun w=> .ok ({pk0 7 with ballot:=x.1,done:=w.1},w.2)):=hy
  cases xx:zaT bs kq with
  |error er=>
   rw[xx]at hy
   obtain⟨rfl,rfl⟩:=zaq hy
   have hr:=zbc bs _ h p1 xx
   repeat'(first|exact zC|refine zq0 ?_|(apply zaa<;>intro hb)|(apply I;exact zI)|(apply I<;>intro hg))
   refine zp (rds bs p) (hr) ?_
   first|refine zs (I @zae @zab) ?_|exact zt (I @zae @zab)
  |ok x=>
  rw[xx]at hy
  simp only[zau]at hy
  have hrx:=zbD bs _ h p1 xx
  have px:=zal h xx
  repeat'(first|exact zC|refine zq0 ?_|(apply zaa<;>intro hb)|(apply I;exact zI)|(apply I<;>intro hg))
  refine zj (hrx) ?_
  cases xw:zaT bs x.2 with
  |error er=>
   rw[xw]at hy
   obtain⟨rfl,rfl⟩:=zaq hy
   have hr:=zbc bs _ h px xw
   repeat'(first|exact zC|refine zq0 ?_|(apply zaa<;>intro hb)|(apply I;exact zI)|(apply I<;>intro hg))
   refine zp (rds bs p) (hr) ?_
   first|refine zs (I @zae @zab) ?_|exact zt (I @zae @zab)
  |ok w=>
  rw[xw]at hy
  simp only[zau]at hy
  have hrw:=zbD bs _ h px xw
  have pw:=zal h xw
  repeat'(first|exact zC|refine zq0 ?_|(apply zaa<;>intro hb)|(apply I;exact zI)|(apply I<;>intro hg))
  refine zj (hrw) ?_
  obtain⟨rfl,rfl⟩:=zcE hy
  repeat'(first|exact zC|refine zq @zcD ?_|refine zx (zbY) ?_|(apply zaa<;>intro hb)|(apply I;exact zI)|(apply I<;>intro hg))
  simp[zbr,zev,zbg,zaw,st0, -List.length_flatMap,zas,zaP,zaR,zaA,zaz,zaF]
 ·have hy:zjF b y e (zau (zaT bs kq) fun x=> .ok ({pk0 8 with done:=x.1},x.2)):=hy
  cases xx:zaT bs kq with
  |error er=>
   rw[xx]at hy
   obtain⟨rfl,rfl⟩:=zaq hy
   have hr:=zbc bs _ h p1 xx
   repeat'(first|exact zC|refine zq0 ?_|(apply zaa<;>intro hb)|(apply I;exact zI)|(apply I<;>intro hg))
   refine zp (rds bs p) (hr) ?_
   first|refine zs (I @zae @zab) ?_|exact zt (I @zae @zab)
  |ok x=>
  rw[xx]at hy
  simp only[zau]at hy
  have hrx:=zbD bs _ h p1 xx
  have px:=zal h xx
  repeat'(first|exact zC|refine zq0 ?_|(apply zaa<;>intro hb)|(apply I;exact zI)|(apply I<;>intro hg))
  refine zj (hrx) ?_
  obtain⟨rfl,rfl⟩:=zcE hy
  repeat'(first|exact zC|refine zq @zcD ?_|refine zx (zbY) ?_|(apply zaa<;>intro hb)|(apply I;exact zI)|(apply I<;>intro hg))
  simp[zbr,zev,zbg,zaw,st0, -List.length_flatMap,zas,zaP,zaR,zaA,zaz,zaF]
 ·have hy:zjF b y e (zau (zjt bs kq) fun x=> .ok ({pk0 9 with snap:=x.1},x.2)):=hy
  have h1:=zhN bs kq h p1
  cases x1:zjt bs kq with
  |error er=>
   rw[x1]at hy
   obtain⟨rfl,rfl⟩:=zaq hy
   have hq:=zti _ x1;unfold dSn at h1;rw[x1]at h1;simp only at h1
   repeat'(first|exact zC|refine zq0 ?_|refine zx (h1) ?_|(apply zaa<;>intro hb)|(apply I;exact zI)|(apply I<;>intro hg))
   refine zct (zdE _ hq) rfl ?_
   first|refine zs (I @zae @zab) ?_|exact zt (I @zae @zab)
  |ok x=>
  rw[x1]at hy
  obtain⟨rfl,rfl⟩:=zcE hy
  unfold dSn at h1;rw[x1]at h1;simp only at h1
  repeat'(first|exact zC|refine zq @zcD ?_|refine zx (h1) ?_|refine zx (zbY) ?_|(apply zaa<;>intro hb)|(apply I;exact zI)|(apply I<;>intro hg))
  simp[zbr,zev,zbg,zaw,st0, -List.length_flatMap,zas,zaP,zaR,zaA,zaz,zaF]
 ·have hz:zpt bs kv kq= .error 4:=by
   simp only[beq_eq_false_iff_ne,ne_eq]at k1 k2 k3 k4 k5 k6 k7 k8 k9
   unfold zpt
   simp only[k1,k2,k3,k4,k5,k6,k7,k8,k9,if_false]
  rw[hz]at hy
  obtain⟨rfl,rfl⟩:=zaq hy
  repeat'(first|exact zC|refine zq (I k1 (I k2 (I k3 (I k4 (I k5 (I k6 (I k7 (I k8 (I k9 (I @zae @zab)))))))))) ?_|(apply zaa<;>intro hb)|(apply I;exact zI)|(apply I<;>intro hg))
theorem ziq (a b:List Int) (ha:a.length<2^40) (hb:b.length<2^40):CallOK Tryz.prog 50 [.f (al a.length (zad a)), .f (al b.length (zad b))] (fun r o=>r=[rb ((strOf a).toList==(strOf b).toList)]∧o=[]):=by
 refine zh Tryz.func50 Tryz.results50 Tryz.ntmps50 Tryz.call50 ?_
 simp only[Tryz.f50,Option.getD]
 repeat'(first|exact zC|refine zq (I @zdQ @zao) ?_|(apply zaa<;>intro hb)|(apply I;exact zI)|(apply I<;>intro hg))
 rfl
def szP (k:Nat):Nat:=if k=2 then 36 else 1
def zyS:List Value:=[.int .i64 0, .int .i64 0, .int .i64 0, .int .i64 0, .int .i64 0, .int .i64 0, .int .i64 0, .int .i64 0, .string .empty, .int .i64 0, .int .i64 0, .int .i64 0, .int .i64 0, .int .i64 0,zem, .bool false, .int .i64 0, .int .i64 0, .int .i64 0, .int .i64 0,zem, .int .i64 0, .int .i64 0, .int .i64 0, .int .i64 0, .int .i64 0,zem, .int .i64 0, .int .i64 0, .int .i64 0, .int .i64 0, .int .i64 0, .int .i64 0,zem,zem,zem]
def zps:List C:=[di 0,di 0,di 0,di 0,di 0,di 0,di 0,di 0,dS .empty,di 0,di 0,di 0,di 0,di 0, .d (.v zem),db false,di 0,di 0,di 0,di 0, .d (.v zem),di 0,di 0,di 0,di 0,di 0, .d (.v zem),di 0,di 0,di 0,di 0,di 0,di 0, .d (.v zem), .d (.v zem), .d (.v zem)]
def nwP (x:Value) (k:Nat):List Value:=if k=2 then zyS else [codeOf x]
theorem zbL {l:List Value} {n:Nat} (h:l.length=n+1):∃a m,l=a::m∧m.length=n:=by
 cases l with
 |nil=>cases h
 |cons a m=>exact⟨a,m,rfl,by simpa using h⟩
theorem zrb:(Tryz.prog.info? 84).bind (·.zero)=some (.agg #[.int .i64 0]):=by kernel_rfl
theorem zlD:zgX Tryz.prog 48 [2,3] szP nwP (zhu 84):=by
 refine zdY zcp mixed (T:=Ty) Tryz.func48 rfl rfl Tryz.ntmps48 rfl rfl rfl rfl rfl rfl rfl (by decide) (by decide) (by decide) ?_
 rintro x ⟨n,rfl⟩ ls hl hs
 obtain⟨y,z,rfl⟩:∃y z,ls=[y,z]:=by
  match ls,hl with
  |[y,z],_=>exact⟨y,z,rfl⟩
 have h1:y.length=35+1:=hs 0 2 y rfl rfl
 obtain⟨g,rfl⟩:=ztD (hs 1 3 z rfl rfl)
 clear hl hs
 obtain⟨a0,y0,rfl,k0⟩:=zbL h1
 obtain⟨a1,y1,rfl,k1⟩:=zbL k0
 obtain⟨a2,y2,rfl,k2⟩:=zbL k1
 obtain⟨a3,y3,rfl,k3⟩:=zbL k2
 obtain⟨a4,y4,rfl,k4⟩:=zbL k3
 obtain⟨a5,y5,rfl,k5⟩:=zbL k4
 obtain⟨a6,y6,rfl,k6⟩:=zbL k5
 obtain⟨a7,y7,rfl,k7⟩:=zbL k6
 obtain⟨a8,y8,rfl,k8⟩:=zbL k7
 obtain⟨a9,y9,rfl,k9⟩:=zbL k8
 obtain⟨a10,y10,rfl,k10⟩:=zbL k9
 obtain⟨a11,y11,rfl,k11⟩:=zbL k10
 obtain⟨a12,y12,rfl,k12⟩:=zbL k11
 obtain⟨a13,y13,rfl,k13⟩:=zbL k12
 obtain⟨a14,y14,rfl,k14⟩:=zbL k13
 obtain⟨a15,y15,rfl,k15⟩:=zbL k14
 obtain⟨a16,y16,rfl,k16⟩:=zbL k15
 obtain⟨a17,y17,rfl,k17⟩:=zbL k16
 obtain⟨a18,y18,rfl,k18⟩:=zbL k17
 obtain⟨a19,y19,rfl,k19⟩:=zbL k18
 obtain⟨a20,y20,rfl,k20⟩:=zbL k19
 obtain⟨a21,y21,rfl,k21⟩:=zbL k20
 obtain⟨a22,y22,rfl,k22⟩:=zbL k21
 obtain⟨a23,y23,rfl,k23⟩:=zbL k22
 obtain⟨a24,y24,rfl,k24⟩:=zbL k23
 obtain⟨a25,y25,rfl,k25⟩:=zbL k24
 obtain⟨a26,y26,rfl,k26⟩:=zbL k25
 obtain⟨a27,y27,rfl,k27⟩:=zbL k26
 obtain⟨a28,y28,rfl,k28⟩:=zbL k27
 obtain⟨a29,y29,rfl,k29⟩:=zbL k28
 obtain⟨a30,y30,rfl,k30⟩:=zbL k29
 obtain⟨a31,y31,rfl,k31⟩:=zbL k30
 obtain⟨a32,y32,rfl,k32⟩:=zbL k31
 obtain⟨a33,y33,rfl,k33⟩:=zbL k32
 obtain⟨a34,y34,rfl,k34⟩:=zbL k33
 obtain⟨a35,y35,rfl,k35⟩:=zbL k34
 obtain rfl:=List.length_eq_zero_iff.1 k35
 refine⟨.tuple #[.agg #[.int .i64 n], .bool true], .tup [.agg [di n],ab true], ?_, ?_,rfl, ?_⟩
 ·intro w
  simp[Instr.typeAssert,Tryz.underlying84]
 ·intro cx w r β
  simp[ReA,ReAs,ReC,ReCs,Rd,flat]
 ·simp only[zaU,plainO,List.map_cons,List.map_nil]
  first|refine zs0 ?_|exact zt0
  repeat'(first|exact zC|refine zq0 ?_|(apply zaa<;>intro hb)|(apply I;exact zI)|(apply I<;>intro hg))
  rfl
theorem znp:zlm Tryz.prog 48 2:=by
 refine zcY zcp mixed (T:=Ty) Tryz.func48 rfl rfl Tryz.ntmps48 rfl rfl rfl rfl rfl rfl rfl (by decide) (y7:= .tuple #[.agg #[.int .i64 0], .bool false]) (V7:= .tup [.agg [di 0],ab false]) ?_ ?_ (by decide) rfl ?_
 ·intro w
  simp[Instr.typeAssert,Tryz.underlying84,zhv zrb w]
 ·intro cx w r β
  simp[ReA,ReAs,ReC,ReCs,Rd,flat]
 ·simp only[List.replicate]
  first|refine zs0 ?_|exact zt0
  repeat'(first|exact zC|refine zq0 ?_|(apply zaa<;>intro hb)|(apply I;exact zI)|(apply I<;>intro hg))
def Fx {α:Type} (Q:α×Int→Prop) (r:Rr α):Prop:=∀y,r= .ok y→Q y
theorem zhk {α:Type} {Q:α×Int→Prop} {x:α×Int} (h:Q x):Fx Q (.ok x):=fun y hy=>by cases hy;exact h
theorem zaI {α β:Type} {Q:α×Int→Prop} {R:β×Int→Prop} {r:Rr α} {k:α×Int→Rr β} (h1:Fx Q r) (h2:∀x,Q x→Fx R (k x)):Fx R (zau r k):=fun y hy=>by
 cases r with
 |error e=>cases hy
 |ok x=>exact h2 x (h1 x rfl) y hy
theorem zvJ {α:Type} {Q:α×Int→Prop} {c:Prop} [Decidable c] {x:α×Int} {e:Int} (h:c→Q x):Fx Q (if c then .ok x else .error e):=fun y hy=>by
 split at hy
 ·rename_i hc;cases hy;exact h hc
 ·cases hy
theorem ztf {bs:List Int} {p:Int}:Fx (fun y=>Small y.1.st) (zjt bs p):=by
 rw[show zjt bs p=zau (zaT bs p) fun d=>zau (zaT bs d.2) fun v=>zau (zaT bs v.2) fun l=>zau (zen bs l.2) fun s=>if zbk ⟨d.1,v.1,l.1,s.1⟩=true then .ok (⟨d.1,v.1,l.1,s.1⟩,s.2)else .error 4 from by kernel_rfl]
 exact zaI (Q:=fun _=>True) (fun _ _=>trivial) fun _ _=>zaI (Q:=fun _=>True) (fun _ _=>trivial) fun _ _=>zaI (Q:=fun _=>True) (fun _ _=>trivial) fun _ _=>zaI (Q:=fun s=>Small s.1) (fun y hy=>zdL (zeM.1 (zgk hy))) fun _ hs=>zvJ fun _=>hs
theorem zc9 {n:Int} (h:0≤n∧n<4611686018427387904):i64 n:=by unfold i64;omega
theorem zuK {k:Int} (hk:i64 k):(pk0 k).ok:=⟨hk,zcr,zcr,zcr,⟨zcr,zcr,zcr,zcr,(by show(ByteArray.empty).size<2^62;decide)⟩,⟨by simp,by simp⟩,⟨zcr,zcr,zcr,zcr,by simp,by simp⟩,by simp,⟨zcr,zcr,zcr,zcr,zcr,by simp,by simp⟩,by simp,by simp,(show Small st0 from zpU)⟩
section
variable {bs:List Int} (h:BsOk bs)
include h
theorem zda {p:Int}:Fx (fun y=>i64 y.2∧0≤y.1∧y.1<4611686018427387904) (zaT bs p):=fun y hy=>⟨zal h hy,zjB h hy⟩
theorem zpr {p:Int}:Fx (fun y=>i64 y.2∧Batch.may y.1=true) (zhP bs p):=fun y hy=>by
 refine⟨zfM h hy, ?_⟩
 unfold zhP at hy
 cases e1:zaZ bs p with
 |error x=>rw[e1]at hy;cases hy
 |ok k=>
 rw[e1]at hy;simp only at hy
 split at hy
 ·cases hy
 split at hy
 ·cases hy;rfl
 cases e2:zaE (zaT bs) 4 k.2 []with
 |error x=>rw[e2]at hy;cases hy
 |ok l=>
 rw[e2]at hy;simp only at hy
 cases e3:zbl bs l.2 3 with
 |error x=>rw[e3]at hy;cases hy
 |ok n=>
 rw[e3]at hy;simp only at hy
 cases e4:zaE (zjC bs) n.1.toNat n.2 []with
 |error x=>rw[e4]at hy;cases hy
 |ok rs=>
 rw[e4]at hy;simp only at hy
 split at hy
 ·rename_i hm;cases hy;exact hm
 ·cases hy
def zmF (v:Vote):Prop:=(0≤v.slot∧v.slot<4611686018427387904)∧(0≤v.ballot∧v.ballot<4611686018427387904)∧Batch.may v.batch=true
theorem ztg {p:Int}:Fx (fun y=>i64 y.2∧zmF y.1) (zjy bs p):=by
 rw[show zjy bs p=zau (zaT bs p) fun s=>zau (zaT bs s.2) fun b=>zau (zhP bs b.2) fun x=> .ok (⟨s.1,b.1,x.1⟩,x.2) from by kernel_rfl]
 exact zaI (zda h) fun s hs=>zaI (zda h) fun b hb=>zaI (zpr h) fun x hx=>zhk ⟨hx.1,hs.2,hb.2,hx.2⟩
structure PromR (p:Prom):Prop where
 src:0≤p.src∧p.src<256
 done:0≤p.done∧p.done<4611686018427387904
 view:0≤p.tip.view∧p.tip.view<4611686018427387904
 slot:0≤p.tip.slot∧p.tip.slot<4611686018427387904
 time:0≤p.time∧p.time<4611686018427387904
 len:p.votes.length<256
 votes:∀v∈p.votes,zmF v
theorem zth {p:Int}:Fx (fun y=>i64 y.2∧PromR y.1) (zjz bs p):=by
 rw[show zjz bs p=zau (zaZ bs p) fun f=>zau (zaT bs f.2) fun d=>zau (zaT bs d.2) fun v=>zau (zaT bs v.2) fun s=>zau (zaT bs s.2) fun t=>zau (zaZ bs t.2) fun n=>zau (zaE (zjy bs) n.1.toNat n.2 []) fun l=> .ok (⟨f.1,d.1,⟨v.1,s.1⟩,t.1,l.1⟩,l.2) from by kernel_rfl]
 have hb:∀p,Fx (fun y=>i64 y.2∧0≤y.1∧y.1<256) (zaZ bs p):=fun p y hy=>⟨zaN h hy,zeo h hy⟩
 refine zaI (hb _) fun f hf=>zaI (zda h) fun d hd=>zaI (zda h) fun v hv=>zaI (zda h) fun s hs=>zaI (zda h) fun t ht=>zaI (hb _) fun n hn=> ?_
 refine zaI (Q:=fun l=>i64 l.2∧l.1.length<256∧∀v∈l.1,zmF v) (fun l hl=> ?_) fun l hl=>zhk ⟨hl.1,hf.2,hd.2,hv.2,hs.2,ht.2,hl.2.1,hl.2.2⟩
 have:=zdc (ok:=zmF) (fun p y hy=>ztg h y hy) hn.1 (fun _ hx=>by cases hx) hl
 refine⟨this.1, ?_,this.2.2⟩
 have h3:=this.2.1
 simp only[List.length_nil]at h3
 omega
theorem zuL {p:Int}:Fx (fun y=>y.1.ok) (zuN bs p):=by
 have hb:∀p,Fx (fun y=>i64 y.2∧0≤y.1∧y.1<256) (zaZ bs p):=fun p y hy=>⟨zaN h hy,zeo h hy⟩
 refine zaI (hb _) fun k hk=> ?_
 have h0:=zuK (k:=k.1) (by unfold i64;omega)
 have hbo:∀b,Batch.may b=true→b.ok∧b.reqs.length<2^30:=fun b hb=>⟨zmP hb,by have:=(zfP hb).1;omega⟩
 unfold zpt
 split
 ·exact zaI (Q:=fun x=>Req.may x.1=true) (fun y hy=>(zf9 h hy).2) fun x hx=>zhk {h0 with req:=(zes hx).2.2.2}
 split
 ·exact zaI (Q:=fun x=>zcI x.1.reply) (fun y hy=>(zhn h hy).2) fun x hx=>zhk {h0 with ans:=hx}
 split
 ·exact zaI (zda h) fun x hx=>zhk {h0 with b:=zc9 hx.2}
 split
 ·refine zaI (zda h) fun x hx=>zaI (zth h) fun y hy=>zhk {h0 with b:=zc9 hx.2,prom:= ?_,pl:= ?_,vl:= ?_}
  ·have m:=hy.2
   have hsr:i64 y.1.src:=by have:=m.src;unfold i64;omega
   have hvl:y.1.votes.length<2^42:=by have:=m.len;omega
   exact⟨hsr,zc9 m.done,zc9 m.view,zc9 m.slot,zc9 m.time,hvl,fun v hv=>⟨zc9 (m.votes v hv).1,zc9 (m.votes v hv).2.1,(hbo _ (m.votes v hv).2.2).1⟩⟩
  ·have:=hy.2.len;show y.1.votes.length<_;omega
  ·exact fun v hv=>(hbo _ (hy.2.votes v hv).2.2).2
 split
 ·exact zaI (zda h) fun x hx=>zaI (zda h) fun w hw=>zaI (zpr h) fun z hz=>zhk {h0 with b:=zc9 hx.2,s:=zc9 hw.2,bat:=(hbo _ hz.2).1,bl:=(hbo _ hz.2).2}
 split
 ·exact zaI (zda h) fun x hx=>zaI (zda h) fun w hw=>zaI (zpr h) fun z hz=>zhk {h0 with b:=zc9 hx.2,s:=zc9 hw.2,bat:=(hbo _ hz.2).1,bl:=(hbo _ hz.2).2}
 split
 ·exact zaI (zda h) fun x hx=>zaI (zda h) fun w hw=>zhk {h0 with b:=zc9 hx.2,d:=zc9 hw.2}
 split
 ·exact zaI (zda h) fun x hx=>zhk {h0 with d:=zc9 hx.2}
 split
 ·exact zaI ztf fun x hx=>zhk {h0 with snap:=hx}
 ·intro y hy;cases hy
end
def zvK (p:Pkt):List Int:=if zpT p=true then pkI p else []
def zp4 (bs:List Int):Pkt×Int:=if bs.length>2048 then(pk0 0,3)else match zuN bs 0 with
 | .error _=>(pk0 0,4)
 | .ok y=>if(y.2 !=(bs.length:Int)|| !((strOf (zvK y.1)).toList==(strOf bs).toList))=true then(pk0 0,4)else(y.1,0)
theorem zio (e:Int):zk5 39 [2,3] (nwP (zdW 84 e))=⟨(dq2 (.one (.ptr ⟨2,0,0⟩ 0):: .one (.ptr ⟨3,0,0⟩ 0)::zso [])),[(2,{next:=1,l:=[obq 0 (zps)]}),(3,{next:=1,l:=[obq 0 [di e]]})]⟩:=rfl
theorem zdb:zps=[di 0,di 0,di 0,di 0,di 0,di 0,di 0,di 0,dS .empty,di 0,di 0,di 0,di 0,di 0, .d (.v zem),db false,di 0,di 0,di 0,di 0, .d (.v zem),di 0,di 0,di 0,di 0,di 0, .d (.v zem),di 0,di 0,di 0,di 0,di 0,di 0, .d (.v zem), .d (.v zem), .d (.v zem)]:=rfl
set_option maxHeartbeats 4000000 in
theorem zhl (bs:List Int) (h:BsOk bs) (hl:bs.length<2^30):
  CallOK Tryz.prog 15 [.f (asl bs.length (zad bs))] (fun r o=>r=[.agg ((zp4 bs).1.enc.map RO.d),ri (zp4 bs).2]∧o=[]):=by
 refine CallOK.nil ?_
 refine za8 zcp mixed (T:=Ty) Tryz.func15 rfl Tryz.results15 Tryz.ntmps15 Tryz.call15 Tryz.call48 (ks:=[2,3]) rfl rfl rfl rfl rfl rfl (by decide) (by decide)
  (xs:=[asl bs.length (zad bs)]) (sz:=szP) (nw:=nwP) znp zlD ⟨(asl bs.length (zad bs)::dd:: .one (.ptr ⟨2,0,0⟩ 0):: .one (.ptr ⟨3,0,0⟩ 0)::zso []),[(2,{next:=1,l:=[obq 0 (zps),none,none,none,none,none,none,none,none,none,none,none,none,none,none,none,none,none,none,none,none,none,none,none,none,none,none,none,none,none,none,none,none,none,none,none,none]}),(3,{next:=1,l:=[obq 0 [di 0],none]})]⟩ ?_ ?_ rfl ?_
 ·simp only[List.map_cons,List.map_nil]
  repeat'(first|exact zC|refine zq0 ?_|(apply zaa<;>intro hb)|(apply I;exact zI)|(apply I<;>intro hg))
  exact fun _ _ _ h=>h
 ·exact⟨⟨_,rfl,rfl,rfl,rfl,rfl⟩,⟨_,rfl,rfl,rfl,rfl,rfl⟩,trivial⟩
 ·unfold zp4
  rw[zdb]
  cases hlen:decide ((bs.length:Int)>2048)
  ·rw[if_neg (by simp at hlen;omega)]
   cases e1:zuN bs 0 with
   |error e=>
    have hr:=(zir bs 0 h zcr false (pk0 0,0) e e1).2 rfl
    repeat'(first|exact zC|refine zq hlen ?_|(apply zaa<;>intro hb)|(apply I;exact zI)|(apply I<;>intro hg))
    refine zp (rds bs 0) (hr) ?_
    simp only[zaC,zaD,zaB,zaG]
    refine⟨⟨_,rfl⟩,rfl,⟨⟨_,rfl,rfl,rfl,rfl,rfl⟩,⟨_,rfl,rfl,rfl,rfl,rfl⟩,trivial⟩, ?_⟩
    rw[zio,zdb]
    first|refine zs0 ?_|exact zt0
    simp[zbr,zev,zbg,zaw,st0]
   |ok y=>
   have hr:=CallOK.nil ((zir bs 0 h zcr true y 0 e1).1 rfl)
   have hok:=zuL h y e1
   repeat'(first|exact zC|refine zq hlen ?_|(apply zaa<;>intro hb)|(apply I;exact zI)|(apply I<;>intro hg))
   refine zj (hr) ?_
   have hbl:bs.length<2^40:=by omega
   cases hm:zpT y.1
   ·have hp:=zpN y.1 hok hm
    have he:=ziq [] bs (by simp) hbl
    simp only[zvK,hm,Bool.false_eq_true,if_false]
    cases hc:(y.2 !=(bs.length:Int))
    ·cases hd:((strOf ([])).toList==(strOf bs).toList)
     ·repeat'(first|exact zC|refine zq (I hc hd) ?_|refine zx (hp) ?_|refine zx (he) ?_|(apply zaa<;>intro hb)|(apply I;exact zI)|(apply I<;>intro hg))
      simp only[zaC,zaD,zaB,zaG]
      refine⟨⟨_,rfl⟩,rfl,⟨⟨_,rfl,rfl,rfl,rfl,rfl⟩,⟨_,rfl,rfl,rfl,rfl,rfl⟩,trivial⟩, ?_⟩
      rw[zio,zdb]
      first|refine zs0 ?_|exact zt0
      simp[zbr,zev,zbg,zaw,st0]
     ·repeat'(first|exact zC|refine zq (I hc (I hd @zeA)) ?_|refine zx (hp) ?_|refine zx (he) ?_|(apply zaa<;>intro hb)|(apply I;exact zI)|(apply I<;>intro hg))
      simp[zbr,zev,zbg,zaw, -List.length_flatMap,zas,zaP,zaR,zaA,zaz,zaF]
    ·repeat'(first|exact zC|refine zq hc ?_|refine zx (hp) ?_|(apply zaa<;>intro hb)|(apply I;exact zI)|(apply I<;>intro hg))
     simp only[zaC,zaD,zaB,zaG]
     refine⟨⟨_,rfl⟩,rfl,⟨⟨_,rfl,rfl,rfl,rfl,rfl⟩,⟨_,rfl,rfl,rfl,rfl,rfl⟩,trivial⟩, ?_⟩
     rw[zio,zdb]
     first|refine zs0 ?_|exact zt0
     simp[zbr,zev,zbg,zaw,st0]
   ·have hp:=zkY y.1 hok hm
    have hl9:=zkX hm
    have he:=ziq (pkI y.1) bs (by rw[pkI,List.length_append,List.length_singleton];omega) hbl
    simp only[zvK,hm,if_true]
    cases hc:(y.2 !=(bs.length:Int))
    ·cases hd:((strOf (pkI y.1)).toList==(strOf bs).toList)
     ·repeat'(first|exact zC|refine zq (I hc (I hd @zao)) ?_|refine zx (hp) ?_|refine zx (he) ?_|(apply zaa<;>intro hb)|(apply I;exact zI)|(apply I<;>intro hg))
      simp only[zaC,zaD,zaB,zaG]
      refine⟨⟨_,rfl⟩,rfl,⟨⟨_,rfl,rfl,rfl,rfl,rfl⟩,⟨_,rfl,rfl,rfl,rfl,rfl⟩,trivial⟩, ?_⟩
      rw[zio,zdb]
      first|refine zs0 ?_|exact zt0
      simp[zbr,zev,zbg,zaw,st0]
     ·repeat'(first|exact zC|refine zq (I hc (I hd (I @zao @zeA))) ?_|refine zx (hp) ?_|refine zx (he) ?_|(apply zaa<;>intro hb)|(apply I;exact zI)|(apply I<;>intro hg))
      simp[zbr,zev,zbg,zaw, -List.length_flatMap,zas,zaP,zaR,zaA,zaz,zaF]
    ·repeat'(first|exact zC|refine zq (I hc @zao) ?_|refine zx (hp) ?_|(apply zaa<;>intro hb)|(apply I;exact zI)|(apply I<;>intro hg))
     simp only[zaC,zaD,zaB,zaG]
     refine⟨⟨_,rfl⟩,rfl,⟨⟨_,rfl,rfl,rfl,rfl,rfl⟩,⟨_,rfl,rfl,rfl,rfl,rfl⟩,trivial⟩, ?_⟩
     rw[zio,zdb]
     first|refine zs0 ?_|exact zt0
     simp[zbr,zev,zbg,zaw,st0]
  ·rw[if_pos (by simp at hlen;omega)]
   repeat'(first|exact zC|refine zq hlen ?_|(apply zaa<;>intro hb)|(apply I;exact zI)|(apply I<;>intro hg))
   simp only[zaC,zaD,zaB,zaG]
   refine⟨⟨_,rfl⟩,rfl,⟨⟨_,rfl,rfl,rfl,rfl,rfl⟩,⟨_,rfl,rfl,rfl,rfl,rfl⟩,trivial⟩, ?_⟩
   rw[zio,zdb]
   first|refine zs0 ?_|exact zt0
   simp[zbr,zev,zbg,zaw,st0]
abbrev exP:Pkt:={pk0 8 with done:=1}
theorem zmE:exP.ok:=⟨by unfold i64;decide,zcr,zcr,by unfold i64;decide,⟨zcr,zcr,zcr,zcr,(by show(ByteArray.empty).size<2^62;decide)⟩,⟨by simp,by simp⟩,⟨zcr,zcr,zcr,zcr,by simp,by simp⟩,by simp,⟨zcr,zcr,zcr,zcr,zcr,by simp,by simp⟩,by simp,by simp,(show Small st0 from zpU)⟩
theorem zpn:zpT exP=true:=by kernel_rfl
theorem zpo:pkI exP=[8,0,0,0,0,0,0,0,1]:=by kernel_rfl
theorem ztc:zp4 [8,0,0,0,0,0,0,0,1]=(exP,0):=by kernel_rfl
theorem ztd:zp4 []=(pk0 0,4):=by kernel_rfl
theorem zq7:exP.lent=[di 8,di 0,di 0,di 1,di 0,di 0,di 0,di 0,dS .empty,di 0,di 0,di 0,di 0,di 0, .lent 0 [],db false,di 0,di 0,di 0,di 0, .lent 0 [],di 0,di 0,di 0,di 0,di 0, .lent 0 [],di 0,di 0,di 0,di 0,di 0,di 0, .lent 0 [], .lent 0 [], .lent 0 []]:=rfl
theorem zte:exP.enc.map RO.d=[.d (iD 8), .d (iD 0), .d (iD 0), .d (iD 1), .d (iD 0), .d (iD 0), .d (iD 0), .d (iD 0), .d (sD .empty), .d (iD 0), .d (iD 0), .d (iD 0), .d (iD 0), .d (iD 0), .d (.sl 0 []), .d (bD false), .d (iD 0), .d (iD 0), .d (iD 0), .d (iD 0), .d (.sl 0 []), .d (iD 0), .d (iD 0), .d (iD 0), .d (iD 0), .d (iD 0), .d (.sl 0 []), .d (iD 0), .d (iD 0), .d (iD 0), .d (iD 0), .d (iD 0), .d (iD 0), .d (.sl 0 []), .d (.sl 0 []), .d (.sl 0 [])]:=rfl
theorem zq8:zyw exP exP=true:=by kernel_rfl
theorem zno:CallOK Tryz.prog 10 [] (fun r o=>r=[rb true]∧o=[]):=by
 refine zh Tryz.func10 Tryz.results10 Tryz.ntmps10 Tryz.call10 ?_
 simp only[Tryz.f10,Option.getD]
 have h1:=zkY exP zmE zpn
 rw[zpo]at h1
 have h2:=zhl [8,0,0,0,0,0,0,0,1] ⟨by decide,by simp[zcA]⟩ (by decide)
 rw[ztc]at h2
 have h3:=zhl [] ⟨by decide,by simp⟩ (by decide)
 rw[ztd]at h3
 have h4:=ztu exP exP zmE zmE
 rw[zq8]at h4
 have h5:=zhD exP zmE
 rw[zpn]at h5
 rw[zq7]at h1 h4 h5
 rw[show(exP,(0:Int)).1.enc.map RO.d=_ from zte]at h2
 have hb:bytesOf (zad [8,0,0,0,0,0,0,0,1])=some [8,0,0,0,0,0,0,0,1]:=rfl
 repeat'(first|exact zC|(with_reducible first|refine zlg 3 ?_|refine ziO 3 ?_|refine ziP 3 ?_)|refine zu0 ?_|(with_reducible first|refine zat _ _ ?_)|refine zx (h1) ?_|(apply zaa<;>intro hb)|(apply I;exact zI)|(apply I<;>intro hg))
 refine zli (zgP (Gh.sealV 2 (x:= .own ⟨2,1,0⟩ 0 9) (d:= .sl 9 (zad [8,0,0,0,0,0,0,0,1])) rfl (by simp only[zY,Nat.reduceSub,Nat.reduceEqDiff,Nat.reduceAdd,Nat.reduceMul,Nat.reduceLeDiff,Nat.reduceLT,Nat.reduceBEq,reduceCtorEq];rfl)) ?_)
 repeat'(first|exact zC|refine zq hb ?_|refine zx (h2) ?_|refine zx (h3) ?_|refine zx (h4) ?_|refine zx (h5) ?_|(apply zaa<;>intro hb)|(apply I;exact zI)|(apply I<;>intro hg))
 rw[zdf,zdf]
 rfl
abbrev zhj (n i:Nat) (f:Int):List D:=(List.replicate i (uD f))++List.replicate (n - i) (uD 0)
theorem zq9 {n i:Nat} (hi:i<n) (f:Int):(zhj n i f).set i (uD f)=zhj n (i+1) f:=by
 obtain⟨k,rfl⟩:∃k,n=i+1+k:=⟨n - (i+1),by omega⟩
 unfold zhj
 rw[List.set_append_right _ _ (by simp),List.length_replicate,Nat.sub_self,show i+1+k - i=k+1 by omega,show i+1+k - (i+1)=k by omega,List.replicate_succ,List.set_cons_zero,List.replicate_succ',List.append_assoc]
 rfl
theorem zpp (m:Nat) (f:Int):zdJ [.int .u8 0] m=zhj m 0 f:=by
 unfold zhj zdJ
 simp
theorem zra (m:Nat) (f:Int):zhj m m f=zad (List.replicate m f):=by
 unfold zhj
 simp
theorem zpq (bs:List Int):((zp4 bs).2==3)=decide ((bs.length:Int)>2048)∧((zp4 bs).2=0∨(zp4 bs).2=3∨(zp4 bs).2=4):=by
 unfold zp4
 split
 ·rename_i h
  exact⟨by simp;omega, .inr (.inl rfl)⟩
 ·rename_i h
  have e:decide ((bs.length:Int)>2048)=false:=by simp;omega
  rw[e]
  split
  ·exact⟨rfl, .inr (.inr rfl)⟩
  ·split
   ·exact⟨rfl, .inr (.inr rfl)⟩
   ·exact⟨rfl, .inl rfl⟩
set_option maxHeartbeats 1000000 in
theorem zjr (n f:Int) (hn:0≤n∧n<65536) (hf:zcA f):CallOK Tryz.prog 8 [.f (.one (.d (.v (.int .u16 n)))), .f (au f)] (fun r o=>r=[rb true]∧o=[]):=by
 refine zh Tryz.func8 Tryz.results8 Tryz.ntmps8 Tryz.call8 ?_
 simp only[Tryz.f8,Option.getD]
 obtain⟨m,hm⟩:∃m:Nat,(m:Int)=n.tmod 2200:=⟨(n.tmod 2200).toNat,by rw[Int.toNat_of_nonneg (Int.tmod_nonneg _ hn.1)]⟩
 have hml:m<2200:=by have:=Int.tmod_lt_of_pos n (show(0:Int)<2200 by decide);omega
 have w1:IntKind.i64.wrap n=n:=wrap64 (by omega) (by omega)
 repeat'(first|exact zC|refine zq (I w1 (Eq.symm hm)) ?_|(apply zaa<;>intro hb)|(apply I;exact zI)|(apply I<;>intro hg))
 have hsm:BsOk (List.replicate m f):=⟨by rw[List.length_replicate];omega,fun x hx=>by rw[List.eq_of_mem_replicate hx];exact hf⟩
 have hg:=zhl (List.replicate m f) hsm (by rw[List.length_replicate];omega)
 rw[List.length_replicate]at hg
 obtain⟨gc,g0⟩:=zpq (List.replicate m f)
 rw[List.length_replicate]at gc
 refine zai (τ:=Nat) (fun i=>⟨(dd::au f::dq3 (.one (.own ⟨5,1,1⟩ 0 m)::ai i::dq2 (zgv []))),[(12,⟨2,[]⟩),(5,⟨2,[none,roq 1 1 (zhj m i f)]⟩)]⟩)
  (fun i=>i≤m) (fun _=>()) (fun i=>m - i) 0
  (Gh.canon [5] [] [] zK rfl (by rw[zpp m f];rfl)) (Nat.zero_le _) ?_
 intro i hi0 hF K hK
 refine zw ?_
 refine zaa (fun hlt=> ?_) (fun hge=> ?_)
 ·have hi:i<m:=by simpa using hlt
  have hw:=zan hi (by omega)
  have hlb:(0:Int)≤i∧(i:Int)<m:=⟨by omega,by omega⟩
  have hfl:(zhj m i f).length=m:=by simp;omega
  have hset:((zhj m i f).map C.d).set i (C.d (uD f))=(zhj m (i+1) f).map C.d:=by rw[←zq9 hi f,List.map_set]
  repeat'(first|(with_reducible first|refine zat _ _ ?_|refine zcN ?_|refine zcO ?_)|rw[zcm]|simp only[hlb.1,hlb.2,hfl,zY,Int.reduceEq,Int.reduceBEq,Int.reduceBNe,Nat.reduceSub,Nat.reduceEqDiff,Nat.reduceAdd,Nat.reduceMul,Nat.reduceLeDiff,Nat.reduceLT,Nat.reduceBEq,reduceCtorEq]|refine zbN ?_|refine zaa (fun hb=> ?_) (fun hb=> ?_)|(refine And.intro ?_ ?_;exact zI)|refine And.intro (fun hg=> ?_) (fun hg=> ?_)|exact zC|fail)
  exact hK _ (i+1) (Gh.canon [5] [] [] (zk hw) rfl (by rw[hset];rfl)) hi rfl (by omega)
 ·have hi:i=m:=by
   have:¬(i:Int)<m:=by simpa using hge
   omega
  subst hi
  have htk:(zad (List.replicate i f)).take i=zad (List.replicate i f):=List.take_of_length_le (by simp)
  simp only[zra]
  repeat'(first|exact zC|(with_reducible first|refine zlg 6 ?_|refine ziO 6 ?_|refine ziP 6 ?_)|refine zu0 ?_|(with_reducible first|refine zat _ _ ?_)|(apply zaa<;>intro hb)|(apply I;exact zI)|(apply I<;>intro hg))
  refine zli (zgP (Gh.sealV 5 (x:= .own ⟨5,1,1⟩ 0 i) (d:= .sl i (zad (List.replicate i f))) rfl (by simp only[zY,htk,Nat.reduceSub,Nat.reduceEqDiff,Nat.reduceAdd,Nat.reduceMul,Nat.reduceLeDiff,Nat.reduceLT,Nat.reduceBEq,reduceCtorEq];rfl)) ?_)
  have haw:=zno
  rcases g0 with g0|g0|g0
  ·rw[g0]at hg gc
   have gc:decide ((i:Int)>2048)=false:=by rw[←gc];rfl
   repeat'(first|exact zC|refine zq gc ?_|refine zx (hg) ?_|refine zx (haw) ?_|(apply zaa<;>intro hb)|(apply I;exact zI)|(apply I<;>intro hg))
  ·rw[g0]at hg gc
   have gc:decide ((i:Int)>2048)=true:=by rw[←gc];rfl
   repeat'(first|exact zC|refine zq gc ?_|refine zx (hg) ?_|refine zx (haw) ?_|(apply zaa<;>intro hb)|(apply I;exact zI)|(apply I<;>intro hg))
  ·rw[g0]at hg gc
   have gc:decide ((i:Int)>2048)=false:=by rw[←gc];rfl
   repeat'(first|exact zC|refine zq gc ?_|refine zx (hg) ?_|refine zx (haw) ?_|(apply zaa<;>intro hb)|(apply I;exact zI)|(apply I<;>intro hg))
theorem zvi {n:Int} (h:(Lit.int .u8 n).wf=true):zcA n:=by
 have h2:(decide (IntKind.u8.min≤n)&&decide (n≤IntKind.u8.max))=true:=h
 have e1:IntKind.u8.min=0:=by decide
 have e2:IntKind.u8.max=255:=by decide
 rw[e1,e2]at h2
 simp only[Bool.and_eq_true,decide_eq_true_eq]at h2
 unfold zcA
 omega
theorem byte_of (ds:List D) (h:ShD (.int .u8) ds):∃x:Int,ds=[uD x]∧zcA x:=by
 simp only[ShD]at h
 obtain⟨n,rfl,hn⟩:=h
 exact⟨n,rfl,zvi hn⟩
abbrev zyC:Sh:= .struct [.int .u8, .int .u8, .int .u8, .int .u8, .int .u8, .int .u8]
def zsk (n:Int):Prop:=0≤n∧n<65536
abbrev wD (n:Int):D:= .v (.int .u16 n)
abbrev aw (n:Int):AV:= .one (.d (wD n))
theorem ztF {n:Int} (h:(Lit.int .u16 n).wf=true):zsk n:=by
 have h2:(decide (IntKind.u16.min≤n)&&decide (n≤IntKind.u16.max))=true:=h
 have e1:IntKind.u16.min=0:=by decide
 have e2:IntKind.u16.max=65535:=by decide
 rw[e1,e2]at h2
 simp only[Bool.and_eq_true,decide_eq_true_eq]at h2
 unfold zsk
 omega
theorem zsl (ds:List D) (h:ShD (.int .u16) ds):∃x:Int,ds=[wD x]∧zsk x:=by
 simp only[ShD]at h
 obtain⟨n,rfl,hn⟩:=h
 exact⟨n,rfl,ztF hn⟩
end Go.Proofs.YtliimajkpggbhaaGreat
