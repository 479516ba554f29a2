import Derived.Test.YtliimajkpggbhaaGreatWJ
namespace Go.Proofs.YtliimajkpggbhaaGreat
open Go.Pk
set_option maxRecDepth 100000
set_option linter.unusedSimpArgs false
set_option linter.unusedVariables false
abbrev zyH:Prom:=⟨0,0,⟨0,0⟩,0,[]⟩
abbrev pk0 (k:Int):Pkt:=⟨k,0,0,0,zzR,zsH,zzQ,zyH,sn0⟩
def zro (bs:List Int) (k p:Int):Rr Pkt:=
 if k=1 then zaL (zlX bs p) fun x=> .ok ({pk0 k with req:=x.1},x.2)
 else if k=2 then zaL (zhz bs p) fun x=> .ok ({pk0 k with ans:=x.1},x.2)
 else if k=3 then zaL (zbn bs p) fun x=> .ok ({pk0 k with ballot:=x.1},x.2)
 else if k=4 then zaL (zbn bs p) fun x=>zaL (zlU bs x.2) fun y=> .ok ({pk0 k with ballot:=x.1,prom:=y.1},y.2)
 else if k=5 then zaL (zbn bs p) fun x=>zaL (zbn bs x.2) fun y=>zaL (zjZ bs y.2) fun z=> .ok ({pk0 k with ballot:=x.1,slot:=y.1,bat:=z.1},z.2)
 else if k=6 then zaL (zbn bs p) fun x=>zaL (zbn bs x.2) fun y=>zaL (zjZ bs y.2) fun z=> .ok ({pk0 k with ballot:=x.1,slot:=y.1,bat:=z.1},z.2)
 else if k=7 then zaL (zbn bs p) fun x=>zaL (zbn bs x.2) fun y=> .ok ({pk0 k with ballot:=x.1,done:=y.1},y.2)
 else if k=8 then zaL (zbn bs p) fun x=> .ok ({pk0 k with done:=x.1},x.2)
 else if k=9 then zaL (zkX bs p) fun x=> .ok ({pk0 k with snap:=x.1},x.2)
 else .error 4
def zyI (bs:List Int) (p:Int):Rr Pkt:=zaL (zbv bs p) fun k=>zro bs k.1 k.2
def NZ {α:Type} (r:Rr α):Prop:=∀e,r= .error e→(e !=0)=true
theorem zuq {α:Type} {x:α×Int×Int}:NZ (rOf x):=fun e h=>by simpa using(zbX h).2
theorem zyJ {α:Type} {x:α×Int}:NZ (.ok x:Rr α):=fun e h=>by cases h
theorem zyK {α:Type} {c:Prop} [Decidable c] {x:α×Int}:NZ (if c then(.ok x:Rr α)else .error 4):=fun e h=>by
 split at h
 ·cases h
 ·cases h;rfl
theorem zbO {α β:Type} {r:Rr α} {k:α×Int→Rr β} (h1:NZ r) (h2:∀x,NZ (k x)):NZ (zaL r k):=fun e h=>by
 cases r with
 |error z=>cases h;exact h1 _ rfl
 |ok x=>exact h2 x e h
theorem zkW {α:Type} {f:Int→Rr α} (hf:∀p,NZ (f p)) {n:Nat} {p:Int} {acc:List α}:NZ (za2 f n p acc):=fun e h=>zhn (fun p e h=>hf p e h) h
theorem zif {bs:List Int} {p m:Int}:NZ (zbH bs p m):=fun e h=>by
 rcases zfI h with hz|⟨_,_,_,rfl⟩
 ·simpa using(zbX hz).2
 ·rfl
theorem zwZ {bs:List Int} {p:Int}:NZ (zkX bs p):=by
 have hn:∀p,NZ (zbn bs p):=fun p=>zuq
 have hb:∀p,NZ (zbv bs p):=fun p=>zuq
 have hs:∀p,NZ (zjR bs p):=fun p=>by
  rw[show zjR bs p=zaL (zbv bs p) fun c=>zaL (zbn bs c.2) fun n=>zaL (zbn bs n.2) fun r=> .ok (⟨c.1,n.1,r.1⟩,r.2) from by kernel_rfl]
  exact zbO (hb _) fun _=>zbO (hn _) fun _=>zbO (hn _) fun _=>zyJ
 have hl:∀p,NZ (zgl bs p):=fun p=>by
  rw[show zgl bs p=zaL (zgH bs p) fun nm=>zaL (zbv bs nm.2) fun hd=>zaL (zbn bs hd.2) fun tk=>zaL (zbH bs tk.2 3) fun n=>zaL (zgG bs n.1.toNat n.2 []) fun x=> .ok (⟨nm.1,hd.1,tk.1,x.1⟩,x.2) from by kernel_rfl]
  refine zbO zuq fun _=>zbO (hb _) fun _=>zbO (hn _) fun _=>zbO zif fun _=>zbO ?_ fun _=>zyJ
  rw[zj4]
  exact zkW hb
 have hst:∀p,NZ (zfa bs p):=fun p=>by
  rw[show zfa bs p=zaL (zbn bs p) fun t=>zaL (zbn bs t.2) fun u=>zaL (zbn bs u.2) fun k=>zaL (zbH bs k.2 5) fun n=>zaL (za2 (zjR bs) n.1.toNat n.2 []) fun ss=>zaL (zbH bs ss.2 4) fun n2=>zaL (za2 (zgl bs) n2.1.toNat n2.2 []) fun ls=>zaL (zbH bs ls.2 8) fun n3=>zaL (za2 (zhz bs) n3.1.toNat n3.2 []) fun ms=>
   if zdc ⟨t.1,u.1,k.1,ss.1,ls.1,ms.1⟩=true then .ok (⟨t.1,u.1,k.1,ss.1,ls.1,ms.1⟩,ms.2)else .error 4 from by kernel_rfl]
  exact zbO (hn _) fun _=>zbO (hn _) fun _=>zbO (hn _) fun _=>zbO zif fun _=>zbO (zkW hs) fun _=>zbO zif fun _=>zbO (zkW hl) fun _=>zbO zif fun _=>zbO (zkW fun _=>zuq) fun _=>zyK
 rw[show zkX bs p=zaL (zbn bs p) fun d=>zaL (zbn bs d.2) fun v=>zaL (zbn bs v.2) fun l=>zaL (zfa bs l.2) fun s=>if zbq ⟨d.1,v.1,l.1,s.1⟩=true then .ok (⟨d.1,v.1,l.1,s.1⟩,s.2)else .error 4 from by kernel_rfl]
 exact zbO (hn _) fun _=>zbO (hn _) fun _=>zbO (hn _) fun _=>zbO (hst _) fun _=>zyK
set_option maxHeartbeats 8000000 in
theorem zj3 (bs:List Int) (p:Int) (h:BsOk bs) (hp:i64 p) (b:Bool) (y:Pkt×Int) (e:Int) (hy:zl3 b y e (zyI bs p)):
  (b=true→CallOK Tryz.prog 49 [.obj (rds bs p)] (fun r o=>zaG r [.agg (y.1.enc.map RO.d)]∧o=[rds bs y.2]))∧(b=false→zbL Tryz.prog 49 [.obj (rds bs p)] zyB):=by
 refine zhb Tryz.func49 Tryz.results49 Tryz.ntmps49 Tryz.call49 ?_
 simp only[Tryz.f49,Option.getD]
 unfold zyI at hy
 cases e1:zbv bs p with
 |error x=>
  rw[e1]at hy
  obtain⟨rfl,rfl⟩:=zax hy
  have hr:=zjD bs _ h hp e1
  repeat'(first|exact zC|refine zq0 ?_|(apply zaa<;>intro hb)|(apply I;exact zI)|(apply I<;>intro hg))
  refine zp (rds bs p) (hr) ?_
  first|refine zs (I @zal @zab) ?_|exact zt (I @zal @zab)
 |ok k=>
 have he1:=zlR bs _ h hp e1
 have p1:=zba h e1
 rw[e1]at hy
 obtain⟨kv,kq⟩:=k
 have hy:zl3 b y e (zro bs kv kq):=hy
 simp only at he1 p1
 repeat'(first|exact zC|refine zq0 ?_|(apply zaa<;>intro hb)|(apply I;exact zI)|(apply I<;>intro hg))
 refine zj (he1) ?_
 rcases kinds kv with rfl|rfl|rfl|rfl|rfl|rfl|rfl|rfl|rfl|⟨k1,k2,k3,k4,k5,k6,k7,k8,k9⟩
 ·have hy:zl3 b y e (zaL (zlX bs kq) fun x=> .ok ({pk0 1 with req:=x.1},x.2)):=hy
  have h1:=znv bs kq h p1
  cases x1:zlX bs kq with
  |error er=>
   rw[x1]at hy
   obtain⟨rfl,rfl⟩:=zax hy
   rw[x1]at h1;simp only[dOf]at h1;have hq:=zlV x1
   repeat'(first|exact zC|refine zq0 ?_|refine zx (h1) ?_|(apply zaa<;>intro hb)|(apply I;exact zI)|(apply I<;>intro hg))
   refine zdq (zeJ _ hq) rfl ?_
   first|refine zs (I @zal @zab) ?_|exact zt (I @zal @zab)
  |ok x=>
  rw[x1]at hy
  obtain⟨rfl,rfl⟩:=zdC hy
  rw[x1]at h1;simp only[dOf]at h1
  repeat'(first|exact zC|refine zq @zdB ?_|refine zx (h1) ?_|refine zx (zcO) ?_|(apply zaa<;>intro hb)|(apply I;exact zI)|(apply I<;>intro hg))
  simp[zaG,zcn,zaK,zaw,st0, -List.length_flatMap,zaq,zaJ,zaI,zat,zah,zaz]
 ·have hy:zl3 b y e (zaL (zhz bs kq) fun x=> .ok ({pk0 2 with ans:=x.1},x.2)):=hy
  have h1:=zfB bs kq h p1
  cases x1:zhz bs kq with
  |error er=>
   rw[x1]at hy
   obtain⟨rfl,rfl⟩:=zax hy
   have h9:=zbX x1;rw[h9.1]at h1;have hq:=h9.2;rw[←bne_iff_ne]at hq
   repeat'(first|exact zC|refine zq0 ?_|refine zx (h1) ?_|(apply zaa<;>intro hb)|(apply I;exact zI)|(apply I<;>intro hg))
   refine zdq (zeJ _ hq) rfl ?_
   first|refine zs (I @zal @zab) ?_|exact zt (I @zal @zab)
  |ok x=>
  rw[x1]at hy
  obtain⟨rfl,rfl⟩:=zdC hy
  obtain⟨h0,rfl⟩:=zdu x1;rw[h0]at h1
  repeat'(first|exact zC|refine zq @zdB ?_|refine zx (h1) ?_|refine zx (zcO) ?_|(apply zaa<;>intro hb)|(apply I;exact zI)|(apply I<;>intro hg))
  simp[zaG,zcn,zaK,zaw,st0, -List.length_flatMap,zaq,zaJ,zaI,zat,zah,zaz]
 ·have hy:zl3 b y e (zaL (zbn bs kq) fun x=> .ok ({pk0 3 with ballot:=x.1},x.2)):=hy
  cases xx:zbn bs kq with
  |error er=>
   rw[xx]at hy
   obtain⟨rfl,rfl⟩:=zax hy
   have hr:=zbF bs _ h p1 xx
   repeat'(first|exact zC|refine zq0 ?_|(apply zaa<;>intro hb)|(apply I;exact zI)|(apply I<;>intro hg))
   refine zp (rds bs p) (hr) ?_
   first|refine zs (I @zal @zab) ?_|exact zt (I @zal @zab)
  |ok x=>
  rw[xx]at hy
  simp only[zaL]at hy
  have hrx:=zcg bs _ h p1 xx
  have px:=zas h xx
  repeat'(first|exact zC|refine zq0 ?_|(apply zaa<;>intro hb)|(apply I;exact zI)|(apply I<;>intro hg))
  refine zj (hrx) ?_
  obtain⟨rfl,rfl⟩:=zdC hy
  repeat'(first|exact zC|refine zq @zdB ?_|refine zx (zcO) ?_|(apply zaa<;>intro hb)|(apply I;exact zI)|(apply I<;>intro hg))
  simp[zaG,zcn,zaK,zaw,st0, -List.length_flatMap,zaq,zaJ,zaI,zat,zah,zaz]
 ·have hy:zl3 b y e (zaL (zbn bs kq) fun x=>zaL (zlU bs x.2) fun y=> .ok ({pk0 4 with ballot:=x.1,prom:=y.1},y.2)):=hy
  cases xx:zbn bs kq with
  |error er=>
   rw[xx]at hy
   obtain⟨rfl,rfl⟩:=zax hy
   have hr:=zbF bs _ h p1 xx
   repeat'(first|exact zC|refine zq0 ?_|(apply zaa<;>intro hb)|(apply I;exact zI)|(apply I<;>intro hg))
   refine zp (rds bs p) (hr) ?_
   first|refine zs (I @zal @zab) ?_|exact zt (I @zal @zab)
  |ok x=>
  rw[xx]at hy
  have hrx:=zcg bs _ h p1 xx
  have px:=zas h xx
  repeat'(first|exact zC|refine zq0 ?_|(apply zaa<;>intro hb)|(apply I;exact zI)|(apply I<;>intro hg))
  refine zj (hrx) ?_
  cases xy:zlU bs x.2 with
  |error er=>
   have hy:zl3 b y e (zaL (zlU bs x.2) fun y=> .ok ({pk0 4 with ballot:=x.1,prom:=y.1},y.2)):=hy
   rw[xy]at hy
   obtain⟨rfl,rfl⟩:=zax hy
   have hr:=(zjF bs _ h px false (zyH,0) _ xy).2 rfl
   repeat'(first|exact zC|refine zq0 ?_|(apply zaa<;>intro hb)|(apply I;exact zI)|(apply I<;>intro hg))
   refine zp (rds bs p) (hr) ?_
   first|refine zs (I @zal @zab) ?_|exact zt (I @zal @zab)
  |ok z=>
  have hy:zl3 b y e (zaL (zlU bs x.2) fun y=> .ok ({pk0 4 with ballot:=x.1,prom:=y.1},y.2)):=hy
  rw[xy]at hy
  have hry:=CallOK.nil ((zjF bs _ h px true z 0 xy).1 rfl)
  repeat'(first|exact zC|refine zq0 ?_|(apply zaa<;>intro hb)|(apply I;exact zI)|(apply I<;>intro hg))
  refine zj (hry) ?_
  obtain⟨rfl,rfl⟩:=zdC hy
  repeat'(first|exact zC|refine zq @zdB ?_|refine zx (zcO) ?_|(apply zaa<;>intro hb)|(apply I;exact zI)|(apply I<;>intro hg))
  simp[zaG,zcn,zaK,zaw,st0, -List.length_flatMap,zaq,zaJ,zaI,zat,zah,zaz]
 ·have hy:zl3 b y e (zaL (zbn bs kq) fun x=>zaL (zbn bs x.2) fun w=>zaL (zjZ bs w.2) fun z=> .ok ({pk0 5 with ballot:=x.1,slot:=w.1,bat:=z.1},z.2)):=hy
  cases xx:zbn bs kq with
  |error er=>
   rw[xx]at hy
   obtain⟨rfl,rfl⟩:=zax hy
   have hr:=zbF bs _ h p1 xx
   repeat'(first|exact zC|refine zq0 ?_|(apply zaa<;>intro hb)|(apply I;exact zI)|(apply I<;>intro hg))
   refine zp (rds bs p) (hr) ?_
   first|refine zs (I @zal @zab) ?_|exact zt (I @zal @zab)
  |ok x=>
  rw[xx]at hy
  simp only[zaL]at hy
  have hrx:=zcg bs _ h p1 xx
  have px:=zas h xx
  repeat'(first|exact zC|refine zq0 ?_|(apply zaa<;>intro hb)|(apply I;exact zI)|(apply I<;>intro hg))
  refine zj (hrx) ?_
  cases xw:zbn bs x.2 with
  |error er=>
   rw[xw]at hy
   obtain⟨rfl,rfl⟩:=zax hy
   have hr:=zbF bs _ h px xw
   repeat'(first|exact zC|refine zq0 ?_|(apply zaa<;>intro hb)|(apply I;exact zI)|(apply I<;>intro hg))
   refine zp (rds bs p) (hr) ?_
   first|refine zs (I @zal @zab) ?_|exact zt (I @zal @zab)
  |ok w=>
  rw[xw]at hy
  simp only[zaL]at hy
  have hrw:=zcg bs _ h px xw
  have pw:=zas h xw
  repeat'(first|exact zC|refine zq0 ?_|(apply zaa<;>intro hb)|(apply I;exact zI)|(apply I<;>intro hg))
  refine zj (hrw) ?_
  cases xz:zjZ bs w.2 with
  |error er=>
   rw[xz]at hy
   obtain⟨rfl,rfl⟩:=zax hy
   have hr:=zjE bs _ h pw xz
   repeat'(first|exact zC|refine zq0 ?_|(apply zaa<;>intro hb)|(apply I;exact zI)|(apply I<;>intro hg))
   refine zp (rds bs p) (hr) ?_
   first|refine zs (I @zal @zab) ?_|exact zt (I @zal @zab)
  |ok z=>
  rw[xz]at hy
  simp only[zaL]at hy
  have hrz:=zlS bs _ h pw xz
  have pz:=zho h xz
  repeat'(first|exact zC|refine zq0 ?_|(apply zaa<;>intro hb)|(apply I;exact zI)|(apply I<;>intro hg))
  refine zj (hrz) ?_
  obtain⟨rfl,rfl⟩:=zdC hy
  repeat'(first|exact zC|refine zq @zdB ?_|refine zx (zcO) ?_|(apply zaa<;>intro hb)|(apply I;exact zI)|(apply I<;>intro hg))
  simp[zaG,zcn,zaK,zaw,st0, -List.length_flatMap,zaq,zaJ,zaI,zat,zah,zaz]
 ·have hy:zl3 b y e (zaL (zbn bs kq) fun x=>zaL (zbn bs x.2) fun w=>zaL (zjZ bs w.2) fun z=> .ok ({pk0 6 with ballot:=x.1,slot:=w.1,bat:=z.1},z.2)):=hy
  cases xx:zbn bs kq with
  |error er=>
   rw[xx]at hy
   obtain⟨rfl,rfl⟩:=zax hy
   have hr:=zbF bs _ h p1 xx
   repeat'(first|exact zC|refine zq0 ?_|(apply zaa<;>intro hb)|(apply I;exact zI)|(apply I<;>intro hg))
   refine zp (rds bs p) (hr) ?_
   first|refine zs (I @zal @zab) ?_|exact zt (I @zal @zab)
  |ok x=>
  rw[xx]at hy
  simp only[zaL]at hy
  have hrx:=zcg bs _ h p1 xx
  have px:=zas h xx
  repeat'(first|exact zC|refine zq0 ?_|(apply zaa<;>intro hb)|(apply I;exact zI)|(apply I<;>intro hg))
  refine zj (hrx) ?_
  cases xw:zbn bs x.2 with
  |error er=>
   rw[xw]at hy
   obtain⟨rfl,rfl⟩:=zax hy
   have hr:=zbF bs _ h px xw
   repeat'(first|exact zC|refine zq0 ?_|(apply zaa<;>intro hb)|(apply I;exact zI)|(apply I<;>intro hg))
   refine zp (rds bs p) (hr) ?_
   first|refine zs (I @zal @zab) ?_|exact zt (I @zal @zab)
  |ok w=>
  rw[xw]at hy
  simp only[zaL]at hy
  have hrw:=zcg bs _ h px xw
  have pw:=zas h xw
  repeat'(first|exact zC|refine zq0 ?_|(apply zaa<;>intro hb)|(apply I;exact zI)|(apply I<;>intro hg))
  refine zj (hrw) ?_
  cases xz:zjZ bs w.2 with
  |error er=>
   rw[xz]at hy
   obtain⟨rfl,rfl⟩:=zax hy
   have hr:=zjE bs _ h pw xz
   repeat'(first|exact zC|refine zq0 ?_|(apply zaa<;>intro hb)|(apply I;exact zI)|(apply I<;>intro hg))
   refine zp (rds bs p) (hr) ?_
   first|refine zs (I @zal @zab) ?_|exact zt (I @zal @zab)
  |ok z=>
  rw[xz]at hy
  simp only[zaL]at hy
  have hrz:=zlS bs _ h pw xz
  have pz:=zho h xz
  repeat'(first|exact zC|refine zq0 ?_|(apply zaa<;>intro hb)|(apply I;exact zI)|(apply I<;>intro hg))
  refine zj (hrz) ?_
  obtain⟨rfl,rfl⟩:=zdC hy
  repeat'(first|exact zC|refine zq @zdB ?_|refine zx (zcO) ?_|(apply zaa<;>intro hb)|(apply I;exact zI)|(apply I<;>intro hg))
  simp[zaG,zcn,zaK,zaw,st0, -List.length_flatMap,zaq,zaJ,zaI,zat,zah,zaz]
 ·have hy:zl3 b y e (zaL (zbn bs kq) fun x=>zaL (zbn bs x.2) fun w=> .ok ({pk0 7 with ballot:=x.1,done:=w.1},w.2)):=hy
  cases xx:zbn bs kq with
  |error er=>
   rw[xx]at hy
   obtain⟨rfl,rfl⟩:=zax hy
   have hr:=zbF bs _ h p1 xx
   repeat'(first|exact zC|refine zq0 ?_|(apply zaa<;>intro hb)|(apply I;exact zI)|(apply I<;>intro hg))
   refine zp (rds bs p) (hr) ?_
   first|refine zs (I @zal @zab) ?_|exact zt (I @zal @zab)
  |ok x=>
  rw[xx]at hy
  simp only[zaL]at hy
  have hrx:=zcg bs _ h p1 xx
  have px:=zas h xx
  repeat'(first|exact zC|refine zq0 ?_|(apply zaa<;>intro hb)|(apply I;exact zI)|(apply I<;>intro hg))
  refine zj (hrx) ?_
  cases xw:zbn bs x.2 with
  |error er=>
   rw[xw]at hy
   obtain⟨rfl,rfl⟩:=zax hy
   have hr:=zbF bs _ h px xw
   repeat'(first|exact zC|refine zq0 ?_|(apply zaa<;>intro hb)|(apply I;exact zI)|(apply I<;>intro hg))
   refine zp (rds bs p) (hr) ?_
   first|refine zs (I @zal @zab) ?_|exact zt (I @zal @zab)
  |ok w=>
  rw[xw]at hy
  simp only[zaL]at hy
  have hrw:=zcg bs _ h px xw
  have pw:=zas h xw
  repeat'(first|exact zC|refine zq0 ?_|(apply zaa<;>intro hb)|(apply I;exact zI)|(apply I<;>intro hg))
  refine zj (hrw) ?_
  obtain⟨rfl,rfl⟩:=zdC hy
  repeat'(first|exact zC|refine zq @zdB ?_|refine zx (zcO) ?_|(apply zaa<;>intro hb)|(apply I;exact zI)|(apply I<;>intro hg))
  simp[zaG,zcn,zaK,zaw,st0, -List.length_flatMap,zaq,zaJ,zaI,zat,zah,zaz]
 ·have hy:zl3 b y e (zaL (zbn bs kq) fun x=> .ok ({pk0 8 with done:=x.1},x.2)):=hy
  cases xx:zbn bs kq with
  |error er=>
   rw[xx]at hy
   obtain⟨rfl,rfl⟩:=zax hy
   have hr:=zbF bs _ h p1 xx
   repeat'(first|exact zC|refine zq0 ?_|(apply zaa<;>intro hb)|(apply I;exact zI)|(apply I<;>intro hg))
   refine zp (rds bs p) (hr) ?_
   first|refine zs (I @zal @zab) ?_|exact zt (I @zal @zab)
  |ok x=>
  rw[xx]at hy
  simp only[zaL]at hy
  have hrx:=zcg bs _ h p1 xx
  have px:=zas h xx
  repeat'(first|exact zC|refine zq0 ?_|(apply zaa<;>intro hb)|(apply I;exact zI)|(apply I<;>intro hg))
  refine zj (hrx) ?_
  obtain⟨rfl,rfl⟩:=zdC hy
  repeat'(first|exact zC|refine zq @zdB ?_|refine zx (zcO) ?_|(apply zaa<;>intro hb)|(apply I;exact zI)|(apply I<;>intro hg))
  simp[zaG,zcn,zaK,zaw,st0, -List.length_flatMap,zaq,zaJ,zaI,zat,zah,zaz]
 ·have hy:zl3 b y e (zaL (zkX bs kq) fun x=> .ok ({pk0 9 with snap:=x.1},x.2)):=hy
  have h1:=zjQ bs kq h p1
  cases x1:zkX bs kq with
  |error er=>
   rw[x1]at hy
   obtain⟨rfl,rfl⟩:=zax hy
   have hq:=zwZ _ x1;unfold dSn at h1;rw[x1]at h1;simp only at h1
   repeat'(first|exact zC|refine zq0 ?_|refine zx (h1) ?_|(apply zaa<;>intro hb)|(apply I;exact zI)|(apply I<;>intro hg))
   refine zdq (zeJ _ hq) rfl ?_
   first|refine zs (I @zal @zab) ?_|exact zt (I @zal @zab)
  |ok x=>
  rw[x1]at hy
  obtain⟨rfl,rfl⟩:=zdC hy
  unfold dSn at h1;rw[x1]at h1;simp only at h1
  repeat'(first|exact zC|refine zq @zdB ?_|refine zx (h1) ?_|refine zx (zcO) ?_|(apply zaa<;>intro hb)|(apply I;exact zI)|(apply I<;>intro hg))
  simp[zaG,zcn,zaK,zaw,st0, -List.length_flatMap,zaq,zaJ,zaI,zat,zah,zaz]
 ·have hz:zro bs kv kq= .error 4:=by
   simp only[beq_eq_false_iff_ne,ne_eq]at k1 k2 k3 k4 k5 k6 k7 k8 k9
   unfold zro
   simp only[k1,k2,k3,k4,k5,k6,k7,k8,k9,if_false]
  rw[hz]at hy
  obtain⟨rfl,rfl⟩:=zax hy
  repeat'(first|exact zC|refine zq (I k1 (I k2 (I k3 (I k4 (I k5 (I k6 (I k7 (I k8 (I k9 (I @zal @zab)))))))))) ?_|(apply zaa<;>intro hb)|(apply I;exact zI)|(apply I<;>intro hg))
theorem zj2 (a b:List Int) (ha:a.length<2^40) (hb:b.length<2^40):CallOK Tryz.prog 50 [.f (al a.length (zad a)), .f (al b.length (zad b))] (fun r o=>r=[rb ((strOf a).toList==(strOf b).toList)]∧o=[]):=by
 refine zh Tryz.func50 Tryz.results50 Tryz.ntmps50 Tryz.call50 ?_
 simp only[Tryz.f50,Option.getD]
 repeat'(first|exact zC|refine zq (I @zeV @zav) ?_|(apply zaa<;>intro hb)|(apply I;exact zI)|(apply I<;>intro hg))
 rfl
def szP (k:Nat):Nat:=if k=2 then 36 else 1
def zCY:List Value:=[.int .i64 0, .int .i64 0, .int .i64 0, .int .i64 0, .int .i64 0, .int .i64 0, .int .i64 0, .int .i64 0, .string .empty, .int .i64 0, .int .i64 0, .int .i64 0, .int .i64 0, .int .i64 0,ze4, .bool false, .int .i64 0, .int .i64 0, .int .i64 0, .int .i64 0,ze4, .int .i64 0, .int .i64 0, .int .i64 0, .int .i64 0, .int .i64 0,ze4, .int .i64 0, .int .i64 0, .int .i64 0, .int .i64 0, .int .i64 0, .int .i64 0,ze4,ze4,ze4]
def zrn:List C:=[di 0,di 0,di 0,di 0,di 0,di 0,di 0,di 0,dS .empty,di 0,di 0,di 0,di 0,di 0, .d (.v ze4),db false,di 0,di 0,di 0,di 0, .d (.v ze4),di 0,di 0,di 0,di 0,di 0, .d (.v ze4),di 0,di 0,di 0,di 0,di 0,di 0, .d (.v ze4), .d (.v ze4), .d (.v ze4)]
def nwP (x:Value) (k:Nat):List Value:=if k=2 then zCY else [codeOf x]
theorem zcm {l:List Value} {n:Nat} (h:l.length=n+1):∃a m,l=a::m∧m.length=n:=by
 cases l with
 |nil=>cases h
 |cons a m=>exact⟨a,m,rfl,by simpa using h⟩
theorem zup:(Tryz.prog.info? 84).bind (·.zero)=some (.agg #[.int .i64 0]):=by kernel_rfl
theorem znP:ziY Tryz.prog 48 [2,3] szP nwP (zjj 84):=by
 refine zfe zcI mixed (T:=Ty) Tryz.func48 rfl rfl Tryz.ntmps48 rfl rfl rfl rfl rfl rfl rfl (by decide) (by decide) (by decide) ?_
 rintro x ⟨n,rfl⟩ ls hl hs
 obtain⟨y,z,rfl⟩:∃y z,ls=[y,z]:=by
  match ls,hl with
  |[y,z],_=>exact⟨y,z,rfl⟩
 have h1:y.length=35+1:=hs 0 2 y rfl rfl
 obtain⟨g,rfl⟩:=zyy (hs 1 3 z rfl rfl)
 clear hl hs
 obtain⟨a0,y0,rfl,k0⟩:=zcm h1
 obtain⟨a1,y1,rfl,k1⟩:=zcm k0
 obtain⟨a2,y2,rfl,k2⟩:=zcm k1
 obtain⟨a3,y3,rfl,k3⟩:=zcm k2
 obtain⟨a4,y4,rfl,k4⟩:=zcm k3
 obtain⟨a5,y5,rfl,k5⟩:=zcm k4
 obtain⟨a6,y6,rfl,k6⟩:=zcm k5
 obtain⟨a7,y7,rfl,k7⟩:=zcm k6
 obtain⟨a8,y8,rfl,k8⟩:=zcm k7
 obtain⟨a9,y9,rfl,k9⟩:=zcm k8
 obtain⟨a10,y10,rfl,k10⟩:=zcm k9
 obtain⟨a11,y11,rfl,k11⟩:=zcm k10
 obtain⟨a12,y12,rfl,k12⟩:=zcm k11
 obtain⟨a13,y13,rfl,k13⟩:=zcm k12
 obtain⟨a14,y14,rfl,k14⟩:=zcm k13
 obtain⟨a15,y15,rfl,k15⟩:=zcm k14
 obtain⟨a16,y16,rfl,k16⟩:=zcm k15
 obtain⟨a17,y17,rfl,k17⟩:=zcm k16
 obtain⟨a18,y18,rfl,k18⟩:=zcm k17
 obtain⟨a19,y19,rfl,k19⟩:=zcm k18
 obtain⟨a20,y20,rfl,k20⟩:=zcm k19
 obtain⟨a21,y21,rfl,k21⟩:=zcm k20
 obtain⟨a22,y22,rfl,k22⟩:=zcm k21
 obtain⟨a23,y23,rfl,k23⟩:=zcm k22
 obtain⟨a24,y24,rfl,k24⟩:=zcm k23
 obtain⟨a25,y25,rfl,k25⟩:=zcm k24
 obtain⟨a26,y26,rfl,k26⟩:=zcm k25
 obtain⟨a27,y27,rfl,k27⟩:=zcm k26
 obtain⟨a28,y28,rfl,k28⟩:=zcm k27
 obtain⟨a29,y29,rfl,k29⟩:=zcm k28
 obtain⟨a30,y30,rfl,k30⟩:=zcm k29
 obtain⟨a31,y31,rfl,k31⟩:=zcm k30
 obtain⟨a32,y32,rfl,k32⟩:=zcm k31
 obtain⟨a33,y33,rfl,k33⟩:=zcm k32
 obtain⟨a34,y34,rfl,k34⟩:=zcm k33
 obtain⟨a35,y35,rfl,k35⟩:=zcm k34
 obtain rfl:=List.length_eq_zero_iff.1 k35
 refine⟨.tuple #[.agg #[.int .i64 n], .bool true], .tup [.agg [di n],ab true], ?_, ?_,rfl, ?_⟩
 ·intro w
  simp[Instr.typeAssert,Tryz.underlying84]
 ·intro cx w r β
  simp[ReA,ReAs,ReC,ReCs,Rd,flat]
 ·simp only[zbr,plainO,List.map_cons,List.map_nil]
  first|refine zs0 ?_|exact zt0
  repeat'(first|exact zC|refine zq0 ?_|(apply zaa<;>intro hb)|(apply I;exact zI)|(apply I<;>intro hg))
  rfl
theorem zp5:zn1 Tryz.prog 48 2:=by
 refine zd2 zcI mixed (T:=Ty) Tryz.func48 rfl rfl Tryz.ntmps48 rfl rfl rfl rfl rfl rfl rfl (by decide) (y7:= .tuple #[.agg #[.int .i64 0], .bool false]) (V7:= .tup [.agg [di 0],ab false]) ?_ ?_ (by decide) rfl ?_
 ·intro w
  simp[Instr.typeAssert,Tryz.underlying84,zjk zup w]
 ·intro cx w r β
  simp[ReA,ReAs,ReC,ReCs,Rd,flat]
 ·simp only[List.replicate]
  first|refine zs0 ?_|exact zt0
  repeat'(first|exact zC|refine zq0 ?_|(apply zaa<;>intro hb)|(apply I;exact zI)|(apply I<;>intro hg))
def Fx {α:Type} (Q:α×Int→Prop) (r:Rr α):Prop:=∀y,r= .ok y→Q y
theorem ziG {α:Type} {Q:α×Int→Prop} {x:α×Int} (h:Q x):Fx Q (.ok x):=fun y hy=>by cases hy;exact h
theorem za7 {α β:Type} {Q:α×Int→Prop} {R:β×Int→Prop} {r:Rr α} {k:α×Int→Rr β} (h1:Fx Q r) (h2:∀x,Q x→Fx R (k x)):Fx R (zaL r k):=fun y hy=>by
 cases r with
 |error e=>cases hy
 |ok x=>exact h2 x (h1 x rfl) y hy
theorem zzS {α:Type} {Q:α×Int→Prop} {c:Prop} [Decidable c] {x:α×Int} {e:Int} (h:c→Q x):Fx Q (if c then .ok x else .error e):=fun y hy=>by
 split at hy
 ·rename_i hc;cases hy;exact h hc
 ·cases hy
theorem zwW {bs:List Int} {p:Int}:Fx (fun y=>Small y.1.st) (zkX bs p):=by
 rw[show zkX bs p=zaL (zbn bs p) fun d=>zaL (zbn bs d.2) fun v=>zaL (zbn bs v.2) fun l=>zaL (zfa bs l.2) fun s=>if zbq ⟨d.1,v.1,l.1,s.1⟩=true then .ok (⟨d.1,v.1,l.1,s.1⟩,s.2)else .error 4 from by kernel_rfl]
 exact za7 (Q:=fun _=>True) (fun _ _=>trivial) fun _ _=>za7 (Q:=fun _=>True) (fun _ _=>trivial) fun _ _=>za7 (Q:=fun _=>True) (fun _ _=>trivial) fun _ _=>za7 (Q:=fun s=>Small s.1) (fun y hy=>zcc (zdV.1 (zhX hy))) fun _ hs=>zzS fun _=>hs
theorem zdi {n:Int} (h:0≤n∧n<4611686018427387904):i64 n:=by unfold i64;omega
theorem zf9 {k:Int} (hk:i64 k):(pk0 k).ok:=⟨hk,zdh,zdh,zdh,⟨zdh,zdh,zdh,zdh,(by show(ByteArray.empty).size<2^62;decide)⟩,⟨by simp,by simp⟩,⟨zdh,zdh,zdh,zdh,by simp,by simp⟩,by simp,⟨zdh,zdh,zdh,zdh,zdh,by simp,by simp⟩,by simp,by simp,(show Small st0 from ztV)⟩
section
variable {bs:List Int} (h:BsOk bs)
include h
theorem zdX {p:Int}:Fx (fun y=>i64 y.2∧0≤y.1∧y.1<4611686018427387904) (zbn bs p):=fun y hy=>⟨zas h hy,zlW h hy⟩
theorem zrm {p:Int}:Fx (fun y=>i64 y.2∧Batch.may y.1=true) (zjZ bs p):=fun y hy=>by
 refine⟨zho h hy, ?_⟩
 unfold zjZ at hy
 cases e1:zbv bs p with
 |error x=>rw[e1]at hy;cases hy
 |ok k=>
 rw[e1]at hy;simp only at hy
 split at hy
 ·cases hy
 split at hy
 ·cases hy;rfl
 cases e2:za2 (zbn bs) 4 k.2 []with
 |error x=>rw[e2]at hy;cases hy
 |ok l=>
 rw[e2]at hy;simp only at hy
 cases e3:zbH bs l.2 3 with
 |error x=>rw[e3]at hy;cases hy
 |ok n=>
 rw[e3]at hy;simp only at hy
 cases e4:za2 (zlX bs) n.1.toNat n.2 []with
 |error x=>rw[e4]at hy;cases hy
 |ok rs=>
 rw[e4]at hy;simp only at hy
 split at hy
 ·rename_i hm;cases hy;exact hm
 ·cases hy
def zoO (v:Vote):Prop:=(0≤v.slot∧v.slot<4611686018427387904)∧(0≤v.ballot∧v.ballot<4611686018427387904)∧Batch.may v.batch=true
theorem zwX {p:Int}:Fx (fun y=>i64 y.2∧zoO y.1) (zlT bs p):=by
 rw[show zlT bs p=zaL (zbn bs p) fun s=>zaL (zbn bs s.2) fun b=>zaL (zjZ bs b.2) fun x=> .ok (⟨s.1,b.1,x.1⟩,x.2) from by kernel_rfl]
 exact za7 (zdX h) fun s hs=>za7 (zdX h) fun b hb=>za7 (zrm h) fun x hx=>ziG ⟨hx.1,hs.2,hb.2,hx.2⟩
structure PromR (p:Prom):Prop where
 src:0≤p.src∧p.src<256
 done:0≤p.done∧p.done<4611686018427387904
 view:0≤p.tip.view∧p.tip.view<4611686018427387904
 slot:0≤p.tip.slot∧p.tip.slot<4611686018427387904
 time:0≤p.time∧p.time<4611686018427387904
 len:p.votes.length<256
 votes:∀v∈p.votes,zoO v
theorem zwY {p:Int}:Fx (fun y=>i64 y.2∧PromR y.1) (zlU bs p):=by
 rw[show zlU bs p=zaL (zbv bs p) fun f=>zaL (zbn bs f.2) fun d=>zaL (zbn bs d.2) fun v=>zaL (zbn bs v.2) fun s=>zaL (zbn bs s.2) fun t=>zaL (zbv bs t.2) fun n=>zaL (za2 (zlT bs) n.1.toNat n.2 []) fun l=> .ok (⟨f.1,d.1,⟨v.1,s.1⟩,t.1,l.1⟩,l.2) from by kernel_rfl]
 have hb:∀p,Fx (fun y=>i64 y.2∧0≤y.1∧y.1<256) (zbv bs p):=fun p y hy=>⟨zba h hy,zfb h hy⟩
 refine za7 (hb _) fun f hf=>za7 (zdX h) fun d hd=>za7 (zdX h) fun v hv=>za7 (zdX h) fun s hs=>za7 (zdX h) fun t ht=>za7 (hb _) fun n hn=> ?_
 refine za7 (Q:=fun l=>i64 l.2∧l.1.length<256∧∀v∈l.1,zoO v) (fun l hl=> ?_) fun l hl=>ziG ⟨hl.1,hf.2,hd.2,hv.2,hs.2,ht.2,hl.2.1,hl.2.2⟩
 have:=zdZ (ok:=zoO) (fun p y hy=>zwX h y hy) hn.1 (fun _ hx=>by cases hx) hl
 refine⟨this.1, ?_,this.2.2⟩
 have h3:=this.2.1
 simp only[List.length_nil]at h3
 omega
theorem zyF {p:Int}:Fx (fun y=>y.1.ok) (zyI bs p):=by
 have hb:∀p,Fx (fun y=>i64 y.2∧0≤y.1∧y.1<256) (zbv bs p):=fun p y hy=>⟨zba h hy,zfb h hy⟩
 refine za7 (hb _) fun k hk=> ?_
 have h0:=zf9 (k:=k.1) (by unfold i64;omega)
 have hbo:∀b,Batch.may b=true→b.ok∧b.reqs.length<2^30:=fun b hb=>⟨zpX hb,by have:=(zfE hb).1;omega⟩
 unfold zro
 split
 ·exact za7 (Q:=fun x=>Req.may x.1=true) (fun y hy=>(zhR h hy).2) fun x hx=>ziG {h0 with req:=(zfF hx).2.2.2}
 split
 ·exact za7 (Q:=fun x=>zcf x.1.reply) (fun y hy=>(ziI h hy).2) fun x hx=>ziG {h0 with ans:=hx}
 split
 ·exact za7 (zdX h) fun x hx=>ziG {h0 with b:=zdi hx.2}
 split
 ·refine za7 (zdX h) fun x hx=>za7 (zwY h) fun y hy=>ziG {h0 with b:=zdi hx.2,prom:= ?_,pl:= ?_,vl:= ?_}
  ·have m:=hy.2
   have hsr:i64 y.1.src:=by have:=m.src;unfold i64;omega
   have hvl:y.1.votes.length<2^42:=by have:=m.len;omega
   exact⟨hsr,zdi m.done,zdi m.view,zdi m.slot,zdi m.time,hvl,fun v hv=>⟨zdi (m.votes v hv).1,zdi (m.votes v hv).2.1,(hbo _ (m.votes v hv).2.2).1⟩⟩
  ·have:=hy.2.len;show y.1.votes.length<_;omega
  ·exact fun v hv=>(hbo _ (hy.2.votes v hv).2.2).2
 split
 ·exact za7 (zdX h) fun x hx=>za7 (zdX h) fun w hw=>za7 (zrm h) fun z hz=>ziG {h0 with b:=zdi hx.2,s:=zdi hw.2,bat:=(hbo _ hz.2).1,bl:=(hbo _ hz.2).2}
 split
 ·exact za7 (zdX h) fun x hx=>za7 (zdX h) fun w hw=>za7 (zrm h) fun z hz=>ziG {h0 with b:=zdi hx.2,s:=zdi hw.2,bat:=(hbo _ hz.2).1,bl:=(hbo _ hz.2).2}
 split
 ·exact za7 (zdX h) fun x hx=>za7 (zdX h) fun w hw=>ziG {h0 with b:=zdi hx.2,d:=zdi hw.2}
 split
 ·exact za7 (zdX h) fun x hx=>ziG {h0 with d:=zdi hx.2}
 split
 ·exact za7 zwW fun x hx=>ziG {h0 with snap:=hx}
 ·intro y hy;cases hy
end
def zzT (p:Pkt):List Int:=if ziA p=true then pkI p else []
def zyG (bs:List Int):Pkt×Int:=if bs.length>2048 then(pk0 0,3)else match zyI bs 0 with
 | .error _=>(pk0 0,4)
 | .ok y=>if(y.2 !=(bs.length:Int)|| !((strOf (zzT y.1)).toList==(strOf bs).toList))=true then(pk0 0,4)else(y.1,0)
theorem zj1 (e:Int):znL 39 [2,3] (nwP (ze6 84 e))=⟨(dq2 (.one (.ptr ⟨2,0,0⟩ 0):: .one (.ptr ⟨3,0,0⟩ 0)::zw6 [])),[(2,{next:=1,l:=[obq 0 (zrn)]}),(3,{next:=1,l:=[obq 0 [di e]]})]⟩:=rfl
theorem zdY:zrn=[di 0,di 0,di 0,di 0,di 0,di 0,di 0,di 0,dS .empty,di 0,di 0,di 0,di 0,di 0, .d (.v ze4),db false,di 0,di 0,di 0,di 0, .d (.v ze4),di 0,di 0,di 0,di 0,di 0, .d (.v ze4),di 0,di 0,di 0,di 0,di 0,di 0, .d (.v ze4), .d (.v ze4), .d (.v ze4)]:=rfl
set_option maxHeartbeats 4000000 in
theorem zl7 (bs:List Int) (h:BsOk bs) (hl:bs.length<2^30):
  CallOK Tryz.prog 15 [.f (asl bs.length (zad bs))] (fun r o=>r=[.agg ((zyG bs).1.enc.map RO.d),ri (zyG bs).2]∧o=[]):=by
 refine CallOK.nil ?_
 refine zbz zcI mixed (T:=Ty) Tryz.func15 rfl Tryz.results15 Tryz.ntmps15 Tryz.call15 Tryz.call48 (ks:=[2,3]) rfl rfl rfl rfl rfl rfl (by decide) (by decide)
  (xs:=[asl bs.length (zad bs)]) (sz:=szP) (nw:=nwP) zp5 znP ⟨(asl bs.length (zad bs)::dd:: .one (.ptr ⟨2,0,0⟩ 0):: .one (.ptr ⟨3,0,0⟩ 0)::zw6 []),[(2,{next:=1,l:=[obq 0 (zrn),none,none,none,none,none,none,none,none,none,none,none,none,none,none,none,none,none,none,none,none,none,none,none,none,none,none,none,none,none,none,none,none,none,none,none,none]}),(3,{next:=1,l:=[obq 0 [di 0],none]})]⟩ ?_ ?_ rfl ?_
 ·simp only[List.map_cons,List.map_nil]
  repeat'(first|exact zC|refine zq0 ?_|(apply zaa<;>intro hb)|(apply I;exact zI)|(apply I<;>intro hg))
  exact fun _ _ _ h=>h
 ·exact⟨⟨_,rfl,rfl,rfl,rfl,rfl⟩,⟨_,rfl,rfl,rfl,rfl,rfl⟩,trivial⟩
 ·unfold zyG
  rw[zdY]
  cases hlen:decide ((bs.length:Int)>2048)
  ·rw[if_neg (by simp at hlen;omega)]
   cases e1:zyI bs 0 with
   |error e=>
    have hr:=(zj3 bs 0 h zdh false (pk0 0,0) e e1).2 rfl
    repeat'(first|exact zC|refine zq hlen ?_|(apply zaa<;>intro hb)|(apply I;exact zI)|(apply I<;>intro hg))
    refine zp (rds bs 0) (hr) ?_
    simp only[zaV,zaW,zaU,za3]
    refine⟨⟨_,rfl⟩,rfl,⟨⟨_,rfl,rfl,rfl,rfl,rfl⟩,⟨_,rfl,rfl,rfl,rfl,rfl⟩,trivial⟩, ?_⟩
    rw[zj1,zdY]
    first|refine zs0 ?_|exact zt0
    simp[zaG,zcn,zaK,zaw,st0]
   |ok y=>
   have hr:=CallOK.nil ((zj3 bs 0 h zdh true y 0 e1).1 rfl)
   have hok:=zyF h y e1
   repeat'(first|exact zC|refine zq hlen ?_|(apply zaa<;>intro hb)|(apply I;exact zI)|(apply I<;>intro hg))
   refine zj (hr) ?_
   have hbl:bs.length<2^40:=by omega
   cases hm:ziA y.1
   ·have hp:=zdA y.1 hok hm
    have he:=zj2 [] bs (by simp) hbl
    simp only[zzT,hm,Bool.false_eq_true,if_false]
    cases hc:(y.2 !=(bs.length:Int))
    ·cases hd:((strOf ([])).toList==(strOf bs).toList)
     ·repeat'(first|exact zC|refine zq (I hc hd) ?_|refine zx (hp) ?_|refine zx (he) ?_|(apply zaa<;>intro hb)|(apply I;exact zI)|(apply I<;>intro hg))
      simp only[zaV,zaW,zaU,za3]
      refine⟨⟨_,rfl⟩,rfl,⟨⟨_,rfl,rfl,rfl,rfl,rfl⟩,⟨_,rfl,rfl,rfl,rfl,rfl⟩,trivial⟩, ?_⟩
      rw[zj1,zdY]
      first|refine zs0 ?_|exact zt0
      simp[zaG,zcn,zaK,zaw,st0]
     ·repeat'(first|exact zC|refine zq (I hc (I hd @zfO)) ?_|refine zx (hp) ?_|refine zx (he) ?_|(apply zaa<;>intro hb)|(apply I;exact zI)|(apply I<;>intro hg))
      simp[zaG,zcn,zaK,zaw, -List.length_flatMap,zaq,zaJ,zaI,zat,zah,zaz]
    ·repeat'(first|exact zC|refine zq hc ?_|refine zx (hp) ?_|(apply zaa<;>intro hb)|(apply I;exact zI)|(apply I<;>intro hg))
     simp only[zaV,zaW,zaU,za3]
     refine⟨⟨_,rfl⟩,rfl,⟨⟨_,rfl,rfl,rfl,rfl,rfl⟩,⟨_,rfl,rfl,rfl,rfl,rfl⟩,trivial⟩, ?_⟩
     rw[zj1,zdY]
     first|refine zs0 ?_|exact zt0
     simp[zaG,zcn,zaK,zaw,st0]
   ·have hp:=znC y.1 hok hm
    have hl9:=znB hm
    have he:=zj2 (pkI y.1) bs (by rw[pkI,List.length_append,List.length_singleton];omega) hbl
    simp only[zzT,hm,if_true]
    cases hc:(y.2 !=(bs.length:Int))
    ·cases hd:((strOf (pkI y.1)).toList==(strOf bs).toList)
     ·repeat'(first|exact zC|refine zq (I hc (I hd @zav)) ?_|refine zx (hp) ?_|refine zx (he) ?_|(apply zaa<;>intro hb)|(apply I;exact zI)|(apply I<;>intro hg))
      simp only[zaV,zaW,zaU,za3]
      refine⟨⟨_,rfl⟩,rfl,⟨⟨_,rfl,rfl,rfl,rfl,rfl⟩,⟨_,rfl,rfl,rfl,rfl,rfl⟩,trivial⟩, ?_⟩
      rw[zj1,zdY]
      first|refine zs0 ?_|exact zt0
      simp[zaG,zcn,zaK,zaw,st0]
     ·repeat'(first|exact zC|refine zq (I hc (I hd (I @zav @zfO))) ?_|refine zx (hp) ?_|refine zx (he) ?_|(apply zaa<;>intro hb)|(apply I;exact zI)|(apply I<;>intro hg))
      simp[zaG,zcn,zaK,zaw, -List.length_flatMap,zaq,zaJ,zaI,zat,zah,zaz]
    ·repeat'(first|exact zC|refine zq (I hc @zav) ?_|refine zx (hp) ?_|(apply zaa<;>intro hb)|(apply I;exact zI)|(apply I<;>intro hg))
     simp only[zaV,zaW,zaU,za3]
     refine⟨⟨_,rfl⟩,rfl,⟨⟨_,rfl,rfl,rfl,rfl,rfl⟩,⟨_,rfl,rfl,rfl,rfl,rfl⟩,trivial⟩, ?_⟩
     rw[zj1,zdY]
     first|refine zs0 ?_|exact zt0
     simp[zaG,zcn,zaK,zaw,st0]
  ·rw[if_pos (by simp at hlen;omega)]
   repeat'(first|exact zC|refine zq hlen ?_|(apply zaa<;>intro hb)|(apply I;exact zI)|(apply I<;>intro hg))
   simp only[zaV,zaW,zaU,za3]
   refine⟨⟨_,rfl⟩,rfl,⟨⟨_,rfl,rfl,rfl,rfl,rfl⟩,⟨_,rfl,rfl,rfl,rfl,rfl⟩,trivial⟩, ?_⟩
   rw[zj1,zdY]
   first|refine zs0 ?_|exact zt0
   simp[zaG,zcn,zaK,zaw,st0]
abbrev exP:Pkt:={pk0 8 with done:=1}
theorem zoN:exP.ok:=⟨by unfold i64;decide,zdh,zdh,by unfold i64;decide,⟨zdh,zdh,zdh,zdh,(by show(ByteArray.empty).size<2^62;decide)⟩,⟨by simp,by simp⟩,⟨zdh,zdh,zdh,zdh,by simp,by simp⟩,by simp,⟨zdh,zdh,zdh,zdh,zdh,by simp,by simp⟩,by simp,by simp,(show Small st0 from ztV)⟩
theorem zrk:ziA exP=true:=by kernel_rfl
theorem zrl:pkI exP=[8,0,0,0,0,0,0,0,1]:=by kernel_rfl
theorem zwT:zyG [8,0,0,0,0,0,0,0,1]=(exP,0):=by kernel_rfl
theorem zwU:zyG []=(pk0 0,4):=by kernel_rfl
theorem zun:exP.lent=[di 8,di 0,di 0,di 1,di 0,di 0,di 0,di 0,dS .empty,di 0,di 0,di 0,di 0,di 0, .lent 0 [],db false,di 0,di 0,di 0,di 0, .lent 0 [],di 0,di 0,di 0,di 0,di 0, .lent 0 [],di 0,di 0,di 0,di 0,di 0,di 0, .lent 0 [], .lent 0 [], .lent 0 []]:=rfl
theorem zwV:exP.enc.map RO.d=[.d (iD 8), .d (iD 0), .d (iD 0), .d (iD 1), .d (iD 0), .d (iD 0), .d (iD 0), .d (iD 0), .d (sD .empty), .d (iD 0), .d (iD 0), .d (iD 0), .d (iD 0), .d (iD 0), .d (.sl 0 []), .d (bD false), .d (iD 0), .d (iD 0), .d (iD 0), .d (iD 0), .d (.sl 0 []), .d (iD 0), .d (iD 0), .d (iD 0), .d (iD 0), .d (iD 0), .d (.sl 0 []), .d (iD 0), .d (iD 0), .d (iD 0), .d (iD 0), .d (iD 0), .d (iD 0), .d (.sl 0 []), .d (.sl 0 []), .d (.sl 0 [])]:=rfl
theorem zuo:zCS exP exP=true:=by kernel_rfl
theorem zp4:CallOK Tryz.prog 10 [] (fun r o=>r=[rb true]∧o=[]):=by
 refine zh Tryz.func10 Tryz.results10 Tryz.ntmps10 Tryz.call10 ?_
 simp only[Tryz.f10,Option.getD]
 have h1:=znC exP zoN zrk
 rw[zrl]at h1
 have h2:=zl7 [8,0,0,0,0,0,0,0,1] ⟨by decide,by simp[zaN]⟩ (by decide)
 rw[zwT]at h2
 have h3:=zl7 [] ⟨by decide,by simp⟩ (by decide)
 rw[zwU]at h3
 have h4:=zyi exP exP zoN zoN
 rw[zuo]at h4
 have h5:=zct exP zoN
 rw[zrk]at h5
 rw[zun]at h1 h4 h5
 rw[show(exP,(0:Int)).1.enc.map RO.d=_ from zwV]at h2
 have hb:bytesOf (zad [8,0,0,0,0,0,0,0,1])=some [8,0,0,0,0,0,0,0,1]:=rfl
 repeat'(first|exact zC|(with_reducible first|refine zbd 3 ?_|refine zaR 3 ?_|refine zaS 3 ?_)|refine zu0 ?_|(with_reducible first|refine zae _ _ ?_)|refine zx (h1) ?_|(apply zaa<;>intro hb)|(apply I;exact zI)|(apply I<;>intro hg))
 refine zbf (zbm (Gh.sealV 2 (x:= .own ⟨2,1,0⟩ 0 9) (d:= .sl 9 (zad [8,0,0,0,0,0,0,0,1])) rfl (by simp only[zY,Nat.reduceSub,Nat.reduceEqDiff,Nat.reduceAdd,Nat.reduceMul,Nat.reduceLeDiff,Nat.reduceLT,Nat.reduceBEq,reduceCtorEq];rfl)) ?_)
 repeat'(first|exact zC|refine zq hb ?_|refine zx (h2) ?_|refine zx (h3) ?_|refine zx (h4) ?_|refine zx (h5) ?_|(apply zaa<;>intro hb)|(apply I;exact zI)|(apply I<;>intro hg))
 rw[zee,zee]
 rfl
abbrev zCX (n i:Nat) (f:Int):List D:=(List.replicate i (uD f))++List.replicate (n - i) (uD 0)
theorem zbp {n:Int} (h:zaN n):u8 n:=⟨h.1,by have:=h.2;omega⟩
theorem zbW {ns:List Int} (h:∀x∈ns,zaN x) (k:Nat):zaN (ns.getD k 0):=by
 rcases Nat.lt_or_ge k ns.length with hk|hk
 ·exact zf1 hk h
 ·rw[List.getD_eq_getElem?_getD,List.getElem?_eq_none hk];exact⟨by decide,by decide⟩
def f5 (ns:List Int) (i k:Nat):Int:=if k<i then ns.getD k 0 else 0
abbrev n5 (ns:List Int):List RO:=[.d (uD (ns.getD 0 0)), .d (uD (ns.getD 1 0)), .d (uD (ns.getD 2 0)), .d (uD (ns.getD 3 0)), .d (uD (ns.getD 4 0))]
theorem zul (ns:List Int) (hl:ns.length<2^60):CallOK Tryz.prog 57 [.f (al ns.length (zad ns))] (fun r o=>r=[.agg (n5 ns)]∧o=[]):=by
 refine zh Tryz.func57 Tryz.results57 Tryz.ntmps57 Tryz.call57 ?_
 simp only[Tryz.f57,Option.getD]
 repeat'(first|exact zC|refine zq0 ?_|(apply zaa<;>intro hb)|(apply I;exact zI)|(apply I<;>intro hg))
 refine zaf (τ:=Nat) (fun i=>⟨(al ns.length (zad ns)::dd::ptq 2::ptq 3::ai i::zw2 []),[(2,⟨2,[obq 1 [.d (uD 0), .d (uD 0), .d (uD 0), .d (uD 0), .d (uD 0)],none,none,none,none,none]⟩),(3,⟨2,[obq 1 [.d (uD (f5 ns i 0)), .d (uD (f5 ns i 1)), .d (uD (f5 ns i 2)), .d (uD (f5 ns i 3)), .d (uD (f5 ns i 4))],none,none,none,none,none]⟩)]⟩)
  (fun i=>i≤ns.length∧i≤5) (fun _=>()) (fun i=>5 - i) 0
  (Gh.canon [2,3] [] [] zK rfl rfl) ⟨Nat.zero_le _,Nat.zero_le _⟩ ?_
 intro i ⟨hi0,hi5⟩ hF K hK
 cases hc:(decide ((i:Int)<ns.length)&&decide ((i:Int)<5))
 ·have he:∀k,k<5→f5 ns i k=ns.getD k 0:=fun k hk=>by
   unfold f5
   split
   ·rfl
   ·have hge:ns.length≤k:=by
     simp only[Bool.and_eq_false_iff,decide_eq_false_iff_not]at hc
     omega
    rw[List.getD_eq_getElem?_getD,List.getElem?_eq_none hge];rfl
  repeat'(first|exact zC|refine zq (I hc (I (he 0 (by omega)) (I (he 1 (by omega)) (I (he 2 (by omega)) (I (he 3 (by omega)) (he 4 (by omega))))))) ?_|(apply zaa<;>intro hb)|(apply I;exact zI)|(apply I<;>intro hg))
 ·have hi:i<ns.length∧i<5:=by simp only[Bool.and_eq_true,decide_eq_true_eq]at hc;omega
  have hat:=zdx hi.1
  have hw:IntKind.i64.wrap ((i:Int)+1)=((i+1:Nat):Int):=zai hi.1 (by omega)
  obtain⟨j,hj⟩:∃j,i+1=j:=⟨_,rfl⟩
  rw[hj]at hw
  rcases(show i=0∨i=1∨i=2∨i=3∨i=4 by omega)with rfl|rfl|rfl|rfl|rfl
  all_goals
   repeat'(first|exact zC|refine zq (I hc (I hat @zaY)) ?_|(apply zaa<;>intro hb)|(apply I;exact zI)|(apply I<;>intro hg))
   have hk:=fun g=>hK g j
   subst hj
   exact hk _ (Gh.canon [2,3] [] [] (zk hw) rfl rfl) ⟨by omega,by omega⟩ rfl (by omega)
def nm5 (k:Nat):ByteArray:=if k=0 then⟨#[97]⟩else if k=1 then⟨#[98]⟩else if k=2 then⟨#[107,101,121,45,49]⟩else if k=3 then⟨#[108,111,99,107]⟩else⟨#[120]⟩
def zgE (ns:List Int):Nat→Nat→List Grant→List Grant
 |0,_,acc=>acc
 |f+1,i,acc=>if(decide (i<ns.length)&&decide (acc.length<4))=true then(if ns.getD i 0 % 2=1 then zgE ns f (i+1) (acc++[⟨nm5 (i - 3),1+ns.getD i 0⟩])else zgE ns f (i+1) acc)else acc
def zum (ns:List Int):Reply:=if ns.length>2 then⟨ns.getD 0 0 % 13,ns.getD 1 0 % 5,ns.getD 2 0 % 4,if ns.getD 1 0 % 5>0 then zgE ns 5 3 []else []⟩else⟨0,0,0,[]⟩
theorem zib {n m:Int} (h:zaN n) (hm:0<m):n.tmod m=n % m:=Int.tmod_eq_emod_of_nonneg h.1
abbrev zyD (r:Reply):RF:= .agg (r.enc.map RO.d)
theorem grants_take {l:List Grant}:(zaE l).take (l.length*2)=zaE l:=zcL Grant.enc 2 (fun _=>rfl) l
theorem zyE {k:Nat} (hk:k<5):∃rest,List.drop k [C.d (sD ⟨#[97]⟩),C.d (sD ⟨#[98]⟩),C.d (sD ⟨#[107,101,121,45,49]⟩),C.d (sD ⟨#[108,111,99,107]⟩),C.d (sD ⟨#[120]⟩)]=C.d (sD (nm5 k))::rest:=by
 rcases(show k=0∨k=1∨k=2∨k=3∨k=4 by omega)with rfl|rfl|rfl|rfl|rfl<;>exact⟨_,rfl⟩
set_option maxHeartbeats 2000000 in
theorem zl6 (ns:List Int) (hl:ns.length<2^60) (hb:∀x∈ns,zaN x) (c s a:Int) (L:List Grant) (hL:L=if s>0 then zgE ns 5 3 []else []) (x:Code)
  (hc:zga 6 (Tryz.f109.body.getD .skip)=some x):
  awp Ty Tryz.prog x ⟨(al ns.length (zad ns)::dd::ptq 2::ptq 3::zw4 (zdP [])),[(2,⟨2,[obq 1 [di 0,di 0,di 0, .d (.v ze4)],none,none,none,none]⟩),(3,⟨2,[obq 1 [di c,di s,di a, .d (.v ze4)],none,none,none,none]⟩)]⟩ (zpe Ty [.cell 2 29] [] (fun q o=>zaG q [zyD ⟨c,s,a,L⟩]∧o=[])):=by
 simp only[Tryz.f109,Option.getD,zga,Nat.reduceBEq,if_true,if_false,Bool.false_eq_true,Option.none_or,Option.some_or,Option.some.injEq]at hc
 subst hc
 repeat'(first|exact zC|refine zq0 ?_|(apply zaa<;>intro hb)|(apply I;exact zI)|(apply I<;>intro hg))
 refine zaf (τ:=Nat×List Grant) (fun t=>⟨(al ns.length (zad ns)::dd::ptq 2::ptq 3:: .one (.own ⟨4,1,1⟩ 0 5)::ai t.1::zyT (zdP [])),[(2,⟨2,[obq 1 [di 0,di 0,di 0, .d (.v ze4)],none,none,none,none]⟩),(3,⟨2,[obq 1 [di c,di s,di a, .own ⟨3,4,1⟩ 0 t.2.length],none,none,none,roq 1 2 (zaE t.2)]⟩),(27,⟨2,[]⟩),(4,⟨2,[none,roq 1 1 ([sD ⟨#[97]⟩,sD ⟨#[98]⟩,sD ⟨#[107,101,121,45,49]⟩,sD ⟨#[108,111,99,107]⟩,sD ⟨#[120]⟩])]⟩),(69,⟨2,[]⟩),(70,⟨2,[]⟩)]⟩)
  (fun t=>3≤t.1∧t.1≤8∧t.2.length≤4) (fun t=>if s>0 then zgE ns (8 - t.1) t.1 t.2 else t.2) (fun t=>8 - t.1) (3,[])
  ((Gh.nilF 3 3 2 rfl).trans (Gh.canon [2,3,4] [69,70] [] zK rfl rfl)) ⟨Nat.le_refl _,by decide,by simp⟩ ?_
 intro⟨i,acc⟩ ⟨j1,j2,j3⟩ hF K hK
 simp only at j1 j2 j3 hF hK⊢
 cases hq:(((decide ((i:Int)<ns.length)&&decide ((i:Int)<8))&&decide (s>0))&&decide ((acc.length:Int)<4))
 ·have hz:L=acc:=by
   rw[hL]
   refine hF.symm.trans ?_
   split
   ·rename_i hs
    simp only[Bool.and_eq_false_iff,decide_eq_false_iff_not]at hq
    rcases Nat.lt_or_ge i 8 with h8|h8
    ·obtain⟨f,hf⟩:∃f,8 - i=f+1:=⟨8 - i - 1,by omega⟩
     rw[hf,zgE,if_neg]
     simp only[Bool.and_eq_true,decide_eq_true_eq]
     omega
    ·rw[show 8 - i=0 by omega,zgE]
   ·rfl
  rw[hz]
  repeat'(first|exact zC|refine zq (I hq @grants_take) ?_|(apply zaa<;>intro hb)|(apply I;exact zI)|(apply I<;>intro hg))
  simp[zaG,zcn,zaK,zaw, -List.length_flatMap,zaq]
 ·have hq2:=hq
  simp only[Bool.and_eq_true,decide_eq_true_eq]at hq2
  obtain⟨⟨⟨q1,q2⟩,q3⟩,q4⟩:=hq2
  have hi:i<ns.length:=by omega
  have hat:=zdx hi
  have hv:=zbW hb i
  have hm:=zib (m:=2) hv (by decide)
  have hw:IntKind.i64.wrap ((i:Int)+1)=((i+1:Nat):Int):=zai hi (by omega)
  have hw3:IntKind.i64.wrap ((i:Int) - 3)=((i - 3:Nat):Int):=by rw[wrap64 (by omega) (by omega)];omega
  have hw1:IntKind.i64.wrap (1+ns.getD i 0)=1+ns.getD i 0:=wrap64 (by have:=hv.1;omega) (by have:=hv.2;omega)
  have hw0:IntKind.i64.wrap (ns.getD i 0)=ns.getD i 0:=wrap64 (by have:=hv.1;omega) (by have:=hv.2;omega)
  obtain⟨rest,hnm⟩:=zyE (k:=i - 3) (by omega)
  have hcl:(acc.length+1≤2^47)=True:=eq_true (by omega)
  have hst:zgE ns (8 - i) i acc=if ns.getD i 0 % 2=1 then zgE ns (8 - (i+1)) (i+1) (acc++[⟨nm5 (i - 3),1+ns.getD i 0⟩])else zgE ns (8 - (i+1)) (i+1) acc:=by
   obtain⟨f,hf⟩:∃f,8 - i=f+1:=⟨8 - i - 1,by omega⟩
   rw[hf,zgE,if_pos (by simp only[Bool.and_eq_true,decide_eq_true_eq];omega),show 8 - (i+1)=f by omega]
  rw[if_pos q3,hst]at hF
  cases hod:(ns.getD i 0 % 2==1)
  ·rw[if_neg (by simpa using hod)]at hF
   repeat'(first|exact zC|refine zq (I hq (I hat (I @zaY (I hm hod)))) ?_|(apply zaa<;>intro hb)|(apply I;exact zI)|(apply I<;>intro hg))
   exact hK _ (i+1,acc) (Gh.canon [2,3,4] [] [] (zk hw) rfl rfl) ⟨by simp only;omega,by simp only;omega,j3⟩ (by simp only;rw[if_pos q3,if_pos q3,hst,if_neg (by simpa using hod)]) (by simp only;omega)
  ·repeat'(first|exact zC|refine zq (I hq (I hat (I @zaY (I hm (I hod (I hw3 (I hw1 (I hw0 (I hnm (I @grants_take (I @zaq hcl))))))))))) ?_|(apply zaa<;>intro hb)|(apply I;exact zI)|(apply I<;>intro hg))
   exact hK _ (i+1,acc++[⟨nm5 (i - 3),1+ns.getD i 0⟩]) (Gh.canon [2,3,4] [] [] (zk (I hw (I @List.length_append.{0} @List.length_singleton.{0}))) rfl (by simp only[List.length_append,List.length_singleton];rw[zfd];rfl)) ⟨by simp only;omega,by simp only;omega,by simp;omega⟩ (by simp only;rw[if_pos q3,if_pos q3,hst,if_pos (by simpa using hod)]) (by simp only;omega)
theorem zwS (ns:List Int) (hl:ns.length<2^60) (hbs:∀x∈ns,zaN x):CallOK Tryz.prog 109 [.f (al ns.length (zad ns))] (fun r o=>r=[zyD (zum ns)]∧o=[]):=by
 refine CallOK.nil ?_
 refine zh Tryz.func109 Tryz.results109 Tryz.ntmps109 Tryz.call109 ?_
 simp only[Tryz.f109,Option.getD]
 have w0:∀k,IntKind.i64.wrap (ns.getD k 0)=ns.getD k 0:=fun k=>wrap64 (by have:=(zbW hbs k).1;omega) (by have:=(zbW hbs k).2;omega)
 have m0:=zib (m:=13) (zbW hbs 0) (by decide)
 have m1:=zib (m:=5) (zbW hbs 1) (by decide)
 have m2:=zib (m:=4) (zbW hbs 2) (by decide)
 cases h2:decide ((ns.length:Int)>2)
 ·have hz:zum ns=⟨0,0,0,[]⟩:=by rw[zum,if_neg (by simp at h2;omega)]
  rw[hz]
  repeat'(first|exact zC|(with_reducible first|refine zbd 6 ?_|refine zaR 6 ?_|refine zaS 6 ?_)|refine zu h2 ?_|(with_reducible first|refine zae _ _ ?_)|(apply zaa<;>intro hb)|(apply I;exact zI)|(apply I<;>intro hg))
  exact zrz (Gh.canon [2,3] [] [] zK rfl rfl) (zl6 ns hl hbs 0 0 0 [] rfl _ rfl)
 ·have h3:3≤ns.length:=by simp at h2;omega
  have a0:=zdx (l:=ns) (i:=0) (by omega)
  have a1:=zdx (l:=ns) (i:=1) (by omega)
  have a2:=zdx (l:=ns) (i:=2) (by omega)
  have l1:(1:Int)<ns.length:=by omega
  have l2:(2:Int)<ns.length:=by omega
  have hz:zum ns=⟨ns.getD 0 0 % 13,ns.getD 1 0 % 5,ns.getD 2 0 % 4,if ns.getD 1 0 % 5>0 then zgE ns 5 3 []else []⟩:=by rw[zum,if_pos (by omega)]
  rw[hz]
  have t1:Int.toNat 1=1:=rfl
  have t2:Int.toNat 2=2:=rfl
  repeat'(first|exact zC|(with_reducible first|refine zbd 6 ?_|refine zaR 6 ?_|refine zaS 6 ?_)|refine zv (I h2 (I a0 (I a1 (I a2 (I t1 (I t2 (I @zaY (I w0 (I m0 (I m1 m2)))))))))) ?_|(with_reducible first|refine zae _ _ ?_)|(apply zaa<;>intro hb)|(apply I;exact zJ)|(apply I<;>intro hg))
  exact zrz (Gh.canon [2,3] [] [] zK rfl rfl) (zl6 ns hl hbs _ _ _ _ rfl _ rfl)
theorem zgD {n:Int} (h:zaN n):within n=true:=by
 unfold zaN at h
 rw[zdt]
 simp;omega
def zz:ByteArray:=⟨#[122,122]⟩
theorem zue:((List.range 5).all fun k=>nameP (nm5 k)&&(List.range 5).all fun j=> !decide (j<k)||zed (nm5 j) (nm5 k))=true:=by kernel_rfl
theorem zv4 {k:Nat} (hk:k<5):nameP (nm5 k)=true:=by
 have:=List.all_eq_true.1 zue k (List.mem_range.2 hk)
 rw[Bool.and_eq_true]at this
 exact this.1
theorem zv5 {j k:Nat} (hk:k<5) (hj:j<k):zed (nm5 j) (nm5 k)=true:=by
 have:=List.all_eq_true.1 zue k (List.mem_range.2 hk)
 rw[Bool.and_eq_true]at this
 have:=List.all_eq_true.1 this.2 j (List.mem_range.2 (by omega))
 simpa[hj]using this
structure Gr5 (i:Nat) (l:List Grant):Prop where
 len:l.length≤4
 all:∀g∈l,∃k,k<i∧k<5∧g.name=nm5 k∧1≤g.token∧g.token≤256
 rise:l.Pairwise fun a b=>zed a.name b.name=true
theorem zgC {ns:List Int} (hb:∀x∈ns,zaN x):∀{f i:Nat} {acc:List Grant},3≤i→i+f≤8→Gr5 (i - 3) acc→Gr5 5 (zgE ns f i acc)
 |0,i,acc,h1,h2,h=>⟨h.len,fun g hg=>by obtain⟨k,a,b,c⟩:=h.all g hg;exact⟨k,b,b,c⟩,h.rise⟩
 |f+1,i,acc,h1,h2,h=>by
  have hn:Gr5 (i+1 - 3) acc:=⟨h.len,fun g hg=>by obtain⟨k,a,b,c⟩:=h.all g hg;exact⟨k,by omega,b,c⟩,h.rise⟩
  rw[zgE]
  split
  ·rename_i hc
   simp only[Bool.and_eq_true,decide_eq_true_eq]at hc
   split
   ·have hv:=zbW hb i
    unfold zaN at hv
    refine zgC hb (by omega) (by omega) ⟨by rw[List.length_append,List.length_singleton];omega,fun g hg=> ?_, ?_⟩
    ·rcases List.mem_append.1 hg with hg|hg
     ·exact hn.all g hg
     ·simp only[List.mem_singleton]at hg
      subst hg
      exact⟨i - 3,by omega,by omega,rfl,by simp only;omega,by simp only;omega⟩
    ·rw[List.pairwise_append]
     refine⟨h.rise,by simp,fun a ha b hb2=> ?_⟩
     simp only[List.mem_singleton]at hb2
     subst hb2
     obtain⟨k,q1,q2,q3,_⟩:=h.all a ha
     rw[q3]
     exact zv5 (by omega) q1
   ·exact zgC hb (by omega) (by omega) hn
  ·exact⟨h.len,fun g hg=>by obtain⟨k,a,b,c⟩:=h.all g hg;exact⟨k,b,b,c⟩,h.rise⟩
theorem zuf {l:List Grant} (h:Gr5 5 l):zbA (zcs l) 0 l=true:=by
 have hH:zbs=2305843009213693952:=rfl
 refine zcy.2 fun j hj=> ?_
 obtain⟨k,q1,q2,q3,q4,q5⟩:=h.all _ (List.getElem_mem hj)
 rw[Nat.zero_add,zcs,q3,zv4 q2,hH,←q3]
 have e1:decide (l[j].token<1)=false:=by simp;omega
 have e2:decide (l[j].token>2305843009213693952)=false:=by simp;omega
 rw[e1,e2]
 by_cases hz:j=0
 ·subst hz;simp
 ·have hp:zqO l j=l[j - 1].name:=by rw[zqO,List.getElem?_eq_getElem (by omega)];rfl
  have:=List.pairwise_iff_getElem.1 h.rise (j - 1) j (by omega) hj (by omega)
  rw[hp,this]
  simp
theorem znK {r:Reply} (h1:0≤r.code∧r.code≤12) (h2:0≤r.session∧r.session≤2305843009213693952) (h3:0≤r.ahead∧r.ahead≤3) (h4:r.held.length≤4) (h5:r.session=0→r.held.length=0) (h6:zbA (zcs r.held) 0 r.held=true):zbU r=true:=by
 have hH:zbs=2305843009213693952:=rfl
 have e1:decide (r.code<0)=false:=by simp;omega
 have e2:decide (r.code>12)=false:=by simp;omega
 have e3:decide (r.session<0)=false:=by simp;omega
 have e4:decide (r.session>2305843009213693952)=false:=by simp;omega
 have e5:decide (r.ahead<0)=false:=by simp;omega
 have e6:decide (r.ahead>3)=false:=by simp;omega
 have e7:decide ((r.held.length:Int)>4)=false:=by simp;omega
 have e8:((r.session==0)&&decide ((r.held.length:Int)>0))=false:=by
  by_cases hz:r.session=0
  ·have:=h5 hz
   rw[this];simp
  ·simp[hz]
 rw[zbU,h6,hH,e1,e2,e3,e4,e5,e6,e7,e8]
 rfl
theorem zv6 {ns:List Int} (hb:∀x∈ns,zaN x):zbU (zum ns)=true∧(zum ns).held.length≤4:=by
 unfold zum
 split
 ·have b0:=zbW hb 0
  have b1:=zbW hb 1
  have b2:=zbW hb 2
  unfold zaN at b0 b1 b2
  have hH:zbs=2305843009213693952:=rfl
  split
  ·rename_i hs
   have g:=zgC hb (f:=5) (i:=3) (acc:=[]) (by omega) (by omega) ⟨by simp,by simp,by simp⟩
   exact⟨znK ⟨by simp only;omega,by simp only;omega⟩ ⟨by simp only;omega,by simp only;omega⟩ ⟨by simp only;omega,by simp only;omega⟩ g.len (fun hz=>by simp only at hz;omega) (zuf g),g.len⟩
  ·exact⟨znK ⟨by simp only;omega,by simp only;omega⟩ ⟨by simp only;omega,by simp only;omega⟩ ⟨by simp only;omega,by simp only;omega⟩ (by simp) (fun _=>rfl) rfl,by simp⟩
 ·exact⟨by decide,by simp⟩
def zyp (c q:Int) (ns:List Int):Memo:=⟨c % 8,1+q % 40,zum ns⟩
theorem zyq (c q:Int) (ns:List Int) (hc:zaN c) (hq:zaN q) (hl:ns.length<2^60) (hb:∀x∈ns,zaN x):CallOK Tryz.prog 59 [.f (au c), .f (au q), .f (al ns.length (zad ns))] (fun r o=>r=[zsI (zyp c q ns)]∧o=[]):=by
 refine zh Tryz.func59 Tryz.results59 Tryz.ntmps59 Tryz.call59 ?_
 simp only[Tryz.f59,Option.getD]
 have h1:=zwS ns hl hb
 have m0:=zib (m:=8) hc (by decide)
 have m1:=zib (m:=40) hq (by decide)
 unfold zaN at hc hq
 have w0:IntKind.i64.wrap c=c:=wrap64 (by omega) (by omega)
 have w1:IntKind.i64.wrap q=q:=wrap64 (by omega) (by omega)
 have w2:IntKind.i64.wrap (1+q % 40)=1+q % 40:=wrap64 (by omega) (by omega)
 repeat'(first|exact zC|refine zq (I w0 (I w1 (I m0 (I m1 w2)))) ?_|refine zx (h1) ?_|(apply zaa<;>intro hb)|(apply I;exact zI)|(apply I<;>intro hg))
 rfl
theorem zp3 {c q:Int} {ns:List Int} (hc:zaN c) (hq:zaN q) (hb:∀x∈ns,zaN x):answerB (zyp c q ns)=true:=by
 have hH:zbs=2305843009213693952:=rfl
 unfold zaN at hc hq
 rw[answerB,zyp,(zv6 hb).1,hH]
 simp
 omega
structure Inp where
 kind:Int
 ns:List Int
 acts:List Act
 told:NTold
structure Inp.ok (x:Inp):Prop where
 kind:zaN x.kind
 nl:x.ns.length<2^60
 nb:∀y∈x.ns,zaN y
 al:x.acts.length<2^60
 ab:∀a∈x.acts,zon a
 told:x.told.ok
abbrev Inp.n (x:Inp) (k:Nat):Int:=x.ns.getD k 0
def zbc (x:Inp):Pkt:=
 if x.kind % 9=0 then {pk0 1 with req:=zp1 (x.n 0) (x.n 1) (x.n 2) (x.n 3) (x.n 4)}
 else if x.kind % 9=1 then {pk0 2 with ans:=zyp (x.n 0) (x.n 1) x.ns}
 else if x.kind % 9=2 then {pk0 3 with ballot:=x.n 0 % 16}
 else if x.kind % 9=3 then {pk0 4 with ballot:=x.n 0 % 16,prom:=ze8 (x.n 1 % 5) x.told}
 else if x.kind % 9=4 then {pk0 5 with ballot:=x.n 0 % 16,slot:=1+x.n 1 % 9,bat:=zb7 x.ns}
 else if x.kind % 9=5 then {pk0 6 with ballot:=x.n 0 % 16,slot:=1+x.n 1 % 9,bat:=zb7 x.ns}
 else if x.kind % 9=6 then {pk0 7 with ballot:=x.n 0 % 16,done:=x.n 1 % 16}
 else if x.kind % 9=7 then {pk0 8 with done:=x.n 0 % 16}
 else {pk0 9 with snap:=⟨x.n 0 % 16,x.n 1 % 8,x.n 2 % 16,zm5 x.acts⟩}
theorem zhW {k:Int} (h:zaN k):k % 9=0∨k % 9=1∨k % 9=2∨k % 9=3∨k % 9=4∨k % 9=5∨k % 9=6∨k % 9=7∨k % 9=8:=by omega
abbrev NTold.lent (t:NTold):List C:=[.d (uD t.done), .d (uD t.view), .d (uD t.slot), .d (uD t.time), .lent t.votes.length (ze2 t.votes)]
set_option maxHeartbeats 8000000 in
theorem zyo (x:Inp) (h:x.ok):CallOK Tryz.prog 18 [.f (au x.kind), .f (al x.ns.length (zad x.ns)), .f (al x.acts.length (zlu x.acts)), .f (.agg x.told.lent)] (fun r o=>r=[.agg ((zbc x).enc.map RO.d)]∧o=[]):=by
 refine CallOK.nil ?_
 refine zh Tryz.func18 Tryz.results18 Tryz.ntmps18 Tryz.call18 ?_
 simp only[Tryz.f18,Option.getD]
 obtain⟨kind,ns,acts,told⟩:=x
 obtain⟨hk,hnl,hnb,hal,hab,ht⟩:=h
 simp only at hk hnl hnb hal hab ht
 have hg:∀k,zaN (ns.getD k 0):=zbW hnb
 have hu:∀k,u8 (ns.getD k 0):=fun k=>zbp (hg k)
 have h0:=zul ns hnl
 have mk:=zib (m:=9) hk (by decide)
 have wk:IntKind.i64.wrap kind=kind:=wrap64 (by have:=hk.1;omega) (by have:=hk.2;omega)
 have w0:∀k,IntKind.i64.wrap (ns.getD k 0)=ns.getD k 0:=fun k=>wrap64 (by have:=(hg k).1;omega) (by have:=(hg k).2;omega)
 have m16:∀k,(ns.getD k 0).tmod 16=ns.getD k 0 % 16:=fun k=>zib (hg k) (by decide)
 have m5:=zib (m:=5) (hg 1) (by decide)
 have m9:=zib (m:=9) (hg 1) (by decide)
 have m8':=zib (m:=8) (hg 1) (by decide)
 have w9:IntKind.i64.wrap (1+ns.getD 1 0 % 9)=1+ns.getD 1 0 % 9:=wrap64 (by omega) (by omega)
 rcases zhW hk with e|e|e|e|e|e|e|e|e
 ·have kk:IntKind.i64.wrap (1+0)=1:=wrap64 (by omega) (by omega)
  have hc:=zoI _ _ _ _ _ (hu 0) (hu 1) (hu 2) (hu 3) (hu 4)
  rw[show zbc ⟨kind,ns,acts,told⟩={pk0 1 with req:=zp1 (ns.getD 0 0) (ns.getD 1 0) (ns.getD 2 0) (ns.getD 3 0) (ns.getD 4 0)} from by unfold zbc;simp only[e,Int.reduceEq,if_true,if_false]]
  repeat'(first|exact zC|refine zq (I mk (I wk (I w0 (I m16 (I e kk))))) ?_|refine zx (h0) ?_|refine zx (hc) ?_|(apply zaa<;>intro hb)|(apply I;exact zI)|(apply I<;>intro hg))
  simp[zaG,zcn,zaK,zaw,st0, -List.length_flatMap,zaq,zaJ,zaI,zat,zah,zaz]
 ·have kk:IntKind.i64.wrap (1+1)=2:=wrap64 (by omega) (by omega)
  have hc:=zyq _ _ ns (hg 0) (hg 1) hnl hnb
  rw[show zbc ⟨kind,ns,acts,told⟩={pk0 2 with ans:=zyp (ns.getD 0 0) (ns.getD 1 0) ns} from by unfold zbc;simp only[e,Int.reduceEq,if_true,if_false]]
  repeat'(first|exact zC|refine zq (I mk (I wk (I w0 (I m16 (I e kk))))) ?_|refine zx (h0) ?_|refine zx (hc) ?_|(apply zaa<;>intro hb)|(apply I;exact zI)|(apply I<;>intro hg))
  simp[zaG,zcn,zaK,zaw,st0, -List.length_flatMap,zaq,zaJ,zaI,zat,zah,zaz]
 ·have kk:IntKind.i64.wrap (1+2)=3:=wrap64 (by omega) (by omega)
  rw[show zbc ⟨kind,ns,acts,told⟩={pk0 3 with ballot:=ns.getD 0 0 % 16} from by unfold zbc;simp only[e,Int.reduceEq,if_true,if_false]]
  repeat'(first|exact zC|refine zq (I mk (I wk (I w0 (I m16 (I e kk))))) ?_|refine zx (h0) ?_|(apply zaa<;>intro hb)|(apply I;exact zI)|(apply I<;>intro hg))
  simp[zaG,zcn,zaK,zaw,st0, -List.length_flatMap,zaq,zaJ,zaI,zat,zah,zaz]
 ·have kk:IntKind.i64.wrap (1+3)=4:=wrap64 (by omega) (by omega)
  have hc:=zoK (ns.getD 1 0 % 5) told (by omega) ht
  rw[show zbc ⟨kind,ns,acts,told⟩={pk0 4 with ballot:=ns.getD 0 0 % 16,prom:=ze8 (ns.getD 1 0 % 5) told} from by unfold zbc;simp only[e,Int.reduceEq,if_true,if_false]]
  repeat'(first|exact zC|refine zq (I mk (I wk (I w0 (I m16 (I e (I kk m5)))))) ?_|refine zx (h0) ?_|refine zx (hc) ?_|(apply zaa<;>intro hb)|(apply I;exact zI)|(apply I<;>intro hg))
  simp[zaG,zcn,zaK,zaw,st0, -List.length_flatMap,zaq,zaJ,zaI,zat,zah,zaz]
 ·have kk:IntKind.i64.wrap (1+4)=5:=wrap64 (by omega) (by omega)
  have hc:=zjL ns hnl (fun y hy=>zbp (hnb y hy))
  rw[show zbc ⟨kind,ns,acts,told⟩={pk0 5 with ballot:=ns.getD 0 0 % 16,slot:=1+ns.getD 1 0 % 9,bat:=zb7 ns} from by unfold zbc;simp only[e,Int.reduceEq,if_true,if_false]]
  repeat'(first|exact zC|refine zq (I mk (I wk (I w0 (I m16 (I e (I kk (I m9 w9))))))) ?_|refine zx (h0) ?_|refine zx (hc) ?_|(apply zaa<;>intro hb)|(apply I;exact zI)|(apply I<;>intro hg))
  simp[zaG,zcn,zaK,zaw,st0, -List.length_flatMap,zaq,zaJ,zaI,zat,zah,zaz]
 ·have kk:IntKind.i64.wrap (1+5)=6:=wrap64 (by omega) (by omega)
  have hc:=zjL ns hnl (fun y hy=>zbp (hnb y hy))
  rw[show zbc ⟨kind,ns,acts,told⟩={pk0 6 with ballot:=ns.getD 0 0 % 16,slot:=1+ns.getD 1 0 % 9,bat:=zb7 ns} from by unfold zbc;simp only[e,Int.reduceEq,if_true,if_false]]
  repeat'(first|exact zC|refine zq (I mk (I wk (I w0 (I m16 (I e (I kk (I m9 w9))))))) ?_|refine zx (h0) ?_|refine zx (hc) ?_|(apply zaa<;>intro hb)|(apply I;exact zI)|(apply I<;>intro hg))
  simp[zaG,zcn,zaK,zaw,st0, -List.length_flatMap,zaq,zaJ,zaI,zat,zah,zaz]
 ·have kk:IntKind.i64.wrap (1+6)=7:=wrap64 (by omega) (by omega)
  rw[show zbc ⟨kind,ns,acts,told⟩={pk0 7 with ballot:=ns.getD 0 0 % 16,done:=ns.getD 1 0 % 16} from by unfold zbc;simp only[e,Int.reduceEq,if_true,if_false]]
  repeat'(first|exact zC|refine zq (I mk (I wk (I w0 (I m16 (I e kk))))) ?_|refine zx (h0) ?_|(apply zaa<;>intro hb)|(apply I;exact zI)|(apply I<;>intro hg))
  simp[zaG,zcn,zaK,zaw,st0, -List.length_flatMap,zaq,zaJ,zaI,zat,zah,zaz]
 ·have kk:IntKind.i64.wrap (1+7)=8:=wrap64 (by omega) (by omega)
  rw[show zbc ⟨kind,ns,acts,told⟩={pk0 8 with done:=ns.getD 0 0 % 16} from by unfold zbc;simp only[e,Int.reduceEq,if_true,if_false]]
  repeat'(first|exact zC|refine zq (I mk (I wk (I w0 (I m16 (I e kk))))) ?_|refine zx (h0) ?_|(apply zaa<;>intro hb)|(apply I;exact zI)|(apply I<;>intro hg))
  simp[zaG,zcn,zaK,zaw,st0, -List.length_flatMap,zaq,zaJ,zaI,zat,zah,zaz]
 ·have kk:IntKind.i64.wrap (1+8)=9:=wrap64 (by omega) (by omega)
  have hg0:=hg 0
  have hg1:=hg 1
  have hg2:=hg 2
  unfold zaN at hg0 hg1 hg2
  have t2:Int.toNat 2=2:=rfl
  have hc:=ztY acts hal hab (ns.getD 0 0 % 16) (ns.getD 1 0 % 8) (ns.getD 2 0 % 16) ⟨by omega,by omega⟩ ⟨by omega,by omega⟩ ⟨by omega,by omega⟩
  rw[show zbc ⟨kind,ns,acts,told⟩={pk0 9 with snap:=⟨ns.getD 0 0 % 16,ns.getD 1 0 % 8,ns.getD 2 0 % 16,zm5 acts⟩} from by unfold zbc;simp only[e,Int.reduceEq,if_true,if_false]]
  repeat'(first|exact zC|refine zq (I mk (I wk (I w0 (I m16 (I e (I kk (I m8' t2))))))) ?_|refine zx (h0) ?_|refine zx (hc) ?_|(apply zaa<;>intro hb)|(apply I;exact zI)|(apply I<;>intro hg))
  simp[zaG,zcn,zaK,zaw,st0, -List.length_flatMap,zaq,zaJ,zaI,zat,zah,zaz]
end Go.Proofs.YtliimajkpggbhaaGreat
