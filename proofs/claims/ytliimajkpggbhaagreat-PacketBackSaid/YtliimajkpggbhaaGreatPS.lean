import Derived.Test.YtliimajkpggbhaaGreatPL
namespace Go.Proofs.YtliimajkpggbhaaGreat
open Go.Pk Tryz
set_option maxRecDepth 100000
set_option linter.unusedSimpArgs false
set_option linter.unusedVariables false
def Cut {α:Type} (m:Nat) (p:Int) (r r':Rr α):Prop:=∀y,r= .ok y→p≤y.2∧(y.2≤m→r'= .ok y)∧(p≤m→m<y.2→r'= .error 2)
abbrev zal {α β:Type} (r:Rr α) (k:α×Int→Rr β):Rr β:=match r with
 | .error e=> .error e
 | .ok x=>k x
theorem zam {α β:Type} {m:Nat} {p:Int} {r r':Rr α} {k k':α×Int→Rr β} (h1:Cut m p r r') (h2:∀x,r= .ok x→Cut m x.2 (k x) (k' x)):
  Cut m p (zal r k) (zal r' k'):=by
 intro y hy
 cases r with
 |error e=>cases hy
 |ok x=>
  obtain⟨a1,a2,a3⟩:=h1 x rfl
  obtain⟨b1,b2,b3⟩:=h2 x rfl y hy
  refine⟨Int.le_trans a1 b1,fun hq=> ?_,fun hp hq=> ?_⟩
  ·rw[a2 (Int.le_trans b1 hq)]
   exact b2 hq
  ·by_cases hx:x.2≤m
   ·rw[a2 hx]
    exact b3 hx hq
   ·rw[a3 hp (by omega)]
theorem zp8 {α:Type} {m:Nat} {p:Int} {r:Rr α} (h:∀y,r= .ok y→y.2=p):Cut m p r r:=fun y hy=>⟨by rw[h y hy];exact Int.le_refl _,fun _=>hy,fun h1 h2=>by rw[h y hy]at h2;omega⟩
theorem zcS {α:Type} {m:Nat} {p:Int} {x:α}:Cut m p (.ok (x,p)) (.ok (x,p)):=zp8 fun y hy=>by cases hy;rfl
theorem ziH {α:Type} {m:Nat} {p:Int} {c:Prop} [Decidable c] {x:α} {e:Int}:Cut m p (if c then .ok (x,p)else .error e) (if c then .ok (x,p)else .error e):=zp8 fun y hy=>by
 split at hy
 ·cases hy;rfl
 ·cases hy
section
variable {bs:List Int} {m:Nat} (hm:m≤bs.length)
include hm
theorem zgj {p k:Int} (hp:0≤p) (h:zbQ bs.length p k=false):(0≤k→p+k≤m→zbQ (bs.take m).length p k=false)∧(p≤m→m<p+k→zbQ (bs.take m).length p k=true):=by
 rw[List.length_take,Nat.min_eq_left hm]
 unfold zbQ at*
 simp at*
 omega
omit hm in
theorem getD_take {q:Nat} (h:q<m):(bs.take m).getD q 0=bs.getD q 0:=by
 simp only[List.getD_eq_getElem?_getD,List.getElem?_take,if_pos h]
theorem zcH {p:Int}:Cut m p (zaU bs p) (zaU (bs.take m) p):=by
 intro y hy
 unfold zaU zbf at*
 cases hs:zbQ bs.length p 1
 ·rw[hs]at hy
  simp[rOf]at hy
  subst hy
  obtain⟨h1,h2,h3⟩:=zcM hs
  obtain⟨a,b⟩:=zgj hm h1 hs
  refine⟨by simp only;omega,fun h=> ?_,fun hp h=> ?_⟩
  ·rw[a (by omega) h,getD_take (by simp only at h;omega)]
   simp[rOf]
  ·rw[b hp h]
   simp[rOf]
 ·rw[hs]at hy
  simp[rOf]at hy
theorem zbk {p:Int}:Cut m p (zaW bs p) (zaW (bs.take m) p):=by
 intro y hy
 unfold zaW zfj at*
 cases hs:zbQ bs.length p 8
 ·rw[hs]at hy
  obtain⟨h1,h2,h3⟩:=zcM hs
  obtain⟨a,b⟩:=zgj hm h1 hs
  rw[if_neg (by simp)]at hy
  split at hy
  ·rename_i hv
   simp[rOf]at hy
   subst hy
   refine⟨by simp only;omega,fun h=> ?_,fun hp h=> ?_⟩
   ·simp only at h
    have e:((bs.take m).drop p.toNat).take 8=(bs.drop p.toNat).take 8:=by
     rw[List.drop_take,List.take_take,Nat.min_eq_left (by omega)]
    rw[a (by omega) h,e,if_neg (by simp),if_pos hv]
    simp[rOf]
   ·rw[b hp h]
    simp[rOf]
  ·simp[rOf]at hy
 ·rw[hs]at hy
  simp[rOf]at hy
theorem zmb (hb:BsOk bs) {p:Int}:Cut m p (zd7 bs p) (zd7 (bs.take m) p):=by
 intro y hy
 unfold zd7 zcq at*
 cases hs:zbQ bs.length p 1
 ·rw[hs]at hy
  obtain⟨h1,h2,h3⟩:=zcM hs
  obtain⟨a,b⟩:=zgj hm h1 hs
  rw[if_neg (by simp)]at hy
  split at hy
  ·simp[rOf]at hy
  ·rename_i hv
   have hv0:=zfs (l:=bs) (i:=p.toNat) (by omega) hb.b
   unfold zav at hv0
   obtain⟨z,hz⟩:∃z,bs.getD p.toNat 0=z:=⟨_,rfl⟩
   rw[hz]at hy hv hv0
   cases hs2:zbQ bs.length (p+1) z
   ·rw[hs2]at hy
    obtain⟨g1,g2,g3⟩:=zcM hs2
    obtain⟨a',b'⟩:=zgj hm g1 hs2
    simp[rOf]at hy
    subst hy
    simp only
    refine⟨by omega,fun h=> ?_,fun hp h=> ?_⟩
    ·have e:((bs.take m).drop (p.toNat+1)).take z.toNat=(bs.drop (p.toNat+1)).take z.toNat:=by
      rw[List.drop_take,List.take_take,Nat.min_eq_left (by omega)]
     rw[a (by omega) (by omega),getD_take (by omega),hz,a' (by omega) h,e,if_neg (by simp),if_neg hv,if_neg (by simp)]
     simp[rOf]
    ·by_cases hp1:p+1≤m
     ·rw[a (by omega) hp1,getD_take (by omega),hz,b' hp1 h,if_neg (by simp),if_neg hv,if_pos rfl]
      simp[rOf]
     ·rw[b hp (by omega),if_pos rfl]
      simp[rOf]
   ·rw[hs2]at hy
    simp[rOf]at hy
 ·rw[hs]at hy
  simp[rOf]at hy
theorem zeY {p most:Int}:Cut m p (za9 bs p most) (za9 (bs.take m) p most):=by
 have e:∀l,za9 l p most=zal (zaU l p) fun x=>if¬x.1>most then .ok (x.1,x.2)else .error 4:=fun l=>by
  unfold za9
  cases zaU l p with
  |error e=>rfl
  |ok x=>simp only[ite_not]
 rw[e,e]
 exact zam (zcH hm) fun x _=>ziH
omit hm in
theorem zeI {α:Type} {f f':Int→Rr α} (hf:∀p,Cut m p (f p) (f' p)):∀{n:Nat} {p:Int} {acc:List α},Cut m p (zaT f n p acc) (zaT f' n p acc)
 |0,p,acc=>by rw[zaT,zaT];exact zcS
 |n+1,p,acc=>by
  have e:∀f:Int→Rr α,zaT f (n+1) p acc=zal (f p) fun x=>zaT f n x.2 (acc++[x.1]):=fun f=>rfl
  rw[e,e]
  exact zam (hf p) fun x _=>zeI hf
theorem zv5 {p:Int}:Cut m p (zgK bs p) (zgK (bs.take m) p):=by
 have e:∀l,zgK l p=zal (zaU l p) fun c=>zal (zaW l c.2) fun n=>zal (zaW l n.2) fun r=> .ok (⟨c.1,n.1,r.1⟩,r.2):=fun l=>by kernel_rfl
 rw[e,e]
 exact zam (zcH hm) fun c _=>zam (zbk hm) fun n _=>zam (zbk hm) fun r _=>zcS
theorem zv6 (hb:BsOk bs) {p:Int}:Cut m p (zeU bs p) (zeU (bs.take m) p):=by
 have e:∀l,zeU l p=zal (zd7 l p) fun nm=>zal (zaU l nm.2) fun hd=>zal (zaW l hd.2) fun tk=>zal (za9 l tk.2 3) fun n=>zal (zg0 l n.1.toNat n.2 []) fun x=> .ok (⟨nm.1,hd.1,tk.1,x.1⟩,x.2):=fun l=>by kernel_rfl
 rw[e,e]
 refine zam (zmb hm hb) fun nm _=>zam (zcH hm) fun hd _=>zam (zbk hm) fun tk _=>zam (zeY hm) fun n _=> ?_
 simp only[zgk]
 exact zam (zeI fun q=>zcH hm) fun l _=>zcS
def zBV (bs:List Int) (n:Nat) (p:Int) (acc:List Grant):Rr (List Grant):=rOf (zbe bs n p acc)
omit hm in
theorem zgP {α β:Type} {x:α×Int×Int} {y:β×Int×Int} {z:β}:rOf (if x.2.2≠0 then(z,0,x.2.2)else y)=zal (rOf x) fun _=>rOf y:=by
 unfold rOf
 by_cases h:x.2.2=0
 ·simp[h]
 ·simp[h]
omit hm in
theorem zsS {α:Type} {c:Prop} [Decidable c] {x:α} {q:Int} {z:α}:rOf (if c then(z,0,4)else(x,q,0))=(if¬c then(.ok (x,q):Rr α)else .error 4):=by
 by_cases h:c
 ·simp[h,rOf]
 ·simp[h,rOf]
theorem zlc (hb:BsOk bs):∀{n:Nat} {p:Int} {acc:List Grant},Cut m p (rOf (zbe bs n p acc)) (rOf (zbe (bs.take m) n p acc))
 |0,p,acc=>by rw[zbe,zbe];exact zcS
 |n+1,p,acc=>by
  have e:∀l,rOf (zbe l (n+1) p acc)=(zal (zd7 l p) fun x=>zal (zaW l x.2) fun t=>rOf (zbe l n t.2 (acc++[⟨x.1,t.1⟩]))):=fun l=>by
   rw[zbe,zgP]
   show zal (zd7 l p) (fun _=>_)=_
   cases h:zd7 l p with
   |error e=>rfl
   |ok x=>
    obtain⟨h0,rfl⟩:=zcb h
    show rOf _=_
    rw[zgP]
    show zal (zaW l (zcq l p 12).2.1) (fun _=>_)=zal (zaW l (zcq l p 12).2.1) _
    cases h2:zaW l (zcq l p 12).2.1 with
    |error e=>rfl
    |ok t=>
     obtain⟨h3,rfl⟩:=zcb h2
     rfl
  rw[e,e]
  exact zam (zmb hm hb) fun x _=>zam (zbk hm) fun t _=>zlc hb
theorem zsU (hb:BsOk bs) {p:Int}:Cut m p (rOf (zdp bs p)) (rOf (zdp (bs.take m) p)):=by
 have e:∀l,rOf (zdp l p)=(zal (zaU l p) fun c=>zal (zaW l c.2) fun s=>zal (zaU l s.2) fun a=>zal (za9 l a.2 4) fun n=>zal (rOf (zbe l n.1.toNat n.2 [])) fun g=>if¬zbR ⟨c.1,s.1,a.1,g.1⟩=false then .ok (⟨c.1,s.1,a.1,g.1⟩,g.2)else .error 4):=fun l=>by
  rw[zdp,zgP]
  show zal (zaU l p) (fun _=>_)=_
  cases h:zaU l p with
  |error e=>rfl
  |ok c=>
   obtain⟨h0,rfl⟩:=zcb h
   show rOf _=_
   rw[zgP]
   show zal (zaW l (zbf l p).2.1) (fun _=>_)=zal (zaW l (zbf l p).2.1) _
   cases h2:zaW l (zbf l p).2.1 with
   |error e=>rfl
   |ok s=>
    obtain⟨h3,rfl⟩:=zcb h2
    show rOf _=_
    rw[zgP]
    generalize (zfj l (zbf l p).2.1)=s
    show zal (zaU l s.2.1) (fun _=>_)=zal (zaU l s.2.1) _
    cases h4:zaU l s.2.1 with
    |error e=>rfl
    |ok a=>
     obtain⟨h5,rfl⟩:=zcb h4
     show rOf _=_
     rw[zgP]
     generalize (zbf l s.2.1)=a
     show zal (zaU l a.2.1) (fun _=>_)=zal (za9 l a.2.1 4) _
     unfold za9
     cases h6:zaU l a.2.1 with
     |error e=>rfl
     |ok n=>
      obtain⟨h7,rfl⟩:=zcb h6
      simp only
      by_cases h8:(zbf l a.2.1).1>4
      ·rw[if_pos h8,if_pos h8];simp[rOf]
      ·rw[if_neg h8,if_neg h8,zgP]
       show zal (rOf (zbe l (zbf l a.2.1).1.toNat (zbf l a.2.1).2.1 [])) _=zal (rOf (zbe l (zbf l a.2.1).1.toNat (zbf l a.2.1).2.1 [])) _
       cases h9:rOf (zbe l (zbf l a.2.1).1.toNat (zbf l a.2.1).2.1 [])with
       |error e=>rfl
       |ok g=>
        obtain⟨h10,rfl⟩:=zcb h9
        exact zsS
 rw[e,e]
 exact zam (zcH hm) fun c _=>zam (zbk hm) fun s _=>zam (zcH hm) fun a _=>zam (zeY hm) fun n _=>zam (zlc hm hb) fun g _=>ziH
theorem zp9 (hb:BsOk bs) {p:Int}:Cut m p (zeV bs p) (zeV (bs.take m) p):=by
 have e:∀l,zeV l p=(zal (zaU l p) fun c=>zal (zaW l c.2) fun s=>zal (rOf (zdp l s.2)) fun r=>if¬answerB ⟨c.1,s.1,r.1⟩=false then .ok (⟨c.1,s.1,r.1⟩,r.2)else .error 4):=fun l=>by
  rw[zeV,zfq,zgP]
  show zal (zaU l p) (fun _=>_)=_
  cases h:zaU l p with
  |error e=>rfl
  |ok c=>
   obtain⟨h0,rfl⟩:=zcb h
   show rOf _=_
   rw[zgP]
   show zal (zaW l (zbf l p).2.1) (fun _=>_)=zal (zaW l (zbf l p).2.1) _
   cases h2:zaW l (zbf l p).2.1 with
   |error e=>rfl
   |ok s=>
    obtain⟨h3,rfl⟩:=zcb h2
    show rOf _=zal (rOf (zdp l (zfj l (zbf l p).2.1).2.1)) _
    rw[zgP]
    cases h4:rOf (zdp l (zfj l (zbf l p).2.1).2.1)with
    |error e=>rfl
    |ok r=>
     obtain⟨h5,rfl⟩:=zcb h4
     exact zsS
 rw[e,e]
 exact zam (zcH hm) fun c _=>zam (zbk hm) fun s _=>zam (zsU hm hb) fun r _=>ziH
theorem zsV (hb:BsOk bs) {p:Int}:Cut m p (zdN bs p) (zdN (bs.take m) p):=by
 have e:∀l,zdN l p=zal (zaW l p) fun t=>zal (zaW l t.2) fun u=>zal (zaW l u.2) fun k=>zal (za9 l k.2 5) fun n=>zal (zaT (zgK l) n.1.toNat n.2 []) fun ss=>zal (za9 l ss.2 4) fun n2=>
   zal (zaT (zeU l) n2.1.toNat n2.2 []) fun ls=>zal (za9 l ls.2 8) fun n3=>zal (zaT (zeV l) n3.1.toNat n3.2 []) fun ms=>
    if zdf ⟨t.1,u.1,k.1,ss.1,ls.1,ms.1⟩=true then .ok (⟨t.1,u.1,k.1,ss.1,ls.1,ms.1⟩,ms.2)else .error 4:=fun l=>by kernel_rfl
 rw[e,e]
 exact zam (zbk hm) fun t _=>zam (zbk hm) fun u _=>zam (zbk hm) fun k _=>zam (zeY hm) fun n _=>zam (zeI fun q=>zv5 hm) fun ss _=>
  zam (zeY hm) fun n2 _=>zam (zeI fun q=>zv6 hm hb) fun ls _=>zam (zeY hm) fun n3 _=>zam (zeI fun q=>zp9 hm hb) fun ms _=>ziH
theorem zv7 (hb:BsOk bs) {p:Int}:Cut m p (zgZ bs p) (zgZ (bs.take m) p):=by
 have e:∀l,zgZ l p=zal (zaW l p) fun d=>zal (zaW l d.2) fun v=>zal (zaW l v.2) fun k=>zal (zdN l k.2) fun s=>if zbt ⟨d.1,v.1,k.1,s.1⟩=true then .ok (⟨d.1,v.1,k.1,s.1⟩,s.2)else .error 4:=fun l=>by kernel_rfl
 rw[e,e]
 exact zam (zbk hm) fun d _=>zam (zbk hm) fun v _=>zam (zbk hm) fun l _=>zam (zsV hm hb) fun s _=>ziH
end
abbrev zAH:Prom:=⟨0,0,⟨0,0⟩,0,[]⟩
abbrev pk0 (k:Int):Pkt:=⟨k,0,0,0,zBT,zuj,zBS,zAH,sn0⟩
def znp (bs:List Int) (k p:Int):Rr Pkt:=
 if k=1 then zal (ziz bs p) fun x=> .ok ({pk0 k with req:=x.1},x.2)
 else if k=2 then zal (zeV bs p) fun x=> .ok ({pk0 k with ans:=x.1},x.2)
 else if k=3 then zal (zaW bs p) fun x=> .ok ({pk0 k with ballot:=x.1},x.2)
 else if k=4 then zal (zaW bs p) fun x=>zal (zgM bs x.2) fun y=> .ok ({pk0 k with ballot:=x.1,prom:=y.1},y.2)
 else if k=5 then zal (zaW bs p) fun x=>zal (zaW bs x.2) fun y=>zal (zgH bs y.2) fun z=> .ok ({pk0 k with ballot:=x.1,slot:=y.1,bat:=z.1},z.2)
 else if k=6 then zal (zaW bs p) fun x=>zal (zaW bs x.2) fun y=>zal (zgH bs y.2) fun z=> .ok ({pk0 k with ballot:=x.1,slot:=y.1,bat:=z.1},z.2)
 else if k=7 then zal (zaW bs p) fun x=>zal (zaW bs x.2) fun y=> .ok ({pk0 k with ballot:=x.1,done:=y.1},y.2)
 else if k=8 then zal (zaW bs p) fun x=> .ok ({pk0 k with done:=x.1},x.2)
 else if k=9 then zal (zgZ bs p) fun x=> .ok ({pk0 k with snap:=x.1},x.2)
 else .error 4
def zv3 (bs:List Int) (p:Int):Rr Pkt:=zal (zaU bs p) fun k=>znp bs k.1 k.2
def NZ {α:Type} (r:Rr α):Prop:=∀e,r= .error e→(e !=0)=true
theorem zv4 {α:Type} {x:α×Int×Int}:NZ (rOf x):=fun e h=>by simpa using(zcc h).2
theorem zAI {α:Type} {x:α×Int}:NZ (.ok x:Rr α):=fun e h=>by cases h
theorem zAJ {α:Type} {c:Prop} [Decidable c] {x:α×Int}:NZ (if c then(.ok x:Rr α)else .error 4):=fun e h=>by
 split at h
 ·cases h
 ·cases h;rfl
theorem zb3 {α β:Type} {r:Rr α} {k:α×Int→Rr β} (h1:NZ r) (h2:∀x,NZ (k x)):NZ (zal r k):=fun e h=>by
 cases r with
 |error z=>cases h;exact h1 _ rfl
 |ok x=>exact h2 x e h
theorem zma {α:Type} {f:Int→Rr α} (hf:∀p,NZ (f p)) {n:Nat} {p:Int} {acc:List α}:NZ (zaT f n p acc):=fun e h=>zh4 (fun p e h=>hf p e h) h
theorem zi7 {bs:List Int} {p m:Int}:NZ (za9 bs p m):=fun e h=>by
 rcases zgl h with hz|⟨_,_,_,rfl⟩
 ·simpa using(zcc hz).2
 ·rfl
theorem zyZ {bs:List Int} {p:Int}:NZ (zgZ bs p):=by
 have hn:∀p,NZ (zaW bs p):=fun p=>zv4
 have hb:∀p,NZ (zaU bs p):=fun p=>zv4
 have hs:∀p,NZ (zgK bs p):=fun p=>by
  rw[show zgK bs p=zal (zaU bs p) fun c=>zal (zaW bs c.2) fun n=>zal (zaW bs n.2) fun r=> .ok (⟨c.1,n.1,r.1⟩,r.2) from by kernel_rfl]
  exact zb3 (hb _) fun _=>zb3 (hn _) fun _=>zb3 (hn _) fun _=>zAI
 have hl:∀p,NZ (zeU bs p):=fun p=>by
  rw[show zeU bs p=zal (zd7 bs p) fun nm=>zal (zaU bs nm.2) fun hd=>zal (zaW bs hd.2) fun tk=>zal (za9 bs tk.2 3) fun n=>zal (zg0 bs n.1.toNat n.2 []) fun x=> .ok (⟨nm.1,hd.1,tk.1,x.1⟩,x.2) from by kernel_rfl]
  refine zb3 zv4 fun _=>zb3 (hb _) fun _=>zb3 (hn _) fun _=>zb3 zi7 fun _=>zb3 ?_ fun _=>zAI
  rw[zgk]
  exact zma hb
 have hst:∀p,NZ (zdN bs p):=fun p=>by
  rw[show zdN bs p=zal (zaW bs p) fun t=>zal (zaW bs t.2) fun u=>zal (zaW bs u.2) fun k=>zal (za9 bs k.2 5) fun n=>zal (zaT (zgK bs) n.1.toNat n.2 []) fun ss=>zal (za9 bs ss.2 4) fun n2=>zal (zaT (zeU bs) n2.1.toNat n2.2 []) fun ls=>zal (za9 bs ls.2 8) fun n3=>zal (zaT (zeV bs) n3.1.toNat n3.2 []) fun ms=>
   if zdf ⟨t.1,u.1,k.1,ss.1,ls.1,ms.1⟩=true then .ok (⟨t.1,u.1,k.1,ss.1,ls.1,ms.1⟩,ms.2)else .error 4 from by kernel_rfl]
  exact zb3 (hn _) fun _=>zb3 (hn _) fun _=>zb3 (hn _) fun _=>zb3 zi7 fun _=>zb3 (zma hs) fun _=>zb3 zi7 fun _=>zb3 (zma hl) fun _=>zb3 zi7 fun _=>zb3 (zma fun _=>zv4) fun _=>zAJ
 rw[show zgZ bs p=zal (zaW bs p) fun d=>zal (zaW bs d.2) fun v=>zal (zaW bs v.2) fun l=>zal (zdN bs l.2) fun s=>if zbt ⟨d.1,v.1,l.1,s.1⟩=true then .ok (⟨d.1,v.1,l.1,s.1⟩,s.2)else .error 4 from by kernel_rfl]
 exact zb3 (hn _) fun _=>zb3 (hn _) fun _=>zb3 (hn _) fun _=>zb3 (hst _) fun _=>zAJ
set_option maxHeartbeats 8000000 in
theorem zlb (bs:List Int) (p:Int) (h:BsOk bs) (hp:i64 p) (b:Bool) (y:Pkt×Int) (e:Int) (hy:znk b y e (zv3 bs p)):
  (b=true→CallOK prog 49 [.obj (rds bs p)] (fun r o=>zaN r [.agg (y.1.enc.map RO.d)]∧o=[rds bs y.2]))∧(b=false→zbZ prog 49 [.obj (rds bs p)] zAA):=by
 refine zhb func49 results49 ntmps49 call49 ?_
 simp only[f49,Option.getD]
 unfold zv3 at hy
 cases e1:zaU bs p with
 |error x=>
  rw[e1]at hy
  obtain⟨rfl,rfl⟩:=zaB hy
  have hr:=zkx bs _ h hp e1
  refine zL0 trivial ?_
  refine zp (rds bs p) (hr) ?_
  first|refine zs (I @zan @zab) ?_|exact zt (I @zan @zab)
 |ok k=>
 have he1:=zm3 bs _ h hp e1
 have p1:=zbp h e1
 rw[e1]at hy
 obtain⟨kv,kq⟩:=k
 have hy:znk b y e (znp bs kv kq):=hy
 simp only at he1 p1
 refine zL0 trivial ?_
 refine zj (he1) ?_
 rcases kinds kv with rfl|rfl|rfl|rfl|rfl|rfl|rfl|rfl|rfl|⟨k1,k2,k3,k4,k5,k6,k7,k8,k9⟩
 ·have hy:znk b y e (zal (ziz bs kq) fun x=> .ok ({pk0 1 with req:=x.1},x.2)):=hy
  have h1:=zoN bs kq h p1
  cases x1:ziz bs kq with
  |error er=>
   rw[x1]at hy
   obtain⟨rfl,rfl⟩:=zaB hy
   rw[x1]at h1;simp only[dOf]at h1;have hq:=zm5 x1
   refine zL trivial (h1) ?_
   refine zdJ (zfh _ hq) rfl ?_
   first|refine zs (I @zan @zab) ?_|exact zt (I @zan @zab)
  |ok x=>
  rw[x1]at hy
  obtain⟨rfl,rfl⟩:=zdX hy
  rw[x1]at h1;simp only[dOf]at h1
  repeat'(first|exact zC|refine zq @zdW ?_|refine zx (h1) ?_|refine zx (zc4) ?_|(apply zaa<;>intro hb)|(apply I;exact zI)|(apply I<;>intro hg))
  simp[zaN,zcC,zaQ,zaA,st0, -List.length_flatMap,zas,zaP,zaO,zax,zah,zaC]
 ·have hy:znk b y e (zal (zeV bs kq) fun x=> .ok ({pk0 2 with ans:=x.1},x.2)):=hy
  have h1:=zgb bs kq h p1
  cases x1:zeV bs kq with
  |error er=>
   rw[x1]at hy
   obtain⟨rfl,rfl⟩:=zaB hy
   have h9:=zcc x1;rw[h9.1]at h1;have hq:=h9.2;rw[←bne_iff_ne]at hq
   refine zL trivial (h1) ?_
   refine zdJ (zfh _ hq) rfl ?_
   first|refine zs (I @zan @zab) ?_|exact zt (I @zan @zab)
  |ok x=>
  rw[x1]at hy
  obtain⟨rfl,rfl⟩:=zdX hy
  obtain⟨h0,rfl⟩:=zcb x1;rw[h0]at h1
  repeat'(first|exact zC|refine zq @zdW ?_|refine zx (h1) ?_|refine zx (zc4) ?_|(apply zaa<;>intro hb)|(apply I;exact zI)|(apply I<;>intro hg))
  simp[zaN,zcC,zaQ,zaA,st0, -List.length_flatMap,zas,zaP,zaO,zax,zah,zaC]
 ·have hy:znk b y e (zal (zaW bs kq) fun x=> .ok ({pk0 3 with ballot:=x.1},x.2)):=hy
  cases xx:zaW bs kq with
  |error er=>
   rw[xx]at hy
   obtain⟨rfl,rfl⟩:=zaB hy
   have hr:=zbT bs _ h p1 xx
   refine zL0 trivial ?_
   refine zp (rds bs p) (hr) ?_
   first|refine zs (I @zan @zab) ?_|exact zt (I @zan @zab)
  |ok x=>
  rw[xx]at hy
  simp only[zal]at hy
  have hrx:=zcv bs _ h p1 xx
  have px:=zaw h xx
  refine zL0 trivial ?_
  refine zj (hrx) ?_
  obtain⟨rfl,rfl⟩:=zdX hy
  repeat'(first|exact zC|refine zq @zdW ?_|refine zx (zc4) ?_|(apply zaa<;>intro hb)|(apply I;exact zI)|(apply I<;>intro hg))
  simp[zaN,zcC,zaQ,zaA,st0, -List.length_flatMap,zas,zaP,zaO,zax,zah,zaC]
 ·have hy:znk b y e (zal (zaW bs kq) fun x=>zal (zgM bs x.2) fun y=> .ok ({pk0 4 with ballot:=x.1,prom:=y.1},y.2)):=hy
  cases xx:zaW bs kq with
  |error er=>
   rw[xx]at hy
   obtain⟨rfl,rfl⟩:=zaB hy
   have hr:=zbT bs _ h p1 xx
   refine zL0 trivial ?_
   refine zp (rds bs p) (hr) ?_
   first|refine zs (I @zan @zab) ?_|exact zt (I @zan @zab)
  |ok x=>
  rw[xx]at hy
  have hrx:=zcv bs _ h p1 xx
  have px:=zaw h xx
  refine zL0 trivial ?_
  refine zj (hrx) ?_
  cases xy:zgM bs x.2 with
  |error er=>
   have hy:znk b y e (zal (zgM bs x.2) fun y=> .ok ({pk0 4 with ballot:=x.1,prom:=y.1},y.2)):=hy
   rw[xy]at hy
   obtain⟨rfl,rfl⟩:=zaB hy
   have hr:=(zkz bs _ h px false (zAH,0) _ xy).2 rfl
   refine zL0 trivial ?_
   refine zp (rds bs p) (hr) ?_
   first|refine zs (I @zan @zab) ?_|exact zt (I @zan @zab)
  |ok z=>
  have hy:znk b y e (zal (zgM bs x.2) fun y=> .ok ({pk0 4 with ballot:=x.1,prom:=y.1},y.2)):=hy
  rw[xy]at hy
  have hry:=CallOK.nil ((zkz bs _ h px true z 0 xy).1 rfl)
  refine zL0 trivial ?_
  refine zj (hry) ?_
  obtain⟨rfl,rfl⟩:=zdX hy
  repeat'(first|exact zC|refine zq @zdW ?_|refine zx (zc4) ?_|(apply zaa<;>intro hb)|(apply I;exact zI)|(apply I<;>intro hg))
  simp[zaN,zcC,zaQ,zaA,st0, -List.length_flatMap,zas,zaP,zaO,zax,zah,zaC]
 ·have hy:znk b y e (zal (zaW bs kq) fun x=>zal (zaW bs x.2) fun w=>zal (zgH bs w.2) fun z=> .ok ({pk0 5 with ballot:=x.1,slot:=w.1,bat:=z.1},z.2)):=hy
  cases xx:zaW bs kq with
  |error er=>
   rw[xx]at hy
   obtain⟨rfl,rfl⟩:=zaB hy
   have hr:=zbT bs _ h p1 xx
   refine zL0 trivial ?_
   refine zp (rds bs p) (hr) ?_
   first|refine zs (I @zan @zab) ?_|exact zt (I @zan @zab)
  |ok x=>
  rw[xx]at hy
  simp only[zal]at hy
  have hrx:=zcv bs _ h p1 xx
  have px:=zaw h xx
  refine zL0 trivial ?_
  refine zj (hrx) ?_
  cases xw:zaW bs x.2 with
  |error er=>
   rw[xw]at hy
   obtain⟨rfl,rfl⟩:=zaB hy
   have hr:=zbT bs _ h px xw
   refine zL0 trivial ?_
   refine zp (rds bs p) (hr) ?_
   first|refine zs (I @zan @zab) ?_|exact zt (I @zan @zab)
  |ok w=>
  rw[xw]at hy
  simp only[zal]at hy
  have hrw:=zcv bs _ h px xw
  have pw:=zaw h xw
  refine zL0 trivial ?_
  refine zj (hrw) ?_
  cases xz:zgH bs w.2 with
  |error er=>
   rw[xz]at hy
   obtain⟨rfl,rfl⟩:=zaB hy
   have hr:=zky bs _ h pw xz
   refine zL0 trivial ?_
   refine zp (rds bs p) (hr) ?_
   first|refine zs (I @zan @zab) ?_|exact zt (I @zan @zab)
  |ok z=>
  rw[xz]at hy
  simp only[zal]at hy
  have hrz:=zm4 bs _ h pw xz
  have pz:=zh5 h xz
  refine zL0 trivial ?_
  refine zj (hrz) ?_
  obtain⟨rfl,rfl⟩:=zdX hy
  repeat'(first|exact zC|refine zq @zdW ?_|refine zx (zc4) ?_|(apply zaa<;>intro hb)|(apply I;exact zI)|(apply I<;>intro hg))
  simp[zaN,zcC,zaQ,zaA,st0, -List.length_flatMap,zas,zaP,zaO,zax,zah,zaC]
 ·have hy:znk b y e (zal (zaW bs kq) fun x=>zal (zaW bs x.2) fun w=>zal (zgH bs w.2) fun z=> .ok ({pk0 6 with ballot:=x.1,slot:=w.1,bat:=z.1},z.2)):=hy
  cases xx:zaW bs kq with
  |error er=>
   rw[xx]at hy
   obtain⟨rfl,rfl⟩:=zaB hy
   have hr:=zbT bs _ h p1 xx
   refine zL0 trivial ?_
   refine zp (rds bs p) (hr) ?_
   first|refine zs (I @zan @zab) ?_|exact zt (I @zan @zab)
  |ok x=>
  rw[xx]at hy
  simp only[zal]at hy
  have hrx:=zcv bs _ h p1 xx
  have px:=zaw h xx
  refine zL0 trivial ?_
  refine zj (hrx) ?_
  cases xw:zaW bs x.2 with
  |error er=>
   rw[xw]at hy
   obtain⟨rfl,rfl⟩:=zaB hy
   have hr:=zbT bs _ h px xw
   refine zL0 trivial ?_
   refine zp (rds bs p) (hr) ?_
   first|refine zs (I @zan @zab) ?_|exact zt (I @zan @zab)
  |ok w=>
  rw[xw]at hy
  simp only[zal]at hy
  have hrw:=zcv bs _ h px xw
  have pw:=zaw h xw
  refine zL0 trivial ?_
  refine zj (hrw) ?_
  cases xz:zgH bs w.2 with
  |error er=>
   rw[xz]at hy
   obtain⟨rfl,rfl⟩:=zaB hy
   have hr:=zky bs _ h pw xz
   refine zL0 trivial ?_
   refine zp (rds bs p) (hr) ?_
   first|refine zs (I @zan @zab) ?_|exact zt (I @zan @zab)
  |ok z=>
  rw[xz]at hy
  simp only[zal]at hy
  have hrz:=zm4 bs _ h pw xz
  have pz:=zh5 h xz
  refine zL0 trivial ?_
  refine zj (hrz) ?_
  obtain⟨rfl,rfl⟩:=zdX hy
  repeat'(first|exact zC|refine zq @zdW ?_|refine zx (zc4) ?_|(apply zaa<;>intro hb)|(apply I;exact zI)|(apply I<;>intro hg))
  simp[zaN,zcC,zaQ,zaA,st0, -List.length_flatMap,zas,zaP,zaO,zax,zah,zaC]
 ·have hy:znk b y e (zal (zaW bs kq) fun x=>zal (zaW bs x.2) fun w=> .ok ({pk0 7 with ballot:=x.1,done:=w.1},w.2)):=hy
  cases xx:zaW bs kq with
  |error er=>
   rw[xx]at hy
   obtain⟨rfl,rfl⟩:=zaB hy
   have hr:=zbT bs _ h p1 xx
   refine zL0 trivial ?_
   refine zp (rds bs p) (hr) ?_
   first|refine zs (I @zan @zab) ?_|exact zt (I @zan @zab)
  |ok x=>
  rw[xx]at hy
  simp only[zal]at hy
  have hrx:=zcv bs _ h p1 xx
  have px:=zaw h xx
  refine zL0 trivial ?_
  refine zj (hrx) ?_
  cases xw:zaW bs x.2 with
  |error er=>
   rw[xw]at hy
   obtain⟨rfl,rfl⟩:=zaB hy
   have hr:=zbT bs _ h px xw
   refine zL0 trivial ?_
   refine zp (rds bs p) (hr) ?_
   first|refine zs (I @zan @zab) ?_|exact zt (I @zan @zab)
  |ok w=>
  rw[xw]at hy
  simp only[zal]at hy
  have hrw:=zcv bs _ h px xw
  have pw:=zaw h xw
  refine zL0 trivial ?_
  refine zj (hrw) ?_
  obtain⟨rfl,rfl⟩:=zdX hy
  repeat'(first|exact zC|refine zq @zdW ?_|refine zx (zc4) ?_|(apply zaa<;>intro hb)|(apply I;exact zI)|(apply I<;>intro hg))
  simp[zaN,zcC,zaQ,zaA,st0, -List.length_flatMap,zas,zaP,zaO,zax,zah,zaC]
 ·have hy:znk b y e (zal (zaW bs kq) fun x=> .ok ({pk0 8 with done:=x.1},x.2)):=hy
  cases xx:zaW bs kq with
  |error er=>
   rw[xx]at hy
   obtain⟨rfl,rfl⟩:=zaB hy
   have hr:=zbT bs _ h p1 xx
   refine zL0 trivial ?_
   refine zp (rds bs p) (hr) ?_
   first|refine zs (I @zan @zab) ?_|exact zt (I @zan @zab)
  |ok x=>
  rw[xx]at hy
  simp only[zal]at hy
  have hrx:=zcv bs _ h p1 xx
  have px:=zaw h xx
  refine zL0 trivial ?_
  refine zj (hrx) ?_
  obtain⟨rfl,rfl⟩:=zdX hy
  repeat'(first|exact zC|refine zq @zdW ?_|refine zx (zc4) ?_|(apply zaa<;>intro hb)|(apply I;exact zI)|(apply I<;>intro hg))
  simp[zaN,zcC,zaQ,zaA,st0, -List.length_flatMap,zas,zaP,zaO,zax,zah,zaC]
 ·have hy:znk b y e (zal (zgZ bs kq) fun x=> .ok ({pk0 9 with snap:=x.1},x.2)):=hy
  have h1:=zkR bs kq h p1
  cases x1:zgZ bs kq with
  |error er=>
   rw[x1]at hy
   obtain⟨rfl,rfl⟩:=zaB hy
   have hq:=zyZ _ x1;unfold dSn at h1;rw[x1]at h1;simp only at h1
   refine zL trivial (h1) ?_
   refine zdJ (zfh _ hq) rfl ?_
   first|refine zs (I @zan @zab) ?_|exact zt (I @zan @zab)
  |ok x=>
  rw[x1]at hy
  obtain⟨rfl,rfl⟩:=zdX hy
  unfold dSn at h1;rw[x1]at h1;simp only at h1
  repeat'(first|exact zC|refine zq @zdW ?_|refine zx (h1) ?_|refine zx (zc4) ?_|(apply zaa<;>intro hb)|(apply I;exact zI)|(apply I<;>intro hg))
  simp[zaN,zcC,zaQ,zaA,st0, -List.length_flatMap,zas,zaP,zaO,zax,zah,zaC]
 ·have hz:znp bs kv kq= .error 4:=by
   simp only[beq_eq_false_iff_ne,ne_eq]at k1 k2 k3 k4 k5 k6 k7 k8 k9
   unfold znp
   simp only[k1,k2,k3,k4,k5,k6,k7,k8,k9,if_false]
  rw[hz]at hy
  obtain⟨rfl,rfl⟩:=zaB hy
  exact zW0 (I k1 (I k2 (I k3 (I k4 (I k5 (I k6 (I k7 (I k8 (I k9 (I @zan @zab))))))))))
theorem zk9 (a b:List Int) (ha:a.length<2^40) (hb:b.length<2^40):CallOK prog 50 [.f (al a.length (zad a)), .f (al b.length (zad b))] (fun r o=>r=[rb ((strOf a).toList==(strOf b).toList)]∧o=[]):=by
 refine zh func50 results50 ntmps50 call50 ?_
 simp only[f50,Option.getD]
 refine zL0 (I @zcN @zau) ?_
 rfl
theorem zla (a:List Int):(strOf a).toList=a.map fun n=>UInt8.ofNat n.toNat:=by
 rw[zcE];rfl
theorem zsP {x y:Int} (hx:zav x) (hy:zav y) (h:UInt8.ofNat x.toNat=UInt8.ofNat y.toNat):x=y:=by
 unfold zav at hx hy
 have:=congrArg UInt8.toNat h
 simp only[UInt8.toNat_ofNat']at this
 omega
theorem zsQ:∀{a b:List Int},(∀x∈a,zav x)→(∀x∈b,zav x)→(a.map fun n=>UInt8.ofNat n.toNat)=(b.map fun n=>UInt8.ofNat n.toNat)→a=b
 |[],[],_,_,_=>rfl
 |[],_::_,_,_,h=>by simp at h
 |_::_,[],_,_,h=>by simp at h
 |x::a,y::b,ha,hb,h=>by
  simp only[List.map_cons,List.cons.injEq]at h
  rw[zsP (ha x (by simp)) (hb y (by simp)) h.1,zsQ (fun z hz=>ha z (by simp[hz])) (fun z hz=>hb z (by simp[hz])) h.2]
theorem str_eq {a b:List Int} (ha:∀x∈a,zav x) (hb:∀x∈b,zav x):((strOf a).toList==(strOf b).toList)=decide (a=b):=by
 rw[zla,zla,Bool.eq_iff_iff,beq_iff_eq,decide_eq_true_eq]
 exact⟨zsQ ha hb,fun h=>by rw[h]⟩
def szP (k:Nat):Nat:=if k=2 then 36 else 1
def zEX:List Value:=[.int .i64 0, .int .i64 0, .int .i64 0, .int .i64 0, .int .i64 0, .int .i64 0, .int .i64 0, .int .i64 0, .string .empty, .int .i64 0, .int .i64 0, .int .i64 0, .int .i64 0, .int .i64 0,zfC, .bool false, .int .i64 0, .int .i64 0, .int .i64 0, .int .i64 0,zfC, .int .i64 0, .int .i64 0, .int .i64 0, .int .i64 0, .int .i64 0,zfC, .int .i64 0, .int .i64 0, .int .i64 0, .int .i64 0, .int .i64 0, .int .i64 0,zfC,zfC,zfC]
def zsR:List C:=[di 0,di 0,di 0,di 0,di 0,di 0,di 0,di 0,dS .empty,di 0,di 0,di 0,di 0,di 0, .d (.v zfC),db false,di 0,di 0,di 0,di 0, .d (.v zfC),di 0,di 0,di 0,di 0,di 0, .d (.v zfC),di 0,di 0,di 0,di 0,di 0,di 0, .d (.v zfC), .d (.v zfC), .d (.v zfC)]
def nwP (x:Value) (k:Nat):List Value:=if k=2 then zEX else [codeOf x]
theorem zcB {l:List Value} {n:Nat} (h:l.length=n+1):∃a m,l=a::m∧m.length=n:=by
 cases l with
 |nil=>cases h
 |cons a m=>exact⟨a,m,rfl,by simpa using h⟩
theorem zv2:(prog.info? 84).bind (·.zero)=some (.agg #[.int .i64 0]):=by kernel_rfl
theorem zo7:zjS prog 48 [2,3] szP nwP (zkd 84):=by
 refine zfN zcV mixed (T:=Ty) func48 rfl rfl ntmps48 rfl rfl rfl rfl rfl rfl rfl (by decide) (by decide) (by decide) ?_
 rintro x ⟨n,rfl⟩ ls hl hs
 obtain⟨y,z,rfl⟩:∃y z,ls=[y,z]:=by
  match ls,hl with
  |[y,z],_=>exact⟨y,z,rfl⟩
 have h1:y.length=35+1:=hs 0 2 y rfl rfl
 obtain⟨g,rfl⟩:=zAx (hs 1 3 z rfl rfl)
 clear hl hs
 obtain⟨a0,y0,rfl,k0⟩:=zcB h1
 obtain⟨a1,y1,rfl,k1⟩:=zcB k0
 obtain⟨a2,y2,rfl,k2⟩:=zcB k1
 obtain⟨a3,y3,rfl,k3⟩:=zcB k2
 obtain⟨a4,y4,rfl,k4⟩:=zcB k3
 obtain⟨a5,y5,rfl,k5⟩:=zcB k4
 obtain⟨a6,y6,rfl,k6⟩:=zcB k5
 obtain⟨a7,y7,rfl,k7⟩:=zcB k6
 obtain⟨a8,y8,rfl,k8⟩:=zcB k7
 obtain⟨a9,y9,rfl,k9⟩:=zcB k8
 obtain⟨a10,y10,rfl,k10⟩:=zcB k9
 obtain⟨a11,y11,rfl,k11⟩:=zcB k10
 obtain⟨a12,y12,rfl,k12⟩:=zcB k11
 obtain⟨a13,y13,rfl,k13⟩:=zcB k12
 obtain⟨a14,y14,rfl,k14⟩:=zcB k13
 obtain⟨a15,y15,rfl,k15⟩:=zcB k14
 obtain⟨a16,y16,rfl,k16⟩:=zcB k15
 obtain⟨a17,y17,rfl,k17⟩:=zcB k16
 obtain⟨a18,y18,rfl,k18⟩:=zcB k17
 obtain⟨a19,y19,rfl,k19⟩:=zcB k18
 obtain⟨a20,y20,rfl,k20⟩:=zcB k19
 obtain⟨a21,y21,rfl,k21⟩:=zcB k20
 obtain⟨a22,y22,rfl,k22⟩:=zcB k21
 obtain⟨a23,y23,rfl,k23⟩:=zcB k22
 obtain⟨a24,y24,rfl,k24⟩:=zcB k23
 obtain⟨a25,y25,rfl,k25⟩:=zcB k24
 obtain⟨a26,y26,rfl,k26⟩:=zcB k25
 obtain⟨a27,y27,rfl,k27⟩:=zcB k26
 obtain⟨a28,y28,rfl,k28⟩:=zcB k27
 obtain⟨a29,y29,rfl,k29⟩:=zcB k28
 obtain⟨a30,y30,rfl,k30⟩:=zcB k29
 obtain⟨a31,y31,rfl,k31⟩:=zcB k30
 obtain⟨a32,y32,rfl,k32⟩:=zcB k31
 obtain⟨a33,y33,rfl,k33⟩:=zcB k32
 obtain⟨a34,y34,rfl,k34⟩:=zcB k33
 obtain⟨a35,y35,rfl,k35⟩:=zcB k34
 obtain rfl:=List.length_eq_zero_iff.1 k35
 refine⟨.tuple #[.agg #[.int .i64 n], .bool true], .tup [.agg [di n],ab true], ?_, ?_,rfl, ?_⟩
 ·intro w
  simp[Instr.typeAssert,Tryz.underlying84]
 ·intro cx w r β
  simp[ReA,ReAs,ReC,ReCs,Rd,flat]
 ·simp only[zbF,plainO,List.map_cons,List.map_nil]
  first|refine zs0 ?_|exact zt0
  refine zL0 trivial ?_
  rfl
theorem zrw:zpk prog 48 2:=by
 refine zeo zcV mixed (T:=Ty) func48 rfl rfl ntmps48 rfl rfl rfl rfl rfl rfl rfl (by decide) (y7:= .tuple #[.agg #[.int .i64 0], .bool false]) (V7:= .tup [.agg [di 0],ab false]) ?_ ?_ (by decide) rfl ?_
 ·intro w
  simp[Instr.typeAssert,Tryz.underlying84,zke zv2 w]
 ·intro cx w r β
  simp[ReA,ReAs,ReC,ReCs,Rd,flat]
 ·simp only[List.replicate]
  first|refine zs0 ?_|exact zt0
  exact zW0 trivial
def Fx {α:Type} (Q:α×Int→Prop) (r:Rr α):Prop:=∀y,r= .ok y→Q y
theorem zjx {α:Type} {Q:α×Int→Prop} {x:α×Int} (h:Q x):Fx Q (.ok x):=fun y hy=>by cases hy;exact h
theorem zbj {α β:Type} {Q:α×Int→Prop} {R:β×Int→Prop} {r:Rr α} {k:α×Int→Rr β} (h1:Fx Q r) (h2:∀x,Q x→Fx R (k x)):Fx R (zal r k):=fun y hy=>by
 cases r with
 |error e=>cases hy
 |ok x=>exact h2 x (h1 x rfl) y hy
theorem zBU {α:Type} {Q:α×Int→Prop} {c:Prop} [Decidable c] {x:α×Int} {e:Int} (h:c→Q x):Fx Q (if c then .ok x else .error e):=fun y hy=>by
 split at hy
 ·rename_i hc;cases hy;exact h hc
 ·cases hy
theorem zyW {bs:List Int} {p:Int}:Fx (fun y=>Small y.1.st) (zgZ bs p):=by
 rw[show zgZ bs p=zal (zaW bs p) fun d=>zal (zaW bs d.2) fun v=>zal (zaW bs v.2) fun l=>zal (zdN bs l.2) fun s=>if zbt ⟨d.1,v.1,l.1,s.1⟩=true then .ok (⟨d.1,v.1,l.1,s.1⟩,s.2)else .error 4 from by kernel_rfl]
 exact zbj (Q:=fun _=>True) (fun _ _=>trivial) fun _ _=>zbj (Q:=fun _=>True) (fun _ _=>trivial) fun _ _=>zbj (Q:=fun _=>True) (fun _ _=>trivial) fun _ _=>zbj (Q:=fun s=>Small s.1) (fun y hy=>zcr (zdE.1 (ziI hy))) fun _ hs=>zBU fun _=>hs
theorem zdz {n:Int} (h:0≤n∧n<4611686018427387904):i64 n:=by unfold i64;omega
theorem zgO {k:Int} (hk:i64 k):(pk0 k).ok:=⟨hk,zdy,zdy,zdy,⟨zdy,zdy,zdy,zdy,(by show(ByteArray.empty).size<2^62;decide)⟩,⟨by simp,by simp⟩,⟨zdy,zdy,zdy,zdy,by simp,by simp⟩,by simp,⟨zdy,zdy,zdy,zdy,zdy,by simp,by simp⟩,by simp,by simp,(show Small st0 from zvv)⟩
section
variable {bs:List Int} (h:BsOk bs)
include h
theorem zei {p:Int}:Fx (fun y=>i64 y.2∧0≤y.1∧y.1<4611686018427387904) (zaW bs p):=fun y hy=>⟨zaw h hy,zm6 h hy⟩
theorem zsN {p:Int}:Fx (fun y=>i64 y.2∧Batch.may y.1=true) (zgH bs p):=fun y hy=>by
 refine⟨zh5 h hy, ?_⟩
 unfold zgH at hy
 cases e1:zaU bs p with
 |error x=>rw[e1]at hy;cases hy
 |ok k=>
 rw[e1]at hy;simp only at hy
 split at hy
 ·cases hy
 split at hy
 ·cases hy;rfl
 cases e2:zaT (zaW bs) 4 k.2 []with
 |error x=>rw[e2]at hy;cases hy
 |ok l=>
 rw[e2]at hy;simp only at hy
 cases e3:za9 bs l.2 3 with
 |error x=>rw[e3]at hy;cases hy
 |ok n=>
 rw[e3]at hy;simp only at hy
 cases e4:zaT (ziz bs) n.1.toNat n.2 []with
 |error x=>rw[e4]at hy;cases hy
 |ok rs=>
 rw[e4]at hy;simp only at hy
 split at hy
 ·rename_i hm;cases hy;exact hm
 ·cases hy
def zp7 (v:Vote):Prop:=(0≤v.slot∧v.slot<4611686018427387904)∧(0≤v.ballot∧v.ballot<4611686018427387904)∧Batch.may v.batch=true
theorem zyX {p:Int}:Fx (fun y=>i64 y.2∧zp7 y.1) (zgL bs p):=by
 rw[show zgL bs p=zal (zaW bs p) fun s=>zal (zaW bs s.2) fun b=>zal (zgH bs b.2) fun x=> .ok (⟨s.1,b.1,x.1⟩,x.2) from by kernel_rfl]
 exact zbj (zei h) fun s hs=>zbj (zei h) fun b hb=>zbj (zsN h) fun x hx=>zjx ⟨hx.1,hs.2,hb.2,hx.2⟩
structure PromR (p:Prom):Prop where
 src:0≤p.src∧p.src<256
 done:0≤p.done∧p.done<4611686018427387904
 view:0≤p.tip.view∧p.tip.view<4611686018427387904
 slot:0≤p.tip.slot∧p.tip.slot<4611686018427387904
 time:0≤p.time∧p.time<4611686018427387904
 len:p.votes.length<256
 votes:∀v∈p.votes,zp7 v
theorem zyY {p:Int}:Fx (fun y=>i64 y.2∧PromR y.1) (zgM bs p):=by
 rw[show zgM bs p=zal (zaU bs p) fun f=>zal (zaW bs f.2) fun d=>zal (zaW bs d.2) fun v=>zal (zaW bs v.2) fun s=>zal (zaW bs s.2) fun t=>zal (zaU bs t.2) fun n=>zal (zaT (zgL bs) n.1.toNat n.2 []) fun l=> .ok (⟨f.1,d.1,⟨v.1,s.1⟩,t.1,l.1⟩,l.2) from by kernel_rfl]
 have hb:∀p,Fx (fun y=>i64 y.2∧0≤y.1∧y.1<256) (zaU bs p):=fun p y hy=>⟨zbp h hy,zfK h hy⟩
 refine zbj (hb _) fun f hf=>zbj (zei h) fun d hd=>zbj (zei h) fun v hv=>zbj (zei h) fun s hs=>zbj (zei h) fun t ht=>zbj (hb _) fun n hn=> ?_
 refine zbj (Q:=fun l=>i64 l.2∧l.1.length<256∧∀v∈l.1,zp7 v) (fun l hl=> ?_) fun l hl=>zjx ⟨hl.1,hf.2,hd.2,hv.2,hs.2,ht.2,hl.2.1,hl.2.2⟩
 have:=zel (ok:=zp7) (fun p y hy=>zyX h y hy) hn.1 (fun _ hx=>by cases hx) hl
 refine⟨this.1, ?_,this.2.2⟩
 have h3:=this.2.1
 simp only[List.length_nil]at h3
 omega
theorem zAG {p:Int}:Fx (fun y=>y.1.ok) (zv3 bs p):=by
 have hb:∀p,Fx (fun y=>i64 y.2∧0≤y.1∧y.1<256) (zaU bs p):=fun p y hy=>⟨zbp h hy,zfK h hy⟩
 refine zbj (hb _) fun k hk=> ?_
 have h0:=zgO (k:=k.1) (by unfold i64;omega)
 have hbo:∀b,Batch.may b=true→b.ok∧b.reqs.length<2^30:=fun b hb=>⟨zrl hb,by have:=(zeC hb).1;omega⟩
 unfold znp
 split
 ·exact zbj (Q:=fun x=>Req.may x.1=true) (fun y hy=>(ziy h hy).2) fun x hx=>zjx {h0 with req:=(zeD hx).2.2.2}
 split
 ·exact zbj (Q:=fun x=>zcu x.1.reply) (fun y hy=>(zjA h hy).2) fun x hx=>zjx {h0 with ans:=hx}
 split
 ·exact zbj (zei h) fun x hx=>zjx {h0 with b:=zdz hx.2}
 split
 ·refine zbj (zei h) fun x hx=>zbj (zyY h) fun y hy=>zjx {h0 with b:=zdz hx.2,prom:= ?_,pl:= ?_,vl:= ?_}
  ·have m:=hy.2
   have hsr:i64 y.1.src:=by have:=m.src;unfold i64;omega
   have hvl:y.1.votes.length<2^42:=by have:=m.len;omega
   exact⟨hsr,zdz m.done,zdz m.view,zdz m.slot,zdz m.time,hvl,fun v hv=>⟨zdz (m.votes v hv).1,zdz (m.votes v hv).2.1,(hbo _ (m.votes v hv).2.2).1⟩⟩
  ·have:=hy.2.len;show y.1.votes.length<_;omega
  ·exact fun v hv=>(hbo _ (hy.2.votes v hv).2.2).2
 split
 ·exact zbj (zei h) fun x hx=>zbj (zei h) fun w hw=>zbj (zsN h) fun z hz=>zjx {h0 with b:=zdz hx.2,s:=zdz hw.2,bat:=(hbo _ hz.2).1,bl:=(hbo _ hz.2).2}
 split
 ·exact zbj (zei h) fun x hx=>zbj (zei h) fun w hw=>zbj (zsN h) fun z hz=>zjx {h0 with b:=zdz hx.2,s:=zdz hw.2,bat:=(hbo _ hz.2).1,bl:=(hbo _ hz.2).2}
 split
 ·exact zbj (zei h) fun x hx=>zbj (zei h) fun w hw=>zjx {h0 with b:=zdz hx.2,d:=zdz hw.2}
 split
 ·exact zbj (zei h) fun x hx=>zjx {h0 with d:=zdz hx.2}
 split
 ·exact zbj zyW fun x hx=>zjx {h0 with snap:=hx}
 ·intro y hy;cases hy
end
def zBE (p:Pkt):List Int:=if ziV p=true then pkI p else []
def zsO (bs:List Int):Pkt×Int:=if bs.length>2048 then(pk0 0,3)else match zv3 bs 0 with
 | .error _=>(pk0 0,4)
 | .ok y=>if(y.2 !=(bs.length:Int)|| !((strOf (zBE y.1)).toList==(strOf bs).toList))=true then(pk0 0,4)else(y.1,0)
theorem zk8 (e:Int):zo2 39 [2,3] (nwP (zfE 84 e))=⟨(dq2 (.one (.ptr ⟨2,0,0⟩ 0):: .one (.ptr ⟨3,0,0⟩ 0)::zy5 [])),[(2,{next:=1,l:=[obq 0 (zsR)]}),(3,{next:=1,l:=[obq 0 [di e]]})]⟩:=rfl
theorem zej:zsR=[di 0,di 0,di 0,di 0,di 0,di 0,di 0,di 0,dS .empty,di 0,di 0,di 0,di 0,di 0, .d (.v zfC),db false,di 0,di 0,di 0,di 0, .d (.v zfC),di 0,di 0,di 0,di 0,di 0, .d (.v zfC),di 0,di 0,di 0,di 0,di 0,di 0, .d (.v zfC), .d (.v zfC), .d (.v zfC)]:=rfl
set_option maxHeartbeats 4000000 in
theorem zfI (bs:List Int) (h:BsOk bs) (hl:bs.length<2^30):
  CallOK prog 15 [.f (asl bs.length (zad bs))] (fun r o=>r=[.agg ((zsO bs).1.enc.map RO.d),ri (zsO bs).2]∧o=[]):=by
 refine CallOK.nil ?_
 refine zbM zcV mixed (T:=Ty) func15 rfl results15 ntmps15 call15 call48 (ks:=[2,3]) rfl rfl rfl rfl rfl rfl (by decide) (by decide)
  (xs:=[asl bs.length (zad bs)]) (sz:=szP) (nw:=nwP) zrw zo7 ⟨(asl bs.length (zad bs)::dd:: .one (.ptr ⟨2,0,0⟩ 0):: .one (.ptr ⟨3,0,0⟩ 0)::zy5 []),[(2,{next:=1,l:=[obq 0 (zsR),none,none,none,none,none,none,none,none,none,none,none,none,none,none,none,none,none,none,none,none,none,none,none,none,none,none,none,none,none,none,none,none,none,none,none,none]}),(3,{next:=1,l:=[obq 0 [di 0],none]})]⟩ ?_ ?_ rfl ?_
 ·simp only[List.map_cons,List.map_nil]
  refine zL0 trivial ?_
  exact fun _ _ _ h=>h
 ·exact⟨⟨_,rfl,rfl,rfl,rfl,rfl⟩,⟨_,rfl,rfl,rfl,rfl,rfl⟩,trivial⟩
 ·unfold zsO
  rw[zej]
  cases hlen:decide ((bs.length:Int)>2048)
  ·rw[if_neg (by simp at hlen;omega)]
   cases e1:zv3 bs 0 with
   |error e=>
    have hr:=(zlb bs 0 h zdy false (pk0 0,0) e e1).2 rfl
    refine zL0 hlen ?_
    refine zp (rds bs 0) (hr) ?_
    simp only[za4,za5,za3,zbg]
    refine⟨⟨_,rfl⟩,rfl,⟨⟨_,rfl,rfl,rfl,rfl,rfl⟩,⟨_,rfl,rfl,rfl,rfl,rfl⟩,trivial⟩, ?_⟩
    rw[zk8,zej]
    first|refine zs0 ?_|exact zt0
    simp[zaN,zcC,zaQ,zaA,st0]
   |ok y=>
   have hr:=CallOK.nil ((zlb bs 0 h zdy true y 0 e1).1 rfl)
   have hok:=zAG h y e1
   refine zL0 hlen ?_
   refine zj (hr) ?_
   have hbl:bs.length<2^40:=by omega
   cases hm:ziV y.1
   ·have hp:=zdT y.1 hok hm
    have he:=zk9 [] bs (by simp) hbl
    simp only[zBE,hm,Bool.false_eq_true,if_false]
    cases hc:(y.2 !=(bs.length:Int))
    ·cases hd:((strOf ([])).toList==(strOf bs).toList)
     ·refine zL (I hc hd) (I (hp) (he)) ?_
      simp only[za4,za5,za3,zbg]
      refine⟨⟨_,rfl⟩,rfl,⟨⟨_,rfl,rfl,rfl,rfl,rfl⟩,⟨_,rfl,rfl,rfl,rfl,rfl⟩,trivial⟩, ?_⟩
      rw[zk8,zej]
      first|refine zs0 ?_|exact zt0
      simp[zaN,zcC,zaQ,zaA,st0]
     ·repeat'(first|exact zC|refine zq (I hc (I hd @zgr)) ?_|refine zx (hp) ?_|refine zx (he) ?_|(apply zaa<;>intro hb)|(apply I;exact zI)|(apply I<;>intro hg))
      simp[zaN,zcC,zaQ,zaA, -List.length_flatMap,zas,zaP,zaO,zax,zah,zaC]
    ·refine zL hc (hp) ?_
     simp only[za4,za5,za3,zbg]
     refine⟨⟨_,rfl⟩,rfl,⟨⟨_,rfl,rfl,rfl,rfl,rfl⟩,⟨_,rfl,rfl,rfl,rfl,rfl⟩,trivial⟩, ?_⟩
     rw[zk8,zej]
     first|refine zs0 ?_|exact zt0
     simp[zaN,zcC,zaQ,zaA,st0]
   ·have hp:=zgg y.1 hok hm
    have hl9:=zkD hm
    have he:=zk9 (pkI y.1) bs (by rw[pkI,List.length_append,List.length_singleton];omega) hbl
    simp only[zBE,hm,if_true]
    cases hc:(y.2 !=(bs.length:Int))
    ·cases hd:((strOf (pkI y.1)).toList==(strOf bs).toList)
     ·refine zL (I hc (I hd @zau)) (I (hp) (he)) ?_
      simp only[za4,za5,za3,zbg]
      refine⟨⟨_,rfl⟩,rfl,⟨⟨_,rfl,rfl,rfl,rfl,rfl⟩,⟨_,rfl,rfl,rfl,rfl,rfl⟩,trivial⟩, ?_⟩
      rw[zk8,zej]
      first|refine zs0 ?_|exact zt0
      simp[zaN,zcC,zaQ,zaA,st0]
     ·repeat'(first|exact zC|refine zq (I hc (I hd (I @zau @zgr))) ?_|refine zx (hp) ?_|refine zx (he) ?_|(apply zaa<;>intro hb)|(apply I;exact zI)|(apply I<;>intro hg))
      simp[zaN,zcC,zaQ,zaA, -List.length_flatMap,zas,zaP,zaO,zax,zah,zaC]
    ·refine zL (I hc @zau) (hp) ?_
     simp only[za4,za5,za3,zbg]
     refine⟨⟨_,rfl⟩,rfl,⟨⟨_,rfl,rfl,rfl,rfl,rfl⟩,⟨_,rfl,rfl,rfl,rfl,rfl⟩,trivial⟩, ?_⟩
     rw[zk8,zej]
     first|refine zs0 ?_|exact zt0
     simp[zaN,zcC,zaQ,zaA,st0]
  ·rw[if_pos (by simp at hlen;omega)]
   refine zL0 hlen ?_
   simp only[za4,za5,za3,zbg]
   refine⟨⟨_,rfl⟩,rfl,⟨⟨_,rfl,rfl,rfl,rfl,rfl⟩,⟨_,rfl,rfl,rfl,rfl,rfl⟩,trivial⟩, ?_⟩
   rw[zk8,zej]
   first|refine zs0 ?_|exact zt0
   simp[zaN,zcC,zaQ,zaA,st0]
abbrev exP:Pkt:={pk0 8 with done:=1}
theorem zp6:exP.ok:=⟨by unfold i64;decide,zdy,zdy,by unfold i64;decide,⟨zdy,zdy,zdy,zdy,(by show(ByteArray.empty).size<2^62;decide)⟩,⟨by simp,by simp⟩,⟨zdy,zdy,zdy,zdy,by simp,by simp⟩,by simp,⟨zdy,zdy,zdy,zdy,zdy,by simp,by simp⟩,by simp,by simp,(show Small st0 from zvv)⟩
theorem zsL:ziV exP=true:=by kernel_rfl
theorem zsM:pkI exP=[8,0,0,0,0,0,0,0,1]:=by kernel_rfl
theorem zyT:zsO [8,0,0,0,0,0,0,0,1]=(exP,0):=by kernel_rfl
theorem zyU:zsO []=(pk0 0,4):=by kernel_rfl
theorem zv0:exP.lent=[di 8,di 0,di 0,di 1,di 0,di 0,di 0,di 0,dS .empty,di 0,di 0,di 0,di 0,di 0, .lent 0 [],db false,di 0,di 0,di 0,di 0, .lent 0 [],di 0,di 0,di 0,di 0,di 0, .lent 0 [],di 0,di 0,di 0,di 0,di 0,di 0, .lent 0 [], .lent 0 [], .lent 0 []]:=rfl
theorem zyV:exP.enc.map RO.d=[.d (iD 8), .d (iD 0), .d (iD 0), .d (iD 1), .d (iD 0), .d (iD 0), .d (iD 0), .d (iD 0), .d (sD .empty), .d (iD 0), .d (iD 0), .d (iD 0), .d (iD 0), .d (iD 0), .d (.sl 0 []), .d (bD false), .d (iD 0), .d (iD 0), .d (iD 0), .d (iD 0), .d (.sl 0 []), .d (iD 0), .d (iD 0), .d (iD 0), .d (iD 0), .d (iD 0), .d (.sl 0 []), .d (iD 0), .d (iD 0), .d (iD 0), .d (iD 0), .d (iD 0), .d (iD 0), .d (.sl 0 []), .d (.sl 0 []), .d (.sl 0 [])]:=rfl
theorem zv1:zyN exP exP=true:=by kernel_rfl
theorem zid:CallOK prog 10 [] (fun r o=>r=[rb true]∧o=[]):=by
 refine zh func10 results10 ntmps10 call10 ?_
 simp only[f10,Option.getD]
 have h1:=zgg exP zp6 zsL
 rw[zsM]at h1
 have h2:=zfI [8,0,0,0,0,0,0,0,1] ⟨by decide,by simp[zav]⟩ (by decide)
 rw[zyT]at h2
 have h3:=zfI [] ⟨by decide,by simp⟩ (by decide)
 rw[zyU]at h3
 have h4:=zpW exP exP zp6 zp6
 rw[zv1]at h4
 have h5:=zcy exP zp6
 rw[zsL]at h5
 rw[zv0]at h1 h4 h5
 rw[show(exP,(0:Int)).1.enc.map RO.d=_ from zyV]at h2
 have hb:bytesOf (zad [8,0,0,0,0,0,0,0,1])=some [8,0,0,0,0,0,0,0,1]:=rfl
 repeat'(first|exact zC|(with_reducible first|refine zbc 3 ?_|refine zaR 3 ?_|refine zaS 3 ?_)|refine zu0 ?_|(with_reducible first|refine zae _ _ ?_)|refine zx (h1) ?_|(apply zaa<;>intro hb)|(apply I;exact zI)|(apply I<;>intro hg))
 refine zbl (zbr (Gh.sealV 2 (x:= .own ⟨2,1,0⟩ 0 9) (d:= .sl 9 (zad [8,0,0,0,0,0,0,0,1])) rfl (by simp only[zY,Nat.reduceSub,Nat.reduceEqDiff,Nat.reduceAdd,Nat.reduceMul,Nat.reduceLeDiff,Nat.reduceLT,Nat.reduceBEq,reduceCtorEq];rfl)) ?_)
 refine zL hb (I (h2) (I (h3) (I (h4) (h5)))) ?_
 rw[zcE,zcE]
 rfl
abbrev zEW (n i:Nat) (f:Int):List D:=(List.replicate i (uD f))++List.replicate (n - i) (uD 0)
theorem zbD {n:Int} (h:zav n):u8 n:=⟨h.1,by have:=h.2;omega⟩
theorem zb9 {ns:List Int} (h:∀x∈ns,zav x) (k:Nat):zav (ns.getD k 0):=by
 rcases Nat.lt_or_ge k ns.length with hk|hk
 ·exact zfs hk h
 ·rw[List.getD_eq_getElem?_getD,List.getElem?_eq_none hk];exact⟨by decide,by decide⟩
def fv5 (ns:List Int) (i k:Nat):Int:=if k<i then ns.getD k 0 else 0
abbrev n5 (ns:List Int):List RO:=[.d (uD (ns.getD 0 0)), .d (uD (ns.getD 1 0)), .d (uD (ns.getD 2 0)), .d (uD (ns.getD 3 0)), .d (uD (ns.getD 4 0))]
theorem zvY (ns:List Int) (hl:ns.length<2^60):CallOK prog 57 [.f (al ns.length (zad ns))] (fun r o=>r=[.agg (n5 ns)]∧o=[]):=by
 refine zh func57 results57 ntmps57 call57 ?_
 simp only[f57,Option.getD]
 refine zL0 trivial ?_
 refine zaf (τ:=Nat) (fun i=>⟨(al ns.length (zad ns)::dd::ptq 2::ptq 3::ai i::zy1 []),[(2,⟨2,[obq 1 [.d (uD 0), .d (uD 0), .d (uD 0), .d (uD 0), .d (uD 0)],none,none,none,none,none]⟩),(3,⟨2,[obq 1 [.d (uD (fv5 ns i 0)), .d (uD (fv5 ns i 1)), .d (uD (fv5 ns i 2)), .d (uD (fv5 ns i 3)), .d (uD (fv5 ns i 4))],none,none,none,none,none]⟩)]⟩)
  (fun i=>i≤ns.length∧i≤5) (fun _=>()) (fun i=>5 - i) 0
  (Gh.canon [2,3] [] [] zK rfl rfl) ⟨Nat.zero_le _,Nat.zero_le _⟩ ?_
 intro i ⟨hi0,hi5⟩ hF K hK
 cases hc:(decide ((i:Int)<ns.length)&&decide ((i:Int)<5))
 ·have he:∀k,k<5→fv5 ns i k=ns.getD k 0:=fun k hk=>by
   unfold fv5
   split
   ·rfl
   ·have hge:ns.length≤k:=by
     simp only[Bool.and_eq_false_iff,decide_eq_false_iff_not]at hc
     omega
    rw[List.getD_eq_getElem?_getD,List.getElem?_eq_none hge];rfl
  exact zW0 (I hc (I (he 0 (by omega)) (I (he 1 (by omega)) (I (he 2 (by omega)) (I (he 3 (by omega)) (he 4 (by omega)))))))
 ·have hi:i<ns.length∧i<5:=by simp only[Bool.and_eq_true,decide_eq_true_eq]at hc;omega
  have hat:=zdQ hi.1
  have hw:IntKind.i64.wrap ((i:Int)+1)=((i+1:Nat):Int):=zai hi.1 (by omega)
  obtain⟨j,hj⟩:∃j,i+1=j:=⟨_,rfl⟩
  rw[hj]at hw
  rcases(show i=0∨i=1∨i=2∨i=3∨i=4 by omega)with rfl|rfl|rfl|rfl|rfl
  all_goals
   refine zL0 (I hc (I hat @za8)) ?_
   have hk:=fun g=>hK g j
   subst hj
   exact hk _ (Gh.canon [2,3] [] [] (zk hw) rfl rfl) ⟨by omega,by omega⟩ rfl (by omega)
def nm5 (k:Nat):ByteArray:=if k=0 then⟨#[97]⟩else if k=1 then⟨#[98]⟩else if k=2 then⟨#[107,101,121,45,49]⟩else if k=3 then⟨#[108,111,99,107]⟩else⟨#[120]⟩
def zhm (ns:List Int):Nat→Nat→List Grant→List Grant
 |0,_,acc=>acc
 |f+1,i,acc=>if(decide (i<ns.length)&&decide (acc.length<4))=true then(if ns.getD i 0 % 2=1 then zhm ns f (i+1) (acc++[⟨nm5 (i - 3),1+ns.getD i 0⟩])else zhm ns f (i+1) acc)else acc
def zvZ (ns:List Int):Reply:=if ns.length>2 then⟨ns.getD 0 0 % 13,ns.getD 1 0 % 5,ns.getD 2 0 % 4,if ns.getD 1 0 % 5>0 then zhm ns 5 3 []else []⟩else⟨0,0,0,[]⟩
theorem ziX {n m:Int} (h:zav n) (hm:0<m):n.tmod m=n % m:=Int.tmod_eq_emod_of_nonneg h.1
abbrev zAE (r:Reply):RF:= .agg (r.enc.map RO.d)
theorem grants_take {l:List Grant}:(zaK l).take (l.length*2)=zaK l:=zc1 Grant.enc 2 (fun _=>rfl) l
theorem zAF {k:Nat} (hk:k<5):∃rest,List.drop k [C.d (sD ⟨#[97]⟩),C.d (sD ⟨#[98]⟩),C.d (sD ⟨#[107,101,121,45,49]⟩),C.d (sD ⟨#[108,111,99,107]⟩),C.d (sD ⟨#[120]⟩)]=C.d (sD (nm5 k))::rest:=by
 rcases(show k=0∨k=1∨k=2∨k=3∨k=4 by omega)with rfl|rfl|rfl|rfl|rfl<;>exact⟨_,rfl⟩
set_option maxHeartbeats 2000000 in
theorem zno (ns:List Int) (hl:ns.length<2^60) (hb:∀x∈ns,zav x) (c s a:Int) (L:List Grant) (hL:L=if s>0 then zhm ns 5 3 []else []) (x:Code)
  (hc:zgQ 6 (f109.body.getD .skip)=some x):
  awp Ty prog x ⟨(al ns.length (zad ns)::dd::ptq 2::ptq 3::zy3 (zec [])),[(2,⟨2,[obq 1 [di 0,di 0,di 0, .d (.v zfC)],none,none,none,none]⟩),(3,⟨2,[obq 1 [di c,di s,di a, .d (.v zfC)],none,none,none,none]⟩)]⟩ (zqB Ty [.cell 2 29] [] (fun q o=>zaN q [zAE ⟨c,s,a,L⟩]∧o=[])):=by
 simp only[f109,Option.getD,zgQ,Nat.reduceBEq,if_true,if_false,Bool.false_eq_true,Option.none_or,Option.some_or,Option.some.injEq]at hc
 subst hc
 refine zL0 trivial ?_
 refine zaf (τ:=Nat×List Grant) (fun t=>⟨(al ns.length (zad ns)::dd::ptq 2::ptq 3:: .one (.own ⟨4,1,1⟩ 0 5)::ai t.1::zAS (zec [])),[(2,⟨2,[obq 1 [di 0,di 0,di 0, .d (.v zfC)],none,none,none,none]⟩),(3,⟨2,[obq 1 [di c,di s,di a, .own ⟨3,4,1⟩ 0 t.2.length],none,none,none,roq 1 2 (zaK t.2)]⟩),(27,⟨2,[]⟩),(4,⟨2,[none,roq 1 1 ([sD ⟨#[97]⟩,sD ⟨#[98]⟩,sD ⟨#[107,101,121,45,49]⟩,sD ⟨#[108,111,99,107]⟩,sD ⟨#[120]⟩])]⟩),(69,⟨2,[]⟩),(70,⟨2,[]⟩)]⟩)
  (fun t=>3≤t.1∧t.1≤8∧t.2.length≤4) (fun t=>if s>0 then zhm ns (8 - t.1) t.1 t.2 else t.2) (fun t=>8 - t.1) (3,[])
  ((Gh.nilF 3 3 2 rfl).trans (Gh.canon [2,3,4] [69,70] [] zK rfl rfl)) ⟨Nat.le_refl _,by decide,by simp⟩ ?_
 intro⟨i,acc⟩ ⟨j1,j2,j3⟩ hF K hK
 simp only at j1 j2 j3 hF hK⊢
 cases hq:(((decide ((i:Int)<ns.length)&&decide ((i:Int)<8))&&decide (s>0))&&decide ((acc.length:Int)<4))
 ·have hz:L=acc:=by
   rw[hL]
   refine hF.symm.trans ?_
   split
   ·rename_i hs
    simp only[Bool.and_eq_false_iff,decide_eq_false_iff_not]at hq
    rcases Nat.lt_or_ge i 8 with h8|h8
    ·obtain⟨f,hf⟩:∃f,8 - i=f+1:=⟨8 - i - 1,by omega⟩
     rw[hf,zhm,if_neg]
     simp only[Bool.and_eq_true,decide_eq_true_eq]
     omega
    ·rw[show 8 - i=0 by omega,zhm]
   ·rfl
  rw[hz]
  repeat'(first|exact zC|refine zq (I hq @grants_take) ?_|(apply zaa<;>intro hb)|(apply I;exact zI)|(apply I<;>intro hg))
  simp[zaN,zcC,zaQ,zaA, -List.length_flatMap,zas]
 ·have hq2:=hq
  simp only[Bool.and_eq_true,decide_eq_true_eq]at hq2
  obtain⟨⟨⟨q1,q2⟩,q3⟩,q4⟩:=hq2
  have hi:i<ns.length:=by omega
  have hat:=zdQ hi
  have hv:=zb9 hb i
  have hm:=ziX (m:=2) hv (by decide)
  have hw:IntKind.i64.wrap ((i:Int)+1)=((i+1:Nat):Int):=zai hi (by omega)
  have hw3:IntKind.i64.wrap ((i:Int) - 3)=((i - 3:Nat):Int):=by rw[wrap64 (by omega) (by omega)];omega
  have hw1:IntKind.i64.wrap (1+ns.getD i 0)=1+ns.getD i 0:=wrap64 (by have:=hv.1;omega) (by have:=hv.2;omega)
  have hw0:IntKind.i64.wrap (ns.getD i 0)=ns.getD i 0:=wrap64 (by have:=hv.1;omega) (by have:=hv.2;omega)
  obtain⟨rest,hnm⟩:=zAF (k:=i - 3) (by omega)
  have hcl:(acc.length+1≤2^47)=True:=eq_true (by omega)
  have hst:zhm ns (8 - i) i acc=if ns.getD i 0 % 2=1 then zhm ns (8 - (i+1)) (i+1) (acc++[⟨nm5 (i - 3),1+ns.getD i 0⟩])else zhm ns (8 - (i+1)) (i+1) acc:=by
   obtain⟨f,hf⟩:∃f,8 - i=f+1:=⟨8 - i - 1,by omega⟩
   rw[hf,zhm,if_pos (by simp only[Bool.and_eq_true,decide_eq_true_eq];omega),show 8 - (i+1)=f by omega]
  rw[if_pos q3,hst]at hF
  cases hod:(ns.getD i 0 % 2==1)
  ·rw[if_neg (by simpa using hod)]at hF
   refine zL0 (I hq (I hat (I @za8 (I hm hod)))) ?_
   exact hK _ (i+1,acc) (Gh.canon [2,3,4] [] [] (zk hw) rfl rfl) ⟨by simp only;omega,by simp only;omega,j3⟩ (by simp only;rw[if_pos q3,if_pos q3,hst,if_neg (by simpa using hod)]) (by simp only;omega)
  ·refine zL0 (I hq (I hat (I @za8 (I hm (I hod (I hw3 (I hw1 (I hw0 (I hnm (I @grants_take (I @zas hcl))))))))))) ?_
   exact hK _ (i+1,acc++[⟨nm5 (i - 3),1+ns.getD i 0⟩]) (Gh.canon [2,3,4] [] [] (zk (I hw (I @List.length_append.{0} @List.length_singleton.{0}))) rfl (by simp only[List.length_append,List.length_singleton];rw[zfM];rfl)) ⟨by simp only;omega,by simp only;omega,by simp;omega⟩ (by simp only;rw[if_pos q3,if_pos q3,hst,if_pos (by simpa using hod)]) (by simp only;omega)
theorem zyS (ns:List Int) (hl:ns.length<2^60) (hbs:∀x∈ns,zav x):CallOK prog 109 [.f (al ns.length (zad ns))] (fun r o=>r=[zAE (zvZ ns)]∧o=[]):=by
 refine CallOK.nil ?_
 refine zh func109 results109 ntmps109 call109 ?_
 simp only[f109,Option.getD]
 have w0:∀k,IntKind.i64.wrap (ns.getD k 0)=ns.getD k 0:=fun k=>wrap64 (by have:=(zb9 hbs k).1;omega) (by have:=(zb9 hbs k).2;omega)
 have m0:=ziX (m:=13) (zb9 hbs 0) (by decide)
 have m1:=ziX (m:=5) (zb9 hbs 1) (by decide)
 have m2:=ziX (m:=4) (zb9 hbs 2) (by decide)
 cases h2:decide ((ns.length:Int)>2)
 ·have hz:zvZ ns=⟨0,0,0,[]⟩:=by rw[zvZ,if_neg (by simp at h2;omega)]
  rw[hz]
  repeat'(first|exact zC|(with_reducible first|refine zbc 6 ?_|refine zaR 6 ?_|refine zaS 6 ?_)|refine zu h2 ?_|(with_reducible first|refine zae _ _ ?_)|(apply zaa<;>intro hb)|(apply I;exact zI)|(apply I<;>intro hg))
  exact zs8 (Gh.canon [2,3] [] [] zK rfl rfl) (zno ns hl hbs 0 0 0 [] rfl _ rfl)
 ·have h3:3≤ns.length:=by simp at h2;omega
  have a0:=zdQ (l:=ns) (i:=0) (by omega)
  have a1:=zdQ (l:=ns) (i:=1) (by omega)
  have a2:=zdQ (l:=ns) (i:=2) (by omega)
  have l1:(1:Int)<ns.length:=by omega
  have l2:(2:Int)<ns.length:=by omega
  have hz:zvZ ns=⟨ns.getD 0 0 % 13,ns.getD 1 0 % 5,ns.getD 2 0 % 4,if ns.getD 1 0 % 5>0 then zhm ns 5 3 []else []⟩:=by rw[zvZ,if_pos (by omega)]
  rw[hz]
  have t1:Int.toNat 1=1:=rfl
  have t2:Int.toNat 2=2:=rfl
  repeat'(first|exact zC|(with_reducible first|refine zbc 6 ?_|refine zaR 6 ?_|refine zaS 6 ?_)|refine zv (I h2 (I a0 (I a1 (I a2 (I t1 (I t2 (I @za8 (I w0 (I m0 (I m1 m2)))))))))) ?_|(with_reducible first|refine zae _ _ ?_)|(apply zaa<;>intro hb)|(apply I;exact zJ)|(apply I<;>intro hg))
  exact zs8 (Gh.canon [2,3] [] [] zK rfl rfl) (zno ns hl hbs _ _ _ _ rfl _ rfl)
theorem zhk {n:Int} (h:zav n):within n=true:=by
 unfold zav at h
 rw[zdM]
 simp;omega
def zz:ByteArray:=⟨#[122,122]⟩
theorem zvR:((List.range 5).all fun k=>nameP (nm5 k)&&(List.range 5).all fun j=> !decide (j<k)||zeF (nm5 j) (nm5 k))=true:=by kernel_rfl
theorem zx0 {k:Nat} (hk:k<5):nameP (nm5 k)=true:=by
 have:=List.all_eq_true.1 zvR k (List.mem_range.2 hk)
 rw[Bool.and_eq_true]at this
 exact this.1
theorem zx1 {j k:Nat} (hk:k<5) (hj:j<k):zeF (nm5 j) (nm5 k)=true:=by
 have:=List.all_eq_true.1 zvR k (List.mem_range.2 hk)
 rw[Bool.and_eq_true]at this
 have:=List.all_eq_true.1 this.2 j (List.mem_range.2 (by omega))
 simpa[hj]using this
structure Gr5 (i:Nat) (l:List Grant):Prop where
 len:l.length≤4
 all:∀g∈l,∃k,k<i∧k<5∧g.name=nm5 k∧1≤g.token∧g.token≤256
 rise:l.Pairwise fun a b=>zeF a.name b.name=true
theorem zhj {ns:List Int} (hb:∀x∈ns,zav x):∀{f i:Nat} {acc:List Grant},3≤i→i+f≤8→Gr5 (i - 3) acc→Gr5 5 (zhm ns f i acc)
 |0,i,acc,h1,h2,h=>⟨h.len,fun g hg=>by obtain⟨k,a,b,c⟩:=h.all g hg;exact⟨k,b,b,c⟩,h.rise⟩
 |f+1,i,acc,h1,h2,h=>by
  have hn:Gr5 (i+1 - 3) acc:=⟨h.len,fun g hg=>by obtain⟨k,a,b,c⟩:=h.all g hg;exact⟨k,by omega,b,c⟩,h.rise⟩
  rw[zhm]
  split
  ·rename_i hc
   simp only[Bool.and_eq_true,decide_eq_true_eq]at hc
   split
   ·have hv:=zb9 hb i
    unfold zav at hv
    refine zhj hb (by omega) (by omega) ⟨by rw[List.length_append,List.length_singleton];omega,fun g hg=> ?_, ?_⟩
    ·rcases List.mem_append.1 hg with hg|hg
     ·exact hn.all g hg
     ·simp only[List.mem_singleton]at hg
      subst hg
      exact⟨i - 3,by omega,by omega,rfl,by simp only;omega,by simp only;omega⟩
    ·rw[List.pairwise_append]
     refine⟨h.rise,by simp,fun a ha b hb2=> ?_⟩
     simp only[List.mem_singleton]at hb2
     subst hb2
     obtain⟨k,q1,q2,q3,_⟩:=h.all a ha
     rw[q3]
     exact zx1 (by omega) q1
   ·exact zhj hb (by omega) (by omega) hn
  ·exact⟨h.len,fun g hg=>by obtain⟨k,a,b,c⟩:=h.all g hg;exact⟨k,b,b,c⟩,h.rise⟩
theorem zvS {l:List Grant} (h:Gr5 5 l):zbN (zcG l) 0 l=true:=by
 have hH:zbE=2305843009213693952:=rfl
 refine zcO.2 fun j hj=> ?_
 obtain⟨k,q1,q2,q3,q4,q5⟩:=h.all _ (List.getElem_mem hj)
 rw[Nat.zero_add,zcG,q3,zx0 q2,hH,←q3]
 have e1:decide (l[j].token<1)=false:=by simp;omega
 have e2:decide (l[j].token>2305843009213693952)=false:=by simp;omega
 rw[e1,e2]
 by_cases hz:j=0
 ·subst hz;simp
 ·have hp:zsg l j=l[j - 1].name:=by rw[zsg,List.getElem?_eq_getElem (by omega)];rfl
  have:=List.pairwise_iff_getElem.1 h.rise (j - 1) j (by omega) hj (by omega)
  rw[hp,this]
  simp
theorem zo1 {r:Reply} (h1:0≤r.code∧r.code≤12) (h2:0≤r.session∧r.session≤2305843009213693952) (h3:0≤r.ahead∧r.ahead≤3) (h4:r.held.length≤4) (h5:r.session=0→r.held.length=0) (h6:zbN (zcG r.held) 0 r.held=true):zbR r=true:=by
 have hH:zbE=2305843009213693952:=rfl
 have e1:decide (r.code<0)=false:=by simp;omega
 have e2:decide (r.code>12)=false:=by simp;omega
 have e3:decide (r.session<0)=false:=by simp;omega
 have e4:decide (r.session>2305843009213693952)=false:=by simp;omega
 have e5:decide (r.ahead<0)=false:=by simp;omega
 have e6:decide (r.ahead>3)=false:=by simp;omega
 have e7:decide ((r.held.length:Int)>4)=false:=by simp;omega
 have e8:((r.session==0)&&decide ((r.held.length:Int)>0))=false:=by
  by_cases hz:r.session=0
  ·have:=h5 hz
   rw[this];simp
  ·simp[hz]
 rw[zbR,h6,hH,e1,e2,e3,e4,e5,e6,e7,e8]
 rfl
theorem zx2 {ns:List Int} (hb:∀x∈ns,zav x):zbR (zvZ ns)=true∧(zvZ ns).held.length≤4:=by
 unfold zvZ
 split
 ·have b0:=zb9 hb 0
  have b1:=zb9 hb 1
  have b2:=zb9 hb 2
  unfold zav at b0 b1 b2
  have hH:zbE=2305843009213693952:=rfl
  split
  ·rename_i hs
   have g:=zhj hb (f:=5) (i:=3) (acc:=[]) (by omega) (by omega) ⟨by simp,by simp,by simp⟩
   exact⟨zo1 ⟨by simp only;omega,by simp only;omega⟩ ⟨by simp only;omega,by simp only;omega⟩ ⟨by simp only;omega,by simp only;omega⟩ g.len (fun hz=>by simp only at hz;omega) (zvS g),g.len⟩
  ·exact⟨zo1 ⟨by simp only;omega,by simp only;omega⟩ ⟨by simp only;omega,by simp only;omega⟩ ⟨by simp only;omega,by simp only;omega⟩ (by simp) (fun _=>rfl) rfl,by simp⟩
 ·exact⟨by decide,by simp⟩
def zx3 (c q:Int) (ns:List Int):Memo:=⟨c % 8,1+q % 40,zvZ ns⟩
theorem zAp (c q:Int) (ns:List Int) (hc:zav c) (hq:zav q) (hl:ns.length<2^60) (hb:∀x∈ns,zav x):CallOK prog 59 [.f (au c), .f (au q), .f (al ns.length (zad ns))] (fun r o=>r=[zuk (zx3 c q ns)]∧o=[]):=by
 refine zh func59 results59 ntmps59 call59 ?_
 simp only[f59,Option.getD]
 have h1:=zyS ns hl hb
 have m0:=ziX (m:=8) hc (by decide)
 have m1:=ziX (m:=40) hq (by decide)
 unfold zav at hc hq
 have w0:IntKind.i64.wrap c=c:=wrap64 (by omega) (by omega)
 have w1:IntKind.i64.wrap q=q:=wrap64 (by omega) (by omega)
 have w2:IntKind.i64.wrap (1+q % 40)=1+q % 40:=wrap64 (by omega) (by omega)
 refine zL (I w0 (I w1 (I m0 (I m1 w2)))) (h1) ?_
 rfl
theorem zrv {c q:Int} {ns:List Int} (hc:zav c) (hq:zav q) (hb:∀x∈ns,zav x):answerB (zx3 c q ns)=true:=by
 have hH:zbE=2305843009213693952:=rfl
 unfold zav at hc hq
 rw[answerB,zx3,(zx2 hb).1,hH]
 simp
 omega
end Go.Proofs.YtliimajkpggbhaaGreat
