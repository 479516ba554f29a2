import Derived.Test.YtliimajkpggbhaaGreatPD
namespace Go.Proofs.YtliimajkpggbhaaGreat
open Go.Pk
set_option maxRecDepth 100000
set_option linter.unusedSimpArgs false
set_option linter.unusedVariables false
abbrev zzv:Value:=zfv 84 4
theorem zcY:CallOK Tryz.prog 96 [.f (ai 0)] (fun r o=>r=[]∧o=[]):=by
 refine zh Tryz.func96 Tryz.results96 Tryz.ntmps96 Tryz.call96 ?_
 simp only[Tryz.f96,Option.getD]
 exact zW0 trivial
theorem ze8 (e:Int) (h:(e !=0)=true):zbW Tryz.prog 96 [.f (ai e)] zzv:=by
 refine zhy Tryz.func96 Tryz.ntmps96 Tryz.call96 ?_
 simp only[Tryz.f96,Option.getD]
 exact zW0 (I h @zab)
theorem zhQ {α:Type} {f:Int→Rr α} (hf:∀p e,f p= .error e→(e !=0)=true):∀{n:Nat} {p:Int} {acc:List α} {e:Int},za4 f n p acc= .error e→(e !=0)=true
 |0,p,acc,e,h=>by cases h
 |n+1,p,acc,e,h=>by
  rw[za4]at h
  cases hx:f p with
  |error x=>rw[hx]at h;cases h;exact hf _ _ hx
  |ok x=>rw[hx]at h;exact zhQ hf h
theorem zwp {bs:List Int} {p e:Int} (hy:zg4 bs p= .error e):(e !=0)=true:=by
 unfold zg4 at hy
 cases e1:zbt bs p with
 |error x=>rw[e1]at hy;cases hy;simpa using(zb6 e1).2
 |ok k=>
 rw[e1]at hy;simp only at hy
 split at hy
 ·cases hy;rfl
 split at hy
 ·cases hy
 cases e2:za4 (zbf bs) 4 k.2 []with
 |error x=>rw[e2]at hy;cases hy;exact zhQ (fun q z hz=>by simpa using(zb6 hz).2) e2
 |ok l=>
 rw[e2]at hy;simp only at hy
 cases e3:zbI bs l.2 3 with
 |error x=>
  rw[e3]at hy;cases hy
  rcases zga e3 with hz|⟨_,_,_,rfl⟩
  ·simpa using(zb6 hz).2
  ·rfl
 |ok n=>
 rw[e3]at hy;simp only at hy
 cases e4:za4 (zkd bs) n.1.toNat n.2 []with
 |error x=>rw[e4]at hy;cases hy;exact zhQ (fun q z hz=>zmw hz) e4
 |ok rs=>
 rw[e4]at hy;simp only at hy
 split at hy
 ·cases hy
 ·cases hy;rfl
theorem zmu (bs:List Int) (p:Int) (h:BsOk bs) (hp:i64 p) {y:Int×Int} (hy:zbt bs p= .ok y):
  CallOK Tryz.prog 89 [.obj (rds bs p)] (fun r o=>r=[ri y.1]∧o=[rds bs y.2]):=by
 obtain⟨h0,rfl⟩:=zdF hy
 refine zh Tryz.func89 Tryz.results89 Tryz.ntmps89 Tryz.call89 ?_
 simp only[Tryz.f89,Option.getD]
 have h1:=zdD bs p h hp
 rw[h0]at h1
 exact zW trivial (I (h1) (zcY))
theorem zka (bs:List Int) (p:Int) (h:BsOk bs) (hp:i64 p) {e:Int} (hy:zbt bs p= .error e):
  zbW Tryz.prog 89 [.obj (rds bs p)] zzv:=by
 obtain⟨h0,h2⟩:=zb6 hy
 have h2:(e !=0)=true:=by simpa using h2
 refine zhy Tryz.func89 Tryz.ntmps89 Tryz.call89 ?_
 simp only[Tryz.f89,Option.getD]
 have h1:=zdD bs p h hp
 rw[h0]at h1
 refine zL trivial (h1) ?_
 refine zdB (ze8 e h2) rfl ?_
 first|refine zs @zab ?_|exact zt @zab
theorem zcp (bs:List Int) (p:Int) (h:BsOk bs) (hp:i64 p) {y:Int×Int} (hy:zbf bs p= .ok y):
  CallOK Tryz.prog 92 [.obj (rds bs p)] (fun r o=>r=[ri y.1]∧o=[rds bs y.2]):=by
 obtain⟨h0,rfl⟩:=zdF hy
 refine zh Tryz.func92 Tryz.results92 Tryz.ntmps92 Tryz.call92 ?_
 simp only[Tryz.f92,Option.getD]
 have h1:=zfi bs p h hp
 rw[h0]at h1
 exact zW trivial (I (h1) (zcY))
theorem zbM (bs:List Int) (p:Int) (h:BsOk bs) (hp:i64 p) {e:Int} (hy:zbf bs p= .error e):
  zbW Tryz.prog 92 [.obj (rds bs p)] zzv:=by
 obtain⟨h0,h2⟩:=zb6 hy
 have h2:(e !=0)=true:=by simpa using h2
 refine zhy Tryz.func92 Tryz.ntmps92 Tryz.call92 ?_
 simp only[Tryz.f92,Option.getD]
 have h1:=zfi bs p h hp
 rw[h0]at h1
 refine zL trivial (h1) ?_
 refine zdB (ze8 e h2) rfl ?_
 first|refine zs @zab ?_|exact zt @zab
theorem zmv (bs:List Int) (p:Int) (h:BsOk bs) (hp:i64 p) {y:Batch×Int} (hy:zg4 bs p= .ok y):
  CallOK Tryz.prog 94 [.obj (rds bs p)] (fun r o=>r=[zAv y.1]∧o=[rds bs y.2]):=by
 refine zh Tryz.func94 Tryz.results94 Tryz.ntmps94 Tryz.call94 ?_
 simp only[Tryz.f94,Option.getD]
 have h1:=zn2 bs p h hp
 rw[hy]at h1
 simp only[dOf]at h1
 refine zL trivial (I (h1) (zcY)) ?_
 rfl
theorem zkb (bs:List Int) (p:Int) (h:BsOk bs) (hp:i64 p) {e:Int} (hy:zg4 bs p= .error e):
  zbW Tryz.prog 94 [.obj (rds bs p)] zzv:=by
 have h2:=zwp hy
 refine zhy Tryz.func94 Tryz.ntmps94 Tryz.call94 ?_
 simp only[Tryz.f94,Option.getD]
 have h1:=zn2 bs p h hp
 rw[hy]at h1
 simp only[dOf]at h1
 refine zL trivial (h1) ?_
 refine zdB (ze8 e h2) rfl ?_
 first|refine zs @zab ?_|exact zt @zab
def ziO (bs:List Int) (p:Int):Rr Vote:=match zbf bs p with
 | .error e=> .error e
 | .ok s=>match zbf bs s.2 with
  | .error e=> .error e
  | .ok b=>match zg4 bs b.2 with
   | .error e=> .error e
   | .ok x=> .ok (⟨s.1,b.1,x.1⟩,x.2)
def zii (bs:List Int) (p:Int):Rr Prom:=match zbt bs p with
 | .error e=> .error e
 | .ok f=>match zbf bs f.2 with
  | .error e=> .error e
  | .ok d=>match zbf bs d.2 with
   | .error e=> .error e
   | .ok v=>match zbf bs v.2 with
    | .error e=> .error e
    | .ok s=>match zbf bs s.2 with
     | .error e=> .error e
     | .ok t=>match zbt bs t.2 with
      | .error e=> .error e
      | .ok n=>match za4 (ziO bs) n.1.toNat n.2 []with
       | .error e=> .error e
       | .ok l=> .ok (⟨f.1,d.1,⟨v.1,s.1⟩,t.1,l.1⟩,l.2)
theorem votesE_snoc (b:List Vote) (v:Vote):zbo (b++[v])=zbo b++v.enc:=by simp[zbo]
theorem votes_take {l:List Vote}:(zbo l).take (l.length*8)=zbo l:=zcT Vote.enc 8 (fun _=>rfl) l
theorem zhR {bs:List Int} (h:BsOk bs) {p:Int} {y:Batch×Int} (hy:zg4 bs p= .ok y):i64 y.2:=by
 unfold zg4 at hy
 cases e1:zbt bs p with
 |error x=>rw[e1]at hy;cases hy
 |ok k=>
 have p1:=zbi h e1
 rw[e1]at hy;simp only at hy
 split at hy
 ·cases hy
 split at hy
 ·cases hy;exact p1
 cases e2:za4 (zbf bs) 4 k.2 []with
 |error x=>rw[e2]at hy;cases hy
 |ok l=>
 have p2:=(zec (ok:=fun _=>True) (fun q z hz=>⟨zav h hz,trivial⟩) p1 (fun _ _=>trivial) e2).1
 rw[e2]at hy;simp only at hy
 cases e3:zbI bs l.2 3 with
 |error x=>rw[e3]at hy;cases hy
 |ok n=>
 have p3:=(zc1 h e3).1
 rw[e3]at hy;simp only at hy
 cases e4:za4 (zkd bs) n.1.toNat n.2 []with
 |error x=>rw[e4]at hy;cases hy
 |ok rs=>
 have p4:=(zec (ok:=fun _=>True) (fun q z hz=>⟨(zij h hz).1,trivial⟩) p3 (fun _ _=>trivial) e4).1
 rw[e4]at hy;simp only at hy
 split at hy
 ·cases hy;exact p4
 ·cases hy
set_option maxHeartbeats 4000000 in
theorem zkc (bs:List Int) (p:Int) (h:BsOk bs) (hp:i64 p) (b:Bool) (y:Prom×Int) (e:Int) (hy:zmJ b y e (zii bs p)):
  (b=true→CallOK Tryz.prog 93 [.obj (rds bs p)] (fun r o=>zaL r [.agg (y.1.enc.map RO.d)]∧o=[rds bs y.2]))∧(b=false→zbW Tryz.prog 93 [.obj (rds bs p)] zzv):=by
 refine zhb Tryz.func93 Tryz.results93 Tryz.ntmps93 Tryz.call93 ?_
 simp only[Tryz.f93,Option.getD]
 unfold zii at hy
 cases e1:zbt bs p with
 |error x=>
  rw[e1]at hy
  obtain⟨rfl,rfl⟩:=zay hy
  have hr:=zka bs _ h hp e1
  refine zL0 trivial ?_
  refine zp (rds bs p) (hr) ?_
  first|refine zs (I @zak @zab) ?_|exact zt (I @zak @zab)
 |ok f=>
 have he1:=zmu bs _ h hp e1
 have p1:=zbi h e1
 rw[e1]at hy
 simp only at hy
 refine zL0 trivial ?_
 refine zj (he1) ?_
 cases e2:zbf bs f.2 with
 |error x=>
  rw[e2]at hy
  obtain⟨rfl,rfl⟩:=zay hy
  have hr:=zbM bs _ h p1 e2
  refine zL0 trivial ?_
  refine zp (rds bs p) (hr) ?_
  first|refine zs (I @zak @zab) ?_|exact zt (I @zak @zab)
 |ok d=>
 have he2:=zcp bs _ h p1 e2
 have p2:=zav h e2
 rw[e2]at hy
 simp only at hy
 refine zL0 trivial ?_
 refine zj (he2) ?_
 cases e3:zbf bs d.2 with
 |error x=>
  rw[e3]at hy
  obtain⟨rfl,rfl⟩:=zay hy
  have hr:=zbM bs _ h p2 e3
  refine zL0 trivial ?_
  refine zp (rds bs p) (hr) ?_
  first|refine zs (I @zak @zab) ?_|exact zt (I @zak @zab)
 |ok v=>
 have he3:=zcp bs _ h p2 e3
 have p3:=zav h e3
 rw[e3]at hy
 simp only at hy
 refine zL0 trivial ?_
 refine zj (he3) ?_
 cases e4:zbf bs v.2 with
 |error x=>
  rw[e4]at hy
  obtain⟨rfl,rfl⟩:=zay hy
  have hr:=zbM bs _ h p3 e4
  refine zL0 trivial ?_
  refine zp (rds bs p) (hr) ?_
  first|refine zs (I @zak @zab) ?_|exact zt (I @zak @zab)
 |ok s=>
 have he4:=zcp bs _ h p3 e4
 have p4:=zav h e4
 rw[e4]at hy
 simp only at hy
 refine zL0 trivial ?_
 refine zj (he4) ?_
 cases e5:zbf bs s.2 with
 |error x=>
  rw[e5]at hy
  obtain⟨rfl,rfl⟩:=zay hy
  have hr:=zbM bs _ h p4 e5
  refine zL0 trivial ?_
  refine zp (rds bs p) (hr) ?_
  first|refine zs (I @zak @zab) ?_|exact zt (I @zak @zab)
 |ok t=>
 have he5:=zcp bs _ h p4 e5
 have p5:=zav h e5
 rw[e5]at hy
 simp only at hy
 refine zL0 trivial ?_
 refine zj (he5) ?_
 cases e6:zbt bs t.2 with
 |error x=>
  rw[e6]at hy
  obtain⟨rfl,rfl⟩:=zay hy
  have hr:=zka bs _ h p5 e6
  refine zL0 trivial ?_
  refine zp (rds bs p) (hr) ?_
  first|refine zs (I @zak @zab) ?_|exact zt (I @zak @zab)
 |ok n=>
 have he6:=zmu bs _ h p5 e6
 have p6:=zbi h e6
 rw[e6]at hy
 simp only at hy
 refine zL0 trivial ?_
 refine zj (he6) ?_
 have hnv:=zfB h e6
 refine zL0 trivial ?_
 refine zai (τ:=Nat×Int×List Vote×Nat) (fun a=>⟨(.one (.ptr ⟨0,0,0⟩ 0)::dd::ptq 2::ptq 3::zzn (ai n.1::ai a.1::zu6 [])),[zzG bs a.2.1 a.2.2.2,(2,⟨2,[obq 1 [di 0,di 0,di 0,di 0,di 0, .d (.v zfs)],none,none,none,none,none,none]⟩),(3,⟨2,[obq 1 [di f.1,di d.1,di v.1,di s.1,di t.1, .own ⟨3,6,1⟩ 0 a.2.2.1.length],none,none,none,none,none,roq 1 8 (zbo a.2.2.1)]⟩),(4,⟨2,[]⟩),(38,⟨2,[]⟩),(39,⟨2,[]⟩)]⟩)
  (fun a=>a.1≤n.1.toNat∧i64 a.2.1∧a.2.2.1.length=a.1) (fun a=>za4 (ziO bs) (n.1.toNat - a.1) a.2.1 a.2.2.1) (fun a=>n.1.toNat - a.1) (0,n.2,[],7)
  ((Gh.nilF 3 5 8 rfl).trans (Gh.canon [0,2,3] [4,38,39] [0] zK rfl rfl)) ⟨Nat.zero_le _,p6,rfl⟩ ?_
 intro⟨i,q,acc,nx⟩ ⟨hi0,hq,ha⟩ hF K hK
 simp only[Nat.sub_zero]at hi0 hq ha hF hK⊢
 rw[←hF]at hy
 refine zw ?_
 refine zaa (fun hlt=> ?_) (fun hge=> ?_)
 ·have hi:i<n.1.toNat:=by simp at hlt;omega
  have hw:=zal hi (by omega)
  have hst:n.1.toNat - i=(n.1.toNat - (i+1))+1:=by omega
  rw[hst,za4,ziO]at hy
  cases x1:zbf bs q with
  |error x=>
   rw[x1]at hy
   obtain⟨rfl,rfl⟩:=zay hy
   have hr:=zbM bs q h hq x1
   refine zL0 trivial ?_
   refine zp (rds bs p) (hr) ?_
   first|refine zs (I @zak @zab) ?_|exact zt (I @zak @zab)
  |ok c=>
  rw[x1]at hy
  simp only at hy
  have hr1:=zcp bs q h hq x1
  refine zL0 trivial ?_
  refine zj (hr1) ?_
  cases x2:zbf bs c.2 with
  |error x=>
   rw[x2]at hy
   obtain⟨rfl,rfl⟩:=zay hy
   have hr:=zbM bs _ h (zav h x1) x2
   refine zL0 trivial ?_
   refine zp (rds bs p) (hr) ?_
   first|refine zs (I @zak @zab) ?_|exact zt (I @zak @zab)
  |ok m=>
  rw[x2]at hy
  simp only at hy
  have hr2:=zcp bs _ h (zav h x1) x2
  refine zL0 trivial ?_
  refine zj (hr2) ?_
  cases x3:zg4 bs m.2 with
  |error x=>
   rw[x3]at hy
   obtain⟨rfl,rfl⟩:=zay hy
   have hr:=zkb bs _ h (zav h x2) x3
   refine zL0 trivial ?_
   refine zp (rds bs p) (hr) ?_
   first|refine zs (I @zak @zab) ?_|exact zt (I @zak @zab)
  |ok r=>
  rw[x3]at hy
  simp only at hy
  have hr3:=zmv bs _ h (zav h x2) x3
  refine zL0 trivial ?_
  refine zj (hr3) ?_
  have hcl:(acc.length+1≤2^47)=True:=eq_true (by omega)
  have hF2:za4 (ziO bs) (n.1.toNat - (i+1)) r.2 (acc++[⟨c.1,m.1,r.1⟩])=za4 (ziO bs) (n.1.toNat - i) q acc:=by rw[hst,za4,ziO,x1];simp only;rw[x2];simp only;rw[x3]
  refine zL0 (I @votes_take (I @zaN hcl)) ?_
  refine hK _ (i+1,r.2,acc++[⟨c.1,m.1,r.1⟩],nx+3) (Gh.canon [0,2,3] [] [0] (zk (I hw (I @List.length_append.{0} @List.length_singleton.{0}))) rfl (by simp only[List.length_append,List.length_singleton];rw[votesE_snoc];rfl)) ⟨hi,zhR h x3,by simp only[List.length_append,List.length_singleton];omega⟩ hF2 (by simp only;omega)
 ·have hi:i=n.1.toNat:=by simp at hge;omega
  rw[hi,Nat.sub_self,za4]at hy
  obtain⟨rfl,rfl⟩:=zdP hy
  clear hK hF
  repeat'(first|exact zC|refine zq (I @zdO @votes_take) ?_|(apply zaa<;>intro hb)|(apply I;exact zI)|(apply I<;>intro hg))
  simp[zaL,zcv,zaR,zax, -List.length_flatMap,zaN]
def Cut {α:Type} (m:Nat) (p:Int) (r r':Rr α):Prop:=∀y,r= .ok y→p≤y.2∧(y.2≤m→r'= .ok y)∧(p≤m→m<y.2→r'= .error 2)
abbrev zaA {α β:Type} (r:Rr α) (k:α×Int→Rr β):Rr β:=match r with
 | .error e=> .error e
 | .ok x=>k x
section
variable {bs:List Int} {m:Nat} (hm:m≤bs.length)
include hm
def zAS (bs:List Int) (n:Nat) (p:Int) (acc:List Grant):Rr (List Grant):=rOf (zcf bs n p acc)
end
abbrev zzC:Prom:=⟨0,0,⟨0,0⟩,0,[]⟩
abbrev pk0 (k:Int):Pkt:=⟨k,0,0,0,zAQ,ztm,zAP,zzC,sn0⟩
def zoo (bs:List Int) (k p:Int):Rr Pkt:=
 if k=1 then zaA (zkd bs p) fun x=> .ok ({pk0 k with req:=x.1},x.2)
 else if k=2 then zaA (zgz bs p) fun x=> .ok ({pk0 k with ans:=x.1},x.2)
 else if k=3 then zaA (zbf bs p) fun x=> .ok ({pk0 k with ballot:=x.1},x.2)
 else if k=4 then zaA (zbf bs p) fun x=>zaA (zii bs x.2) fun y=> .ok ({pk0 k with ballot:=x.1,prom:=y.1},y.2)
 else if k=5 then zaA (zbf bs p) fun x=>zaA (zbf bs x.2) fun y=>zaA (zg4 bs y.2) fun z=> .ok ({pk0 k with ballot:=x.1,slot:=y.1,bat:=z.1},z.2)
 else if k=6 then zaA (zbf bs p) fun x=>zaA (zbf bs x.2) fun y=>zaA (zg4 bs y.2) fun z=> .ok ({pk0 k with ballot:=x.1,slot:=y.1,bat:=z.1},z.2)
 else if k=7 then zaA (zbf bs p) fun x=>zaA (zbf bs x.2) fun y=> .ok ({pk0 k with ballot:=x.1,done:=y.1},y.2)
 else if k=8 then zaA (zbf bs p) fun x=> .ok ({pk0 k with done:=x.1},x.2)
 else if k=9 then zaA (ziI bs p) fun x=> .ok ({pk0 k with snap:=x.1},x.2)
 else .error 4
def zxR (bs:List Int) (p:Int):Rr Pkt:=zaA (zbt bs p) fun k=>zoo bs k.1 k.2
def NZ {α:Type} (r:Rr α):Prop:=∀e,r= .error e→(e !=0)=true
theorem zuX {α:Type} {x:α×Int×Int}:NZ (rOf x):=fun e h=>by simpa using(zb6 h).2
theorem zzD {α:Type} {x:α×Int}:NZ (.ok x:Rr α):=fun e h=>by cases h
theorem zzE {α:Type} {c:Prop} [Decidable c] {x:α×Int}:NZ (if c then(.ok x:Rr α)else .error 4):=fun e h=>by
 split at h
 ·cases h
 ·cases h;rfl
theorem zb0 {α β:Type} {r:Rr α} {k:α×Int→Rr β} (h1:NZ r) (h2:∀x,NZ (k x)):NZ (zaA r k):=fun e h=>by
 cases r with
 |error z=>cases h;exact h1 _ rfl
 |ok x=>exact h2 x e h
theorem zlK {α:Type} {f:Int→Rr α} (hf:∀p,NZ (f p)) {n:Nat} {p:Int} {acc:List α}:NZ (za4 f n p acc):=fun e h=>zhQ (fun p e h=>hf p e h) h
theorem ziR {bs:List Int} {p m:Int}:NZ (zbI bs p m):=fun e h=>by
 rcases zga h with hz|⟨_,_,_,rfl⟩
 ·simpa using(zb6 hz).2
 ·rfl
theorem zxS {bs:List Int} {p:Int}:NZ (ziI bs p):=by
 have hn:∀p,NZ (zbf bs p):=fun p=>zuX
 have hb:∀p,NZ (zbt bs p):=fun p=>zuX
 have hs:∀p,NZ (ziJ bs p):=fun p=>by
  rw[show ziJ bs p=zaA (zbt bs p) fun c=>zaA (zbf bs c.2) fun n=>zaA (zbf bs n.2) fun r=> .ok (⟨c.1,n.1,r.1⟩,r.2) from by kernel_rfl]
  exact zb0 (hb _) fun _=>zb0 (hn _) fun _=>zb0 (hn _) fun _=>zzD
 have hl:∀p,NZ (zfA bs p):=fun p=>by
  rw[show zfA bs p=zaA (zgy bs p) fun nm=>zaA (zbt bs nm.2) fun hd=>zaA (zbf bs hd.2) fun tk=>zaA (zbI bs tk.2 3) fun n=>zaA (zg8 bs n.1.toNat n.2 []) fun x=> .ok (⟨nm.1,hd.1,tk.1,x.1⟩,x.2) from by kernel_rfl]
  refine zb0 zuX fun _=>zb0 (hb _) fun _=>zb0 (hn _) fun _=>zb0 ziR fun _=>zb0 ?_ fun _=>zzD
  rw[zhY]
  exact zlK hb
 have hst:∀p,NZ (zeM bs p):=fun p=>by
  rw[show zeM bs p=zaA (zbf bs p) fun t=>zaA (zbf bs t.2) fun u=>zaA (zbf bs u.2) fun k=>zaA (zbI bs k.2 5) fun n=>zaA (za4 (ziJ bs) n.1.toNat n.2 []) fun ss=>zaA (zbI bs ss.2 4) fun n2=>zaA (za4 (zfA bs) n2.1.toNat n2.2 []) fun ls=>zaA (zbI bs ls.2 8) fun n3=>zaA (za4 (zgz bs) n3.1.toNat n3.2 []) fun ms=>
   if zeG ⟨t.1,u.1,k.1,ss.1,ls.1,ms.1⟩=true then .ok (⟨t.1,u.1,k.1,ss.1,ls.1,ms.1⟩,ms.2)else .error 4 from by kernel_rfl]
  exact zb0 (hn _) fun _=>zb0 (hn _) fun _=>zb0 (hn _) fun _=>zb0 ziR fun _=>zb0 (zlK hs) fun _=>zb0 ziR fun _=>zb0 (zlK hl) fun _=>zb0 ziR fun _=>zb0 (zlK fun _=>zuX) fun _=>zzE
 rw[show ziI bs p=zaA (zbf bs p) fun d=>zaA (zbf bs d.2) fun v=>zaA (zbf bs v.2) fun l=>zaA (zeM bs l.2) fun s=>if zbp ⟨d.1,v.1,l.1,s.1⟩=true then .ok (⟨d.1,v.1,l.1,s.1⟩,s.2)else .error 4 from by kernel_rfl]
 exact zb0 (hn _) fun _=>zb0 (hn _) fun _=>zb0 (hn _) fun _=>zb0 (hst _) fun _=>zzE
set_option maxHeartbeats 8000000 in
theorem zkN (bs:List Int) (p:Int) (h:BsOk bs) (hp:i64 p) (b:Bool) (y:Pkt×Int) (e:Int) (hy:zmJ b y e (zxR bs p)):
  (b=true→CallOK Tryz.prog 49 [.obj (rds bs p)] (fun r o=>zaL r [.agg (y.1.enc.map RO.d)]∧o=[rds bs y.2]))∧(b=false→zbW Tryz.prog 49 [.obj (rds bs p)] zzv):=by
 refine zhb Tryz.func49 Tryz.results49 Tryz.ntmps49 Tryz.call49 ?_
 simp only[Tryz.f49,Option.getD]
 unfold zxR at hy
 cases e1:zbt bs p with
 |error x=>
  rw[e1]at hy
  obtain⟨rfl,rfl⟩:=zay hy
  have hr:=zka bs _ h hp e1
  refine zL0 trivial ?_
  refine zp (rds bs p) (hr) ?_
  first|refine zs (I @zak @zab) ?_|exact zt (I @zak @zab)
 |ok k=>
 have he1:=zmu bs _ h hp e1
 have p1:=zbi h e1
 rw[e1]at hy
 obtain⟨kv,kq⟩:=k
 have hy:zmJ b y e (zoo bs kv kq):=hy
 simp only at he1 p1
 refine zL0 trivial ?_
 refine zj (he1) ?_
 rcases kinds kv with rfl|rfl|rfl|rfl|rfl|rfl|rfl|rfl|rfl|⟨k1,k2,k3,k4,k5,k6,k7,k8,k9⟩
 ·have hy:zmJ b y e (zaA (zkd bs kq) fun x=> .ok ({pk0 1 with req:=x.1},x.2)):=hy
  have h1:=zn3 bs kq h p1
  cases x1:zkd bs kq with
  |error er=>
   rw[x1]at hy
   obtain⟨rfl,rfl⟩:=zay hy
   rw[x1]at h1;simp only[dOf]at h1;have hq:=zmw x1
   refine zL trivial (h1) ?_
   refine zdB (ze8 _ hq) rfl ?_
   first|refine zs (I @zak @zab) ?_|exact zt (I @zak @zab)
  |ok x=>
  rw[x1]at hy
  obtain⟨rfl,rfl⟩:=zdP hy
  rw[x1]at h1;simp only[dOf]at h1
  repeat'(first|exact zC|refine zq @zdO ?_|refine zx (h1) ?_|refine zx (zcY) ?_|(apply zaa<;>intro hb)|(apply I;exact zI)|(apply I<;>intro hg))
  simp[zaL,zcv,zaR,zax,st0, -List.length_flatMap,zar,zaP,zaN,zaB,zah,zaC]
 ·have hy:zmJ b y e (zaA (zgz bs kq) fun x=> .ok ({pk0 2 with ans:=x.1},x.2)):=hy
  have h1:=zf2 bs kq h p1
  cases x1:zgz bs kq with
  |error er=>
   rw[x1]at hy
   obtain⟨rfl,rfl⟩:=zay hy
   have h9:=zb6 x1;rw[h9.1]at h1;have hq:=h9.2;rw[←bne_iff_ne]at hq
   refine zL trivial (h1) ?_
   refine zdB (ze8 _ hq) rfl ?_
   first|refine zs (I @zak @zab) ?_|exact zt (I @zak @zab)
  |ok x=>
  rw[x1]at hy
  obtain⟨rfl,rfl⟩:=zdP hy
  obtain⟨h0,rfl⟩:=zdF x1;rw[h0]at h1
  repeat'(first|exact zC|refine zq @zdO ?_|refine zx (h1) ?_|refine zx (zcY) ?_|(apply zaa<;>intro hb)|(apply I;exact zI)|(apply I<;>intro hg))
  simp[zaL,zcv,zaR,zax,st0, -List.length_flatMap,zar,zaP,zaN,zaB,zah,zaC]
 ·have hy:zmJ b y e (zaA (zbf bs kq) fun x=> .ok ({pk0 3 with ballot:=x.1},x.2)):=hy
  cases xx:zbf bs kq with
  |error er=>
   rw[xx]at hy
   obtain⟨rfl,rfl⟩:=zay hy
   have hr:=zbM bs _ h p1 xx
   refine zL0 trivial ?_
   refine zp (rds bs p) (hr) ?_
   first|refine zs (I @zak @zab) ?_|exact zt (I @zak @zab)
  |ok x=>
  rw[xx]at hy
  simp only[zaA]at hy
  have hrx:=zcp bs _ h p1 xx
  have px:=zav h xx
  refine zL0 trivial ?_
  refine zj (hrx) ?_
  obtain⟨rfl,rfl⟩:=zdP hy
  repeat'(first|exact zC|refine zq @zdO ?_|refine zx (zcY) ?_|(apply zaa<;>intro hb)|(apply I;exact zI)|(apply I<;>intro hg))
  simp[zaL,zcv,zaR,zax,st0, -List.length_flatMap,zar,zaP,zaN,zaB,zah,zaC]
 ·have hy:zmJ b y e (zaA (zbf bs kq) fun x=>zaA (zii bs x.2) fun y=> .ok ({pk0 4 with ballot:=x.1,prom:=y.1},y.2)):=hy
  cases xx:zbf bs kq with
  |error er=>
   rw[xx]at hy
   obtain⟨rfl,rfl⟩:=zay hy
   have hr:=zbM bs _ h p1 xx
   refine zL0 trivial ?_
   refine zp (rds bs p) (hr) ?_
   first|refine zs (I @zak @zab) ?_|exact zt (I @zak @zab)
  |ok x=>
  rw[xx]at hy
  have hrx:=zcp bs _ h p1 xx
  have px:=zav h xx
  refine zL0 trivial ?_
  refine zj (hrx) ?_
  cases xy:zii bs x.2 with
  |error er=>
   have hy:zmJ b y e (zaA (zii bs x.2) fun y=> .ok ({pk0 4 with ballot:=x.1,prom:=y.1},y.2)):=hy
   rw[xy]at hy
   obtain⟨rfl,rfl⟩:=zay hy
   have hr:=(zkc bs _ h px false (zzC,0) _ xy).2 rfl
   refine zL0 trivial ?_
   refine zp (rds bs p) (hr) ?_
   first|refine zs (I @zak @zab) ?_|exact zt (I @zak @zab)
  |ok z=>
  have hy:zmJ b y e (zaA (zii bs x.2) fun y=> .ok ({pk0 4 with ballot:=x.1,prom:=y.1},y.2)):=hy
  rw[xy]at hy
  have hry:=CallOK.nil ((zkc bs _ h px true z 0 xy).1 rfl)
  refine zL0 trivial ?_
  refine zj (hry) ?_
  obtain⟨rfl,rfl⟩:=zdP hy
  repeat'(first|exact zC|refine zq @zdO ?_|refine zx (zcY) ?_|(apply zaa<;>intro hb)|(apply I;exact zI)|(apply I<;>intro hg))
  simp[zaL,zcv,zaR,zax,st0, -List.length_flatMap,zar,zaP,zaN,zaB,zah,zaC]
 ·have hy:zmJ b y e (zaA (zbf bs kq) fun x=>zaA (zbf bs x.2) fun w=>zaA (zg4 bs w.2) fun z=> .ok ({pk0 5 with ballot:=x.1,slot:=w.1,bat:=z.1},z.2)):=hy
  cases xx:zbf bs kq with
  |error er=>
   rw[xx]at hy
   obtain⟨rfl,rfl⟩:=zay hy
   have hr:=zbM bs _ h p1 xx
   refine zL0 trivial ?_
   refine zp (rds bs p) (hr) ?_
   first|refine zs (I @zak @zab) ?_|exact zt (I @zak @zab)
  |ok x=>
  rw[xx]at hy
  simp only[zaA]at hy
  have hrx:=zcp bs _ h p1 xx
  have px:=zav h xx
  refine zL0 trivial ?_
  refine zj (hrx) ?_
  cases xw:zbf bs x.2 with
  |error er=>
   rw[xw]at hy
   obtain⟨rfl,rfl⟩:=zay hy
   have hr:=zbM bs _ h px xw
   refine zL0 trivial ?_
   refine zp (rds bs p) (hr) ?_
   first|refine zs (I @zak @zab) ?_|exact zt (I @zak @zab)
  |ok w=>
  rw[xw]at hy
  simp only[zaA]at hy
  have hrw:=zcp bs _ h px xw
  have pw:=zav h xw
  refine zL0 trivial ?_
  refine zj (hrw) ?_
  cases xz:zg4 bs w.2 with
  |error er=>
   rw[xz]at hy
   obtain⟨rfl,rfl⟩:=zay hy
   have hr:=zkb bs _ h pw xz
   refine zL0 trivial ?_
   refine zp (rds bs p) (hr) ?_
   first|refine zs (I @zak @zab) ?_|exact zt (I @zak @zab)
  |ok z=>
  rw[xz]at hy
  simp only[zaA]at hy
  have hrz:=zmv bs _ h pw xz
  have pz:=zhR h xz
  refine zL0 trivial ?_
  refine zj (hrz) ?_
  obtain⟨rfl,rfl⟩:=zdP hy
  repeat'(first|exact zC|refine zq @zdO ?_|refine zx (zcY) ?_|(apply zaa<;>intro hb)|(apply I;exact zI)|(apply I<;>intro hg))
  simp[zaL,zcv,zaR,zax,st0, -List.length_flatMap,zar,zaP,zaN,zaB,zah,zaC]
 ·have hy:zmJ b y e (zaA (zbf bs kq) fun x=>zaA (zbf bs x.2) fun w=>zaA (zg4 bs w.2) fun z=> .ok ({pk0 6 with ballot:=x.1,slot:=w.1,bat:=z.1},z.2)):=hy
  cases xx:zbf bs kq with
  |error er=>
   rw[xx]at hy
   obtain⟨rfl,rfl⟩:=zay hy
   have hr:=zbM bs _ h p1 xx
   refine zL0 trivial ?_
   refine zp (rds bs p) (hr) ?_
   first|refine zs (I @zak @zab) ?_|exact zt (I @zak @zab)
  |ok x=>
  rw[xx]at hy
  simp only[zaA]at hy
  have hrx:=zcp bs _ h p1 xx
  have px:=zav h xx
  refine zL0 trivial ?_
  refine zj (hrx) ?_
  cases xw:zbf bs x.2 with
  |error er=>
   rw[xw]at hy
   obtain⟨rfl,rfl⟩:=zay hy
   have hr:=zbM bs _ h px xw
   refine zL0 trivial ?_
   refine zp (rds bs p) (hr) ?_
   first|refine zs (I @zak @zab) ?_|exact zt (I @zak @zab)
  |ok w=>
  rw[xw]at hy
  simp only[zaA]at hy
  have hrw:=zcp bs _ h px xw
  have pw:=zav h xw
  refine zL0 trivial ?_
  refine zj (hrw) ?_
  cases xz:zg4 bs w.2 with
  |error er=>
   rw[xz]at hy
   obtain⟨rfl,rfl⟩:=zay hy
   have hr:=zkb bs _ h pw xz
   refine zL0 trivial ?_
   refine zp (rds bs p) (hr) ?_
   first|refine zs (I @zak @zab) ?_|exact zt (I @zak @zab)
  |ok z=>
  rw[xz]at hy
  simp only[zaA]at hy
  have hrz:=zmv bs _ h pw xz
  have pz:=zhR h xz
  refine zL0 trivial ?_
  refine zj (hrz) ?_
  obtain⟨rfl,rfl⟩:=zdP hy
  repeat'(first|exact zC|refine zq @zdO ?_|refine zx (zcY) ?_|(apply zaa<;>intro hb)|(apply I;exact zI)|(apply I<;>intro hg))
  simp[zaL,zcv,zaR,zax,st0, -List.length_flatMap,zar,zaP,zaN,zaB,zah,zaC]
 ·have hy:zmJ b y e (zaA (zbf bs kq) fun x=>zaA (zbf bs x.2) fun w=> .ok ({pk0 7 with ballot:=x.1,done:=w.1},w.2)):=hy
  cases xx:zbf bs kq with
  |error er=>
   rw[xx]at hy
   obtain⟨rfl,rfl⟩:=zay hy
   have hr:=zbM bs _ h p1 xx
   refine zL0 trivial ?_
   refine zp (rds bs p) (hr) ?_
   first|refine zs (I @zak @zab) ?_|exact zt (I @zak @zab)
  |ok x=>
  rw[xx]at hy
  simp only[zaA]at hy
  have hrx:=zcp bs _ h p1 xx
  have px:=zav h xx
  refine zL0 trivial ?_
  refine zj (hrx) ?_
  cases xw:zbf bs x.2 with
  |error er=>
   rw[xw]at hy
   obtain⟨rfl,rfl⟩:=zay hy
   have hr:=zbM bs _ h px xw
   refine zL0 trivial ?_
   refine zp (rds bs p) (hr) ?_
   first|refine zs (I @zak @zab) ?_|exact zt (I @zak @zab)
  |ok w=>
  rw[xw]at hy
  simp only[zaA]at hy
  have hrw:=zcp bs _ h px xw
  have pw:=zav h xw
  refine zL0 trivial ?_
  refine zj (hrw) ?_
  obtain⟨rfl,rfl⟩:=zdP hy
  repeat'(first|exact zC|refine zq @zdO ?_|refine zx (zcY) ?_|(apply zaa<;>intro hb)|(apply I;exact zI)|(apply I<;>intro hg))
  simp[zaL,zcv,zaR,zax,st0, -List.length_flatMap,zar,zaP,zaN,zaB,zah,zaC]
 ·have hy:zmJ b y e (zaA (zbf bs kq) fun x=> .ok ({pk0 8 with done:=x.1},x.2)):=hy
  cases xx:zbf bs kq with
  |error er=>
   rw[xx]at hy
   obtain⟨rfl,rfl⟩:=zay hy
   have hr:=zbM bs _ h p1 xx
   refine zL0 trivial ?_
   refine zp (rds bs p) (hr) ?_
   first|refine zs (I @zak @zab) ?_|exact zt (I @zak @zab)
  |ok x=>
  rw[xx]at hy
  simp only[zaA]at hy
  have hrx:=zcp bs _ h p1 xx
  have px:=zav h xx
  refine zL0 trivial ?_
  refine zj (hrx) ?_
  obtain⟨rfl,rfl⟩:=zdP hy
  repeat'(first|exact zC|refine zq @zdO ?_|refine zx (zcY) ?_|(apply zaa<;>intro hb)|(apply I;exact zI)|(apply I<;>intro hg))
  simp[zaL,zcv,zaR,zax,st0, -List.length_flatMap,zar,zaP,zaN,zaB,zah,zaC]
 ·have hy:zmJ b y e (zaA (ziI bs kq) fun x=> .ok ({pk0 9 with snap:=x.1},x.2)):=hy
  have h1:=zkv bs kq h p1
  cases x1:ziI bs kq with
  |error er=>
   rw[x1]at hy
   obtain⟨rfl,rfl⟩:=zay hy
   have hq:=zxS _ x1;unfold dSn at h1;rw[x1]at h1;simp only at h1
   refine zL trivial (h1) ?_
   refine zdB (ze8 _ hq) rfl ?_
   first|refine zs (I @zak @zab) ?_|exact zt (I @zak @zab)
  |ok x=>
  rw[x1]at hy
  obtain⟨rfl,rfl⟩:=zdP hy
  unfold dSn at h1;rw[x1]at h1;simp only at h1
  repeat'(first|exact zC|refine zq @zdO ?_|refine zx (h1) ?_|refine zx (zcY) ?_|(apply zaa<;>intro hb)|(apply I;exact zI)|(apply I<;>intro hg))
  simp[zaL,zcv,zaR,zax,st0, -List.length_flatMap,zar,zaP,zaN,zaB,zah,zaC]
 ·have hz:zoo bs kv kq= .error 4:=by
   simp only[beq_eq_false_iff_ne,ne_eq]at k1 k2 k3 k4 k5 k6 k7 k8 k9
   unfold zoo
   simp only[k1,k2,k3,k4,k5,k6,k7,k8,k9,if_false]
  rw[hz]at hy
  obtain⟨rfl,rfl⟩:=zay hy
  exact zW0 (I k1 (I k2 (I k3 (I k4 (I k5 (I k6 (I k7 (I k8 (I k9 (I @zak @zab))))))))))
theorem zkL (a b:List Int) (ha:a.length<2^40) (hb:b.length<2^40):CallOK Tryz.prog 50 [.f (al a.length (zad a)), .f (al b.length (zad b))] (fun r o=>r=[rb ((strOf a).toList==(strOf b).toList)]∧o=[]):=by
 refine zh Tryz.func50 Tryz.results50 Tryz.ntmps50 Tryz.call50 ?_
 simp only[Tryz.f50,Option.getD]
 refine zL0 (I @zdh @zat) ?_
 rfl
theorem zkM (a:List Int):(strOf a).toList=a.map fun n=>UInt8.ofNat n.toNat:=by
 rw[zcx];rfl
theorem zrW {x y:Int} (hx:zau x) (hy:zau y) (h:UInt8.ofNat x.toNat=UInt8.ofNat y.toNat):x=y:=by
 unfold zau at hx hy
 have:=congrArg UInt8.toNat h
 simp only[UInt8.toNat_ofNat']at this
 omega
theorem zrX:∀{a b:List Int},(∀x∈a,zau x)→(∀x∈b,zau x)→(a.map fun n=>UInt8.ofNat n.toNat)=(b.map fun n=>UInt8.ofNat n.toNat)→a=b
 |[],[],_,_,_=>rfl
 |[],_::_,_,_,h=>by simp at h
 |_::_,[],_,_,h=>by simp at h
 |x::a,y::b,ha,hb,h=>by
  simp only[List.map_cons,List.cons.injEq]at h
  rw[zrW (ha x (by simp)) (hb y (by simp)) h.1,zrX (fun z hz=>ha z (by simp[hz])) (fun z hz=>hb z (by simp[hz])) h.2]
theorem str_eq {a b:List Int} (ha:∀x∈a,zau x) (hb:∀x∈b,zau x):((strOf a).toList==(strOf b).toList)=decide (a=b):=by
 rw[zkM,zkM,Bool.eq_iff_iff,beq_iff_eq,decide_eq_true_eq]
 exact⟨zrX ha hb,fun h=>by rw[h]⟩
def szP (k:Nat):Nat:=if k=2 then 36 else 1
def zDY:List Value:=[.int .i64 0, .int .i64 0, .int .i64 0, .int .i64 0, .int .i64 0, .int .i64 0, .int .i64 0, .int .i64 0, .string .empty, .int .i64 0, .int .i64 0, .int .i64 0, .int .i64 0, .int .i64 0,zfs, .bool false, .int .i64 0, .int .i64 0, .int .i64 0, .int .i64 0,zfs, .int .i64 0, .int .i64 0, .int .i64 0, .int .i64 0, .int .i64 0,zfs, .int .i64 0, .int .i64 0, .int .i64 0, .int .i64 0, .int .i64 0, .int .i64 0,zfs,zfs,zfs]
def zrY:List C:=[di 0,di 0,di 0,di 0,di 0,di 0,di 0,di 0,dS .empty,di 0,di 0,di 0,di 0,di 0, .d (.v zfs),db false,di 0,di 0,di 0,di 0, .d (.v zfs),di 0,di 0,di 0,di 0,di 0, .d (.v zfs),di 0,di 0,di 0,di 0,di 0,di 0, .d (.v zfs), .d (.v zfs), .d (.v zfs)]
def nwP (x:Value) (k:Nat):List Value:=if k=2 then zDY else [codeOf x]
theorem zcu {l:List Value} {n:Nat} (h:l.length=n+1):∃a m,l=a::m∧m.length=n:=by
 cases l with
 |nil=>cases h
 |cons a m=>exact⟨a,m,rfl,by simpa using h⟩
theorem zuW:(Tryz.prog.info? 84).bind (·.zero)=some (.agg #[.int .i64 0]):=by kernel_rfl
theorem zon:zjx Tryz.prog 48 [2,3] szP nwP (zjT 84):=by
 refine zfE zcQ mixed (T:=Ty) Tryz.func48 rfl rfl Tryz.ntmps48 rfl rfl rfl rfl rfl rfl rfl (by decide) (by decide) (by decide) ?_
 rintro x ⟨n,rfl⟩ ls hl hs
 obtain⟨y,z,rfl⟩:∃y z,ls=[y,z]:=by
  match ls,hl with
  |[y,z],_=>exact⟨y,z,rfl⟩
 have h1:y.length=35+1:=hs 0 2 y rfl rfl
 obtain⟨g,rfl⟩:=zzt (hs 1 3 z rfl rfl)
 clear hl hs
 obtain⟨a0,y0,rfl,k0⟩:=zcu h1
 obtain⟨a1,y1,rfl,k1⟩:=zcu k0
 obtain⟨a2,y2,rfl,k2⟩:=zcu k1
 obtain⟨a3,y3,rfl,k3⟩:=zcu k2
 obtain⟨a4,y4,rfl,k4⟩:=zcu k3
 obtain⟨a5,y5,rfl,k5⟩:=zcu k4
 obtain⟨a6,y6,rfl,k6⟩:=zcu k5
 obtain⟨a7,y7,rfl,k7⟩:=zcu k6
 obtain⟨a8,y8,rfl,k8⟩:=zcu k7
 obtain⟨a9,y9,rfl,k9⟩:=zcu k8
 obtain⟨a10,y10,rfl,k10⟩:=zcu k9
 obtain⟨a11,y11,rfl,k11⟩:=zcu k10
 obtain⟨a12,y12,rfl,k12⟩:=zcu k11
 obtain⟨a13,y13,rfl,k13⟩:=zcu k12
 obtain⟨a14,y14,rfl,k14⟩:=zcu k13
 obtain⟨a15,y15,rfl,k15⟩:=zcu k14
 obtain⟨a16,y16,rfl,k16⟩:=zcu k15
 obtain⟨a17,y17,rfl,k17⟩:=zcu k16
 obtain⟨a18,y18,rfl,k18⟩:=zcu k17
 obtain⟨a19,y19,rfl,k19⟩:=zcu k18
 obtain⟨a20,y20,rfl,k20⟩:=zcu k19
 obtain⟨a21,y21,rfl,k21⟩:=zcu k20
 obtain⟨a22,y22,rfl,k22⟩:=zcu k21
 obtain⟨a23,y23,rfl,k23⟩:=zcu k22
 obtain⟨a24,y24,rfl,k24⟩:=zcu k23
 obtain⟨a25,y25,rfl,k25⟩:=zcu k24
 obtain⟨a26,y26,rfl,k26⟩:=zcu k25
 obtain⟨a27,y27,rfl,k27⟩:=zcu k26
 obtain⟨a28,y28,rfl,k28⟩:=zcu k27
 obtain⟨a29,y29,rfl,k29⟩:=zcu k28
 obtain⟨a30,y30,rfl,k30⟩:=zcu k29
 obtain⟨a31,y31,rfl,k31⟩:=zcu k30
 obtain⟨a32,y32,rfl,k32⟩:=zcu k31
 obtain⟨a33,y33,rfl,k33⟩:=zcu k32
 obtain⟨a34,y34,rfl,k34⟩:=zcu k33
 obtain⟨a35,y35,rfl,k35⟩:=zcu k34
 obtain rfl:=List.length_eq_zero_iff.1 k35
 refine⟨.tuple #[.agg #[.int .i64 n], .bool true], .tup [.agg [di n],ab true], ?_, ?_,rfl, ?_⟩
 ·intro w
  simp[Instr.typeAssert,Tryz.underlying84]
 ·intro cx w r β
  simp[ReA,ReAs,ReC,ReCs,Rd,flat]
 ·simp only[zby,plainO,List.map_cons,List.map_nil]
  first|refine zs0 ?_|exact zt0
  refine zL0 trivial ?_
  rfl
theorem zqK:zoz Tryz.prog 48 2:=by
 refine zeg zcQ mixed (T:=Ty) Tryz.func48 rfl rfl Tryz.ntmps48 rfl rfl rfl rfl rfl rfl rfl (by decide) (y7:= .tuple #[.agg #[.int .i64 0], .bool false]) (V7:= .tup [.agg [di 0],ab false]) ?_ ?_ (by decide) rfl ?_
 ·intro w
  simp[Instr.typeAssert,Tryz.underlying84,zjU zuW w]
 ·intro cx w r β
  simp[ReA,ReAs,ReC,ReCs,Rd,flat]
 ·simp only[List.replicate]
  first|refine zs0 ?_|exact zt0
  exact zW0 trivial
def Fx {α:Type} (Q:α×Int→Prop) (r:Rr α):Prop:=∀y,r= .ok y→Q y
theorem zjd {α:Type} {Q:α×Int→Prop} {x:α×Int} (h:Q x):Fx Q (.ok x):=fun y hy=>by cases hy;exact h
theorem zbe {α β:Type} {Q:α×Int→Prop} {R:β×Int→Prop} {r:Rr α} {k:α×Int→Rr β} (h1:Fx Q r) (h2:∀x,Q x→Fx R (k x)):Fx R (zaA r k):=fun y hy=>by
 cases r with
 |error e=>cases hy
 |ok x=>exact h2 x (h1 x rfl) y hy
theorem zAR {α:Type} {Q:α×Int→Prop} {c:Prop} [Decidable c] {x:α×Int} {e:Int} (h:c→Q x):Fx Q (if c then .ok x else .error e):=fun y hy=>by
 split at hy
 ·rename_i hc;cases hy;exact h hc
 ·cases hy
theorem zxN {bs:List Int} {p:Int}:Fx (fun y=>Small y.1.st) (ziI bs p):=by
 rw[show ziI bs p=zaA (zbf bs p) fun d=>zaA (zbf bs d.2) fun v=>zaA (zbf bs v.2) fun l=>zaA (zeM bs l.2) fun s=>if zbp ⟨d.1,v.1,l.1,s.1⟩=true then .ok (⟨d.1,v.1,l.1,s.1⟩,s.2)else .error 4 from by kernel_rfl]
 exact zbe (Q:=fun _=>True) (fun _ _=>trivial) fun _ _=>zbe (Q:=fun _=>True) (fun _ _=>trivial) fun _ _=>zbe (Q:=fun _=>True) (fun _ _=>trivial) fun _ _=>zbe (Q:=fun s=>Small s.1) (fun y hy=>zcl (zdv.1 (zir hy))) fun _ hs=>zAR fun _=>hs
theorem zdr {n:Int} (h:0≤n∧n<4611686018427387904):i64 n:=by unfold i64;omega
theorem zgB {k:Int} (hk:i64 k):(pk0 k).ok:=⟨hk,zdp,zdp,zdp,⟨zdp,zdp,zdp,zdp,(by show(ByteArray.empty).size<2^62;decide)⟩,⟨by simp,by simp⟩,⟨zdp,zdp,zdp,zdp,by simp,by simp⟩,by simp,⟨zdp,zdp,zdp,zdp,zdp,by simp,by simp⟩,by simp,by simp,(show Small st0 from zus)⟩
section
variable {bs:List Int} (h:BsOk bs)
include h
theorem zd9 {p:Int}:Fx (fun y=>i64 y.2∧0≤y.1∧y.1<4611686018427387904) (zbf bs p):=fun y hy=>⟨zav h hy,zmx h hy⟩
theorem zrV {p:Int}:Fx (fun y=>i64 y.2∧Batch.may y.1=true) (zg4 bs p):=fun y hy=>by
 refine⟨zhR h hy, ?_⟩
 unfold zg4 at hy
 cases e1:zbt bs p with
 |error x=>rw[e1]at hy;cases hy
 |ok k=>
 rw[e1]at hy;simp only at hy
 split at hy
 ·cases hy
 split at hy
 ·cases hy;rfl
 cases e2:za4 (zbf bs) 4 k.2 []with
 |error x=>rw[e2]at hy;cases hy
 |ok l=>
 rw[e2]at hy;simp only at hy
 cases e3:zbI bs l.2 3 with
 |error x=>rw[e3]at hy;cases hy
 |ok n=>
 rw[e3]at hy;simp only at hy
 cases e4:za4 (zkd bs) n.1.toNat n.2 []with
 |error x=>rw[e4]at hy;cases hy
 |ok rs=>
 rw[e4]at hy;simp only at hy
 split at hy
 ·rename_i hm;cases hy;exact hm
 ·cases hy
def zpo (v:Vote):Prop:=(0≤v.slot∧v.slot<4611686018427387904)∧(0≤v.ballot∧v.ballot<4611686018427387904)∧Batch.may v.batch=true
theorem zxO {p:Int}:Fx (fun y=>i64 y.2∧zpo y.1) (ziO bs p):=by
 rw[show ziO bs p=zaA (zbf bs p) fun s=>zaA (zbf bs s.2) fun b=>zaA (zg4 bs b.2) fun x=> .ok (⟨s.1,b.1,x.1⟩,x.2) from by kernel_rfl]
 exact zbe (zd9 h) fun s hs=>zbe (zd9 h) fun b hb=>zbe (zrV h) fun x hx=>zjd ⟨hx.1,hs.2,hb.2,hx.2⟩
structure PromR (p:Prom):Prop where
 src:0≤p.src∧p.src<256
 done:0≤p.done∧p.done<4611686018427387904
 view:0≤p.tip.view∧p.tip.view<4611686018427387904
 slot:0≤p.tip.slot∧p.tip.slot<4611686018427387904
 time:0≤p.time∧p.time<4611686018427387904
 len:p.votes.length<256
 votes:∀v∈p.votes,zpo v
theorem zxP {p:Int}:Fx (fun y=>i64 y.2∧PromR y.1) (zii bs p):=by
 rw[show zii bs p=zaA (zbt bs p) fun f=>zaA (zbf bs f.2) fun d=>zaA (zbf bs d.2) fun v=>zaA (zbf bs v.2) fun s=>zaA (zbf bs s.2) fun t=>zaA (zbt bs t.2) fun n=>zaA (za4 (ziO bs) n.1.toNat n.2 []) fun l=> .ok (⟨f.1,d.1,⟨v.1,s.1⟩,t.1,l.1⟩,l.2) from by kernel_rfl]
 have hb:∀p,Fx (fun y=>i64 y.2∧0≤y.1∧y.1<256) (zbt bs p):=fun p y hy=>⟨zbi h hy,zfB h hy⟩
 refine zbe (hb _) fun f hf=>zbe (zd9 h) fun d hd=>zbe (zd9 h) fun v hv=>zbe (zd9 h) fun s hs=>zbe (zd9 h) fun t ht=>zbe (hb _) fun n hn=> ?_
 refine zbe (Q:=fun l=>i64 l.2∧l.1.length<256∧∀v∈l.1,zpo v) (fun l hl=> ?_) fun l hl=>zjd ⟨hl.1,hf.2,hd.2,hv.2,hs.2,ht.2,hl.2.1,hl.2.2⟩
 have:=zec (ok:=zpo) (fun p y hy=>zxO h y hy) hn.1 (fun _ hx=>by cases hx) hl
 refine⟨this.1, ?_,this.2.2⟩
 have h3:=this.2.1
 simp only[List.length_nil]at h3
 omega
theorem zzB {p:Int}:Fx (fun y=>y.1.ok) (zxR bs p):=by
 have hb:∀p,Fx (fun y=>i64 y.2∧0≤y.1∧y.1<256) (zbt bs p):=fun p y hy=>⟨zbi h hy,zfB h hy⟩
 refine zbe (hb _) fun k hk=> ?_
 have h0:=zgB (k:=k.1) (by unfold i64;omega)
 have hbo:∀b,Batch.may b=true→b.ok∧b.reqs.length<2^30:=fun b hb=>⟨zqz hb,by have:=(zer hb).1;omega⟩
 unfold zoo
 split
 ·exact zbe (Q:=fun x=>Req.may x.1=true) (fun y hy=>(zij h hy).2) fun x hx=>zjd {h0 with req:=(zes hx).2.2.2}
 split
 ·exact zbe (Q:=fun x=>zcD x.1.reply) (fun y hy=>(zjg h hy).2) fun x hx=>zjd {h0 with ans:=hx}
 split
 ·exact zbe (zd9 h) fun x hx=>zjd {h0 with b:=zdr hx.2}
 split
 ·refine zbe (zd9 h) fun x hx=>zbe (zxP h) fun y hy=>zjd {h0 with b:=zdr hx.2,prom:= ?_,pl:= ?_,vl:= ?_}
  ·have m:=hy.2
   have hsr:i64 y.1.src:=by have:=m.src;unfold i64;omega
   have hvl:y.1.votes.length<2^42:=by have:=m.len;omega
   exact⟨hsr,zdr m.done,zdr m.view,zdr m.slot,zdr m.time,hvl,fun v hv=>⟨zdr (m.votes v hv).1,zdr (m.votes v hv).2.1,(hbo _ (m.votes v hv).2.2).1⟩⟩
  ·have:=hy.2.len;show y.1.votes.length<_;omega
  ·exact fun v hv=>(hbo _ (hy.2.votes v hv).2.2).2
 split
 ·exact zbe (zd9 h) fun x hx=>zbe (zd9 h) fun w hw=>zbe (zrV h) fun z hz=>zjd {h0 with b:=zdr hx.2,s:=zdr hw.2,bat:=(hbo _ hz.2).1,bl:=(hbo _ hz.2).2}
 split
 ·exact zbe (zd9 h) fun x hx=>zbe (zd9 h) fun w hw=>zbe (zrV h) fun z hz=>zjd {h0 with b:=zdr hx.2,s:=zdr hw.2,bat:=(hbo _ hz.2).1,bl:=(hbo _ hz.2).2}
 split
 ·exact zbe (zd9 h) fun x hx=>zbe (zd9 h) fun w hw=>zjd {h0 with b:=zdr hx.2,d:=zdr hw.2}
 split
 ·exact zbe (zd9 h) fun x hx=>zjd {h0 with d:=zdr hx.2}
 split
 ·exact zbe zxN fun x hx=>zjd {h0 with snap:=hx}
 ·intro y hy;cases hy
end
def zAD (p:Pkt):List Int:=if ziD p=true then pkI p else []
def zxQ (bs:List Int):Pkt×Int:=if bs.length>2048 then(pk0 0,3)else match zxR bs 0 with
 | .error _=>(pk0 0,4)
 | .ok y=>if(y.2 !=(bs.length:Int)|| !((strOf (zAD y.1)).toList==(strOf bs).toList))=true then(pk0 0,4)else(y.1,0)
theorem zkK (e:Int):zoi 39 [2,3] (nwP (zfv 84 e))=⟨(dq2 (.one (.ptr ⟨2,0,0⟩ 0):: .one (.ptr ⟨3,0,0⟩ 0)::zxY [])),[(2,{next:=1,l:=[obq 0 (zrY)]}),(3,{next:=1,l:=[obq 0 [di e]]})]⟩:=rfl
theorem zea:zrY=[di 0,di 0,di 0,di 0,di 0,di 0,di 0,di 0,dS .empty,di 0,di 0,di 0,di 0,di 0, .d (.v zfs),db false,di 0,di 0,di 0,di 0, .d (.v zfs),di 0,di 0,di 0,di 0,di 0, .d (.v zfs),di 0,di 0,di 0,di 0,di 0,di 0, .d (.v zfs), .d (.v zfs), .d (.v zfs)]:=rfl
set_option maxHeartbeats 4000000 in
theorem zmN (bs:List Int) (h:BsOk bs) (hl:bs.length<2^30):
  CallOK Tryz.prog 15 [.f (asl bs.length (zad bs))] (fun r o=>r=[.agg ((zxQ bs).1.enc.map RO.d),ri (zxQ bs).2]∧o=[]):=by
 refine CallOK.nil ?_
 refine zbG zcQ mixed (T:=Ty) Tryz.func15 rfl Tryz.results15 Tryz.ntmps15 Tryz.call15 Tryz.call48 (ks:=[2,3]) rfl rfl rfl rfl rfl rfl (by decide) (by decide)
  (xs:=[asl bs.length (zad bs)]) (sz:=szP) (nw:=nwP) zqK zon ⟨(asl bs.length (zad bs)::dd:: .one (.ptr ⟨2,0,0⟩ 0):: .one (.ptr ⟨3,0,0⟩ 0)::zxY []),[(2,{next:=1,l:=[obq 0 (zrY),none,none,none,none,none,none,none,none,none,none,none,none,none,none,none,none,none,none,none,none,none,none,none,none,none,none,none,none,none,none,none,none,none,none,none,none]}),(3,{next:=1,l:=[obq 0 [di 0],none]})]⟩ ?_ ?_ rfl ?_
 ·simp only[List.map_cons,List.map_nil]
  refine zL0 trivial ?_
  exact fun _ _ _ h=>h
 ·exact⟨⟨_,rfl,rfl,rfl,rfl,rfl⟩,⟨_,rfl,rfl,rfl,rfl,rfl⟩,trivial⟩
 ·unfold zxQ
  rw[zea]
  cases hlen:decide ((bs.length:Int)>2048)
  ·rw[if_neg (by simp at hlen;omega)]
   cases e1:zxR bs 0 with
   |error e=>
    have hr:=(zkN bs 0 h zdp false (pk0 0,0) e e1).2 rfl
    refine zL0 hlen ?_
    refine zp (rds bs 0) (hr) ?_
    simp only[za2,za3,za1,zbb]
    refine⟨⟨_,rfl⟩,rfl,⟨⟨_,rfl,rfl,rfl,rfl,rfl⟩,⟨_,rfl,rfl,rfl,rfl,rfl⟩,trivial⟩, ?_⟩
    rw[zkK,zea]
    first|refine zs0 ?_|exact zt0
    simp[zaL,zcv,zaR,zax,st0]
   |ok y=>
   have hr:=CallOK.nil ((zkN bs 0 h zdp true y 0 e1).1 rfl)
   have hok:=zzB h y e1
   refine zL0 hlen ?_
   refine zj (hr) ?_
   have hbl:bs.length<2^40:=by omega
   cases hm:ziD y.1
   ·have hp:=zdL y.1 hok hm
    have he:=zkL [] bs (by simp) hbl
    simp only[zAD,hm,Bool.false_eq_true,if_false]
    cases hc:(y.2 !=(bs.length:Int))
    ·cases hd:((strOf ([])).toList==(strOf bs).toList)
     ·refine zL (I hc hd) (I (hp) (he)) ?_
      simp only[za2,za3,za1,zbb]
      refine⟨⟨_,rfl⟩,rfl,⟨⟨_,rfl,rfl,rfl,rfl,rfl⟩,⟨_,rfl,rfl,rfl,rfl,rfl⟩,trivial⟩, ?_⟩
      rw[zkK,zea]
      first|refine zs0 ?_|exact zt0
      simp[zaL,zcv,zaR,zax,st0]
     ·repeat'(first|exact zC|refine zq (I hc (I hd @zgg)) ?_|refine zx (hp) ?_|refine zx (he) ?_|(apply zaa<;>intro hb)|(apply I;exact zI)|(apply I<;>intro hg))
      simp[zaL,zcv,zaR,zax, -List.length_flatMap,zar,zaP,zaN,zaB,zah,zaC]
    ·refine zL hc (hp) ?_
     simp only[za2,za3,za1,zbb]
     refine⟨⟨_,rfl⟩,rfl,⟨⟨_,rfl,rfl,rfl,rfl,rfl⟩,⟨_,rfl,rfl,rfl,rfl,rfl⟩,trivial⟩, ?_⟩
     rw[zkK,zea]
     first|refine zs0 ?_|exact zt0
     simp[zaL,zcv,zaR,zax,st0]
   ·have hp:=zhT y.1 hok hm
    have hl9:=zkh hm
    have he:=zkL (pkI y.1) bs (by rw[pkI,List.length_append,List.length_singleton];omega) hbl
    simp only[zAD,hm,if_true]
    cases hc:(y.2 !=(bs.length:Int))
    ·cases hd:((strOf (pkI y.1)).toList==(strOf bs).toList)
     ·refine zL (I hc (I hd @zat)) (I (hp) (he)) ?_
      simp only[za2,za3,za1,zbb]
      refine⟨⟨_,rfl⟩,rfl,⟨⟨_,rfl,rfl,rfl,rfl,rfl⟩,⟨_,rfl,rfl,rfl,rfl,rfl⟩,trivial⟩, ?_⟩
      rw[zkK,zea]
      first|refine zs0 ?_|exact zt0
      simp[zaL,zcv,zaR,zax,st0]
     ·repeat'(first|exact zC|refine zq (I hc (I hd (I @zat @zgg))) ?_|refine zx (hp) ?_|refine zx (he) ?_|(apply zaa<;>intro hb)|(apply I;exact zI)|(apply I<;>intro hg))
      simp[zaL,zcv,zaR,zax, -List.length_flatMap,zar,zaP,zaN,zaB,zah,zaC]
    ·refine zL (I hc @zat) (hp) ?_
     simp only[za2,za3,za1,zbb]
     refine⟨⟨_,rfl⟩,rfl,⟨⟨_,rfl,rfl,rfl,rfl,rfl⟩,⟨_,rfl,rfl,rfl,rfl,rfl⟩,trivial⟩, ?_⟩
     rw[zkK,zea]
     first|refine zs0 ?_|exact zt0
     simp[zaL,zcv,zaR,zax,st0]
  ·rw[if_pos (by simp at hlen;omega)]
   refine zL0 hlen ?_
   simp only[za2,za3,za1,zbb]
   refine⟨⟨_,rfl⟩,rfl,⟨⟨_,rfl,rfl,rfl,rfl,rfl⟩,⟨_,rfl,rfl,rfl,rfl,rfl⟩,trivial⟩, ?_⟩
   rw[zkK,zea]
   first|refine zs0 ?_|exact zt0
   simp[zaL,zcv,zaR,zax,st0]
abbrev exP:Pkt:={pk0 8 with done:=1}
theorem zpn:exP.ok:=⟨by unfold i64;decide,zdp,zdp,by unfold i64;decide,⟨zdp,zdp,zdp,zdp,(by show(ByteArray.empty).size<2^62;decide)⟩,⟨by simp,by simp⟩,⟨zdp,zdp,zdp,zdp,by simp,by simp⟩,by simp,⟨zdp,zdp,zdp,zdp,zdp,by simp,by simp⟩,by simp,by simp,(show Small st0 from zus)⟩
theorem zrT:ziD exP=true:=by kernel_rfl
theorem zrU:pkI exP=[8,0,0,0,0,0,0,0,1]:=by kernel_rfl
theorem zxK:zxQ [8,0,0,0,0,0,0,0,1]=(exP,0):=by kernel_rfl
theorem zxL:zxQ []=(pk0 0,4):=by kernel_rfl
theorem zuU:exP.lent=[di 8,di 0,di 0,di 1,di 0,di 0,di 0,di 0,dS .empty,di 0,di 0,di 0,di 0,di 0, .lent 0 [],db false,di 0,di 0,di 0,di 0, .lent 0 [],di 0,di 0,di 0,di 0,di 0, .lent 0 [],di 0,di 0,di 0,di 0,di 0,di 0, .lent 0 [], .lent 0 [], .lent 0 []]:=rfl
theorem zxM:exP.enc.map RO.d=[.d (iD 8), .d (iD 0), .d (iD 0), .d (iD 1), .d (iD 0), .d (iD 0), .d (iD 0), .d (iD 0), .d (sD .empty), .d (iD 0), .d (iD 0), .d (iD 0), .d (iD 0), .d (iD 0), .d (.sl 0 []), .d (bD false), .d (iD 0), .d (iD 0), .d (iD 0), .d (iD 0), .d (.sl 0 []), .d (iD 0), .d (iD 0), .d (iD 0), .d (iD 0), .d (iD 0), .d (.sl 0 []), .d (iD 0), .d (iD 0), .d (iD 0), .d (iD 0), .d (iD 0), .d (iD 0), .d (.sl 0 []), .d (.sl 0 []), .d (.sl 0 [])]:=rfl
theorem zuV:zxE exP exP=true:=by kernel_rfl
theorem zkJ:CallOK Tryz.prog 10 [] (fun r o=>r=[rb true]∧o=[]):=by
 refine zh Tryz.func10 Tryz.results10 Tryz.ntmps10 Tryz.call10 ?_
 simp only[Tryz.f10,Option.getD]
 have h1:=zhT exP zpn zrT
 rw[zrU]at h1
 have h2:=zmN [8,0,0,0,0,0,0,0,1] ⟨by decide,by simp[zau]⟩ (by decide)
 rw[zxK]at h2
 have h3:=zmN [] ⟨by decide,by simp⟩ (by decide)
 rw[zxL]at h3
 have h4:=zuw exP exP zpn zpn
 rw[zuV]at h4
 have h5:=zcE exP zpn
 rw[zrT]at h5
 rw[zuU]at h1 h4 h5
 rw[show(exP,(0:Int)).1.enc.map RO.d=_ from zxM]at h2
 have hb:bytesOf (zad [8,0,0,0,0,0,0,0,1])=some [8,0,0,0,0,0,0,0,1]:=rfl
 repeat'(first|exact zC|(with_reducible first|refine zbh 3 ?_|refine zaU 3 ?_|refine zaV 3 ?_)|refine zu0 ?_|(with_reducible first|refine zae _ _ ?_)|refine zx (h1) ?_|(apply zaa<;>intro hb)|(apply I;exact zI)|(apply I<;>intro hg))
 refine zbl (zbk (Gh.sealV 2 (x:= .own ⟨2,1,0⟩ 0 9) (d:= .sl 9 (zad [8,0,0,0,0,0,0,0,1])) rfl (by simp only[zY,Nat.reduceSub,Nat.reduceEqDiff,Nat.reduceAdd,Nat.reduceMul,Nat.reduceLeDiff,Nat.reduceLT,Nat.reduceBEq,reduceCtorEq];rfl)) ?_)
 refine zL hb (I (h2) (I (h3) (I (h4) (h5)))) ?_
 rw[zcx,zcx]
 rfl
abbrev zDX (n i:Nat) (f:Int):List D:=(List.replicate i (uD f))++List.replicate (n - i) (uD 0)
theorem zbw {n:Int} (h:zau n):u8 n:=⟨h.1,by have:=h.2;omega⟩
theorem zb5 {ns:List Int} (h:∀x∈ns,zau x) (k:Nat):zau (ns.getD k 0):=by
 rcases Nat.lt_or_ge k ns.length with hk|hk
 ·exact zgs hk h
 ·rw[List.getD_eq_getElem?_getD,List.getElem?_eq_none hk];exact⟨by decide,by decide⟩
def f5 (ns:List Int) (i k:Nat):Int:=if k<i then ns.getD k 0 else 0
abbrev n5 (ns:List Int):List RO:=[.d (uD (ns.getD 0 0)), .d (uD (ns.getD 1 0)), .d (uD (ns.getD 2 0)), .d (uD (ns.getD 3 0)), .d (uD (ns.getD 4 0))]
theorem zuS (ns:List Int) (hl:ns.length<2^60):CallOK Tryz.prog 57 [.f (al ns.length (zad ns))] (fun r o=>r=[.agg (n5 ns)]∧o=[]):=by
 refine zh Tryz.func57 Tryz.results57 Tryz.ntmps57 Tryz.call57 ?_
 simp only[Tryz.f57,Option.getD]
 refine zL0 trivial ?_
 refine zai (τ:=Nat) (fun i=>⟨(al ns.length (zad ns)::dd::ptq 2::ptq 3::ai i::zxU []),[(2,⟨2,[obq 1 [.d (uD 0), .d (uD 0), .d (uD 0), .d (uD 0), .d (uD 0)],none,none,none,none,none]⟩),(3,⟨2,[obq 1 [.d (uD (f5 ns i 0)), .d (uD (f5 ns i 1)), .d (uD (f5 ns i 2)), .d (uD (f5 ns i 3)), .d (uD (f5 ns i 4))],none,none,none,none,none]⟩)]⟩)
  (fun i=>i≤ns.length∧i≤5) (fun _=>()) (fun i=>5 - i) 0
  (Gh.canon [2,3] [] [] zK rfl rfl) ⟨Nat.zero_le _,Nat.zero_le _⟩ ?_
 intro i ⟨hi0,hi5⟩ hF K hK
 cases hc:(decide ((i:Int)<ns.length)&&decide ((i:Int)<5))
 ·have he:∀k,k<5→f5 ns i k=ns.getD k 0:=fun k hk=>by
   unfold f5
   split
   ·rfl
   ·have hge:ns.length≤k:=by
     simp only[Bool.and_eq_false_iff,decide_eq_false_iff_not]at hc
     omega
    rw[List.getD_eq_getElem?_getD,List.getElem?_eq_none hge];rfl
  exact zW0 (I hc (I (he 0 (by omega)) (I (he 1 (by omega)) (I (he 2 (by omega)) (I (he 3 (by omega)) (he 4 (by omega)))))))
 ·have hi:i<ns.length∧i<5:=by simp only[Bool.and_eq_true,decide_eq_true_eq]at hc;omega
  have hat:=zdI hi.1
  have hw:IntKind.i64.wrap ((i:Int)+1)=((i+1:Nat):Int):=zal hi.1 (by omega)
  obtain⟨j,hj⟩:∃j,i+1=j:=⟨_,rfl⟩
  rw[hj]at hw
  rcases(show i=0∨i=1∨i=2∨i=3∨i=4 by omega)with rfl|rfl|rfl|rfl|rfl
  all_goals
   refine zL0 (I hc (I hat @za6)) ?_
   have hk:=fun g=>hK g j
   subst hj
   exact hk _ (Gh.canon [2,3] [] [] (zk hw) rfl rfl) ⟨by omega,by omega⟩ rfl (by omega)
def nm5 (k:Nat):ByteArray:=if k=0 then⟨#[97]⟩else if k=1 then⟨#[98]⟩else if k=2 then⟨#[107,101,121,45,49]⟩else if k=3 then⟨#[108,111,99,107]⟩else⟨#[120]⟩
def zg6 (ns:List Int):Nat→Nat→List Grant→List Grant
 |0,_,acc=>acc
 |f+1,i,acc=>if(decide (i<ns.length)&&decide (acc.length<4))=true then(if ns.getD i 0 % 2=1 then zg6 ns f (i+1) (acc++[⟨nm5 (i - 3),1+ns.getD i 0⟩])else zg6 ns f (i+1) acc)else acc
def zuT (ns:List Int):Reply:=if ns.length>2 then⟨ns.getD 0 0 % 13,ns.getD 1 0 % 5,ns.getD 2 0 % 4,if ns.getD 1 0 % 5>0 then zg6 ns 5 3 []else []⟩else⟨0,0,0,[]⟩
theorem ziH {n m:Int} (h:zau n) (hm:0<m):n.tmod m=n % m:=Int.tmod_eq_emod_of_nonneg h.1
abbrev zzz (r:Reply):RF:= .agg (r.enc.map RO.d)
theorem grants_take {l:List Grant}:(zaJ l).take (l.length*2)=zaJ l:=zcT Grant.enc 2 (fun _=>rfl) l
theorem zzA {k:Nat} (hk:k<5):∃rest,List.drop k [C.d (sD ⟨#[97]⟩),C.d (sD ⟨#[98]⟩),C.d (sD ⟨#[107,101,121,45,49]⟩),C.d (sD ⟨#[108,111,99,107]⟩),C.d (sD ⟨#[120]⟩)]=C.d (sD (nm5 k))::rest:=by
 rcases(show k=0∨k=1∨k=2∨k=3∨k=4 by omega)with rfl|rfl|rfl|rfl|rfl<;>exact⟨_,rfl⟩
set_option maxHeartbeats 2000000 in
theorem zmM (ns:List Int) (hl:ns.length<2^60) (hb:∀x∈ns,zau x) (c s a:Int) (L:List Grant) (hL:L=if s>0 then zg6 ns 5 3 []else []) (x:Code)
  (hc:zgC 6 (Tryz.f109.body.getD .skip)=some x):
  awp Ty Tryz.prog x ⟨(al ns.length (zad ns)::dd::ptq 2::ptq 3::zzo (zez [])),[(2,⟨2,[obq 1 [di 0,di 0,di 0, .d (.v zfs)],none,none,none,none]⟩),(3,⟨2,[obq 1 [di c,di s,di a, .d (.v zfs)],none,none,none,none]⟩)]⟩ (zpQ Ty [.cell 2 29] [] (fun q o=>zaL q [zzz ⟨c,s,a,L⟩]∧o=[])):=by
 simp only[Tryz.f109,Option.getD,zgC,Nat.reduceBEq,if_true,if_false,Bool.false_eq_true,Option.none_or,Option.some_or,Option.some.injEq]at hc
 subst hc
 refine zL0 trivial ?_
 refine zai (τ:=Nat×List Grant) (fun t=>⟨(al ns.length (zad ns)::dd::ptq 2::ptq 3:: .one (.own ⟨4,1,1⟩ 0 5)::ai t.1::zzP (zez [])),[(2,⟨2,[obq 1 [di 0,di 0,di 0, .d (.v zfs)],none,none,none,none]⟩),(3,⟨2,[obq 1 [di c,di s,di a, .own ⟨3,4,1⟩ 0 t.2.length],none,none,none,roq 1 2 (zaJ t.2)]⟩),(27,⟨2,[]⟩),(4,⟨2,[none,roq 1 1 ([sD ⟨#[97]⟩,sD ⟨#[98]⟩,sD ⟨#[107,101,121,45,49]⟩,sD ⟨#[108,111,99,107]⟩,sD ⟨#[120]⟩])]⟩),(69,⟨2,[]⟩),(70,⟨2,[]⟩)]⟩)
  (fun t=>3≤t.1∧t.1≤8∧t.2.length≤4) (fun t=>if s>0 then zg6 ns (8 - t.1) t.1 t.2 else t.2) (fun t=>8 - t.1) (3,[])
  ((Gh.nilF 3 3 2 rfl).trans (Gh.canon [2,3,4] [69,70] [] zK rfl rfl)) ⟨Nat.le_refl _,by decide,by simp⟩ ?_
 intro⟨i,acc⟩ ⟨j1,j2,j3⟩ hF K hK
 simp only at j1 j2 j3 hF hK⊢
 cases hq:(((decide ((i:Int)<ns.length)&&decide ((i:Int)<8))&&decide (s>0))&&decide ((acc.length:Int)<4))
 ·have hz:L=acc:=by
   rw[hL]
   refine hF.symm.trans ?_
   split
   ·rename_i hs
    simp only[Bool.and_eq_false_iff,decide_eq_false_iff_not]at hq
    rcases Nat.lt_or_ge i 8 with h8|h8
    ·obtain⟨f,hf⟩:∃f,8 - i=f+1:=⟨8 - i - 1,by omega⟩
     rw[hf,zg6,if_neg]
     simp only[Bool.and_eq_true,decide_eq_true_eq]
     omega
    ·rw[show 8 - i=0 by omega,zg6]
   ·rfl
  rw[hz]
  repeat'(first|exact zC|refine zq (I hq @grants_take) ?_|(apply zaa<;>intro hb)|(apply I;exact zI)|(apply I<;>intro hg))
  simp[zaL,zcv,zaR,zax, -List.length_flatMap,zar]
 ·have hq2:=hq
  simp only[Bool.and_eq_true,decide_eq_true_eq]at hq2
  obtain⟨⟨⟨q1,q2⟩,q3⟩,q4⟩:=hq2
  have hi:i<ns.length:=by omega
  have hat:=zdI hi
  have hv:=zb5 hb i
  have hm:=ziH (m:=2) hv (by decide)
  have hw:IntKind.i64.wrap ((i:Int)+1)=((i+1:Nat):Int):=zal hi (by omega)
  have hw3:IntKind.i64.wrap ((i:Int) - 3)=((i - 3:Nat):Int):=by rw[wrap64 (by omega) (by omega)];omega
  have hw1:IntKind.i64.wrap (1+ns.getD i 0)=1+ns.getD i 0:=wrap64 (by have:=hv.1;omega) (by have:=hv.2;omega)
  have hw0:IntKind.i64.wrap (ns.getD i 0)=ns.getD i 0:=wrap64 (by have:=hv.1;omega) (by have:=hv.2;omega)
  obtain⟨rest,hnm⟩:=zzA (k:=i - 3) (by omega)
  have hcl:(acc.length+1≤2^47)=True:=eq_true (by omega)
  have hst:zg6 ns (8 - i) i acc=if ns.getD i 0 % 2=1 then zg6 ns (8 - (i+1)) (i+1) (acc++[⟨nm5 (i - 3),1+ns.getD i 0⟩])else zg6 ns (8 - (i+1)) (i+1) acc:=by
   obtain⟨f,hf⟩:∃f,8 - i=f+1:=⟨8 - i - 1,by omega⟩
   rw[hf,zg6,if_pos (by simp only[Bool.and_eq_true,decide_eq_true_eq];omega),show 8 - (i+1)=f by omega]
  rw[if_pos q3,hst]at hF
  cases hod:(ns.getD i 0 % 2==1)
  ·rw[if_neg (by simpa using hod)]at hF
   refine zL0 (I hq (I hat (I @za6 (I hm hod)))) ?_
   exact hK _ (i+1,acc) (Gh.canon [2,3,4] [] [] (zk hw) rfl rfl) ⟨by simp only;omega,by simp only;omega,j3⟩ (by simp only;rw[if_pos q3,if_pos q3,hst,if_neg (by simpa using hod)]) (by simp only;omega)
  ·refine zL0 (I hq (I hat (I @za6 (I hm (I hod (I hw3 (I hw1 (I hw0 (I hnm (I @grants_take (I @zar hcl))))))))))) ?_
   exact hK _ (i+1,acc++[⟨nm5 (i - 3),1+ns.getD i 0⟩]) (Gh.canon [2,3,4] [] [] (zk (I hw (I @List.length_append.{0} @List.length_singleton.{0}))) rfl (by simp only[List.length_append,List.length_singleton];rw[zfD];rfl)) ⟨by simp only;omega,by simp only;omega,by simp;omega⟩ (by simp only;rw[if_pos q3,if_pos q3,hst,if_pos (by simpa using hod)]) (by simp only;omega)
theorem zxJ (ns:List Int) (hl:ns.length<2^60) (hbs:∀x∈ns,zau x):CallOK Tryz.prog 109 [.f (al ns.length (zad ns))] (fun r o=>r=[zzz (zuT ns)]∧o=[]):=by
 refine CallOK.nil ?_
 refine zh Tryz.func109 Tryz.results109 Tryz.ntmps109 Tryz.call109 ?_
 simp only[Tryz.f109,Option.getD]
 have w0:∀k,IntKind.i64.wrap (ns.getD k 0)=ns.getD k 0:=fun k=>wrap64 (by have:=(zb5 hbs k).1;omega) (by have:=(zb5 hbs k).2;omega)
 have m0:=ziH (m:=13) (zb5 hbs 0) (by decide)
 have m1:=ziH (m:=5) (zb5 hbs 1) (by decide)
 have m2:=ziH (m:=4) (zb5 hbs 2) (by decide)
 cases h2:decide ((ns.length:Int)>2)
 ·have hz:zuT ns=⟨0,0,0,[]⟩:=by rw[zuT,if_neg (by simp at h2;omega)]
  rw[hz]
  repeat'(first|exact zC|(with_reducible first|refine zbh 6 ?_|refine zaU 6 ?_|refine zaV 6 ?_)|refine zu h2 ?_|(with_reducible first|refine zae _ _ ?_)|(apply zaa<;>intro hb)|(apply I;exact zI)|(apply I<;>intro hg))
  exact zsa (Gh.canon [2,3] [] [] zK rfl rfl) (zmM ns hl hbs 0 0 0 [] rfl _ rfl)
 ·have h3:3≤ns.length:=by simp at h2;omega
  have a0:=zdI (l:=ns) (i:=0) (by omega)
  have a1:=zdI (l:=ns) (i:=1) (by omega)
  have a2:=zdI (l:=ns) (i:=2) (by omega)
  have l1:(1:Int)<ns.length:=by omega
  have l2:(2:Int)<ns.length:=by omega
  have hz:zuT ns=⟨ns.getD 0 0 % 13,ns.getD 1 0 % 5,ns.getD 2 0 % 4,if ns.getD 1 0 % 5>0 then zg6 ns 5 3 []else []⟩:=by rw[zuT,if_pos (by omega)]
  rw[hz]
  have t1:Int.toNat 1=1:=rfl
  have t2:Int.toNat 2=2:=rfl
  repeat'(first|exact zC|(with_reducible first|refine zbh 6 ?_|refine zaU 6 ?_|refine zaV 6 ?_)|refine zv (I h2 (I a0 (I a1 (I a2 (I t1 (I t2 (I @za6 (I w0 (I m0 (I m1 m2)))))))))) ?_|(with_reducible first|refine zae _ _ ?_)|(apply zaa<;>intro hb)|(apply I;exact zJ)|(apply I<;>intro hg))
  exact zsa (Gh.canon [2,3] [] [] zK rfl rfl) (zmM ns hl hbs _ _ _ _ rfl _ rfl)
theorem zg2 {n:Int} (h:zau n):within n=true:=by
 unfold zau at h
 rw[zdE]
 simp;omega
def zz:ByteArray:=⟨#[122,122]⟩
theorem zuM:((List.range 5).all fun k=>nameP (nm5 k)&&(List.range 5).all fun j=> !decide (j<k)||zeK (nm5 j) (nm5 k))=true:=by kernel_rfl
theorem zwS {k:Nat} (hk:k<5):nameP (nm5 k)=true:=by
 have:=List.all_eq_true.1 zuM k (List.mem_range.2 hk)
 rw[Bool.and_eq_true]at this
 exact this.1
theorem zwT {j k:Nat} (hk:k<5) (hj:j<k):zeK (nm5 j) (nm5 k)=true:=by
 have:=List.all_eq_true.1 zuM k (List.mem_range.2 hk)
 rw[Bool.and_eq_true]at this
 have:=List.all_eq_true.1 this.2 j (List.mem_range.2 (by omega))
 simpa[hj]using this
structure Gr5 (i:Nat) (l:List Grant):Prop where
 len:l.length≤4
 all:∀g∈l,∃k,k<i∧k<5∧g.name=nm5 k∧1≤g.token∧g.token≤256
 rise:l.Pairwise fun a b=>zeK a.name b.name=true
theorem zg1 {ns:List Int} (hb:∀x∈ns,zau x):∀{f i:Nat} {acc:List Grant},3≤i→i+f≤8→Gr5 (i - 3) acc→Gr5 5 (zg6 ns f i acc)
 |0,i,acc,h1,h2,h=>⟨h.len,fun g hg=>by obtain⟨k,a,b,c⟩:=h.all g hg;exact⟨k,b,b,c⟩,h.rise⟩
 |f+1,i,acc,h1,h2,h=>by
  have hn:Gr5 (i+1 - 3) acc:=⟨h.len,fun g hg=>by obtain⟨k,a,b,c⟩:=h.all g hg;exact⟨k,by omega,b,c⟩,h.rise⟩
  rw[zg6]
  split
  ·rename_i hc
   simp only[Bool.and_eq_true,decide_eq_true_eq]at hc
   split
   ·have hv:=zb5 hb i
    unfold zau at hv
    refine zg1 hb (by omega) (by omega) ⟨by rw[List.length_append,List.length_singleton];omega,fun g hg=> ?_, ?_⟩
    ·rcases List.mem_append.1 hg with hg|hg
     ·exact hn.all g hg
     ·simp only[List.mem_singleton]at hg
      subst hg
      exact⟨i - 3,by omega,by omega,rfl,by simp only;omega,by simp only;omega⟩
    ·rw[List.pairwise_append]
     refine⟨h.rise,by simp,fun a ha b hb2=> ?_⟩
     simp only[List.mem_singleton]at hb2
     subst hb2
     obtain⟨k,q1,q2,q3,_⟩:=h.all a ha
     rw[q3]
     exact zwT (by omega) q1
   ·exact zg1 hb (by omega) (by omega) hn
  ·exact⟨h.len,fun g hg=>by obtain⟨k,a,b,c⟩:=h.all g hg;exact⟨k,b,b,c⟩,h.rise⟩
theorem zuN {l:List Grant} (h:Gr5 5 l):zcg (zcC l) 0 l=true:=by
 have hH:zbx=2305843009213693952:=rfl
 refine zcI.2 fun j hj=> ?_
 obtain⟨k,q1,q2,q3,q4,q5⟩:=h.all _ (List.getElem_mem hj)
 rw[Nat.zero_add,zcC,q3,zwS q2,hH,←q3]
 have e1:decide (l[j].token<1)=false:=by simp;omega
 have e2:decide (l[j].token>2305843009213693952)=false:=by simp;omega
 rw[e1,e2]
 by_cases hz:j=0
 ·subst hz;simp
 ·have hp:zrt l j=l[j - 1].name:=by rw[zrt,List.getElem?_eq_getElem (by omega)];rfl
  have:=List.pairwise_iff_getElem.1 h.rise (j - 1) j (by omega) hj (by omega)
  rw[hp,this]
  simp
theorem zoh {r:Reply} (h1:0≤r.code∧r.code≤12) (h2:0≤r.session∧r.session≤2305843009213693952) (h3:0≤r.ahead∧r.ahead≤3) (h4:r.held.length≤4) (h5:r.session=0→r.held.length=0) (h6:zcg (zcC r.held) 0 r.held=true):zbN r=true:=by
 have hH:zbx=2305843009213693952:=rfl
 have e1:decide (r.code<0)=false:=by simp;omega
 have e2:decide (r.code>12)=false:=by simp;omega
 have e3:decide (r.session<0)=false:=by simp;omega
 have e4:decide (r.session>2305843009213693952)=false:=by simp;omega
 have e5:decide (r.ahead<0)=false:=by simp;omega
 have e6:decide (r.ahead>3)=false:=by simp;omega
 have e7:decide ((r.held.length:Int)>4)=false:=by simp;omega
 have e8:((r.session==0)&&decide ((r.held.length:Int)>0))=false:=by
  by_cases hz:r.session=0
  ·have:=h5 hz
   rw[this];simp
  ·simp[hz]
 rw[zbN,h6,hH,e1,e2,e3,e4,e5,e6,e7,e8]
 rfl
theorem zwU {ns:List Int} (hb:∀x∈ns,zau x):zbN (zuT ns)=true∧(zuT ns).held.length≤4:=by
 unfold zuT
 split
 ·have b0:=zb5 hb 0
  have b1:=zb5 hb 1
  have b2:=zb5 hb 2
  unfold zau at b0 b1 b2
  have hH:zbx=2305843009213693952:=rfl
  split
  ·rename_i hs
   have g:=zg1 hb (f:=5) (i:=3) (acc:=[]) (by omega) (by omega) ⟨by simp,by simp,by simp⟩
   exact⟨zoh ⟨by simp only;omega,by simp only;omega⟩ ⟨by simp only;omega,by simp only;omega⟩ ⟨by simp only;omega,by simp only;omega⟩ g.len (fun hz=>by simp only at hz;omega) (zuN g),g.len⟩
  ·exact⟨zoh ⟨by simp only;omega,by simp only;omega⟩ ⟨by simp only;omega,by simp only;omega⟩ ⟨by simp only;omega,by simp only;omega⟩ (by simp) (fun _=>rfl) rfl,by simp⟩
 ·exact⟨by decide,by simp⟩
def zwV (c q:Int) (ns:List Int):Memo:=⟨c % 8,1+q % 40,zuT ns⟩
theorem zzm (c q:Int) (ns:List Int) (hc:zau c) (hq:zau q) (hl:ns.length<2^60) (hb:∀x∈ns,zau x):CallOK Tryz.prog 59 [.f (au c), .f (au q), .f (al ns.length (zad ns))] (fun r o=>r=[ztn (zwV c q ns)]∧o=[]):=by
 refine zh Tryz.func59 Tryz.results59 Tryz.ntmps59 Tryz.call59 ?_
 simp only[Tryz.f59,Option.getD]
 have h1:=zxJ ns hl hb
 have m0:=ziH (m:=8) hc (by decide)
 have m1:=ziH (m:=40) hq (by decide)
 unfold zau at hc hq
 have w0:IntKind.i64.wrap c=c:=wrap64 (by omega) (by omega)
 have w1:IntKind.i64.wrap q=q:=wrap64 (by omega) (by omega)
 have w2:IntKind.i64.wrap (1+q % 40)=1+q % 40:=wrap64 (by omega) (by omega)
 refine zL (I w0 (I w1 (I m0 (I m1 w2)))) (h1) ?_
 rfl
theorem zqJ {c q:Int} {ns:List Int} (hc:zau c) (hq:zau q) (hb:∀x∈ns,zau x):answerB (zwV c q ns)=true:=by
 have hH:zbx=2305843009213693952:=rfl
 unfold zau at hc hq
 rw[answerB,zwV,(zwU hb).1,hH]
 simp
 omega
end Go.Proofs.YtliimajkpggbhaaGreat
