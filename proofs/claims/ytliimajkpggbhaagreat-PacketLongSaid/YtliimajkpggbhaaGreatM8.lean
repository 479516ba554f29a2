import Derived.Test.YtliimajkpggbhaaGreatK9
import Derived.Test.YtliimajkpggbhaaGreatPF
namespace Go.Proofs.YtliimajkpggbhaaGreat
open Go.Pk
set_option maxRecDepth 100000
set_option linter.unusedSimpArgs false
set_option linter.unusedVariables false
abbrev rds (bs:List Int) (p:Int):List RO:=rdr bs.length (zad bs) p
abbrev znM (e:Int):Value:=zdW 177 e
abbrev Rr (α:Type):=Except Int (α×Int)
def rOf {α:Type} (x:α×Int×Int):Rr α:=if x.2.2=0 then .ok (x.1,x.2.1)else .error x.2.2
theorem zcC {α:Type} {x:α×Int×Int} {y:α×Int} (h:rOf x= .ok y):x.2.2=0∧y=(x.1,x.2.1):=by
 unfold rOf at h
 split at h
 ·rename_i h0;cases h;exact⟨h0,rfl⟩
 ·cases h
theorem zby {α:Type} {x:α×Int×Int} {e:Int} (h:rOf x= .error e):x.2.2=e∧e≠0:=by
 unfold rOf at h
 split at h
 ·cases h
 ·rename_i h0;cases h;exact⟨rfl,h0⟩
def zaT (bs:List Int) (p:Int):Rr Int:=rOf (zeQ bs p)
def zaZ (bs:List Int) (p:Int):Rr Int:=rOf (zbp bs p)
def zfE (bs:List Int) (p:Int):Rr ByteArray:=rOf (zbT bs p 12)
def zf4 (bs:List Int) (p:Int):Rr Memo:=rOf (zf6 bs p)
def zbl (bs:List Int) (p most:Int):Rr Int:=match zaZ bs p with
 | .error e=> .error e
 | .ok (n,q)=>if n>most then .error 4 else .ok (n,q)
theorem zgE:CallOK Tryz.prog 177 [.f (ai 0)] (fun r o=>r=[]∧o=[]):=by
 refine zh Tryz.func177 Tryz.results177 Tryz.ntmps177 Tryz.call177 ?_
 simp only[Tryz.f177,Option.getD]
 repeat'(first|exact zC|refine zq0 ?_|(apply zaa<;>intro hb)|(apply I;exact zI)|(apply I<;>intro hg))
theorem zfF (e:Int) (h:e≠0):zbj Tryz.prog 177 [.f (ai e)] (znM e):=by
 refine zhy Tryz.func177 Tryz.ntmps177 Tryz.call177 ?_
 simp only[Tryz.f177,Option.getD]
 have h1:(e !=0)=true:=by simpa using h
 repeat'(first|exact zC|refine zq (I h1 @zab) ?_|(apply zaa<;>intro hb)|(apply I;exact zI)|(apply I<;>intro hg))
theorem zcQ (bs:List Int) (p:Int) (h:BsOk bs) (hp:i64 p) {y:Int×Int} (hy:zaT bs p= .ok y):
  CallOK Tryz.prog 144 [.obj (rds bs p)] (fun r o=>r=[ri y.1]∧o=[rds bs y.2]):=by
 obtain⟨h0,rfl⟩:=zcC hy
 refine zh Tryz.func144 Tryz.results144 Tryz.ntmps144 Tryz.call144 ?_
 simp only[Tryz.f144,Option.getD]
 have h1:=zdP bs p h hp
 rw[h0]at h1
 repeat'(first|exact zC|refine zq0 ?_|refine zx (h1) ?_|refine zx (zgE) ?_|(apply zaa<;>intro hb)|(apply I;exact zI)|(apply I<;>intro hg))
theorem zch (bs:List Int) (p:Int) (h:BsOk bs) (hp:i64 p) {e:Int} (hy:zaT bs p= .error e):
  zbj Tryz.prog 144 [.obj (rds bs p)] (znM e):=by
 obtain⟨h0,h2⟩:=zby hy
 refine zhy Tryz.func144 Tryz.ntmps144 Tryz.call144 ?_
 simp only[Tryz.f144,Option.getD]
 have h1:=zdP bs p h hp
 rw[h0]at h1
 repeat'(first|exact zC|refine zq0 ?_|refine zx (h1) ?_|(apply zaa<;>intro hb)|(apply I;exact zI)|(apply I<;>intro hg))
 refine zct (zfF e h2) rfl ?_
 first|refine zs @zab ?_|exact zt @zab
theorem zfG (bs:List Int) (p:Int) (h:BsOk bs) (hp:i64 p) {y:Int×Int} (hy:zaZ bs p= .ok y):
  CallOK Tryz.prog 179 [.obj (rds bs p)] (fun r o=>r=[ri y.1]∧o=[rds bs y.2]):=by
 obtain⟨h0,rfl⟩:=zcC hy
 refine zh Tryz.func179 Tryz.results179 Tryz.ntmps179 Tryz.call179 ?_
 simp only[Tryz.f179,Option.getD]
 have h1:=zcv bs p h hp
 rw[h0]at h1
 repeat'(first|exact zC|refine zq0 ?_|refine zx (h1) ?_|refine zx (zgE) ?_|(apply zaa<;>intro hb)|(apply I;exact zI)|(apply I<;>intro hg))
theorem zfH (bs:List Int) (p:Int) (h:BsOk bs) (hp:i64 p) {e:Int} (hy:zaZ bs p= .error e):
  zbj Tryz.prog 179 [.obj (rds bs p)] (znM e):=by
 obtain⟨h0,h2⟩:=zby hy
 refine zhy Tryz.func179 Tryz.ntmps179 Tryz.call179 ?_
 simp only[Tryz.f179,Option.getD]
 have h1:=zcv bs p h hp
 rw[h0]at h1
 repeat'(first|exact zC|refine zq0 ?_|refine zx (h1) ?_|(apply zaa<;>intro hb)|(apply I;exact zI)|(apply I<;>intro hg))
 refine zct (zfF e h2) rfl ?_
 first|refine zs @zab ?_|exact zt @zab
theorem zpv (bs:List Int) (p:Int) (h:BsOk bs) (hp:i64 p) {y:ByteArray×Int} (hy:zfE bs p= .ok y):
  CallOK Tryz.prog 199 [.obj (rds bs p)] (fun r o=>r=[.one (.d (sD y.1))]∧o=[rds bs y.2]):=by
 obtain⟨h0,rfl⟩:=zcC hy
 refine zh Tryz.func199 Tryz.results199 Tryz.ntmps199 Tryz.call199 ?_
 simp only[Tryz.f199,Option.getD]
 have h1:=zfJ bs p 12 h hp
 rw[h0]at h1
 repeat'(first|exact zC|refine zq0 ?_|refine zx (h1) ?_|refine zx (zgE) ?_|(apply zaa<;>intro hb)|(apply I;exact zI)|(apply I<;>intro hg))
theorem znt (bs:List Int) (p:Int) (h:BsOk bs) (hp:i64 p) {e:Int} (hy:zfE bs p= .error e):
  zbj Tryz.prog 199 [.obj (rds bs p)] (znM e):=by
 obtain⟨h0,h2⟩:=zby hy
 refine zhy Tryz.func199 Tryz.ntmps199 Tryz.call199 ?_
 simp only[Tryz.f199,Option.getD]
 have h1:=zfJ bs p 12 h hp
 rw[h0]at h1
 repeat'(first|exact zC|refine zq0 ?_|refine zx (h1) ?_|(apply zaa<;>intro hb)|(apply I;exact zI)|(apply I<;>intro hg))
 refine zct (zfF e h2) rfl ?_
 first|refine zs @zab ?_|exact zt @zab
theorem zpw (bs:List Int) (p:Int) (h:BsOk bs) (hp:i64 p) {y:Memo×Int} (hy:zf4 bs p= .ok y):
  CallOK Tryz.prog 181 [.obj (rds bs p)] (fun r o=>r=[zsf y.1]∧o=[rds bs y.2]):=by
 obtain⟨h0,rfl⟩:=zcC hy
 refine zh Tryz.func181 Tryz.results181 Tryz.ntmps181 Tryz.call181 ?_
 simp only[Tryz.f181,Option.getD]
 have h1:=zeq bs p h hp
 rw[h0]at h1
 repeat'(first|exact zC|refine zq0 ?_|refine zx (h1) ?_|refine zx (zgE) ?_|(apply zaa<;>intro hb)|(apply I;exact zI)|(apply I<;>intro hg))
 rfl
theorem znu (bs:List Int) (p:Int) (h:BsOk bs) (hp:i64 p) {e:Int} (hy:zf4 bs p= .error e):
  zbj Tryz.prog 181 [.obj (rds bs p)] (znM e):=by
 obtain⟨h0,h2⟩:=zby hy
 refine zhy Tryz.func181 Tryz.ntmps181 Tryz.call181 ?_
 simp only[Tryz.f181,Option.getD]
 have h1:=zeq bs p h hp
 rw[h0]at h1
 repeat'(first|exact zC|refine zq0 ?_|refine zx (h1) ?_|(apply zaa<;>intro hb)|(apply I;exact zI)|(apply I<;>intro hg))
 refine zct (zfF e h2) rfl ?_
 first|refine zs @zab ?_|exact zt @zab
theorem zhq {bs:List Int} {p most:Int} {y:Int×Int} (hy:zbl bs p most= .ok y):zaZ bs p= .ok y∧y.1≤most:=by
 unfold zbl at hy
 cases hz:zaZ bs p with
 |error e=>rw[hz]at hy;cases hy
 |ok z=>
  rw[hz]at hy
  simp only at hy
  split at hy
  ·cases hy
  ·rename_i hgt
   cases hy
   exact⟨rfl,by simp only;omega⟩
theorem zeO {bs:List Int} {p most:Int} {e:Int} (hy:zbl bs p most= .error e):zaZ bs p= .error e∨∃z,zaZ bs p= .ok z∧z.1>most∧e=4:=by
 unfold zbl at hy
 cases hz:zaZ bs p with
 |error e=>rw[hz]at hy;cases hy;exact .inl rfl
 |ok z=>
  rw[hz]at hy
  simp only at hy
  split at hy
  ·rename_i hgt;cases hy;exact .inr ⟨z,rfl,hgt,rfl⟩
  ·cases hy
theorem zeP (bs:List Int) (p most:Int) (h:BsOk bs) (hp:i64 p) {y:Int×Int} (hy:zbl bs p most= .ok y):
  CallOK Tryz.prog 178 [.obj (rds bs p), .f (ai most)] (fun r o=>r=[ri y.1]∧o=[rds bs y.2]):=by
 obtain⟨hz,hle⟩:=zhq hy
 have h1:=zfG bs p h hp hz
 have h2:decide (y.1>most)=false:=by simpa using hle
 refine zh Tryz.func178 Tryz.results178 Tryz.ntmps178 Tryz.call178 ?_
 simp only[Tryz.f178,Option.getD]
 repeat'(first|exact zC|refine zq0 ?_|(apply zaa<;>intro hb)|(apply I;exact zI)|(apply I<;>intro hg))
 refine zj (h1) ?_
 repeat'(first|exact zC|refine zq h2 ?_|(apply zaa<;>intro hb)|(apply I;exact zI)|(apply I<;>intro hg))
theorem zdM (bs:List Int) (p most:Int) (h:BsOk bs) (hp:i64 p) {e:Int} (hy:zbl bs p most= .error e):
  zbj Tryz.prog 178 [.obj (rds bs p), .f (ai most)] (znM e):=by
 refine zhy Tryz.func178 Tryz.ntmps178 Tryz.call178 ?_
 simp only[Tryz.f178,Option.getD]
 rcases zeO hy with hz|⟨z,hz,hgt,rfl⟩
 ·have h1:=zfH bs p h hp hz
  repeat'(first|exact zC|refine zq0 ?_|(apply zaa<;>intro hb)|(apply I;exact zI)|(apply I<;>intro hg))
  refine zp (rds bs p) (h1) ?_
  first|refine zs @zab ?_|exact zt @zab
 ·have h1:=zfG bs p h hp hz
  have h2:decide (z.1>most)=true:=by simpa using hgt
  repeat'(first|exact zC|refine zq0 ?_|(apply zaa<;>intro hb)|(apply I;exact zI)|(apply I<;>intro hg))
  refine zj (h1) ?_
  repeat'(first|exact zC|refine zq (I h2 @zab) ?_|(apply zaa<;>intro hb)|(apply I;exact zI)|(apply I<;>intro hg))
def zfD (bs:List Int):Nat→Int→List Int→Rr (List Int)
 |0,p,acc=> .ok (acc,p)
 |n+1,p,acc=>match zaZ bs p with
  | .error e=> .error e
  | .ok x=>zfD bs n x.2 (acc++[x.1])
def zfc (bs:List Int) (p:Int):Rr Lk:=match zfE bs p with
 | .error e=> .error e
 | .ok nm=>match zaZ bs nm.2 with
  | .error e=> .error e
  | .ok hd=>match zaT bs hd.2 with
   | .error e=> .error e
   | .ok tk=>match zbl bs tk.2 3 with
    | .error e=> .error e
    | .ok n=>match zfD bs n.1.toNat n.2 []with
     | .error e=> .error e
     | .ok l=> .ok (⟨nm.1,hd.1,tk.1,l.1⟩,l.2)
theorem zal {bs:List Int} {p:Int} {y:Int×Int} (h:BsOk bs) (hy:zaT bs p= .ok y):i64 y.2:=by
 obtain⟨_,rfl⟩:=zcC hy
 exact zdV h.l zer
theorem zaN {bs:List Int} {p:Int} {y:Int×Int} (h:BsOk bs) (hy:zaZ bs p= .ok y):i64 y.2:=by
 obtain⟨_,rfl⟩:=zcC hy
 exact zdV h.l zcW
theorem zeo {bs:List Int} {p:Int} {y:Int×Int} (h:BsOk bs) (hy:zaZ bs p= .ok y):0≤y.1∧y.1<256:=by
 obtain⟨_,rfl⟩:=zcC hy
 exact zht h
theorem zf3 {bs:List Int} {p:Int} {y:ByteArray×Int} (h:BsOk bs) (hy:zfE bs p= .ok y):i64 y.2:=by
 obtain⟨_,rfl⟩:=zcC hy
 exact zdV h.l (ziz h)
theorem zb3 {bs:List Int} {p m:Int} {y:Int×Int} (h:BsOk bs) (hy:zbl bs p m= .ok y):i64 y.2∧0≤y.1∧y.1≤m:=by
 obtain⟨h1,h2⟩:=zhq hy
 exact⟨zaN h h1,(zeo h h1).1,h2⟩
abbrev zuR (bs:List Int) (q:Int) (nx:Nat):Nat×RS:=(0,{next:=nx,l:=[some {e:=0,var:=true,fz:=false,bor:=true,sz:=0,cells:=[.d (.sl bs.length (zad bs)),di q]},none,none]})
abbrev zyu (k:Lk):RF:= .agg [.d (sD k.name), .d (iD k.holder), .d (iD k.token), .own 1 k.line.length (za1 k.line) false]
set_option maxHeartbeats 2000000 in
theorem zho (bs:List Int) (p:Int) (h:BsOk bs) (hp:i64 p) (b:Bool) (y:Lk×Int) (e:Int) (hy:zjF b y e (zfc bs p)):
  (b=true→CallOK Tryz.prog 180 [.obj (rds bs p)] (fun r o=>r=[zyu y.1]∧o=[rds bs y.2]))∧(b=false→zbj Tryz.prog 180 [.obj (rds bs p)] (znM e)):=by
 refine zhb Tryz.func180 Tryz.results180 Tryz.ntmps180 Tryz.call180 ?_
 simp only[Tryz.f180,Option.getD]
 unfold zfc at hy
 cases e1:zfE bs p with
 |error x=>
  rw[e1]at hy
  obtain⟨rfl,rfl⟩:=zaq hy
  have h1:=znt bs p h hp e1
  repeat'(first|exact zC|refine zq0 ?_|(apply zaa<;>intro hb)|(apply I;exact zI)|(apply I<;>intro hg))
  refine zp (rds bs p) (h1) ?_
  first|refine zs (I @zae @zab) ?_|exact zt (I @zae @zab)
 |ok nm=>
 have h1:=zpv bs p h hp e1
 rw[e1]at hy
 simp only at hy
 repeat'(first|exact zC|refine zq0 ?_|(apply zaa<;>intro hb)|(apply I;exact zI)|(apply I<;>intro hg))
 refine zj (h1) ?_
 cases e2:zaZ bs nm.2 with
 |error x=>
  rw[e2]at hy
  obtain⟨rfl,rfl⟩:=zaq hy
  have h2:=zfH bs _ h (zf3 h e1) e2
  repeat'(first|exact zC|refine zq0 ?_|(apply zaa<;>intro hb)|(apply I;exact zI)|(apply I<;>intro hg))
  refine zp (rds bs p) (h2) ?_
  first|refine zs (I @zae @zab) ?_|exact zt (I @zae @zab)
 |ok hd=>
 have h2:=zfG bs _ h (zf3 h e1) e2
 rw[e2]at hy
 simp only at hy
 repeat'(first|exact zC|refine zq0 ?_|(apply zaa<;>intro hb)|(apply I;exact zI)|(apply I<;>intro hg))
 refine zj (h2) ?_
 cases e3:zaT bs hd.2 with
 |error x=>
  rw[e3]at hy
  obtain⟨rfl,rfl⟩:=zaq hy
  have h3:=zch bs _ h (zaN h e2) e3
  repeat'(first|exact zC|refine zq0 ?_|(apply zaa<;>intro hb)|(apply I;exact zI)|(apply I<;>intro hg))
  refine zp (rds bs p) (h3) ?_
  first|refine zs (I @zae @zab) ?_|exact zt (I @zae @zab)
 |ok tk=>
 have h3:=zcQ bs _ h (zaN h e2) e3
 rw[e3]at hy
 simp only at hy
 repeat'(first|exact zC|refine zq0 ?_|(apply zaa<;>intro hb)|(apply I;exact zI)|(apply I<;>intro hg))
 refine zj (h3) ?_
 cases e4:zbl bs tk.2 3 with
 |error x=>
  rw[e4]at hy
  obtain⟨rfl,rfl⟩:=zaq hy
  have h4:=zdM bs _ 3 h (zal h e3) e4
  repeat'(first|exact zC|refine zq0 ?_|(apply zaa<;>intro hb)|(apply I;exact zI)|(apply I<;>intro hg))
  refine zp (rds bs p) (h4) ?_
  first|refine zs (I @zae @zab) ?_|exact zt (I @zae @zab)
 |ok n=>
 have h4:=zeP bs _ 3 h (zal h e3) e4
 obtain⟨hn1,hn2,hn3⟩:=zb3 h e4
 rw[e4]at hy
 simp only at hy
 repeat'(first|exact zC|refine zq0 ?_|(apply zaa<;>intro hb)|(apply I;exact zI)|(apply I<;>intro hg))
 refine zj (h4) ?_
 repeat'(first|exact zC|refine zq0 ?_|(apply zaa<;>intro hb)|(apply I;exact zI)|(apply I<;>intro hg))
 refine zai (τ:=Nat×Int×List Int×Nat) (fun t=>⟨(.one (.ptr ⟨0,0,0⟩ 0)::dd::ptq 2::ptq 3::zlf (ai n.1::ai t.1::zlf [])),[zuR bs t.2.1 t.2.2.2,(2,⟨2,[obq 1 [dS .empty,di 0,di 0, .d (.v (.slice none 0 0))],none,none,none,none]⟩),(3,⟨2,[obq 1 [dS nm.1,di hd.1,di tk.1, .own ⟨3,4,1⟩ 0 t.2.2.1.length],none,none,none,roq 1 1 (za1 t.2.2.1)]⟩),(21,⟨2,[]⟩),(22,⟨2,[]⟩)]⟩)
  (fun t=>t.1≤n.1.toNat∧i64 t.2.1∧t.2.2.1.length=t.1) (fun t=>zfD bs (n.1.toNat - t.1) t.2.1 t.2.2.1) (fun t=>n.1.toNat - t.1) (0,n.2,[],5)
  ((Gh.nilF 3 3 1 rfl).trans (Gh.canon [0,2,3] [21,22] [0] zK rfl rfl)) ⟨Nat.zero_le _,hn1,rfl⟩ ?_
 intro⟨i,q,acc,nx⟩ ⟨hi0,hq,ha⟩ hF K hK
 simp only[Nat.sub_zero]at hi0 hq ha hF hK⊢
 rw[←hF]at hy
 refine zw ?_
 refine zaa (fun hlt=> ?_) (fun hge=> ?_)
 ·have hi:i<n.1.toNat:=by simp at hlt;omega
  have hw:=zan hi (by omega)
  have hst:n.1.toNat - i=(n.1.toNat - (i+1))+1:=by omega
  rw[hst,zfD]at hy
  cases hx:zaZ bs q with
  |error x=>
   rw[hx]at hy
   obtain⟨rfl,rfl⟩:=zaq hy
   have hr:=zfH bs q h hq hx
   first|refine zs0 ?_|exact zt0
   refine zjh _ _ (ziS zcp mixed 3 [false,false,false,true,true,true,true,true] (znM e) (fun g=> ?_) ?_)
   ·first|refine zs (I @zae @zab) ?_|exact zt (I @zae @zab)
   ·simp only[zlj,zlk,zgS]
    repeat'(first|exact zC|refine zq0 ?_|(apply zaa<;>intro hb)|(apply I;exact zI)|(apply I<;>intro hg))
    exact zn (rds bs q) (hr)
  |ok x=>
   have hF2:zfD bs (n.1.toNat - (i+1)) x.2 (acc++[x.1])=zfD bs (n.1.toNat - i) q acc:=by rw[hst,zfD,hx]
   have hr:=zfG bs q h hq hx
   repeat'(first|exact zC|refine zq0 ?_|(apply zaa<;>intro hb)|(apply I;exact zI)|(apply I<;>intro hg))
   refine zj (hr) ?_
   repeat'(first|exact zC|refine zq @zbf ?_|(apply zaa<;>intro hb)|(apply I;exact zI)|(apply I<;>intro hg))
   refine hK _ (i+1,x.2,acc++[x.1],nx+1) (Gh.canon [0,2,3] [] [0] (zk (I hw (I @List.length_append.{0} @List.length_singleton.{0}))) rfl (by simp only[List.length_append,List.length_singleton];rw[zmV];rfl)) ⟨hi,zaN h hx,by simp only[List.length_append,List.length_singleton];omega⟩ hF2 (by simp only;omega)
 ·have hi:i=n.1.toNat:=by
   have:¬(i:Int)<n.1:=by simpa using hge
   omega
  rw[hi,Nat.sub_self,zfD]at hy
  obtain⟨rfl,rfl⟩:=zcE hy
  repeat'(first|exact zC|refine zq @zcD ?_|(apply zaa<;>intro hb)|(apply I;exact zI)|(apply I<;>intro hg))
theorem zpu (bs:List Int) (p:Int) (h:BsOk bs) (hp:i64 p) {y:Lk×Int} (hy:zfc bs p= .ok y):CallOK Tryz.prog 180 [.obj (rds bs p)] (fun r o=>r=[zyu y.1]∧o=[rds bs y.2]):=
 (zho bs p h hp true y 0 hy).1 rfl
theorem zns (bs:List Int) (p:Int) (h:BsOk bs) (hp:i64 p) {e:Int} (hy:zfc bs p= .error e):zbj Tryz.prog 180 [.obj (rds bs p)] (znM e):=
 (zho bs p h hp false (⟨.empty,0,0,[]⟩,0) e hy).2 rfl
theorem zhp {bs:List Int} (h:BsOk bs):∀{n:Nat} {p:Int} {acc:List Int} {y:List Int×Int},i64 p→zfD bs n p acc= .ok y→i64 y.2∧y.1.length=acc.length+n
 |0,p,acc,y,hp,hy=>by cases hy;exact⟨hp,rfl⟩
 |n+1,p,acc,y,hp,hy=>by
  rw[zfD]at hy
  cases hx:zaZ bs p with
  |error x=>rw[hx]at hy;cases hy
  |ok x=>
   rw[hx]at hy
   have:=zhp h (zaN h hx) hy
   rw[List.length_append,List.length_singleton]at this
   exact⟨this.1,by omega⟩
theorem zit {bs:List Int} {p:Int} {y:ByteArray×Int} (hy:zfE bs p= .ok y):y.1.size≤bs.length:=by
 obtain⟨_,rfl⟩:=zcC hy
 exact ziy
theorem zlF {bs:List Int} (h:BsOk bs) {p:Int} {y:Lk×Int} (hy:zfc bs p= .ok y):i64 y.2∧y.1.line.length≤3∧y.1.name.size≤bs.length:=by
 unfold zfc at hy
 cases e1:zfE bs p with
 |error x=>rw[e1]at hy;cases hy
 |ok nm=>
 rw[e1]at hy;simp only at hy
 cases e2:zaZ bs nm.2 with
 |error x=>rw[e2]at hy;cases hy
 |ok hd=>
 rw[e2]at hy;simp only at hy
 cases e3:zaT bs hd.2 with
 |error x=>rw[e3]at hy;cases hy
 |ok tk=>
 rw[e3]at hy;simp only at hy
 cases e4:zbl bs tk.2 3 with
 |error x=>rw[e4]at hy;cases hy
 |ok n=>
 rw[e4]at hy;simp only at hy
 obtain⟨hn1,hn2,hn3⟩:=zb3 h e4
 cases e5:zfD bs n.1.toNat n.2 []with
 |error x=>rw[e5]at hy;cases hy
 |ok l=>
 rw[e5]at hy;simp only at hy
 obtain⟨f1,f2⟩:=zhp h hn1 e5
 cases hy
 simp only[List.length_nil]at f2
 exact⟨f1,by simp only;omega,zit e1⟩
def zhO (bs:List Int) (p:Int):Rr Sess:=match zaZ bs p with
 | .error e=> .error e
 | .ok c=>match zaT bs c.2 with
  | .error e=> .error e
  | .ok n=>match zaT bs n.2 with
   | .error e=> .error e
   | .ok r=> .ok (⟨c.1,n.1,r.1⟩,r.2)
def zaE {α:Type} (f:Int→Rr α):Nat→Int→List α→Rr (List α)
 |0,p,acc=> .ok (acc,p)
 |n+1,p,acc=>match f p with
  | .error e=> .error e
  | .ok x=>zaE f n x.2 (acc++[x.1])
def zen (bs:List Int) (p:Int):Rr St:=match zaT bs p with
 | .error e=> .error e
 | .ok t=>match zaT bs t.2 with
  | .error e=> .error e
  | .ok u=>match zaT bs u.2 with
   | .error e=> .error e
   | .ok k=>match zbl bs k.2 5 with
    | .error e=> .error e
    | .ok n=>match zaE (zhO bs) n.1.toNat n.2 []with
     | .error e=> .error e
     | .ok ss=>match zbl bs ss.2 4 with
      | .error e=> .error e
      | .ok n2=>match zaE (zfc bs) n2.1.toNat n2.2 []with
       | .error e=> .error e
       | .ok ls=>match zbl bs ls.2 8 with
        | .error e=> .error e
        | .ok n3=>match zaE (zf4 bs) n3.1.toNat n3.2 []with
         | .error e=> .error e
         | .ok ms=>if zcg ⟨t.1,u.1,k.1,ss.1,ls.1,ms.1⟩=true then .ok (⟨t.1,u.1,k.1,ss.1,ls.1,ms.1⟩,ms.2)else .error 4
theorem zdc {α:Type} {f:Int→Rr α} {ok:α→Prop} (hf:∀p y,f p= .ok y→i64 y.2∧ok y.1):∀{n:Nat} {p:Int} {acc:List α} {y:List α×Int},i64 p→(∀x∈acc,ok x)→zaE f n p acc= .ok y→i64 y.2∧y.1.length=acc.length+n∧∀x∈y.1,ok x
 |0,p,acc,y,hp,ha,hy=>by cases hy;exact⟨hp,rfl,ha⟩
 |n+1,p,acc,y,hp,ha,hy=>by
  rw[zaE]at hy
  cases hx:f p with
  |error x=>rw[hx]at hy;cases hy
  |ok x=>
   rw[hx]at hy
   have:=zdc hf (hf _ _ hx).1 (fun z hz=>by
    rcases List.mem_append.1 hz with hz|hz
    ·exact ha z hz
    ·simp at hz;subst hz;exact(hf _ _ hx).2) hy
   rw[List.length_append,List.length_singleton]at this
   exact⟨this.1,by omega,this.2.2⟩
theorem zhn {bs:List Int} (h:BsOk bs) {p:Int} {y:Memo×Int} (hy:zf4 bs p= .ok y):i64 y.2∧zcI y.1.reply:=by
 obtain⟨h0,rfl⟩:=zcC hy
 simp only
 unfold zf6 at h0⊢
 simp only at h0⊢
 split at h0
 ·rename_i h1;exact absurd h0 h1
 rename_i h1
 rw[if_neg h1]
 split at h0
 ·rename_i h2;exact absurd h0 h2
 rename_i h2
 rw[if_neg h2]
 split at h0
 ·rename_i h3;exact absurd h0 h3
 rename_i h3
 rw[if_neg h3]
 split at h0
 ·exact absurd h0 (by decide)
 rename_i h4
 rw[if_neg h4]
 obtain⟨g1,g2⟩:=zgo h (p:=(zeQ bs (zbp bs p).2.1).2.1)
 exact⟨zdV h.l g1,g2⟩
set_option maxHeartbeats 4000000 in
theorem zgl (bs:List Int) (p:Int) (h:BsOk bs) (hp:i64 p) (b:Bool) (y:St×Int) (e:Int) (hy:zjF b y e (zen bs p)):
  (b=true→CallOK Tryz.prog 145 [.obj (rds bs p)] (fun r o=>r=[y.1.rf]∧o=[rds bs y.2]))∧(b=false→zbj Tryz.prog 145 [.obj (rds bs p)] (znM e)):=by
 refine zhb Tryz.func145 Tryz.results145 Tryz.ntmps145 Tryz.call145 ?_
 simp only[Tryz.f145,Option.getD]
 unfold zen at hy
 cases e1:zaT bs p with
 |error x=>
  rw[e1]at hy
  obtain⟨rfl,rfl⟩:=zaq hy
  have hr:=zch bs p h hp e1
  repeat'(first|exact zC|refine zq0 ?_|(apply zaa<;>intro hb)|(apply I;exact zI)|(apply I<;>intro hg))
  refine zp (rds bs p) (hr) ?_
  first|refine zs (I @zae @zab) ?_|exact zt (I @zae @zab)
 |ok t=>
 have he1:=zcQ bs p h hp e1
 rw[e1]at hy
 simp only at hy
 repeat'(first|exact zC|refine zq0 ?_|(apply zaa<;>intro hb)|(apply I;exact zI)|(apply I<;>intro hg))
 refine zj (he1) ?_
 cases e2:zaT bs t.2 with
 |error x=>
  rw[e2]at hy
  obtain⟨rfl,rfl⟩:=zaq hy
  have hr:=zch bs _ h (zal h e1) e2
  repeat'(first|exact zC|refine zq0 ?_|(apply zaa<;>intro hb)|(apply I;exact zI)|(apply I<;>intro hg))
  refine zp (rds bs p) (hr) ?_
  first|refine zs (I @zae @zab) ?_|exact zt (I @zae @zab)
 |ok u=>
 have he2:=zcQ bs _ h (zal h e1) e2
 rw[e2]at hy
 simp only at hy
 repeat'(first|exact zC|refine zq0 ?_|(apply zaa<;>intro hb)|(apply I;exact zI)|(apply I<;>intro hg))
 refine zj (he2) ?_
 cases e3:zaT bs u.2 with
 |error x=>
  rw[e3]at hy
  obtain⟨rfl,rfl⟩:=zaq hy
  have hr:=zch bs _ h (zal h e2) e3
  repeat'(first|exact zC|refine zq0 ?_|(apply zaa<;>intro hb)|(apply I;exact zI)|(apply I<;>intro hg))
  refine zp (rds bs p) (hr) ?_
  first|refine zs (I @zae @zab) ?_|exact zt (I @zae @zab)
 |ok k=>
 have he3:=zcQ bs _ h (zal h e2) e3
 rw[e3]at hy
 simp only at hy
 repeat'(first|exact zC|refine zq0 ?_|(apply zaa<;>intro hb)|(apply I;exact zI)|(apply I<;>intro hg))
 refine zj (he3) ?_
 cases e4:zbl bs k.2 5 with
 |error x=>
  rw[e4]at hy
  obtain⟨rfl,rfl⟩:=zaq hy
  have hr:=zdM bs _ 5 h (zal h e3) e4
  repeat'(first|exact zC|refine zq0 ?_|(apply zaa<;>intro hb)|(apply I;exact zI)|(apply I<;>intro hg))
  refine zp (rds bs p) (hr) ?_
  first|refine zs (I @zae @zab) ?_|exact zt (I @zae @zab)
 |ok n=>
 have he4:=zeP bs _ 5 h (zal h e3) e4
 rw[e4]at hy
 simp only at hy
 repeat'(first|exact zC|refine zq0 ?_|(apply zaa<;>intro hb)|(apply I;exact zI)|(apply I<;>intro hg))
 refine zj (he4) ?_
 obtain⟨hn1,hn2,hn3⟩:=zb3 h e4
 repeat'(first|exact zC|refine zq0 ?_|(apply zaa<;>intro hb)|(apply I;exact zI)|(apply I<;>intro hg))
 refine zai (τ:=Nat×Int×List Sess×Nat) (fun a=>⟨(.one (.ptr ⟨0,0,0⟩ 0)::dd::ptq 2::ptq 3::znW (ai n.1::ai a.1::dq7 (zgv []))),[zuR bs a.2.1 a.2.2.2,(2,⟨2,[obq 1 [di 0,di 0,di 0, .d (.v (.slice none 0 0)), .d (.v (.slice none 0 0)), .d (.v (.slice none 0 0))],none,none,none,none,none,none]⟩),(3,⟨2,[obq 1 [di t.1,di u.1,di k.1, .own ⟨3,4,1⟩ 0 a.2.2.1.length, .d (.v (.slice none 0 0)), .d (.v (.slice none 0 0))],none,none,none,roq 1 3 (za9 a.2.2.1),none,none]⟩),(4,⟨2,[]⟩),(31,⟨2,[]⟩),(32,⟨2,[]⟩)]⟩)
  (fun a=>a.1≤n.1.toNat∧i64 a.2.1∧a.2.2.1.length=a.1) (fun a=>zaE (zhO bs) (n.1.toNat - a.1) a.2.1 a.2.2.1) (fun a=>n.1.toNat - a.1) (0,n.2,[],5)
  ((Gh.nilF 3 3 3 rfl).trans (Gh.canon [0,2,3] [4,31,32] [0] zK rfl rfl)) ⟨Nat.zero_le _,hn1,rfl⟩ ?_
 intro⟨i,q,acc,nx⟩ ⟨hi0,hq,ha⟩ hF K hK
 simp only[Nat.sub_zero]at hi0 hq ha hF hK⊢
 rw[←hF]at hy
 refine zw ?_
 refine zaa (fun hlt=> ?_) (fun hge=> ?_)
 ·have hi:i<n.1.toNat:=by simp at hlt;omega
  have hw:=zan hi (by omega)
  have hst:n.1.toNat - i=(n.1.toNat - (i+1))+1:=by omega
  rw[hst,zaE,zhO]at hy
  cases x1:zaZ bs q with
  |error x=>
   rw[x1]at hy
   obtain⟨rfl,rfl⟩:=zaq hy
   have hr:=zfH bs q h hq x1
   repeat'(first|exact zC|refine zq0 ?_|(apply zaa<;>intro hb)|(apply I;exact zI)|(apply I<;>intro hg))
   refine zp (rds bs p) (hr) ?_
   first|refine zs (I @zae @zab) ?_|exact zt (I @zae @zab)
  |ok c=>
  rw[x1]at hy
  simp only at hy
  have hr1:=zfG bs q h hq x1
  repeat'(first|exact zC|refine zq0 ?_|(apply zaa<;>intro hb)|(apply I;exact zI)|(apply I<;>intro hg))
  refine zj (hr1) ?_
  cases x2:zaT bs c.2 with
  |error x=>
   rw[x2]at hy
   obtain⟨rfl,rfl⟩:=zaq hy
   have hr:=zch bs _ h (zaN h x1) x2
   repeat'(first|exact zC|refine zq0 ?_|(apply zaa<;>intro hb)|(apply I;exact zI)|(apply I<;>intro hg))
   refine zp (rds bs p) (hr) ?_
   first|refine zs (I @zae @zab) ?_|exact zt (I @zae @zab)
  |ok m=>
  rw[x2]at hy
  simp only at hy
  have hr2:=zcQ bs _ h (zaN h x1) x2
  repeat'(first|exact zC|refine zq0 ?_|(apply zaa<;>intro hb)|(apply I;exact zI)|(apply I<;>intro hg))
  refine zj (hr2) ?_
  cases x3:zaT bs m.2 with
  |error x=>
   rw[x3]at hy
   obtain⟨rfl,rfl⟩:=zaq hy
   have hr:=zch bs _ h (zal h x2) x3
   repeat'(first|exact zC|refine zq0 ?_|(apply zaa<;>intro hb)|(apply I;exact zI)|(apply I<;>intro hg))
   refine zp (rds bs p) (hr) ?_
   first|refine zs (I @zae @zab) ?_|exact zt (I @zae @zab)
  |ok r=>
  have hr3:=zcQ bs _ h (zal h x2) x3
  have hF2:zaE (zhO bs) (n.1.toNat - (i+1)) r.2 (acc++[⟨c.1,m.1,r.1⟩])=zaE (zhO bs) (n.1.toNat - i) q acc:=by rw[hst,zaE,zhO,x1];simp only;rw[x2];simp only;rw[x3]
  repeat'(first|exact zC|refine zq0 ?_|(apply zaa<;>intro hb)|(apply I;exact zI)|(apply I<;>intro hg))
  refine zj (hr3) ?_
  repeat'(first|exact zC|refine zq @zaA ?_|(apply zaa<;>intro hb)|(apply I;exact zI)|(apply I<;>intro hg))
  refine hK _ (i+1,r.2,acc++[⟨c.1,m.1,r.1⟩],nx+3) (Gh.canon [0,2,3] [] [0] (zk (I hw (I @List.length_append.{0} @List.length_singleton.{0}))) rfl (by simp only[List.length_append,List.length_singleton];rw[zmW];rfl)) ⟨hi,zal h x3,by simp only[List.length_append,List.length_singleton];omega⟩ hF2 (by simp only;omega)
 ·have hi:i=n.1.toNat:=by
   have:¬(i:Int)<n.1:=by simpa using hge
   omega
  rw[hi,Nat.sub_self,zaE]at hy
  simp only at hy
  clear hK hF
  have hpq:=hq
  cases e5:zbl bs q 4 with
  |error x=>
   rw[e5]at hy
   obtain⟨rfl,rfl⟩:=zaq hy
   have hr:=zdM bs _ 4 h hq e5
   repeat'(first|exact zC|refine zq0 ?_|(apply zaa<;>intro hb)|(apply I;exact zI)|(apply I<;>intro hg))
   refine zp (rds bs p) (hr) ?_
   first|refine zs (I @zae @zab) ?_|exact zt (I @zae @zab)
  |ok n2=>
  have hr5:=zeP bs _ 4 h hq e5
  obtain⟨hn4,hn5,hn6⟩:=zb3 h e5
  rw[e5]at hy
  simp only at hy
  repeat'(first|exact zC|refine zq0 ?_|(apply zaa<;>intro hb)|(apply I;exact zI)|(apply I<;>intro hg))
  refine zj (hr5) ?_
  repeat'(first|exact zC|refine zq0 ?_|(apply zaa<;>intro hb)|(apply I;exact zI)|(apply I<;>intro hg))
  refine zai (τ:=Nat×Int×List Lk×Nat) (fun a=>⟨(.one (.ptr ⟨0,0,0⟩ 0)::dd::ptq 2::ptq 3::zsn (ai n2.1::ai a.1::zu7 [])),[zuR bs a.2.1 a.2.2.2,(2,⟨2,[obq 1 [di 0,di 0,di 0, .d (.v (.slice none 0 0)), .d (.v (.slice none 0 0)), .d (.v (.slice none 0 0))],none,none,none,none,none,none]⟩),(3,⟨2,[obq 1 [di t.1,di u.1,di k.1, .own ⟨3,4,1⟩ 0 acc.length, .own ⟨3,5,1⟩ 0 a.2.2.1.length, .d (.v (.slice none 0 0))],none,none,none,roq 1 3 (za9 acc),roq 1 4 (zax a.2.2.1),none]⟩),(4,⟨2,[]⟩),(31,⟨2,[]⟩),(32,⟨2,[]⟩),(42,⟨2,[]⟩),(43,⟨2,[]⟩),(44,⟨2,[]⟩)]⟩)
   (fun a=>a.1≤n2.1.toNat∧i64 a.2.1∧a.2.2.1.length=a.1∧∀k∈a.2.2.1,k.line.length≤3∧k.name.size≤bs.length) (fun a=>zaE (zfc bs) (n2.1.toNat - a.1) a.2.1 a.2.2.1) (fun a=>n2.1.toNat - a.1) (0,n2.2,[],nx+1)
   ((Gh.nilF 3 4 4 rfl).trans (Gh.canon [0,2,3] [42,43,44] [0] zK rfl rfl)) ⟨Nat.zero_le _,hn4,rfl,by simp⟩ ?_
  intro⟨j,q2,ls,nx2⟩ ⟨hj0,hq2,hl,hlk⟩ hF K hK
  simp only[Nat.sub_zero]at hj0 hq2 hl hlk hF hK⊢
  rw[←hF]at hy
  refine zw ?_
  refine zaa (fun hlt2=> ?_) (fun hge2=> ?_)
  ·have hj:j<n2.1.toNat:=by simp at hlt2;omega
   have hw:=zan hj (by omega)
   have hst:n2.1.toNat - j=(n2.1.toNat - (j+1))+1:=by omega
   rw[hst,zaE]at hy
   cases x1:zfc bs q2 with
   |error x=>
    rw[x1]at hy
    obtain⟨rfl,rfl⟩:=zaq hy
    have hr:=zns bs q2 h hq2 x1
    first|refine zs0 ?_|exact zt0
    refine zjh _ _ (ziS zcp mixed 3 [false,false,false,true,true,true,true,true] (znM e) (fun g=> ?_) ?_)
    ·first|refine zs (I @zae @zab) ?_|exact zt (I @zae @zab)
    ·simp only[zlj,zlk,zgS]
     repeat'(first|exact zC|refine zq0 ?_|(apply zaa<;>intro hb)|(apply I;exact zI)|(apply I<;>intro hg))
     exact zn (rds bs q) (hr)
   |ok x=>
   have hr1:=zpu bs q2 h hq2 x1
   obtain⟨g1,g2,g3⟩:=zlF h x1
   have hF2:zaE (zfc bs) (n2.1.toNat - (j+1)) x.2 (ls++[x.1])=zaE (zfc bs) (n2.1.toNat - j) q2 ls:=by rw[hst,zaE,x1]
   repeat'(first|exact zC|refine zq0 ?_|(apply zaa<;>intro hb)|(apply I;exact zI)|(apply I<;>intro hg))
   refine zj (hr1) ?_
   have htl:(za1 x.1.line).take x.1.line.length=za1 x.1.line:=zgN
   repeat'(first|exact zC|refine zq (I @zaz htl) ?_|(apply zaa<;>intro hb)|(apply I;exact zI)|(apply I<;>intro hg))
   refine hK _ (j+1,x.2,ls++[x.1],nx2+1) (Gh.canon [0,2,3] [] [0] (zk (I hw (I @List.length_append.{0} @List.length_singleton.{0}))) rfl (by simp only[List.length_append,List.length_singleton];rw[znn];rfl)) ⟨hj,g1,by simp only[List.length_append,List.length_singleton];omega, ?_⟩ hF2 (by simp only;omega)
   intro k hk
   rcases List.mem_append.1 hk with hk|hk
   ·exact hlk k hk
   ·simp at hk;subst hk;exact⟨g2,g3⟩
  ·have hj:j=n2.1.toNat:=by
    have:¬(j:Int)<n2.1:=by simpa using hge2
    omega
   rw[hj,Nat.sub_self,zaE]at hy
   simp only at hy
   clear hK hF
   cases e6:zbl bs q2 8 with
   |error x=>
    rw[e6]at hy
    obtain⟨rfl,rfl⟩:=zaq hy
    have hr:=zdM bs _ 8 h hq2 e6
    repeat'(first|exact zC|refine zq0 ?_|(apply zaa<;>intro hb)|(apply I;exact zI)|(apply I<;>intro hg))
    refine zp (rds bs p) (hr) ?_
    first|refine zs (I @zae @zab) ?_|exact zt (I @zae @zab)
   |ok n3=>
   have hr6:=zeP bs _ 8 h hq2 e6
   obtain⟨hn7,hn8,hn9⟩:=zb3 h e6
   rw[e6]at hy
   simp only at hy
   repeat'(first|exact zC|refine zq0 ?_|(apply zaa<;>intro hb)|(apply I;exact zI)|(apply I<;>intro hg))
   refine zj (hr6) ?_
   repeat'(first|exact zC|refine zq0 ?_|(apply zaa<;>intro hb)|(apply I;exact zI)|(apply I<;>intro hg))
   refine zai (τ:=Nat×Int×List Memo×Nat) (fun a=>⟨(.one (.ptr ⟨0,0,0⟩ 0)::dd::ptq 2::ptq 3::dq4 (zgv (ai n3.1::ai a.1::ztM []))),[zuR bs a.2.1 a.2.2.2,(2,⟨2,[obq 1 [di 0,di 0,di 0, .d (.v (.slice none 0 0)), .d (.v (.slice none 0 0)), .d (.v (.slice none 0 0))],none,none,none,none,none,none]⟩),(3,⟨2,[obq 1 [di t.1,di u.1,di k.1, .own ⟨3,4,1⟩ 0 acc.length, .own ⟨3,5,1⟩ 0 ls.length, .own ⟨3,6,1⟩ 0 a.2.2.1.length],none,none,none,roq 1 3 (za9 acc),roq 1 4 (zax ls),roq 1 6 (zaO a.2.2.1)]⟩),(4,⟨2,[]⟩),(31,⟨2,[]⟩),(32,⟨2,[]⟩),(42,⟨2,[]⟩),(43,⟨2,[]⟩),(44,⟨2,[]⟩),(54,⟨2,[]⟩),(55,⟨2,[]⟩),(56,⟨2,[]⟩)]⟩)
    (fun a=>a.1≤n3.1.toNat∧i64 a.2.1∧a.2.2.1.length=a.1∧∀m∈a.2.2.1,zcI m.reply) (fun a=>zaE (zf4 bs) (n3.1.toNat - a.1) a.2.1 a.2.2.1) (fun a=>n3.1.toNat - a.1) (0,n3.2,[],nx2+1)
    ((Gh.nilF 3 5 6 rfl).trans (Gh.canon [0,2,3] [54,55,56] [0] zK rfl rfl)) ⟨Nat.zero_le _,hn7,rfl,by simp⟩ ?_
   intro⟨m,q3,ms,nx3⟩ ⟨hm0,hq3,hml,hmk⟩ hF K hK
   simp only[Nat.sub_zero]at hm0 hq3 hml hmk hF hK⊢
   rw[←hF]at hy
   refine zw ?_
   refine zaa (fun hlt3=> ?_) (fun hge3=> ?_)
   ·have hm:m<n3.1.toNat:=by simp at hlt3;omega
    have hw:=zan hm (by omega)
    have hst:n3.1.toNat - m=(n3.1.toNat - (m+1))+1:=by omega
    rw[hst,zaE]at hy
    cases x1:zf4 bs q3 with
    |error x=>
     rw[x1]at hy
     obtain⟨rfl,rfl⟩:=zaq hy
     have hr:=znu bs q3 h hq3 x1
     first|refine zs0 ?_|exact zt0
     refine zjh _ _ (ziS zcp mixed 3 [false,false,false,true,true,true,true,true] (znM e) (fun g=> ?_) ?_)
     ·first|refine zs (I @zae @zab) ?_|exact zt (I @zae @zab)
     ·simp only[zlj,zlk,zgS]
      repeat'(first|exact zC|refine zq0 ?_|(apply zaa<;>intro hb)|(apply I;exact zI)|(apply I<;>intro hg))
      exact zn (rds bs q) (hr)
    |ok x=>
    have hr1:=zpw bs q3 h hq3 x1
    obtain⟨g1,g2⟩:=zhn h x1
    have hF2:zaE (zf4 bs) (n3.1.toNat - (m+1)) x.2 (ms++[x.1])=zaE (zf4 bs) (n3.1.toNat - m) q3 ms:=by rw[hst,zaE,x1]
    repeat'(first|exact zC|refine zq0 ?_|(apply zaa<;>intro hb)|(apply I;exact zI)|(apply I<;>intro hg))
    refine zj (hr1) ?_
    repeat'(first|exact zC|refine zq @zaF ?_|(apply zaa<;>intro hb)|(apply I;exact zI)|(apply I<;>intro hg))
    refine hK _ (m+1,x.2,ms++[x.1],nx3+1) (Gh.canon [0,2,3] [] [0] (zk (I hw (I @List.length_append.{0} @List.length_singleton.{0}))) rfl (by simp only[List.length_append,List.length_singleton];rw[zlh];rfl)) ⟨hm,g1,by simp only[List.length_append,List.length_singleton];omega, ?_⟩ hF2 (by simp only;omega)
    intro k hk
    rcases List.mem_append.1 hk with hk|hk
    ·exact hmk k hk
    ·simp at hk;subst hk;exact g2
   ·have hm:m=n3.1.toNat:=by
     have:¬(m:Int)<n3.1:=by simpa using hge3
     omega
    rw[hm,Nat.sub_self,zaE]at hy
    simp only at hy
    clear hK hF
    have hbl:=h.l
    have hri:=zjj ⟨t.1,u.1,k.1,acc,ls,ms⟩ ⟨by simp only;omega,by simp only;omega,by simp only;omega,fun k hk=>⟨by have:=(hlk k hk).1;omega,by have:=(hlk k hk).2;omega⟩,hmk⟩
    cases hR:zcg ⟨t.1,u.1,k.1,acc,ls,ms⟩
    ·rw[hR]at hri hy
     rw[if_neg (by simp)]at hy
     obtain⟨rfl,rfl⟩:=zaq hy
     repeat'(first|exact zC|refine zq (I @zae (I @zab (I @zcy (I @zb4 @zb5)))) ?_|refine zx (hri) ?_|(apply zaa<;>intro hb)|(apply I;exact zI)|(apply I<;>intro hg))
    ·rw[hR]at hri hy
     rw[if_pos rfl]at hy
     obtain⟨rfl,rfl⟩:=zcE hy
     repeat'(first|exact zC|refine zq (I @zcD (I @zcy (I @zb4 @zb5))) ?_|refine zx (hri) ?_|(apply zaa<;>intro hb)|(apply I;exact zI)|(apply I<;>intro hg))
     rfl
abbrev zem:Value:= .slice none 0 0
def szS (k:Nat):Nat:=if k=4 then 6 else 1
def nwS (x:Value) (k:Nat):List Value:=if k=4 then [.int .i64 0, .int .i64 0, .int .i64 0,zem,zem,zem]else if k=5 then [.int .i64 0]else [codeOf x]
theorem zyU {l:List Value} (h:l.length=9):∃a b c d e f g i j,l=[a,b,c,d,e,f,g,i,j]:=by
 match l,h with
 |[a,b,c,d,e,f,g,i,j],_=>exact⟨a,b,c,d,e,f,g,i,j,rfl⟩
theorem zrd:(Tryz.prog.info? 177).bind (·.zero)=some (.agg #[.int .i64 0]):=by kernel_rfl
def dSt (bs:List Int) (p:Int):St×Int×Int:=match zen bs p with
 | .ok y=>(y.1,y.2,0)
 | .error e=>(st0,0,e)
structure Sn where
 done:Int
 view:Int
 slot:Int
 st:St
abbrev Sn.lent (s:Sn):List C:=di s.done::di s.view::di s.slot::s.st.lent
abbrev zyT (s:Sn):RF:= .agg (.d (iD s.done):: .d (iD s.view):: .d (iD s.slot)::(stE s.st).map RO.d)
def zbk (s:Sn):Bool:=within s.done&&(within s.view&&(within s.slot&&zcg s.st))
theorem zdl (n:Int):within n=(!(decide (n<0))&& !(decide (n>2305843009213693952))):=by
 unfold within
 have hH:zdU=2305843009213693952:=rfl
 rw[hH]
 by_cases h1:n<0<;>by_cases h2:n>2305843009213693952<;>simp[h1,h2]<;>omega
set_option maxHeartbeats 1000000 in
theorem zf2 (s:Sn) (h:Small s.st):CallOK Tryz.prog 39 [.f (.agg s.lent)] (fun r o=>r=[rb (zbk s)]∧o=[]):=by
 refine zh Tryz.func39 Tryz.results39 Tryz.ntmps39 Tryz.call39 ?_
 simp only[Tryz.f39,Option.getD]
 have hri:=zjj s.st h
 have hagg:∀(Z:List Nat) (r:Rs) (xs ys:List AV),fgc Z r (AV.agg [di s.done,di s.view,di s.slot]::xs) (AV.agg [di s.done,di s.view,di s.slot]::ys)=fgc Z r xs ys:=fun Z r xs ys=>zgu rfl rfl
 repeat'(first|exact zC|refine zq0 ?_|(apply zaa<;>intro hb)|(apply I;exact zI)|(apply I<;>intro hg))
 refine zai (τ:=Nat) (fun i=>⟨(dd::ptq 1::ztK (.agg [di s.done,di s.view,di s.slot]::ai i::znW [])),[(1,⟨2,[obq 1 [di s.done,di s.view,di s.slot,di s.st.time,di s.st.num,di s.st.token, .lent s.st.sess.length (za9 s.st.sess), .lent s.st.locks.length (zax s.st.locks), .lent s.st.memos.length (zaO s.st.memos)],none,none,none,none,none,none,none,none,none]⟩)]⟩)
  (fun i=>i≤3) (fun i=>if i=0 then zbk s else if i=1 then within s.view&&(within s.slot&&zcg s.st)else if i=2 then within s.slot&&zcg s.st else zcg s.st) (fun i=>3 - i) 0
  (Gh.canon [1] [] [] (zk hagg) rfl rfl) (Nat.zero_le _) ?_
 intro i hi0 hF K hK
 rw[if_pos rfl]at hF
 refine zw ?_
 refine zaa (fun hlt=> ?_) (fun hge=> ?_)
 ·have hi:i<3:=by simp at hlt;omega
  have hw:IntKind.i64.wrap ((i:Int)+1)=((i+1:Nat):Int):=zan hi (by omega)
  rcases(show i=0∨i=1∨i=2 by omega)with rfl|rfl|rfl
  ·have hb:=zdl s.done
   cases h1:decide (s.done<0)
   ·cases h2:decide (s.done>2305843009213693952)
    ·rw[h1,h2]at hb
     repeat'(first|exact zC|refine zq (I h1 h2) ?_|(apply zaa<;>intro hb)|(apply I;exact zI)|(apply I<;>intro hg))
     exact hK _ 1 (Gh.canon [1] [] [] (zk (I hw hagg)) rfl rfl) (by omega) (by simp[zbk,hb]) (by omega)
    ·rw[h1,h2]at hb
     have hz:zbk s=false:=by simp[zbk,hb]
     repeat'(first|exact zC|refine zq (I h1 (I h2 hz)) ?_|(apply zaa<;>intro hb)|(apply I;exact zI)|(apply I<;>intro hg))
   ·rw[h1]at hb
    have hz:zbk s=false:=by simp[zbk,hb]
    repeat'(first|exact zC|refine zq (I h1 hz) ?_|(apply zaa<;>intro hb)|(apply I;exact zI)|(apply I<;>intro hg))
  ·have hb:=zdl s.view
   simp only[Nat.reduceEqDiff,if_true,if_false]at hF
   rw[←hF]
   cases h1:decide (s.view<0)
   ·cases h2:decide (s.view>2305843009213693952)
    ·rw[h1,h2]at hb
     repeat'(first|exact zC|refine zq (I h1 h2) ?_|(apply zaa<;>intro hb)|(apply I;exact zI)|(apply I<;>intro hg))
     exact hK _ 2 (Gh.canon [1] [] [] (zk (I hw hagg)) rfl rfl) (by omega) (by simp[hb]) (by omega)
    ·rw[h1,h2]at hb
     have hz:(within s.view&&(within s.slot&&zcg s.st))=false:=by simp[hb]
     repeat'(first|exact zC|refine zq (I h1 (I h2 hz)) ?_|(apply zaa<;>intro hb)|(apply I;exact zI)|(apply I<;>intro hg))
   ·rw[h1]at hb
    have hz:(within s.view&&(within s.slot&&zcg s.st))=false:=by simp[hb]
    repeat'(first|exact zC|refine zq (I h1 hz) ?_|(apply zaa<;>intro hb)|(apply I;exact zI)|(apply I<;>intro hg))
  ·have hb:=zdl s.slot
   simp only[Nat.reduceEqDiff,if_true,if_false]at hF
   rw[←hF]
   cases h1:decide (s.slot<0)
   ·cases h2:decide (s.slot>2305843009213693952)
    ·rw[h1,h2]at hb
     repeat'(first|exact zC|refine zq (I h1 h2) ?_|(apply zaa<;>intro hb)|(apply I;exact zI)|(apply I<;>intro hg))
     exact hK _ 3 (Gh.canon [1] [] [] (zk (I hw hagg)) rfl rfl) (by omega) (by simp[hb]) (by omega)
    ·rw[h1,h2]at hb
     have hz:(within s.slot&&zcg s.st)=false:=by simp[hb]
     repeat'(first|exact zC|refine zq (I h1 (I h2 hz)) ?_|(apply zaa<;>intro hb)|(apply I;exact zI)|(apply I<;>intro hg))
   ·rw[h1]at hb
    have hz:(within s.slot&&zcg s.st)=false:=by simp[hb]
    repeat'(first|exact zC|refine zq (I h1 hz) ?_|(apply zaa<;>intro hb)|(apply I;exact zI)|(apply I<;>intro hg))
 ·have hi:i=3:=by
   have:¬(i:Int)<3:=by simpa using hge
   omega
  subst hi
  simp only[Nat.reduceEqDiff,if_false]at hF
  rw[←hF]
  repeat'(first|exact zC|refine zq0 ?_|refine zx (hri) ?_|(apply zaa<;>intro hb)|(apply I;exact zI)|(apply I<;>intro hg))
def snI (s:Sn):List Int:=zbI s.done++(zbI s.view++(zbI s.slot++zfI s.st))
theorem within_iff {n:Int} (h:within n=true):0≤n∧n<4611686018427387904:=by
 rw[zdl]at h
 simp at h
 omega
theorem zfC {s:Sn} (h:zbk s=true):(0≤s.done∧s.done<4611686018427387904)∧(0≤s.view∧s.view<4611686018427387904)∧(0≤s.slot∧s.slot<4611686018427387904)∧RightS s.st:=by
 simp only[zbk,Bool.and_eq_true]at h
 exact⟨within_iff h.1,within_iff h.2.1,within_iff h.2.2.1,zeM.1 h.2.2.2⟩
theorem znr (s:Sn) (h:zbk s=true):CallOK Tryz.prog 27 [.f (.agg s.lent)] (fun r o=>r=[.one (.own 1 (snI s).length (zad (snI s)) false),ri 0]∧o=[]):=by
 obtain⟨f1,f2,f3,f4⟩:=zfC h
 refine zh Tryz.func27 Tryz.results27 Tryz.ntmps27 Tryz.call27 ?_
 simp only[Tryz.f27,Option.getD]
 have hm:=zf2 s (zdL f4)
 rw[h]at hm
 have hp:=znx s.st f4
 have m1:=zdN s.done f1
 have m2:=zdN s.view f2
 have m3:=zdN s.slot f3
 have hl:=zlJ f4 s.st.memos.length
 have hml:=zju f4
 have t8:∀v:Int,(zad (zbI v)).take 8=zad (zbI v):=fun v=>List.take_of_length_le (by rw[zdi];decide)
 have hcc:CallOK Tryz.prog 66 [.f (al 4 [.sl 8 (zad (zbI s.done)), .sl 8 (zad (zbI s.view)), .sl 8 (zad (zbI s.slot)), .sl (zfI s.st).length (zad (zfI s.st))])] (fun x o=>x=[.one (.own 1 (snI s).length (zad (snI s)) false)]∧o=[]):=by
  have hc:=zep [zbI s.done,zbI s.view,zbI s.slot,zfI s.st] (by simp) (fun l hl=>by
   simp only[List.mem_cons,List.not_mem_nil,or_false]at hl
   rcases hl with rfl|rfl|rfl|rfl
   ·rw[zbz];decide
   ·rw[zbz];decide
   ·rw[zbz];decide
   ·unfold zfI;omega)
  rw[show [zbI s.done,zbI s.view,zbI s.slot,zfI s.st].flatten=snI s from by simp[snI]]at hc
  exact hc
 repeat'(first|exact zC|refine zq (I t8 @zao) ?_|refine zx (hm) ?_|refine zx (hp) ?_|refine zx (m1) ?_|refine zx (m2) ?_|refine zx (m3) ?_|refine zx (hcc) ?_|(apply zaa<;>intro hb)|(apply I;exact zI)|(apply I<;>intro hg))
def szG (k:Nat):Nat:=if k=4 then 9 else 1
def nwG (x:Value) (k:Nat):List Value:=if k=4 then [.int .i64 0, .int .i64 0, .int .i64 0, .int .i64 0, .int .i64 0, .int .i64 0,zem,zem,zem]else if k=5 then [.int .i64 0]else [codeOf x]
theorem zuQ {ls:List (List Value)} (h:ls.length=[4,5,6].length) (hs:∀(i k:Nat) (l:List Value),[4,5,6][i]? =some k→ls[i]? =some l→l.length=szG k):∃a b c d e f j k l g i,ls=[[a,b,c,d,e,f,j,k,l],[g],[i]]:=by
 match ls,h with
 |[x,y,z],_=>
  obtain⟨a,b,c,d,e,f,j,k,l,rfl⟩:=zyU (hs 0 4 x rfl rfl)
  obtain⟨g,rfl⟩:=ztD (hs 1 5 y rfl rfl)
  obtain⟨i,rfl⟩:=ztD (hs 2 6 z rfl rfl)
  exact⟨a,b,c,d,e,f,j,k,l,g,i,rfl⟩
theorem zlE:zgX Tryz.prog 143 [4,5,6] szG nwG (zhu 177):=by
 refine zdY zcp mixed (T:=Ty) Tryz.func143 rfl rfl Tryz.ntmps143 rfl rfl rfl rfl rfl rfl rfl (by decide) (by decide) (by decide) ?_
 rintro x ⟨n,rfl⟩ ls hl hs
 obtain⟨a,b,c,d,e,f,j,k,l,g,i,rfl⟩:=zuQ hl hs
 refine⟨.tuple #[.agg #[.int .i64 n], .bool true], .tup [.agg [di n],ab true], ?_, ?_,rfl, ?_⟩
 ·intro w
  simp[Instr.typeAssert,Tryz.underlying177]
 ·intro cx w r β
  simp[ReA,ReAs,ReC,ReCs,Rd,flat]
 ·simp only[zaU,plainO,List.map_cons,List.map_nil]
  first|refine zs0 ?_|exact zt0
  repeat'(first|exact zC|refine zq0 ?_|(apply zaa<;>intro hb)|(apply I;exact zI)|(apply I<;>intro hg))
  rfl
theorem znq:zlm Tryz.prog 143 3:=by
 refine zcY zcp mixed (T:=Ty) Tryz.func143 rfl rfl Tryz.ntmps143 rfl rfl rfl rfl rfl rfl rfl (by decide) (y7:= .tuple #[.agg #[.int .i64 0], .bool false]) (V7:= .tup [.agg [di 0],ab false]) ?_ ?_ (by decide) rfl ?_
 ·intro w
  simp[Instr.typeAssert,Tryz.underlying177,zhv zrd w]
 ·intro cx w r β
  simp[ReA,ReAs,ReC,ReCs,Rd,flat]
 ·simp only[List.replicate]
  first|refine zs0 ?_|exact zt0
  repeat'(first|exact zC|refine zq0 ?_|(apply zaa<;>intro hb)|(apply I;exact zI)|(apply I<;>intro hg))
def zjt (bs:List Int) (p:Int):Rr Sn:=match zaT bs p with
 | .error e=> .error e
 | .ok d=>match zaT bs d.2 with
  | .error e=> .error e
  | .ok v=>match zaT bs v.2 with
   | .error e=> .error e
   | .ok l=>match zen bs l.2 with
    | .error e=> .error e
    | .ok s=>if zbk ⟨d.1,v.1,l.1,s.1⟩=true then .ok (⟨d.1,v.1,l.1,s.1⟩,s.2)else .error 4
abbrev sn0:Sn:=⟨0,0,0,st0⟩
def dSn (bs:List Int) (p:Int):Sn×Int×Int:=match zjt bs p with
 | .ok y=>(y.1,y.2,0)
 | .error e=>(sn0,0,e)
theorem zgk {bs:List Int} {p:Int} {y:St×Int} (hy:zen bs p= .ok y):zcg y.1=true:=by
 unfold zen at hy
 cases e1:zaT bs p with
 |error x=>rw[e1]at hy;cases hy
 |ok t=>
 rw[e1]at hy;simp only at hy
 cases e2:zaT bs t.2 with
 |error x=>rw[e2]at hy;cases hy
 |ok u=>
 rw[e2]at hy;simp only at hy
 cases e3:zaT bs u.2 with
 |error x=>rw[e3]at hy;cases hy
 |ok k=>
 rw[e3]at hy;simp only at hy
 cases e4:zbl bs k.2 5 with
 |error x=>rw[e4]at hy;cases hy
 |ok n=>
 rw[e4]at hy;simp only at hy
 cases e5:zaE (zhO bs) n.1.toNat n.2 []with
 |error x=>rw[e5]at hy;cases hy
 |ok ss=>
 rw[e5]at hy;simp only at hy
 cases e6:zbl bs ss.2 4 with
 |error x=>rw[e6]at hy;cases hy
 |ok n2=>
 rw[e6]at hy;simp only at hy
 cases e7:zaE (zfc bs) n2.1.toNat n2.2 []with
 |error x=>rw[e7]at hy;cases hy
 |ok ls=>
 rw[e7]at hy;simp only at hy
 cases e8:zbl bs ls.2 8 with
 |error x=>rw[e8]at hy;cases hy
 |ok n3=>
 rw[e8]at hy;simp only at hy
 cases e9:zaE (zf4 bs) n3.1.toNat n3.2 []with
 |error x=>rw[e9]at hy;cases hy
 |ok ms=>
 rw[e9]at hy;simp only at hy
 split at hy
 ·rename_i hr;cases hy;exact hr
 ·cases hy
theorem zhm (e:Int):zk5 37 [4,5,6] (nwG (zdW 177 e))=⟨(dq4 (.one (.ptr ⟨4,0,0⟩ 0):: .one (.ptr ⟨5,0,0⟩ 0):: .one (.ptr ⟨6,0,0⟩ 0)::zty [])),[(4,{next:=1,l:=[obq 0 [di 0,di 0,di 0,di 0,di 0,di 0, .d (.v zem), .d (.v zem), .d (.v zem)]]}),(5,{next:=1,l:=[obq 0 [di 0]]}),(6,{next:=1,l:=[obq 0 [di e]]})]⟩:=rfl
set_option maxHeartbeats 2000000 in
theorem zhN (bs:List Int) (p:Int) (h:BsOk bs) (hp:i64 p):
  CallOK Tryz.prog 95 [.f (asl bs.length (zad bs)), .f (ai p)] (fun r o=>r=[zyT (dSn bs p).1,ri (dSn bs p).2.1,ri (dSn bs p).2.2]∧o=[]):=by
 refine CallOK.nil ?_
 refine za8 zcp mixed (T:=Ty) Tryz.func95 rfl Tryz.results95 Tryz.ntmps95 Tryz.call95 Tryz.call143 (ks:=[4,5,6]) rfl rfl rfl rfl rfl rfl (by decide) (by decide)
  (xs:=[asl bs.length (zad bs),ai p]) (sz:=szG) (nw:=nwG) znq zlE ⟨(asl bs.length (zad bs)::ai p::dq2 (.one (.ptr ⟨4,0,0⟩ 0):: .one (.ptr ⟨5,0,0⟩ 0):: .one (.ptr ⟨6,0,0⟩ 0)::zty [])),[(4,{next:=1,l:=[obq 0 [di 0,di 0,di 0,di 0,di 0,di 0, .d (.v zem), .d (.v zem), .d (.v zem)],none,none,none,none,none,none,none,none,none]}),(5,{next:=1,l:=[obq 0 [di 0],none]}),(6,{next:=1,l:=[obq 0 [di 0],none]})]⟩ ?_ ?_ rfl ?_
 ·simp only[List.map_cons,List.map_nil]
  repeat'(first|exact zC|refine zq0 ?_|(apply zaa<;>intro hb)|(apply I;exact zI)|(apply I<;>intro hg))
  exact fun _ _ _ h=>h
 ·exact⟨⟨_,rfl,rfl,rfl,rfl,rfl⟩,⟨_,rfl,rfl,rfl,rfl,rfl⟩,⟨_,rfl,rfl,rfl,rfl,rfl⟩,trivial⟩
 ·unfold dSn zjt
  cases e1:zaT bs p with
  |error e=>
   have hr:=zch bs p h hp e1
   repeat'(first|exact zC|refine zq0 ?_|(apply zaa<;>intro hb)|(apply I;exact zI)|(apply I<;>intro hg))
   refine zp (rds bs p) (hr) ?_
   simp only[zaC,zaD,zaB,zaG]
   refine⟨⟨_,rfl⟩,rfl,⟨⟨_,rfl,rfl,rfl,rfl,rfl⟩,⟨_,rfl,rfl,rfl,rfl,rfl⟩,⟨_,rfl,rfl,rfl,rfl,rfl⟩,trivial⟩, ?_⟩
   rw[zhm]
   first|refine zs0 ?_|exact zt0
   simp[zbr,zev,zbg,zaw,st0]
  |ok d=>
  have he1:=zcQ bs p h hp e1
  simp only
  repeat'(first|exact zC|refine zq0 ?_|(apply zaa<;>intro hb)|(apply I;exact zI)|(apply I<;>intro hg))
  refine zj (he1) ?_
  cases e2:zaT bs d.2 with
  |error e=>
   have hr:=zch bs _ h (zal h e1) e2
   repeat'(first|exact zC|refine zq0 ?_|(apply zaa<;>intro hb)|(apply I;exact zI)|(apply I<;>intro hg))
   refine zp (rds bs p) (hr) ?_
   simp only[zaC,zaD,zaB,zaG]
   refine⟨⟨_,rfl⟩,rfl,⟨⟨_,rfl,rfl,rfl,rfl,rfl⟩,⟨_,rfl,rfl,rfl,rfl,rfl⟩,⟨_,rfl,rfl,rfl,rfl,rfl⟩,trivial⟩, ?_⟩
   rw[zhm]
   first|refine zs0 ?_|exact zt0
   simp[zbr,zev,zbg,zaw,st0]
  |ok v=>
  have he2:=zcQ bs _ h (zal h e1) e2
  simp only
  repeat'(first|exact zC|refine zq0 ?_|(apply zaa<;>intro hb)|(apply I;exact zI)|(apply I<;>intro hg))
  refine zj (he2) ?_
  cases e3:zaT bs v.2 with
  |error e=>
   have hr:=zch bs _ h (zal h e2) e3
   repeat'(first|exact zC|refine zq0 ?_|(apply zaa<;>intro hb)|(apply I;exact zI)|(apply I<;>intro hg))
   refine zp (rds bs p) (hr) ?_
   simp only[zaC,zaD,zaB,zaG]
   refine⟨⟨_,rfl⟩,rfl,⟨⟨_,rfl,rfl,rfl,rfl,rfl⟩,⟨_,rfl,rfl,rfl,rfl,rfl⟩,⟨_,rfl,rfl,rfl,rfl,rfl⟩,trivial⟩, ?_⟩
   rw[zhm]
   first|refine zs0 ?_|exact zt0
   simp[zbr,zev,zbg,zaw,st0]
  |ok l=>
  have he3:=zcQ bs _ h (zal h e2) e3
  simp only
  repeat'(first|exact zC|refine zq0 ?_|(apply zaa<;>intro hb)|(apply I;exact zI)|(apply I<;>intro hg))
  refine zj (he3) ?_
  cases e4:zen bs l.2 with
  |error e=>
   have hr:=(zgl bs _ h (zal h e3) false (st0,0) e e4).2 rfl
   repeat'(first|exact zC|refine zq0 ?_|(apply zaa<;>intro hb)|(apply I;exact zI)|(apply I<;>intro hg))
   refine zp (rds bs p) (hr) ?_
   simp only[zaC,zaD,zaB,zaG]
   refine⟨⟨_,rfl⟩,rfl,⟨⟨_,rfl,rfl,rfl,rfl,rfl⟩,⟨_,rfl,rfl,rfl,rfl,rfl⟩,⟨_,rfl,rfl,rfl,rfl,rfl⟩,trivial⟩, ?_⟩
   rw[zhm]
   first|refine zs0 ?_|exact zt0
   simp[zbr,zev,zbg,zaw,st0]
  |ok s=>
  have he4:=(zgl bs _ h (zal h e3) true s 0 e4).1 rfl
  simp only
  repeat'(first|exact zC|refine zq0 ?_|(apply zaa<;>intro hb)|(apply I;exact zI)|(apply I<;>intro hg))
  refine zj (he4) ?_
  have hms:=zf2 ⟨d.1,v.1,l.1,s.1⟩ (zdL (zeM.1 (zgk e4)))
  cases hm:zbk ⟨d.1,v.1,l.1,s.1⟩
  ·rw[hm]at hms
   rw[if_neg (by simp)]
   repeat'(first|exact zC|refine zq (I @zcy (I @zb4 @zb5)) ?_|refine zx (hms) ?_|(apply zaa<;>intro hb)|(apply I;exact zI)|(apply I<;>intro hg))
   simp only[zaC,zaD,zaB,zaG]
   refine⟨⟨_,rfl⟩,rfl,⟨⟨_,rfl,rfl,rfl,rfl,rfl⟩,⟨_,rfl,rfl,rfl,rfl,rfl⟩,⟨_,rfl,rfl,rfl,rfl,rfl⟩,trivial⟩, ?_⟩
   rw[zhm]
   first|refine zs0 ?_|exact zt0
   simp[zbr,zev,zbg,zaw,st0]
  ·rw[hm]at hms
   rw[if_pos rfl]
   repeat'(first|exact zC|(with_reducible first|refine zlg 7 ?_|refine ziO 7 ?_|refine ziP 7 ?_)|refine zu (I @zcy (I @zb4 @zb5)) ?_|(with_reducible first|refine zat _ _ ?_)|refine zx (hms) ?_|(apply zaa<;>intro hb)|(apply I;exact zI)|(apply I<;>intro hg))
   refine zli (zgP (Gh.sealF 4 6 (.own ⟨4,7,7⟩ 0 s.1.sess.length) ?_) ?_)
   ·exact zo @zcy
   refine zf @zcy ?_
   refine zgP (Gh.sealF 4 7 (.own ⟨4,8,8⟩ 0 s.1.locks.length) ?_) ?_
   ·exact zo @zb4
   refine zf @zb4 ?_
   refine zgP (Gh.sealF 4 8 (.own ⟨4,9,9⟩ 0 s.1.memos.length) ?_) ?_
   ·exact zo @zb5
   refine zf @zb5 ?_
   repeat'(first|exact zC|refine zq @zeA ?_|(apply zaa<;>intro hb)|(apply I;exact zI)|(apply I<;>intro hg))
   simp[zbr,zev,zbg,zaw]
theorem zis {bs:List Int}:∀{n:Nat} {p:Int} {acc:List Int},zfD bs n p acc=zaE (zaZ bs) n p acc
 |0,_,_=>rfl
 |n+1,p,acc=>by
  rw[zfD,zaE]
  cases zaZ bs p with
  |error e=>rfl
  |ok x=>exact zis
end Go.Proofs.YtliimajkpggbhaaGreat
