import Derived.Test.YtliimajkpggbhaaGreatK9
import Derived.Test.YtliimajkpggbhaaGreatPF
namespace Go.Proofs.YtliimajkpggbhaaGreat
open Go.Pk Tryz
set_option maxRecDepth 100000
set_option linter.unusedSimpArgs false
set_option linter.unusedVariables false
abbrev rds (bs:List Int) (p:Int):List RO:=rdr bs.length (zaa bs) p
abbrev zpb (e:Int):Value:=zeA 177 e
abbrev Rr (α:Type):=Except Int (α×Int)
def rOf {α:Type} (x:α×Int×Int):Rr α:=if x.2.2=0 then .ok (x.1,x.2.1)else .error x.2.2
theorem zc7 {α:Type} {x:α×Int×Int} {y:α×Int} (h:rOf x= .ok y):x.2.2=0∧y=(x.1,x.2.1):=by
 unfold rOf at h
 split at h
 ·rename_i h0;cases h;exact⟨h0,rfl⟩
 ·cases h
theorem zbT {α:Type} {x:α×Int×Int} {e:Int} (h:rOf x= .error e):x.2.2=e∧e≠0:=by
 unfold rOf at h
 split at h
 ·cases h
 ·rename_i h0;cases h;exact⟨rfl,h0⟩
def zbh (bs:List Int) (p:Int):Rr Int:=rOf (ze8 bs p)
def zbn (bs:List Int) (p:Int):Rr Int:=rOf (zbG bs p)
def zgk (bs:List Int) (p:Int):Rr ByteArray:=rOf (zci bs p 12)
def zgT (bs:List Int) (p:Int):Rr Memo:=rOf (zeu bs p)
def zbF (bs:List Int) (p most:Int):Rr Int:=match zbn bs p with
 | .error e=> .error e
 | .ok (n,q)=>if n>most then .error 4 else .ok (n,q)
theorem zhB:CallOK prog 177 [.f (ai 0)] (fun r o=>r=[]∧o=[]):=by
 refine zh func177 results177 ntmps177 call177 ?_
 simp only[f177,Option.getD]
 exact zW0 trivial
theorem zgl (e:Int) (h:e≠0):zbE prog 177 [.f (ai e)] (zpb e):=by
 refine zhy func177 ntmps177 call177 ?_
 simp only[f177,Option.getD]
 have h1:(e !=0)=true:=by simpa using h
 exact zW0 (I h1 @zac)
theorem zdj (bs:List Int) (p:Int) (h:BsOk bs) (hp:i64 p) {y:Int×Int} (hy:zbh bs p= .ok y):
  CallOK prog 144 [.obj (rds bs p)] (fun r o=>r=[ri y.1]∧o=[rds bs y.2]):=by
 obtain⟨h0,rfl⟩:=zc7 hy
 refine zh func144 results144 ntmps144 call144 ?_
 simp only[f144,Option.getD]
 have h1:=zev bs p h hp
 rw[h0]at h1
 exact zW trivial (I (h1) (zhB))
theorem zcN (bs:List Int) (p:Int) (h:BsOk bs) (hp:i64 p) {e:Int} (hy:zbh bs p= .error e):
  zbE prog 144 [.obj (rds bs p)] (zpb e):=by
 obtain⟨h0,h2⟩:=zbT hy
 refine zhy func144 ntmps144 call144 ?_
 simp only[f144,Option.getD]
 have h1:=zev bs p h hp
 rw[h0]at h1
 refine zL trivial (h1) ?_
 refine zc2 (zgl e h2) rfl ?_
 first|refine zs @zac ?_|exact zt @zac
theorem zgm (bs:List Int) (p:Int) (h:BsOk bs) (hp:i64 p) {y:Int×Int} (hy:zbn bs p= .ok y):
  CallOK prog 179 [.obj (rds bs p)] (fun r o=>r=[ri y.1]∧o=[rds bs y.2]):=by
 obtain⟨h0,rfl⟩:=zc7 hy
 refine zh func179 results179 ntmps179 call179 ?_
 simp only[f179,Option.getD]
 have h1:=zc4 bs p h hp
 rw[h0]at h1
 exact zW trivial (I (h1) (zhB))
theorem zgn (bs:List Int) (p:Int) (h:BsOk bs) (hp:i64 p) {e:Int} (hy:zbn bs p= .error e):
  zbE prog 179 [.obj (rds bs p)] (zpb e):=by
 obtain⟨h0,h2⟩:=zbT hy
 refine zhy func179 ntmps179 call179 ?_
 simp only[f179,Option.getD]
 have h1:=zc4 bs p h hp
 rw[h0]at h1
 refine zL trivial (h1) ?_
 refine zc2 (zgl e h2) rfl ?_
 first|refine zs @zac ?_|exact zt @zac
theorem zqJ (bs:List Int) (p:Int) (h:BsOk bs) (hp:i64 p) {y:ByteArray×Int} (hy:zgk bs p= .ok y):
  CallOK prog 199 [.obj (rds bs p)] (fun r o=>r=[.one (.d (sD y.1))]∧o=[rds bs y.2]):=by
 obtain⟨h0,rfl⟩:=zc7 hy
 refine zh func199 results199 ntmps199 call199 ?_
 simp only[f199,Option.getD]
 have h1:=zgt bs p 12 h hp
 rw[h0]at h1
 exact zW trivial (I (h1) (zhB))
theorem zoQ (bs:List Int) (p:Int) (h:BsOk bs) (hp:i64 p) {e:Int} (hy:zgk bs p= .error e):
  zbE prog 199 [.obj (rds bs p)] (zpb e):=by
 obtain⟨h0,h2⟩:=zbT hy
 refine zhy func199 ntmps199 call199 ?_
 simp only[f199,Option.getD]
 have h1:=zgt bs p 12 h hp
 rw[h0]at h1
 refine zL trivial (h1) ?_
 refine zc2 (zgl e h2) rfl ?_
 first|refine zs @zac ?_|exact zt @zac
theorem zqK (bs:List Int) (p:Int) (h:BsOk bs) (hp:i64 p) {y:Memo×Int} (hy:zgT bs p= .ok y):
  CallOK prog 181 [.obj (rds bs p)] (fun r o=>r=[zt2 y.1]∧o=[rds bs y.2]):=by
 obtain⟨h0,rfl⟩:=zc7 hy
 refine zh func181 results181 ntmps181 call181 ?_
 simp only[f181,Option.getD]
 have h1:=ze7 bs p h hp
 rw[h0]at h1
 refine zL trivial (I (h1) (zhB)) ?_
 rfl
theorem zoR (bs:List Int) (p:Int) (h:BsOk bs) (hp:i64 p) {e:Int} (hy:zgT bs p= .error e):
  zbE prog 181 [.obj (rds bs p)] (zpb e):=by
 obtain⟨h0,h2⟩:=zbT hy
 refine zhy func181 ntmps181 call181 ?_
 simp only[f181,Option.getD]
 have h1:=ze7 bs p h hp
 rw[h0]at h1
 refine zL trivial (h1) ?_
 refine zc2 (zgl e h2) rfl ?_
 first|refine zs @zac ?_|exact zt @zac
theorem zir {bs:List Int} {p most:Int} {y:Int×Int} (hy:zbF bs p most= .ok y):zbn bs p= .ok y∧y.1≤most:=by
 unfold zbF at hy
 cases hz:zbn bs p with
 |error e=>rw[hz]at hy;cases hy
 |ok z=>
  rw[hz]at hy
  simp only at hy
  split at hy
  ·cases hy
  ·rename_i hgt
   cases hy
   exact⟨rfl,by simp only;omega⟩
theorem zfw {bs:List Int} {p most:Int} {e:Int} (hy:zbF bs p most= .error e):zbn bs p= .error e∨∃z,zbn bs p= .ok z∧z.1>most∧e=4:=by
 unfold zbF at hy
 cases hz:zbn bs p with
 |error e=>rw[hz]at hy;cases hy;exact .inl rfl
 |ok z=>
  rw[hz]at hy
  simp only at hy
  split at hy
  ·rename_i hgt;cases hy;exact .inr ⟨z,rfl,hgt,rfl⟩
  ·cases hy
theorem zfx (bs:List Int) (p most:Int) (h:BsOk bs) (hp:i64 p) {y:Int×Int} (hy:zbF bs p most= .ok y):
  CallOK prog 178 [.obj (rds bs p), .f (ai most)] (fun r o=>r=[ri y.1]∧o=[rds bs y.2]):=by
 obtain⟨hz,hle⟩:=zir hy
 have h1:=zgm bs p h hp hz
 have h2:decide (y.1>most)=false:=by simpa using hle
 refine zh func178 results178 ntmps178 call178 ?_
 simp only[f178,Option.getD]
 refine zL0 trivial ?_
 refine zj (h1) ?_
 exact zW0 h2
theorem zep (bs:List Int) (p most:Int) (h:BsOk bs) (hp:i64 p) {e:Int} (hy:zbF bs p most= .error e):
  zbE prog 178 [.obj (rds bs p), .f (ai most)] (zpb e):=by
 refine zhy func178 ntmps178 call178 ?_
 simp only[f178,Option.getD]
 rcases zfw hy with hz|⟨z,hz,hgt,rfl⟩
 ·have h1:=zgn bs p h hp hz
  refine zL0 trivial ?_
  refine zp (rds bs p) (h1) ?_
  first|refine zs @zac ?_|exact zt @zac
 ·have h1:=zgm bs p h hp hz
  have h2:decide (z.1>most)=true:=by simpa using hgt
  refine zL0 trivial ?_
  refine zj (h1) ?_
  exact zW0 (I h2 @zac)
def zgj (bs:List Int):Nat→Int→List Int→Rr (List Int)
 |0,p,acc=> .ok (acc,p)
 |n+1,p,acc=>match zbn bs p with
  | .error e=> .error e
  | .ok x=>zgj bs n x.2 (acc++[x.1])
def zfU (bs:List Int) (p:Int):Rr Lk:=match zgk bs p with
 | .error e=> .error e
 | .ok nm=>match zbn bs nm.2 with
  | .error e=> .error e
  | .ok hd=>match zbh bs hd.2 with
   | .error e=> .error e
   | .ok tk=>match zbF bs tk.2 3 with
    | .error e=> .error e
    | .ok n=>match zgj bs n.1.toNat n.2 []with
     | .error e=> .error e
     | .ok l=> .ok (⟨nm.1,hd.1,tk.1,l.1⟩,l.2)
theorem zar {bs:List Int} {p:Int} {y:Int×Int} (h:BsOk bs) (hy:zbh bs p= .ok y):i64 y.2:=by
 obtain⟨_,rfl⟩:=zc7 hy
 exact zez h.l ze9
theorem za7 {bs:List Int} {p:Int} {y:Int×Int} (h:BsOk bs) (hy:zbn bs p= .ok y):i64 y.2:=by
 obtain⟨_,rfl⟩:=zc7 hy
 exact zez h.l zdr
theorem ze4 {bs:List Int} {p:Int} {y:Int×Int} (h:BsOk bs) (hy:zbn bs p= .ok y):0≤y.1∧y.1<256:=by
 obtain⟨_,rfl⟩:=zc7 hy
 exact zix h
theorem zgS {bs:List Int} {p:Int} {y:ByteArray×Int} (h:BsOk bs) (hy:zgk bs p= .ok y):i64 y.2:=by
 obtain⟨_,rfl⟩:=zc7 hy
 exact zez h.l (zjH h)
theorem zcB {bs:List Int} {p m:Int} {y:Int×Int} (h:BsOk bs) (hy:zbF bs p m= .ok y):i64 y.2∧0≤y.1∧y.1≤m:=by
 obtain⟨h1,h2⟩:=zir hy
 exact⟨za7 h h1,(ze4 h h1).1,h2⟩
abbrev zwP (bs:List Int) (q:Int) (nx:Nat):Nat×RS:=(0,{next:=nx,l:=[some {e:=0,var:=true,fz:=false,bor:=true,sz:=0,cells:=[.d (.sl bs.length (zaa bs)),di q]},none,none]})
abbrev zAE (k:Lk):RF:= .agg [.d (sD k.name), .d (iD k.holder), .d (iD k.token), .own 1 k.line.length (za5 k.line) false]
set_option maxHeartbeats 2000000 in
theorem zio (bs:List Int) (p:Int) (h:BsOk bs) (hp:i64 p) (b:Bool) (y:Lk×Int) (e:Int) (hy:zkS b y e (zfU bs p)):
  (b=true→CallOK prog 180 [.obj (rds bs p)] (fun r o=>r=[zAE y.1]∧o=[rds bs y.2]))∧(b=false→zbE prog 180 [.obj (rds bs p)] (zpb e)):=by
 refine zhb func180 results180 ntmps180 call180 ?_
 simp only[f180,Option.getD]
 unfold zfU at hy
 cases e1:zgk bs p with
 |error x=>
  rw[e1]at hy
  obtain⟨rfl,rfl⟩:=zav hy
  have h1:=zoQ bs p h hp e1
  refine zL0 trivial ?_
  refine zp (rds bs p) (h1) ?_
  first|refine zs (I @zaj @zac) ?_|exact zt (I @zaj @zac)
 |ok nm=>
 have h1:=zqJ bs p h hp e1
 rw[e1]at hy
 simp only at hy
 refine zL0 trivial ?_
 refine zj (h1) ?_
 cases e2:zbn bs nm.2 with
 |error x=>
  rw[e2]at hy
  obtain⟨rfl,rfl⟩:=zav hy
  have h2:=zgn bs _ h (zgS h e1) e2
  refine zL0 trivial ?_
  refine zp (rds bs p) (h2) ?_
  first|refine zs (I @zaj @zac) ?_|exact zt (I @zaj @zac)
 |ok hd=>
 have h2:=zgm bs _ h (zgS h e1) e2
 rw[e2]at hy
 simp only at hy
 refine zL0 trivial ?_
 refine zj (h2) ?_
 cases e3:zbh bs hd.2 with
 |error x=>
  rw[e3]at hy
  obtain⟨rfl,rfl⟩:=zav hy
  have h3:=zcN bs _ h (za7 h e2) e3
  refine zL0 trivial ?_
  refine zp (rds bs p) (h3) ?_
  first|refine zs (I @zaj @zac) ?_|exact zt (I @zaj @zac)
 |ok tk=>
 have h3:=zdj bs _ h (za7 h e2) e3
 rw[e3]at hy
 simp only at hy
 refine zL0 trivial ?_
 refine zj (h3) ?_
 cases e4:zbF bs tk.2 3 with
 |error x=>
  rw[e4]at hy
  obtain⟨rfl,rfl⟩:=zav hy
  have h4:=zep bs _ 3 h (zar h e3) e4
  refine zL0 trivial ?_
  refine zp (rds bs p) (h4) ?_
  first|refine zs (I @zaj @zac) ?_|exact zt (I @zaj @zac)
 |ok n=>
 have h4:=zfx bs _ 3 h (zar h e3) e4
 obtain⟨hn1,hn2,hn3⟩:=zcB h e4
 rw[e4]at hy
 simp only at hy
 refine zL0 trivial ?_
 refine zj (h4) ?_
 refine zL0 trivial ?_
 refine zaf (τ:=Nat×Int×List Int×Nat) (fun t=>⟨(.one (.ptr ⟨0,0,0⟩ 0)::dd::ptq 2::ptq 3::zmC (ai n.1::ai t.1::zmC [])),[zwP bs t.2.1 t.2.2.2,(2,⟨2,[obq 1 [dS .empty,di 0,di 0, .d (.v (.slice none 0 0))],none,none,none,none]⟩),(3,⟨2,[obq 1 [dS nm.1,di hd.1,di tk.1, .own ⟨3,4,1⟩ 0 t.2.2.1.length],none,none,none,roq 1 1 (za5 t.2.2.1)]⟩),(21,⟨2,[]⟩),(22,⟨2,[]⟩)]⟩)
  (fun t=>t.1≤n.1.toNat∧i64 t.2.1∧t.2.2.1.length=t.1) (fun t=>zgj bs (n.1.toNat - t.1) t.2.1 t.2.2.1) (fun t=>n.1.toNat - t.1) (0,n.2,[],5)
  ((Gh.nilF 3 3 1 rfl).trans (Gh.canon [0,2,3] [21,22] [0] zK rfl rfl)) ⟨Nat.zero_le _,hn1,rfl⟩ ?_
 intro⟨i,q,acc,nx⟩ ⟨hi0,hq,ha⟩ hF K hK
 simp only[Nat.sub_zero]at hi0 hq ha hF hK⊢
 rw[←hF]at hy
 refine zw ?_
 refine zab (fun hlt=> ?_) (fun hge=> ?_)
 ·have hi:i<n.1.toNat:=by simp at hlt;omega
  have hw:=zai hi (by omega)
  have hst:n.1.toNat - i=(n.1.toNat - (i+1))+1:=by omega
  rw[hst,zgj]at hy
  cases hx:zbn bs q with
  |error x=>
   rw[hx]at hy
   obtain⟨rfl,rfl⟩:=zav hy
   have hr:=zgn bs q h hq hx
   first|refine zs0 ?_|exact zt0
   refine zkw _ _ (zj8 zco mixed 3 [false,false,false,true,true,true,true,true] (zpb e) (fun g=> ?_) ?_)
   ·first|refine zs (I @zaj @zac) ?_|exact zt (I @zaj @zac)
   ·simp only[zmE,zmF,zhY]
    refine zL0 trivial ?_
    exact zn (rds bs q) (hr)
  |ok x=>
   have hF2:zgj bs (n.1.toNat - (i+1)) x.2 (acc++[x.1])=zgj bs (n.1.toNat - i) q acc:=by rw[hst,zgj,hx]
   have hr:=zgm bs q h hq hx
   refine zL0 trivial ?_
   refine zj (hr) ?_
   refine zL0 @zaW ?_
   refine hK _ (i+1,x.2,acc++[x.1],nx+1) (Gh.canon [0,2,3] [] [0] (zk (I hw (I @List.length_append.{0} @List.length_singleton.{0}))) rfl (by simp only[List.length_append,List.length_singleton];rw[zop];rfl)) ⟨hi,za7 h hx,by simp only[List.length_append,List.length_singleton];omega⟩ hF2 (by simp only;omega)
 ·have hi:i=n.1.toNat:=by
   have:¬(i:Int)<n.1:=by simpa using hge
   omega
  rw[hi,Nat.sub_self,zgj]at hy
  obtain⟨rfl,rfl⟩:=zdb hy
  exact zW0 @zda
theorem zqI (bs:List Int) (p:Int) (h:BsOk bs) (hp:i64 p) {y:Lk×Int} (hy:zfU bs p= .ok y):CallOK prog 180 [.obj (rds bs p)] (fun r o=>r=[zAE y.1]∧o=[rds bs y.2]):=
 (zio bs p h hp true y 0 hy).1 rfl
theorem zoP (bs:List Int) (p:Int) (h:BsOk bs) (hp:i64 p) {e:Int} (hy:zfU bs p= .error e):zbE prog 180 [.obj (rds bs p)] (zpb e):=
 (zio bs p h hp false (⟨.empty,0,0,[]⟩,0) e hy).2 rfl
theorem ziq {bs:List Int} (h:BsOk bs):∀{n:Nat} {p:Int} {acc:List Int} {y:List Int×Int},i64 p→zgj bs n p acc= .ok y→i64 y.2∧y.1.length=acc.length+n
 |0,p,acc,y,hp,hy=>by cases hy;exact⟨hp,rfl⟩
 |n+1,p,acc,y,hp,hy=>by
  rw[zgj]at hy
  cases hx:zbn bs p with
  |error x=>rw[hx]at hy;cases hy
  |ok x=>
   rw[hx]at hy
   have:=ziq h (za7 h hx) hy
   rw[List.length_append,List.length_singleton]at this
   exact⟨this.1,by omega⟩
theorem zjD {bs:List Int} {p:Int} {y:ByteArray×Int} (hy:zgk bs p= .ok y):y.1.size≤bs.length:=by
 obtain⟨_,rfl⟩:=zc7 hy
 exact zjG
theorem zmX {bs:List Int} (h:BsOk bs) {p:Int} {y:Lk×Int} (hy:zfU bs p= .ok y):i64 y.2∧y.1.line.length≤3∧y.1.name.size≤bs.length:=by
 unfold zfU at hy
 cases e1:zgk bs p with
 |error x=>rw[e1]at hy;cases hy
 |ok nm=>
 rw[e1]at hy;simp only at hy
 cases e2:zbn bs nm.2 with
 |error x=>rw[e2]at hy;cases hy
 |ok hd=>
 rw[e2]at hy;simp only at hy
 cases e3:zbh bs hd.2 with
 |error x=>rw[e3]at hy;cases hy
 |ok tk=>
 rw[e3]at hy;simp only at hy
 cases e4:zbF bs tk.2 3 with
 |error x=>rw[e4]at hy;cases hy
 |ok n=>
 rw[e4]at hy;simp only at hy
 obtain⟨hn1,hn2,hn3⟩:=zcB h e4
 cases e5:zgj bs n.1.toNat n.2 []with
 |error x=>rw[e5]at hy;cases hy
 |ok l=>
 rw[e5]at hy;simp only at hy
 obtain⟨f1,f2⟩:=ziq h hn1 e5
 cases hy
 simp only[List.length_nil]at f2
 exact⟨f1,by simp only;omega,zjD e1⟩
def zi2 (bs:List Int) (p:Int):Rr Sess:=match zbn bs p with
 | .error e=> .error e
 | .ok c=>match zbh bs c.2 with
  | .error e=> .error e
  | .ok n=>match zbh bs n.2 with
   | .error e=> .error e
   | .ok r=> .ok (⟨c.1,n.1,r.1⟩,r.2)
def za1 {α:Type} (f:Int→Rr α):Nat→Int→List α→Rr (List α)
 |0,p,acc=> .ok (acc,p)
 |n+1,p,acc=>match f p with
  | .error e=> .error e
  | .ok x=>za1 f n x.2 (acc++[x.1])
def ze3 (bs:List Int) (p:Int):Rr St:=match zbh bs p with
 | .error e=> .error e
 | .ok t=>match zbh bs t.2 with
  | .error e=> .error e
  | .ok u=>match zbh bs u.2 with
   | .error e=> .error e
   | .ok k=>match zbF bs k.2 5 with
    | .error e=> .error e
    | .ok n=>match za1 (zi2 bs) n.1.toNat n.2 []with
     | .error e=> .error e
     | .ok ss=>match zbF bs ss.2 4 with
      | .error e=> .error e
      | .ok n2=>match za1 (zfU bs) n2.1.toNat n2.2 []with
       | .error e=> .error e
       | .ok ls=>match zbF bs ls.2 8 with
        | .error e=> .error e
        | .ok n3=>match za1 (zgT bs) n3.1.toNat n3.2 []with
         | .error e=> .error e
         | .ok ms=>if zbV ⟨t.1,u.1,k.1,ss.1,ls.1,ms.1⟩=true then .ok (⟨t.1,u.1,k.1,ss.1,ls.1,ms.1⟩,ms.2)else .error 4
theorem zdI {α:Type} {f:Int→Rr α} {ok:α→Prop} (hf:∀p y,f p= .ok y→i64 y.2∧ok y.1):∀{n:Nat} {p:Int} {acc:List α} {y:List α×Int},i64 p→(∀x∈acc,ok x)→za1 f n p acc= .ok y→i64 y.2∧y.1.length=acc.length+n∧∀x∈y.1,ok x
 |0,p,acc,y,hp,ha,hy=>by cases hy;exact⟨hp,rfl,ha⟩
 |n+1,p,acc,y,hp,ha,hy=>by
  rw[za1]at hy
  cases hx:f p with
  |error x=>rw[hx]at hy;cases hy
  |ok x=>
   rw[hx]at hy
   have:=zdI hf (hf _ _ hx).1 (fun z hz=>by
    rcases List.mem_append.1 hz with hz|hz
    ·exact ha z hz
    ·simp at hz;subst hz;exact(hf _ _ hx).2) hy
   rw[List.length_append,List.length_singleton]at this
   exact⟨this.1,by omega,this.2.2⟩
theorem zin {bs:List Int} (h:BsOk bs) {p:Int} {y:Memo×Int} (hy:zgT bs p= .ok y):i64 y.2∧zcl y.1.reply:=by
 obtain⟨h0,rfl⟩:=zc7 hy
 simp only
 unfold zeu at h0⊢
 simp only at h0⊢
 split at h0
 ·rename_i h1;exact absurd h0 h1
 rename_i h1
 rw[if_neg h1]
 split at h0
 ·rename_i h2;exact absurd h0 h2
 rename_i h2
 rw[if_neg h2]
 split at h0
 ·rename_i h3;exact absurd h0 h3
 rename_i h3
 rw[if_neg h3]
 split at h0
 ·exact absurd h0 (by decide)
 rename_i h4
 rw[if_neg h4]
 obtain⟨g1,g2⟩:=zhi h (p:=(ze8 bs (zbG bs p).2.1).2.1)
 exact⟨zez h.l g1,g2⟩
set_option maxHeartbeats 4000000 in
theorem zhe (bs:List Int) (p:Int) (h:BsOk bs) (hp:i64 p) (b:Bool) (y:St×Int) (e:Int) (hy:zkS b y e (ze3 bs p)):
  (b=true→CallOK prog 145 [.obj (rds bs p)] (fun r o=>r=[y.1.rf]∧o=[rds bs y.2]))∧(b=false→zbE prog 145 [.obj (rds bs p)] (zpb e)):=by
 refine zhb func145 results145 ntmps145 call145 ?_
 simp only[f145,Option.getD]
 unfold ze3 at hy
 cases e1:zbh bs p with
 |error x=>
  rw[e1]at hy
  obtain⟨rfl,rfl⟩:=zav hy
  have hr:=zcN bs p h hp e1
  refine zL0 trivial ?_
  refine zp (rds bs p) (hr) ?_
  first|refine zs (I @zaj @zac) ?_|exact zt (I @zaj @zac)
 |ok t=>
 have he1:=zdj bs p h hp e1
 rw[e1]at hy
 simp only at hy
 refine zL0 trivial ?_
 refine zj (he1) ?_
 cases e2:zbh bs t.2 with
 |error x=>
  rw[e2]at hy
  obtain⟨rfl,rfl⟩:=zav hy
  have hr:=zcN bs _ h (zar h e1) e2
  refine zL0 trivial ?_
  refine zp (rds bs p) (hr) ?_
  first|refine zs (I @zaj @zac) ?_|exact zt (I @zaj @zac)
 |ok u=>
 have he2:=zdj bs _ h (zar h e1) e2
 rw[e2]at hy
 simp only at hy
 refine zL0 trivial ?_
 refine zj (he2) ?_
 cases e3:zbh bs u.2 with
 |error x=>
  rw[e3]at hy
  obtain⟨rfl,rfl⟩:=zav hy
  have hr:=zcN bs _ h (zar h e2) e3
  refine zL0 trivial ?_
  refine zp (rds bs p) (hr) ?_
  first|refine zs (I @zaj @zac) ?_|exact zt (I @zaj @zac)
 |ok k=>
 have he3:=zdj bs _ h (zar h e2) e3
 rw[e3]at hy
 simp only at hy
 refine zL0 trivial ?_
 refine zj (he3) ?_
 cases e4:zbF bs k.2 5 with
 |error x=>
  rw[e4]at hy
  obtain⟨rfl,rfl⟩:=zav hy
  have hr:=zep bs _ 5 h (zar h e3) e4
  refine zL0 trivial ?_
  refine zp (rds bs p) (hr) ?_
  first|refine zs (I @zaj @zac) ?_|exact zt (I @zaj @zac)
 |ok n=>
 have he4:=zfx bs _ 5 h (zar h e3) e4
 rw[e4]at hy
 simp only at hy
 refine zL0 trivial ?_
 refine zj (he4) ?_
 obtain⟨hn1,hn2,hn3⟩:=zcB h e4
 refine zL0 trivial ?_
 refine zaf (τ:=Nat×Int×List Sess×Nat) (fun a=>⟨(.one (.ptr ⟨0,0,0⟩ 0)::dd::ptq 2::ptq 3::zom (ai n.1::ai a.1::dq7 (zdO []))),[zwP bs a.2.1 a.2.2.2,(2,⟨2,[obq 1 [di 0,di 0,di 0, .d (.v (.slice none 0 0)), .d (.v (.slice none 0 0)), .d (.v (.slice none 0 0))],none,none,none,none,none,none]⟩),(3,⟨2,[obq 1 [di t.1,di u.1,di k.1, .own ⟨3,4,1⟩ 0 a.2.2.1.length, .d (.v (.slice none 0 0)), .d (.v (.slice none 0 0))],none,none,none,roq 1 3 (zaV a.2.2.1),none,none]⟩),(4,⟨2,[]⟩),(31,⟨2,[]⟩),(32,⟨2,[]⟩)]⟩)
  (fun a=>a.1≤n.1.toNat∧i64 a.2.1∧a.2.2.1.length=a.1) (fun a=>za1 (zi2 bs) (n.1.toNat - a.1) a.2.1 a.2.2.1) (fun a=>n.1.toNat - a.1) (0,n.2,[],5)
  ((Gh.nilF 3 3 3 rfl).trans (Gh.canon [0,2,3] [4,31,32] [0] zK rfl rfl)) ⟨Nat.zero_le _,hn1,rfl⟩ ?_
 intro⟨i,q,acc,nx⟩ ⟨hi0,hq,ha⟩ hF K hK
 simp only[Nat.sub_zero]at hi0 hq ha hF hK⊢
 rw[←hF]at hy
 refine zw ?_
 refine zab (fun hlt=> ?_) (fun hge=> ?_)
 ·have hi:i<n.1.toNat:=by simp at hlt;omega
  have hw:=zai hi (by omega)
  have hst:n.1.toNat - i=(n.1.toNat - (i+1))+1:=by omega
  rw[hst,za1,zi2]at hy
  cases x1:zbn bs q with
  |error x=>
   rw[x1]at hy
   obtain⟨rfl,rfl⟩:=zav hy
   have hr:=zgn bs q h hq x1
   refine zL0 trivial ?_
   refine zp (rds bs p) (hr) ?_
   first|refine zs (I @zaj @zac) ?_|exact zt (I @zaj @zac)
  |ok c=>
  rw[x1]at hy
  simp only at hy
  have hr1:=zgm bs q h hq x1
  refine zL0 trivial ?_
  refine zj (hr1) ?_
  cases x2:zbh bs c.2 with
  |error x=>
   rw[x2]at hy
   obtain⟨rfl,rfl⟩:=zav hy
   have hr:=zcN bs _ h (za7 h x1) x2
   refine zL0 trivial ?_
   refine zp (rds bs p) (hr) ?_
   first|refine zs (I @zaj @zac) ?_|exact zt (I @zaj @zac)
  |ok m=>
  rw[x2]at hy
  simp only at hy
  have hr2:=zdj bs _ h (za7 h x1) x2
  refine zL0 trivial ?_
  refine zj (hr2) ?_
  cases x3:zbh bs m.2 with
  |error x=>
   rw[x3]at hy
   obtain⟨rfl,rfl⟩:=zav hy
   have hr:=zcN bs _ h (zar h x2) x3
   refine zL0 trivial ?_
   refine zp (rds bs p) (hr) ?_
   first|refine zs (I @zaj @zac) ?_|exact zt (I @zaj @zac)
  |ok r=>
  have hr3:=zdj bs _ h (zar h x2) x3
  have hF2:za1 (zi2 bs) (n.1.toNat - (i+1)) r.2 (acc++[⟨c.1,m.1,r.1⟩])=za1 (zi2 bs) (n.1.toNat - i) q acc:=by rw[hst,za1,zi2,x1];simp only;rw[x2];simp only;rw[x3]
  refine zL0 trivial ?_
  refine zj (hr3) ?_
  refine zL0 @zat ?_
  refine hK _ (i+1,r.2,acc++[⟨c.1,m.1,r.1⟩],nx+3) (Gh.canon [0,2,3] [] [0] (zk (I hw (I @List.length_append.{0} @List.length_singleton.{0}))) rfl (by simp only[List.length_append,List.length_singleton];rw[zoq];rfl)) ⟨hi,zar h x3,by simp only[List.length_append,List.length_singleton];omega⟩ hF2 (by simp only;omega)
 ·have hi:i=n.1.toNat:=by
   have:¬(i:Int)<n.1:=by simpa using hge
   omega
  rw[hi,Nat.sub_self,za1]at hy
  simp only at hy
  clear hK hF
  have hpq:=hq
  cases e5:zbF bs q 4 with
  |error x=>
   rw[e5]at hy
   obtain⟨rfl,rfl⟩:=zav hy
   have hr:=zep bs _ 4 h hq e5
   refine zL0 trivial ?_
   refine zp (rds bs p) (hr) ?_
   first|refine zs (I @zaj @zac) ?_|exact zt (I @zaj @zac)
  |ok n2=>
  have hr5:=zfx bs _ 4 h hq e5
  obtain⟨hn4,hn5,hn6⟩:=zcB h e5
  rw[e5]at hy
  simp only at hy
  refine zL0 trivial ?_
  refine zj (hr5) ?_
  refine zL0 trivial ?_
  refine zaf (τ:=Nat×Int×List Lk×Nat) (fun a=>⟨(.one (.ptr ⟨0,0,0⟩ 0)::dd::ptq 2::ptq 3::zrQ (ai n2.1::ai a.1::zxa [])),[zwP bs a.2.1 a.2.2.2,(2,⟨2,[obq 1 [di 0,di 0,di 0, .d (.v (.slice none 0 0)), .d (.v (.slice none 0 0)), .d (.v (.slice none 0 0))],none,none,none,none,none,none]⟩),(3,⟨2,[obq 1 [di t.1,di u.1,di k.1, .own ⟨3,4,1⟩ 0 acc.length, .own ⟨3,5,1⟩ 0 a.2.2.1.length, .d (.v (.slice none 0 0))],none,none,none,roq 1 3 (zaV acc),roq 1 4 (zay a.2.2.1),none]⟩),(4,⟨2,[]⟩),(31,⟨2,[]⟩),(32,⟨2,[]⟩),(42,⟨2,[]⟩),(43,⟨2,[]⟩),(44,⟨2,[]⟩)]⟩)
   (fun a=>a.1≤n2.1.toNat∧i64 a.2.1∧a.2.2.1.length=a.1∧∀k∈a.2.2.1,k.line.length≤3∧k.name.size≤bs.length) (fun a=>za1 (zfU bs) (n2.1.toNat - a.1) a.2.1 a.2.2.1) (fun a=>n2.1.toNat - a.1) (0,n2.2,[],nx+1)
   ((Gh.nilF 3 4 4 rfl).trans (Gh.canon [0,2,3] [42,43,44] [0] zK rfl rfl)) ⟨Nat.zero_le _,hn4,rfl,by simp⟩ ?_
  intro⟨j,q2,ls,nx2⟩ ⟨hj0,hq2,hl,hlk⟩ hF K hK
  simp only[Nat.sub_zero]at hj0 hq2 hl hlk hF hK⊢
  rw[←hF]at hy
  refine zw ?_
  refine zab (fun hlt2=> ?_) (fun hge2=> ?_)
  ·have hj:j<n2.1.toNat:=by simp at hlt2;omega
   have hw:=zai hj (by omega)
   have hst:n2.1.toNat - j=(n2.1.toNat - (j+1))+1:=by omega
   rw[hst,za1]at hy
   cases x1:zfU bs q2 with
   |error x=>
    rw[x1]at hy
    obtain⟨rfl,rfl⟩:=zav hy
    have hr:=zoP bs q2 h hq2 x1
    first|refine zs0 ?_|exact zt0
    refine zkw _ _ (zj8 zco mixed 3 [false,false,false,true,true,true,true,true] (zpb e) (fun g=> ?_) ?_)
    ·first|refine zs (I @zaj @zac) ?_|exact zt (I @zaj @zac)
    ·simp only[zmE,zmF,zhY]
     refine zL0 trivial ?_
     exact zn (rds bs q) (hr)
   |ok x=>
   have hr1:=zqI bs q2 h hq2 x1
   obtain⟨g1,g2,g3⟩:=zmX h x1
   have hF2:za1 (zfU bs) (n2.1.toNat - (j+1)) x.2 (ls++[x.1])=za1 (zfU bs) (n2.1.toNat - j) q2 ls:=by rw[hst,za1,x1]
   refine zL0 trivial ?_
   refine zj (hr1) ?_
   have htl:(za5 x.1.line).take x.1.line.length=za5 x.1.line:=zhV
   refine zL0 (I @zan htl) ?_
   refine hK _ (j+1,x.2,ls++[x.1],nx2+1) (Gh.canon [0,2,3] [] [0] (zk (I hw (I @List.length_append.{0} @List.length_singleton.{0}))) rfl (by simp only[List.length_append,List.length_singleton];rw[zoM];rfl)) ⟨hj,g1,by simp only[List.length_append,List.length_singleton];omega, ?_⟩ hF2 (by simp only;omega)
   intro k hk
   rcases List.mem_append.1 hk with hk|hk
   ·exact hlk k hk
   ·simp at hk;subst hk;exact⟨g2,g3⟩
  ·have hj:j=n2.1.toNat:=by
    have:¬(j:Int)<n2.1:=by simpa using hge2
    omega
   rw[hj,Nat.sub_self,za1]at hy
   simp only at hy
   clear hK hF
   cases e6:zbF bs q2 8 with
   |error x=>
    rw[e6]at hy
    obtain⟨rfl,rfl⟩:=zav hy
    have hr:=zep bs _ 8 h hq2 e6
    refine zL0 trivial ?_
    refine zp (rds bs p) (hr) ?_
    first|refine zs (I @zaj @zac) ?_|exact zt (I @zaj @zac)
   |ok n3=>
   have hr6:=zfx bs _ 8 h hq2 e6
   obtain⟨hn7,hn8,hn9⟩:=zcB h e6
   rw[e6]at hy
   simp only at hy
   refine zL0 trivial ?_
   refine zj (hr6) ?_
   refine zL0 trivial ?_
   refine zaf (τ:=Nat×Int×List Memo×Nat) (fun a=>⟨(.one (.ptr ⟨0,0,0⟩ 0)::dd::ptq 2::ptq 3::dq4 (zdO (ai n3.1::ai a.1::zvD []))),[zwP bs a.2.1 a.2.2.2,(2,⟨2,[obq 1 [di 0,di 0,di 0, .d (.v (.slice none 0 0)), .d (.v (.slice none 0 0)), .d (.v (.slice none 0 0))],none,none,none,none,none,none]⟩),(3,⟨2,[obq 1 [di t.1,di u.1,di k.1, .own ⟨3,4,1⟩ 0 acc.length, .own ⟨3,5,1⟩ 0 ls.length, .own ⟨3,6,1⟩ 0 a.2.2.1.length],none,none,none,roq 1 3 (zaV acc),roq 1 4 (zay ls),roq 1 6 (zaM a.2.2.1)]⟩),(4,⟨2,[]⟩),(31,⟨2,[]⟩),(32,⟨2,[]⟩),(42,⟨2,[]⟩),(43,⟨2,[]⟩),(44,⟨2,[]⟩),(54,⟨2,[]⟩),(55,⟨2,[]⟩),(56,⟨2,[]⟩)]⟩)
    (fun a=>a.1≤n3.1.toNat∧i64 a.2.1∧a.2.2.1.length=a.1∧∀m∈a.2.2.1,zcl m.reply) (fun a=>za1 (zgT bs) (n3.1.toNat - a.1) a.2.1 a.2.2.1) (fun a=>n3.1.toNat - a.1) (0,n3.2,[],nx2+1)
    ((Gh.nilF 3 5 6 rfl).trans (Gh.canon [0,2,3] [54,55,56] [0] zK rfl rfl)) ⟨Nat.zero_le _,hn7,rfl,by simp⟩ ?_
   intro⟨m,q3,ms,nx3⟩ ⟨hm0,hq3,hml,hmk⟩ hF K hK
   simp only[Nat.sub_zero]at hm0 hq3 hml hmk hF hK⊢
   rw[←hF]at hy
   refine zw ?_
   refine zab (fun hlt3=> ?_) (fun hge3=> ?_)
   ·have hm:m<n3.1.toNat:=by simp at hlt3;omega
    have hw:=zai hm (by omega)
    have hst:n3.1.toNat - m=(n3.1.toNat - (m+1))+1:=by omega
    rw[hst,za1]at hy
    cases x1:zgT bs q3 with
    |error x=>
     rw[x1]at hy
     obtain⟨rfl,rfl⟩:=zav hy
     have hr:=zoR bs q3 h hq3 x1
     first|refine zs0 ?_|exact zt0
     refine zkw _ _ (zj8 zco mixed 3 [false,false,false,true,true,true,true,true] (zpb e) (fun g=> ?_) ?_)
     ·first|refine zs (I @zaj @zac) ?_|exact zt (I @zaj @zac)
     ·simp only[zmE,zmF,zhY]
      refine zL0 trivial ?_
      exact zn (rds bs q) (hr)
    |ok x=>
    have hr1:=zqK bs q3 h hq3 x1
    obtain⟨g1,g2⟩:=zin h x1
    have hF2:za1 (zgT bs) (n3.1.toNat - (m+1)) x.2 (ms++[x.1])=za1 (zgT bs) (n3.1.toNat - m) q3 ms:=by rw[hst,za1,x1]
    refine zL0 trivial ?_
    refine zj (hr1) ?_
    refine zL0 @zaw ?_
    refine hK _ (m+1,x.2,ms++[x.1],nx3+1) (Gh.canon [0,2,3] [] [0] (zk (I hw (I @List.length_append.{0} @List.length_singleton.{0}))) rfl (by simp only[List.length_append,List.length_singleton];rw[zmD];rfl)) ⟨hm,g1,by simp only[List.length_append,List.length_singleton];omega, ?_⟩ hF2 (by simp only;omega)
    intro k hk
    rcases List.mem_append.1 hk with hk|hk
    ·exact hmk k hk
    ·simp at hk;subst hk;exact g2
   ·have hm:m=n3.1.toNat:=by
     have:¬(m:Int)<n3.1:=by simpa using hge3
     omega
    rw[hm,Nat.sub_self,za1]at hy
    simp only at hy
    clear hK hF
    have hbl:=h.l
    have hri:=zjV ⟨t.1,u.1,k.1,acc,ls,ms⟩ ⟨by simp only;omega,by simp only;omega,by simp only;omega,fun k hk=>⟨by have:=(hlk k hk).1;omega,by have:=(hlk k hk).2;omega⟩,hmk⟩
    cases hR:zbV ⟨t.1,u.1,k.1,acc,ls,ms⟩
    ·rw[hR]at hri hy
     rw[if_neg (by simp)]at hy
     obtain⟨rfl,rfl⟩:=zav hy
     exact zW (I @zaj (I @zac (I @zc5 (I @zcC @zcD)))) (hri)
    ·rw[hR]at hri hy
     rw[if_pos rfl]at hy
     obtain⟨rfl,rfl⟩:=zdb hy
     refine zL (I @zda (I @zc5 (I @zcC @zcD))) (hri) ?_
     rfl
abbrev zeC:Value:= .slice none 0 0
def szS (k:Nat):Nat:=if k=4 then 6 else 1
def nwS (x:Value) (k:Nat):List Value:=if k=4 then [.int .i64 0, .int .i64 0, .int .i64 0,zeC,zeC,zeC]else if k=5 then [.int .i64 0]else [codeOf x]
theorem zA3 {l:List Value} (h:l.length=9):∃a b c d e f g i j,l=[a,b,c,d,e,f,g,i,j]:=by
 match l,h with
 |[a,b,c,d,e,f,g,i,j],_=>exact⟨a,b,c,d,e,f,g,i,j,rfl⟩
theorem zsK:(prog.info? 177).bind (·.zero)=some (.agg #[.int .i64 0]):=by kernel_rfl
def dSt (bs:List Int) (p:Int):St×Int×Int:=match ze3 bs p with
 | .ok y=>(y.1,y.2,0)
 | .error e=>(st0,0,e)
structure Sn where
 done:Int
 view:Int
 slot:Int
 st:St
abbrev Sn.lent (s:Sn):List C:=di s.done::di s.view::di s.slot::s.st.lent
abbrev zA2 (s:Sn):RF:= .agg (.d (iD s.done):: .d (iD s.view):: .d (iD s.slot)::(stE s.st).map RO.d)
def zaZ (s:Sn):Bool:=within s.done&&(within s.view&&(within s.slot&&zbV s.st))
theorem zc6 (n:Int):within n=(!(decide (n<0))&& !(decide (n>2305843009213693952))):=by
 unfold within
 have hH:zcT=2305843009213693952:=rfl
 rw[hH]
 by_cases h1:n<0<;>by_cases h2:n>2305843009213693952<;>simp[h1,h2]<;>omega
set_option maxHeartbeats 1000000 in
theorem zgR (s:Sn) (h:Small s.st):CallOK prog 39 [.f (.agg s.lent)] (fun r o=>r=[rb (zaZ s)]∧o=[]):=by
 refine zh func39 results39 ntmps39 call39 ?_
 simp only[f39,Option.getD]
 have hri:=zjV s.st h
 have hagg:∀(Z:List Nat) (r:Rs) (xs ys:List AV),fgc Z r (AV.agg [di s.done,di s.view,di s.slot]::xs) (AV.agg [di s.done,di s.view,di s.slot]::ys)=fgc Z r xs ys:=fun Z r xs ys=>zhr rfl rfl
 refine zL0 trivial ?_
 refine zaf (τ:=Nat) (fun i=>⟨(dd::ptq 1::zv6 (.agg [di s.done,di s.view,di s.slot]::ai i::zom [])),[(1,⟨2,[obq 1 [di s.done,di s.view,di s.slot,di s.st.time,di s.st.num,di s.st.token, .lent s.st.sess.length (zaV s.st.sess), .lent s.st.locks.length (zay s.st.locks), .lent s.st.memos.length (zaM s.st.memos)],none,none,none,none,none,none,none,none,none]⟩)]⟩)
  (fun i=>i≤3) (fun i=>if i=0 then zaZ s else if i=1 then within s.view&&(within s.slot&&zbV s.st)else if i=2 then within s.slot&&zbV s.st else zbV s.st) (fun i=>3 - i) 0
  (Gh.canon [1] [] [] (zk hagg) rfl rfl) (Nat.zero_le _) ?_
 intro i hi0 hF K hK
 rw[if_pos rfl]at hF
 refine zw ?_
 refine zab (fun hlt=> ?_) (fun hge=> ?_)
 ·have hi:i<3:=by simp at hlt;omega
  have hw:IntKind.i64.wrap ((i:Int)+1)=((i+1:Nat):Int):=zai hi (by omega)
  rcases(show i=0∨i=1∨i=2 by omega)with rfl|rfl|rfl
  ·have hb:=zc6 s.done
   cases h1:decide (s.done<0)
   ·cases h2:decide (s.done>2305843009213693952)
    ·rw[h1,h2]at hb
     refine zL0 (I h1 h2) ?_
     exact hK _ 1 (Gh.canon [1] [] [] (zk (I hw hagg)) rfl rfl) (by omega) (by simp[zaZ,hb]) (by omega)
    ·rw[h1,h2]at hb
     have hz:zaZ s=false:=by simp[zaZ,hb]
     exact zW0 (I h1 (I h2 hz))
   ·rw[h1]at hb
    have hz:zaZ s=false:=by simp[zaZ,hb]
    exact zW0 (I h1 hz)
  ·have hb:=zc6 s.view
   simp only[Nat.reduceEqDiff,if_true,if_false]at hF
   rw[←hF]
   cases h1:decide (s.view<0)
   ·cases h2:decide (s.view>2305843009213693952)
    ·rw[h1,h2]at hb
     refine zL0 (I h1 h2) ?_
     exact hK _ 2 (Gh.canon [1] [] [] (zk (I hw hagg)) rfl rfl) (by omega) (by simp[hb]) (by omega)
    ·rw[h1,h2]at hb
     have hz:(within s.view&&(within s.slot&&zbV s.st))=false:=by simp[hb]
     exact zW0 (I h1 (I h2 hz))
   ·rw[h1]at hb
    have hz:(within s.view&&(within s.slot&&zbV s.st))=false:=by simp[hb]
    exact zW0 (I h1 hz)
  ·have hb:=zc6 s.slot
   simp only[Nat.reduceEqDiff,if_true,if_false]at hF
   rw[←hF]
   cases h1:decide (s.slot<0)
   ·cases h2:decide (s.slot>2305843009213693952)
    ·rw[h1,h2]at hb
     refine zL0 (I h1 h2) ?_
     exact hK _ 3 (Gh.canon [1] [] [] (zk (I hw hagg)) rfl rfl) (by omega) (by simp[hb]) (by omega)
    ·rw[h1,h2]at hb
     have hz:(within s.slot&&zbV s.st)=false:=by simp[hb]
     exact zW0 (I h1 (I h2 hz))
   ·rw[h1]at hb
    have hz:(within s.slot&&zbV s.st)=false:=by simp[hb]
    exact zW0 (I h1 hz)
 ·have hi:i=3:=by
   have:¬(i:Int)<3:=by simpa using hge
   omega
  subst hi
  simp only[Nat.reduceEqDiff,if_false]at hF
  rw[←hF]
  exact zW trivial (hri)
def snI (s:Sn):List Int:=zaK s.done++(zaK s.view++(zaK s.slot++zdJ s.st))
theorem within_iff {n:Int} (h:within n=true):0≤n∧n<4611686018427387904:=by
 rw[zc6]at h
 simp at h
 omega
theorem zeo {s:Sn} (h:zaZ s=true):(0≤s.done∧s.done<4611686018427387904)∧(0≤s.view∧s.view<4611686018427387904)∧(0≤s.slot∧s.slot<4611686018427387904)∧RightS s.st:=by
 simp only[zaZ,Bool.and_eq_true]at h
 exact⟨within_iff h.1,within_iff h.2.1,within_iff h.2.2.1,zdY.1 h.2.2.2⟩
theorem zoO (s:Sn) (h:zaZ s=true):CallOK prog 27 [.f (.agg s.lent)] (fun r o=>r=[.one (.own 1 (snI s).length (zaa (snI s)) false),ri 0]∧o=[]):=by
 obtain⟨f1,f2,f3,f4⟩:=zeo h
 refine zh func27 results27 ntmps27 call27 ?_
 simp only[f27,Option.getD]
 have hm:=zgR s (zcU f4)
 rw[h]at hm
 have hp:=zoT s.st f4
 have m1:=zeq s.done f1
 have m2:=zeq s.view f2
 have m3:=zeq s.slot f3
 have hl:=ziv f4 s.st.memos.length
 have hml:=zgq f4
 have t8:∀v:Int,(zaa (zaK v)).take 8=zaa (zaK v):=fun v=>List.take_of_length_le (by rw[zcj];decide)
 have hcc:CallOK prog 66 [.f (al 4 [.sl 8 (zaa (zaK s.done)), .sl 8 (zaa (zaK s.view)), .sl 8 (zaa (zaK s.slot)), .sl (zdJ s.st).length (zaa (zdJ s.st))])] (fun x o=>x=[.one (.own 1 (snI s).length (zaa (snI s)) false)]∧o=[]):=by
  have hc:=ze5 [zaK s.done,zaK s.view,zaK s.slot,zdJ s.st] (by simp) (fun l hl=>by
   simp only[List.mem_cons,List.not_mem_nil,or_false]at hl
   rcases hl with rfl|rfl|rfl|rfl
   ·rw[zaz];decide
   ·rw[zaz];decide
   ·rw[zaz];decide
   ·unfold zdJ;omega)
  rw[show [zaK s.done,zaK s.view,zaK s.slot,zdJ s.st].flatten=snI s from by simp[snI]]at hc
  exact hc
 exact zW (I t8 @zah) (I (hm) (I (hp) (I (m1) (I (m2) (I (m3) (hcc))))))
def szG (k:Nat):Nat:=if k=4 then 9 else 1
def nwG (x:Value) (k:Nat):List Value:=if k=4 then [.int .i64 0, .int .i64 0, .int .i64 0, .int .i64 0, .int .i64 0, .int .i64 0,zeC,zeC,zeC]else if k=5 then [.int .i64 0]else [codeOf x]
theorem zwO {ls:List (List Value)} (h:ls.length=[4,5,6].length) (hs:∀(i k:Nat) (l:List Value),[4,5,6][i]? =some k→ls[i]? =some l→l.length=szG k):∃a b c d e f j k l g i,ls=[[a,b,c,d,e,f,j,k,l],[g],[i]]:=by
 match ls,h with
 |[x,y,z],_=>
  obtain⟨a,b,c,d,e,f,j,k,l,rfl⟩:=zA3 (hs 0 4 x rfl rfl)
  obtain⟨g,rfl⟩:=zvL (hs 1 5 y rfl rfl)
  obtain⟨i,rfl⟩:=zvL (hs 2 6 z rfl rfl)
  exact⟨a,b,c,d,e,f,j,k,l,g,i,rfl⟩
theorem zmW:zh3 prog 143 [4,5,6] szG nwG (ziy 177):=by
 refine zeG zco mixed (T:=Ty) func143 rfl rfl ntmps143 rfl rfl rfl rfl rfl rfl rfl (by decide) (by decide) (by decide) ?_
 rintro x ⟨n,rfl⟩ ls hl hs
 obtain⟨a,b,c,d,e,f,j,k,l,g,i,rfl⟩:=zwO hl hs
 refine⟨.tuple #[.agg #[.int .i64 n], .bool true], .tup [.agg [di n],ab true], ?_, ?_,rfl, ?_⟩
 ·intro w
  simp[Instr.typeAssert,Tryz.underlying177]
 ·intro cx w r β
  simp[ReA,ReAs,ReC,ReCs,Rd,flat]
 ·simp only[zbi,plainO,List.map_cons,List.map_nil]
  first|refine zs0 ?_|exact zt0
  refine zL0 trivial ?_
  rfl
theorem zoN:zmH prog 143 3:=by
 refine zdw zco mixed (T:=Ty) func143 rfl rfl ntmps143 rfl rfl rfl rfl rfl rfl rfl (by decide) (y7:= .tuple #[.agg #[.int .i64 0], .bool false]) (V7:= .tup [.agg [di 0],ab false]) ?_ ?_ (by decide) rfl ?_
 ·intro w
  simp[Instr.typeAssert,Tryz.underlying177,ziz zsK w]
 ·intro cx w r β
  simp[ReA,ReAs,ReC,ReCs,Rd,flat]
 ·simp only[List.replicate]
  first|refine zs0 ?_|exact zt0
  exact zW0 trivial
def zky (bs:List Int) (p:Int):Rr Sn:=match zbh bs p with
 | .error e=> .error e
 | .ok d=>match zbh bs d.2 with
  | .error e=> .error e
  | .ok v=>match zbh bs v.2 with
   | .error e=> .error e
   | .ok l=>match ze3 bs l.2 with
    | .error e=> .error e
    | .ok s=>if zaZ ⟨d.1,v.1,l.1,s.1⟩=true then .ok (⟨d.1,v.1,l.1,s.1⟩,s.2)else .error 4
abbrev sn0:Sn:=⟨0,0,0,st0⟩
def dSn (bs:List Int) (p:Int):Sn×Int×Int:=match zky bs p with
 | .ok y=>(y.1,y.2,0)
 | .error e=>(sn0,0,e)
theorem zhd {bs:List Int} {p:Int} {y:St×Int} (hy:ze3 bs p= .ok y):zbV y.1=true:=by
 unfold ze3 at hy
 cases e1:zbh bs p with
 |error x=>rw[e1]at hy;cases hy
 |ok t=>
 rw[e1]at hy;simp only at hy
 cases e2:zbh bs t.2 with
 |error x=>rw[e2]at hy;cases hy
 |ok u=>
 rw[e2]at hy;simp only at hy
 cases e3:zbh bs u.2 with
 |error x=>rw[e3]at hy;cases hy
 |ok k=>
 rw[e3]at hy;simp only at hy
 cases e4:zbF bs k.2 5 with
 |error x=>rw[e4]at hy;cases hy
 |ok n=>
 rw[e4]at hy;simp only at hy
 cases e5:za1 (zi2 bs) n.1.toNat n.2 []with
 |error x=>rw[e5]at hy;cases hy
 |ok ss=>
 rw[e5]at hy;simp only at hy
 cases e6:zbF bs ss.2 4 with
 |error x=>rw[e6]at hy;cases hy
 |ok n2=>
 rw[e6]at hy;simp only at hy
 cases e7:za1 (zfU bs) n2.1.toNat n2.2 []with
 |error x=>rw[e7]at hy;cases hy
 |ok ls=>
 rw[e7]at hy;simp only at hy
 cases e8:zbF bs ls.2 8 with
 |error x=>rw[e8]at hy;cases hy
 |ok n3=>
 rw[e8]at hy;simp only at hy
 cases e9:za1 (zgT bs) n3.1.toNat n3.2 []with
 |error x=>rw[e9]at hy;cases hy
 |ok ms=>
 rw[e9]at hy;simp only at hy
 split at hy
 ·rename_i hr;cases hy;exact hr
 ·cases hy
theorem zim (e:Int):zmr 37 [4,5,6] (nwG (zeA 177 e))=⟨(dq4 (.one (.ptr ⟨4,0,0⟩ 0):: .one (.ptr ⟨5,0,0⟩ 0):: .one (.ptr ⟨6,0,0⟩ 0)::ztq [])),[(4,{next:=1,l:=[obq 0 [di 0,di 0,di 0,di 0,di 0,di 0, .d (.v zeC), .d (.v zeC), .d (.v zeC)]]}),(5,{next:=1,l:=[obq 0 [di 0]]}),(6,{next:=1,l:=[obq 0 [di e]]})]⟩:=rfl
set_option maxHeartbeats 2000000 in
theorem zi1 (bs:List Int) (p:Int) (h:BsOk bs) (hp:i64 p):
  CallOK prog 95 [.f (asl bs.length (zaa bs)), .f (ai p)] (fun r o=>r=[zA2 (dSn bs p).1,ri (dSn bs p).2.1,ri (dSn bs p).2.2]∧o=[]):=by
 refine CallOK.nil ?_
 refine zbt zco mixed (T:=Ty) func95 rfl results95 ntmps95 call95 call143 (ks:=[4,5,6]) rfl rfl rfl rfl rfl rfl (by decide) (by decide)
  (xs:=[asl bs.length (zaa bs),ai p]) (sz:=szG) (nw:=nwG) zoN zmW ⟨(asl bs.length (zaa bs)::ai p::dq2 (.one (.ptr ⟨4,0,0⟩ 0):: .one (.ptr ⟨5,0,0⟩ 0):: .one (.ptr ⟨6,0,0⟩ 0)::ztq [])),[(4,{next:=1,l:=[obq 0 [di 0,di 0,di 0,di 0,di 0,di 0, .d (.v zeC), .d (.v zeC), .d (.v zeC)],none,none,none,none,none,none,none,none,none]}),(5,{next:=1,l:=[obq 0 [di 0],none]}),(6,{next:=1,l:=[obq 0 [di 0],none]})]⟩ ?_ ?_ rfl ?_
 ·simp only[List.map_cons,List.map_nil]
  refine zL0 trivial ?_
  exact fun _ _ _ h=>h
 ·exact⟨⟨_,rfl,rfl,rfl,rfl,rfl⟩,⟨_,rfl,rfl,rfl,rfl,rfl⟩,⟨_,rfl,rfl,rfl,rfl,rfl⟩,trivial⟩
 ·unfold dSn zky
  cases e1:zbh bs p with
  |error e=>
   have hr:=zcN bs p h hp e1
   refine zL0 trivial ?_
   refine zp (rds bs p) (hr) ?_
   simp only[zaT,zaU,zaS,za2]
   refine⟨⟨_,rfl⟩,rfl,⟨⟨_,rfl,rfl,rfl,rfl,rfl⟩,⟨_,rfl,rfl,rfl,rfl,rfl⟩,⟨_,rfl,rfl,rfl,rfl,rfl⟩,trivial⟩, ?_⟩
   rw[zim]
   first|refine zs0 ?_|exact zt0
   simp[zbj,zdS,zbc,zaH,st0]
  |ok d=>
  have he1:=zdj bs p h hp e1
  simp only
  refine zL0 trivial ?_
  refine zj (he1) ?_
  cases e2:zbh bs d.2 with
  |error e=>
   have hr:=zcN bs _ h (zar h e1) e2
   refine zL0 trivial ?_
   refine zp (rds bs p) (hr) ?_
   simp only[zaT,zaU,zaS,za2]
   refine⟨⟨_,rfl⟩,rfl,⟨⟨_,rfl,rfl,rfl,rfl,rfl⟩,⟨_,rfl,rfl,rfl,rfl,rfl⟩,⟨_,rfl,rfl,rfl,rfl,rfl⟩,trivial⟩, ?_⟩
   rw[zim]
   first|refine zs0 ?_|exact zt0
   simp[zbj,zdS,zbc,zaH,st0]
  |ok v=>
  have he2:=zdj bs _ h (zar h e1) e2
  simp only
  refine zL0 trivial ?_
  refine zj (he2) ?_
  cases e3:zbh bs v.2 with
  |error e=>
   have hr:=zcN bs _ h (zar h e2) e3
   refine zL0 trivial ?_
   refine zp (rds bs p) (hr) ?_
   simp only[zaT,zaU,zaS,za2]
   refine⟨⟨_,rfl⟩,rfl,⟨⟨_,rfl,rfl,rfl,rfl,rfl⟩,⟨_,rfl,rfl,rfl,rfl,rfl⟩,⟨_,rfl,rfl,rfl,rfl,rfl⟩,trivial⟩, ?_⟩
   rw[zim]
   first|refine zs0 ?_|exact zt0
   simp[zbj,zdS,zbc,zaH,st0]
  |ok l=>
  have he3:=zdj bs _ h (zar h e2) e3
  simp only
  refine zL0 trivial ?_
  refine zj (he3) ?_
  cases e4:ze3 bs l.2 with
  |error e=>
   have hr:=(zhe bs _ h (zar h e3) false (st0,0) e e4).2 rfl
   refine zL0 trivial ?_
   refine zp (rds bs p) (hr) ?_
   simp only[zaT,zaU,zaS,za2]
   refine⟨⟨_,rfl⟩,rfl,⟨⟨_,rfl,rfl,rfl,rfl,rfl⟩,⟨_,rfl,rfl,rfl,rfl,rfl⟩,⟨_,rfl,rfl,rfl,rfl,rfl⟩,trivial⟩, ?_⟩
   rw[zim]
   first|refine zs0 ?_|exact zt0
   simp[zbj,zdS,zbc,zaH,st0]
  |ok s=>
  have he4:=(zhe bs _ h (zar h e3) true s 0 e4).1 rfl
  simp only
  refine zL0 trivial ?_
  refine zj (he4) ?_
  have hms:=zgR ⟨d.1,v.1,l.1,s.1⟩ (zcU (zdY.1 (zhd e4)))
  cases hm:zaZ ⟨d.1,v.1,l.1,s.1⟩
  ·rw[hm]at hms
   rw[if_neg (by simp)]
   refine zL (I @zc5 (I @zcC @zcD)) (hms) ?_
   simp only[zaT,zaU,zaS,za2]
   refine⟨⟨_,rfl⟩,rfl,⟨⟨_,rfl,rfl,rfl,rfl,rfl⟩,⟨_,rfl,rfl,rfl,rfl,rfl⟩,⟨_,rfl,rfl,rfl,rfl,rfl⟩,trivial⟩, ?_⟩
   rw[zim]
   first|refine zs0 ?_|exact zt0
   simp[zbj,zdS,zbc,zaH,st0]
  ·rw[hm]at hms
   rw[if_pos rfl]
   repeat'(first|exact zC|(with_reducible first|refine zpE 7 ?_|refine znt 7 ?_|refine znu 7 ?_)|refine zu (I @zc5 (I @zcC @zcD)) ?_|(with_reducible first|refine zae _ _ ?_)|refine zx (hms) ?_|(apply zab<;>intro hb)|(apply I;exact zI)|(apply I<;>intro hg))
   refine zpI (zj5 (Gh.sealF 4 6 (.own ⟨4,7,7⟩ 0 s.1.sess.length) ?_) ?_)
   ·exact zo @zc5
   refine zf @zc5 ?_
   refine zj5 (Gh.sealF 4 7 (.own ⟨4,8,8⟩ 0 s.1.locks.length) ?_) ?_
   ·exact zo @zcC
   refine zf @zcC ?_
   refine zj5 (Gh.sealF 4 8 (.own ⟨4,9,9⟩ 0 s.1.memos.length) ?_) ?_
   ·exact zo @zcD
   refine zf @zcD ?_
   repeat'(first|exact zC|refine zq @zfk ?_|(apply zab<;>intro hb)|(apply I;exact zI)|(apply I<;>intro hg))
   simp[zbj,zdS,zbc,zaH]
theorem zjC {bs:List Int}:∀{n:Nat} {p:Int} {acc:List Int},zgj bs n p acc=za1 (zbn bs) n p acc
 |0,_,_=>rfl
 |n+1,p,acc=>by
  rw[zgj,za1]
  cases zbn bs p with
  |error e=>rfl
  |ok x=>exact zjC
end Go.Proofs.YtliimajkpggbhaaGreat
