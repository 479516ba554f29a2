import Derived.Test.YtliimajkpggbhaaGreatK6
set_option linter.unusedVariables false
set_option linter.unusedSimpArgs false
set_option linter.unusedSectionVars false
namespace Go.Pk
def zx9 (a b:C):Prop:=
 b=a∨match a,b with
 | .d (.sl n ds), .lent m es=>m=n∧es=ds
 | .d (.v (.slice none 0 0)), .lent m es=>m=0∧es=[]
 | .d (.v (.slice none 0 0)), .d (.sl m es)=>m=0∧es=[]
 |_,_=>False
def zrV:List C→List C→Prop
 |[],[]=>True
 |a::l,b::m=>zx9 a b∧zrV l m
 |_,_=>False
def cLe (a b:C):Prop:=
 b=a∨match a,b with
 | .d (.sl n ds), .lent m es=>m=n∧es=ds
 | .d (.v (.slice none 0 0)), .lent m es=>m=0∧es=[]
 | .d (.v (.slice none 0 0)), .d (.sl m es)=>m=0∧es=[]
 | .d (.v (.func (.func f) ⟨[]⟩ ⟨[]⟩)), .clos g cs=>g=f∧cs=[]
 | .eltR l, .eltR m=>zrV l m
 | .elt (d::ds), .eltR m=>zrV ((d::ds).map C.d) m
 |_,_=>False
def ztE:List C→List C→Prop
 |[],[]=>True
 |a::l,b::m=>cLe a b∧ztE l m
 |_,_=>False
def aLe:AV→AV→Prop
 | .one a, .one b=>cLe a b
 | .agg l, .agg m=>ztE l m
 |a,b=>b=a
def zdZ:List Arg→List Arg→Prop
 |[],[]=>True
 | .f a::l, .f b::m=>aLe a b∧zdZ l m
 | .obj x::l, .obj y::m=>y=x∧zdZ l m
 | .row a b c::l, .row a' b' c'::m=>(a'=a∧b'=b∧c'=c)∧zdZ l m
 | .agr x y a b c::l, .agr x' y' a' b' c'::m=>(ztE x x'∧ztE y y'∧a'=a∧b'=b∧c'=c)∧zdZ l m
 |_,_=>False
section
variable {P:Program} {w:World} {A0 Bor:Nat→Prop} {γ:Nat→Pl}
theorem zuv {a b:C} {u:Value} (h:zx9 a b) (hu:ReC (cx0 P w A0 Bor) w [] β0 a u):ReC (cx0 P w A0 Bor) w [] β0 b u:=by
 rcases h with rfl|h
 ·exact hu
 ·split at h
  ·rename_i n ds m es
   obtain⟨rfl,rfl⟩:=h
   simp only[ReC,Rd]at hu⊢
   obtain⟨ad,cap,h1,h2,h3⟩:=hu
   exact⟨ad,cap,h1,h2,(zdd.1 h3).imp fun b hb=> .inl hb⟩
  ·rename_i m es
   obtain⟨rfl,rfl⟩:=h
   have:=(zbp.1 hu).1
   subst this
   simp only[ReC]
   exact⟨none,0,rfl,Nat.le_refl _,trivial⟩
  ·rename_i m es
   obtain⟨rfl,rfl⟩:=h
   have:=(zbp.1 hu).1
   subst this
   simp only[ReC,Rd]
   exact⟨none,0,rfl,Nat.le_refl _,by simp[RdL]⟩
  ·exact h.elim
theorem zj9:∀{a b:List C} {u:List Value},zrV a b→ReCs (cx0 P w A0 Bor) w [] β0 a u→ReCs (cx0 P w A0 Bor) w [] β0 b u
 |[],[],_,_,hu=>hu
 |a::l,b::m,u,h,hu=>by
  simp only[ReCs]at hu⊢
  obtain⟨x,us,h1,h2,h3⟩:=hu
  exact⟨x,us,h1,zuv h.1 h2,zj9 h.2 h3⟩
 |[],_::_,_,h,_=>h.elim
 |_::_,[],_,h,_=>h.elim
theorem ztF {T:Nat→Prop}:∀{ds:List D} {b o:Nat},RdT w (Av (cx0 P w A0 Bor) [] β0) T ds (some ⟨b,o,none⟩)→
  ∃us,(∀k v,us[k]? =some v→w.cell? ⟨b,o+k,none⟩=some v∧flat v=true)∧ReCs (cx0 P w A0 Bor) w [] β0 (ds.map C.d) us
 |[],b,o,_=>⟨[],by simp,by simp[ReCs]⟩
 |d::ds,b,o,h=>by
  simp only[RdT]at h
  obtain⟨b',o',u,e,h2,h3,h4,h5⟩:=h
  cases e
  obtain⟨us,g1,g2⟩:=ztF h5
  refine⟨u::us,fun k y hk=> ?_,by simp only[List.map_cons,ReCs,ReC];exact⟨u,us,rfl,h4,g2⟩⟩
  cases k with
  |zero=>simp only[List.getElem?_cons_zero,Option.some.injEq]at hk;subst hk;exact⟨h3,h4.flat⟩
  |succ k=>
   have:=g1 k y (by simpa using hk)
   rwa[show o+1+k=o+(k+1) by omega]at this
theorem ztG {a b:C} {u:Value} (h:cLe a b) (hu:ReC (cx0 P w A0 Bor) w [] β0 a u):ReC (cx0 P w A0 Bor) w [] β0 b u:=by
 rcases h with rfl|h
 ·exact hu
 ·split at h
  ·rename_i n ds m es
   obtain⟨rfl,rfl⟩:=h
   simp only[ReC,Rd]at hu⊢
   obtain⟨ad,cap,h1,h2,h3⟩:=hu
   exact⟨ad,cap,h1,h2,(zdd.1 h3).imp fun b hb=> .inl hb⟩
  ·rename_i m es
   obtain⟨rfl,rfl⟩:=h
   have:=(zbp.1 hu).1
   subst this
   simp only[ReC]
   exact⟨none,0,rfl,Nat.le_refl _,trivial⟩
  ·rename_i m es
   obtain⟨rfl,rfl⟩:=h
   have:=(zbp.1 hu).1
   subst this
   simp only[ReC,Rd]
   exact⟨none,0,rfl,Nat.le_refl _,by simp[RdL]⟩
  ·obtain⟨rfl,rfl⟩:=h
   have:=(zbp.1 hu).1
   subst this
   simp only[ReC]
   exact⟨#[],rfl,by simp[ReCs]⟩
  ·simp only[ReC]at hu⊢
   obtain⟨b,o,us,h1,h2,h3,h4,h5⟩:=hu
   exact⟨b,o,us,h1,h2,h3,h4,zj9 h h5⟩
  ·simp only[ReC]at hu⊢
   obtain⟨b,o,h1,h2⟩:=hu
   obtain⟨us,g1,g2⟩:=ztF h2
   have h2':=h2
   simp only[RdT]at h2'
   obtain⟨b',o',u',e,t1,t2,_⟩:=h2'
   cases e
   exact⟨b,o,us,h1,lt_of_cell t2,t1,g1,zj9 h g2⟩
  ·exact h.elim
theorem zka:∀{a b:List C} {u:List Value},ztE a b→ReCs (cx0 P w A0 Bor) w [] β0 a u→ReCs (cx0 P w A0 Bor) w [] β0 b u
 |[],[],_,_,hu=>hu
 |a::l,b::m,u,h,hu=>by
  simp only[ReCs]at hu⊢
  obtain⟨x,us,h1,h2,h3⟩:=hu
  exact⟨x,us,h1,ztG h.1 h2,zka h.2 h3⟩
 |[],_::_,_,h,_=>h.elim
 |_::_,[],_,h,_=>h.elim
theorem zwc {a b:AV} {u:Value} (h:aLe a b) (hu:ReA (cx0 P w A0 Bor) w [] β0 a u):ReA (cx0 P w A0 Bor) w [] β0 b u:=by
 cases a with
 |one a=>cases b with
  |one b=>exact zaN.2 (ztG h (zaN.1 hu))
  |_=>simp[aLe]at h
 |agg l=>cases b with
  |agg m=>
   obtain⟨us,h1,h2⟩:=zbR.1 hu
   exact zbR.2 ⟨us,h1,zka h h2⟩
  |_=>simp[aLe]at h
 |tup l=>simp only[aLe]at h;subst h;exact hu
 |gd c x=>simp only[aLe]at h;subst h;exact hu
theorem zd0:∀{as as':List Arg} {k:Nat} {bs:List Hold} {us:List Value},zdZ as as'→zaq P w A0 Bor γ k as bs us→zaq P w A0 Bor γ k as' bs us∧zal as'=zal as
 |[],[],_,_,_,_,h=>⟨h,rfl⟩
 | .f a::l, .f b::m,k,bs,us,hl,h=>by
  simp only[zaq]at h⊢
  obtain⟨u,us',h1,h2,h3⟩:=h
  obtain⟨g1,g2⟩:=zd0 hl.2 h3
  exact⟨⟨u,us',h1,zwc hl.1 h2,g1⟩,by simp only[zal,g2]⟩
 | .obj x::l, .obj y::m,k,bs,us,hl,h=>by
  obtain⟨rfl,hl⟩:=hl
  simp only[zaq]at h⊢
  obtain⟨b,bs',us',c,e,h1,h2,h3,h4,h5,h6,h7⟩:=h
  obtain⟨g1,g2⟩:=zd0 hl h7
  exact⟨⟨b,bs',us',c,e,h1,h2,h3,h4,h5,h6,g1⟩,by simp only[zal,g2]⟩
 | .row a b c::l, .row a' b' c'::m,k,bs,us,hl,h=>by
  obtain⟨⟨rfl,rfl,rfl⟩,hl⟩:=hl
  simp only[zaq]at h⊢
  obtain⟨u,bs',us',h1,h2,h3,h4⟩:=h
  obtain⟨g1,g2⟩:=zd0 hl h4
  exact⟨⟨u,bs',us',h1,h2,h3,g1⟩,by simp only[zal,g2]⟩
 | .agr x y a b c::l, .agr x' y' a' b' c'::m,k,bs,us,hl,h=>by
  obtain⟨⟨hx,hy,rfl,rfl,rfl⟩,hl⟩:=hl
  simp only[zaq]at h⊢
  obtain⟨vs,u,ws,bs',us',h1,h2,h3,h4,h5,h6⟩:=h
  obtain⟨g1,g2⟩:=zd0 hl h6
  exact⟨⟨vs,u,ws,bs',us',h1,h2,zka hx h3,zka hy h4,h5,g1⟩,by simp only[zal,g2]⟩
 | .agr .. ::_,[],_,_,_,h,_=>h.elim
 | .agr .. ::_, .f _::_,_,_,_,h,_=>h.elim
 | .agr .. ::_, .obj _::_,_,_,_,h,_=>h.elim
 | .agr .. ::_, .row .. ::_,_,_,_,h,_=>h.elim
 | .f _::_, .agr .. ::_,_,_,_,h,_=>h.elim
 | .obj _::_, .agr .. ::_,_,_,_,h,_=>h.elim
 | .row .. ::_, .agr .. ::_,_,_,_,h,_=>h.elim
 |[],_::_,_,_,_,h,_=>h.elim
 | .f _::_,[],_,_,_,h,_=>h.elim
 | .obj _::_,[],_,_,_,h,_=>h.elim
 | .row .. ::_,[],_,_,_,h,_=>h.elim
 | .f _::_, .obj _::_,_,_,_,h,_=>h.elim
 | .f _::_, .row .. ::_,_,_,_,h,_=>h.elim
 | .obj _::_, .f _::_,_,_,_,h,_=>h.elim
 | .obj _::_, .row .. ::_,_,_,_,h,_=>h.elim
 | .row .. ::_, .f _::_,_,_,_,h,_=>h.elim
 | .row .. ::_, .obj _::_,_,_,_,h,_=>h.elim
theorem CallOK.le {f:FuncId} {as as':List Arg} {post:List RF→List (List RO)→Prop} (h:CallOK P f as' post) (hl:zdZ as as'):CallOK P f as post:=
 ⟨h.1,fun w A0 Bor γ bs us h1 h2 h3 h4 h5 h6=>by
  obtain⟨g1,g2⟩:=zd0 hl h3
  exact h.2 w A0 Bor γ bs us h1 h2 g1 (by rw[g2];exact h4) h5 (by rw[g2];exact h6)⟩
def zaH (a b:RO):Prop:=
 b=a∨match a,b with
 | .d (.v (.slice none 0 0)), .own _ n ds _=>n=0∧ds=[]
 | .d (.v (.slice none 0 0)), .d (.sl n ds)=>n=0∧ds=[]
 | .own sz n ds false, .d (.sl m es)=>m=n∧es=ds∧ds.length=n*sz
 |_,_=>False
def zbc:List RO→List RO→Prop
 |[],[]=>True
 |a::l,b::m=>zaH a b∧zbc l m
 |_,_=>False
def zdS:RF→RF→Prop
 | .one a, .one b=>zaH a b
 | .agg l, .agg m=>zbc l m
 |_,_=>False
def zbj:List RF→List RF→Prop
 |[],[]=>True
 |a::l,b::m=>zdS a b∧zbj l m
 |_,_=>False
theorem zeH:∀{a b c d:List RO},zbc a b→zbc c d→zbc (a++c) (b++d)
 |[],[],_,_,_,h=>h
 |x::a,y::b,_,_,h,h'=>⟨h.1,zeH h.2 h'⟩
 |[],_::_,_,_,h,_=>h.elim
 |_::_,[],_,_,h,_=>h.elim
theorem zfg:∀{a:List RO},zbc a a
 |[]=>trivial
 |x::a=>⟨by simp[zaH],zfg⟩
theorem zfM:∀{a b:List RF},zbj a b→zbc (a.flatMap RF.cells) (b.flatMap RF.cells)
 |[],[],_=>trivial
 |x::a,y::b,h=>by
  simp only[List.flatMap_cons]
  refine zeH ?_ (zfM h.2)
  cases x with
  |one x=>cases y with
   |one y=>exact⟨h.1,trivial⟩
   |agg _=>exact h.1.elim
  |agg l=>cases y with
   |one y=>exact h.1.elim
   |agg m=>exact h.1
 |[],_::_,h=>h.elim
 |_::_,[],h=>h.elim
theorem zhZ:∀{a b:List RO},zbc a b→b.length=a.length
 |[],[],_=>rfl
 |x::a,y::b,h=>by simp[zhZ h.2]
 |[],_::_,h=>h.elim
 |_::_,[],h=>h.elim
theorem zlk:∀{a b:List RO} {i:Nat} {y:RO},zbc a b→b[i]? =some y→∃x,a[i]? =some x∧zaH x y
 |[],[],_,_,_,h=>by simp at h
 |x::a,y::b,0,z,h,hi=>by simp only[List.getElem?_cons_zero,Option.some.injEq]at hi;subst hi;exact⟨x,rfl,h.1⟩
 |x::a,y::b,i+1,z,h,hi=>by simpa using zlk (i:=i) h.2 (by simpa using hi)
 |[],_::_,_,_,h,_=>h.elim
 |_::_,[],_,_,h,_=>h.elim
def γN (γ:Nat→Pl) (L:List RO) (i:Nat):Pl:=
 match L[i]? with
 |some (.own _ _ _ _)=>γ i
 |_=>⟨none,0⟩
variable {A A':Nat→Prop} {L L':List RO}
theorem RowM.imp (hA:∀b,A' b→A b) {pl:Pl} {sz:Nat} {ds:List D} (h:RowM w A pl sz ds):RowM w A' pl sz ds:=
 h.stb ⟨fun _ _ _=>rfl,fun b _ hb=>hA b hb⟩ (fun _ _ _=>rfl)
theorem zf2 (hA:∀b,A' b→A b) {a:RO} {u:Value} {i:Nat} (hi:L[i]? =some a) (hu:ROc A w (γ i) a u):ROc A' w (γN γ L i) a u:=by
 cases a with
 |d x=>
  simp only[ROc]at hu⊢
  exact hu.stb ⟨fun _ _ _=>rfl,fun b _ hb=>hA b hb⟩
 |own sz n ds bo=>
  have:γN γ L i=γ i:=by unfold γN;rw[hi]
  rw[this]
  simp only[ROc]at hu⊢
  exact⟨hu.1,hu.2.1,hu.2.2.1.imp hA,hu.2.2.2⟩
theorem zkb {sz:Nat} {bo:Bool} {u:Value} {i:Nat} (hi:L[i]? =some (.d (.v (.slice none 0 0)))) (hu:ROc A w (γ i) (.d (.v (.slice none 0 0))) u):ROc A' w (γN γ L i) (.own sz 0 [] bo) u:=by
 have:γN γ L i=⟨none,0⟩:=by unfold γN;rw[hi]
 rw[this]
 simp only[ROc,Rd]at hu⊢
 obtain⟨rfl,_⟩:=hu
 exact⟨by simp,Nat.le_refl _,by simp[RowM],none,rfl,by simp⟩
theorem znw {u:Value} {pl:Pl} {i:Nat} (hu:ROc A w pl (.d (.v (.slice none 0 0))) u):ROc A' w (γN γ L i) (.d (.sl 0 [])) u:=by
 simp only[ROc,Rd]at hu⊢
 obtain⟨rfl,_⟩:=hu
 exact⟨none,0,rfl,Nat.le_refl _,trivial⟩
def zll (A':Nat→Prop) (γ:Nat→Pl) (L L':List RO):Prop:=
 ∀(i sz n:Nat) (ds:List D) (x:D) (b o:Nat),L[i]? =some (.own sz n ds false)→L'[i]? =some (.d x)→(γ i).base=some (b,o)→¬A' b
theorem ztH (hA:∀b,A' b→A b) (hS:zll A' γ L L') {a b:RO} {u:Value} {i:Nat} (hi:L[i]? =some a) (hi':L'[i]? =some b) (h:zaH a b) (hu:ROc A w (γ i) a u):ROc A' w (γN γ L i) b u:=by
 rcases h with rfl|h
 ·exact zf2 hA hi hu
 ·split at h
  ·obtain⟨rfl,rfl⟩:=h
   exact zkb hi hu
  ·obtain⟨rfl,rfl⟩:=h
   exact znw (L:=L) (i:=i) hu
  ·obtain⟨rfl,rfl,hlen⟩:=h
   simp only[ROc,Rd]at hu⊢
   obtain⟨h1,h2,h3,ad,rfl,h5⟩:=hu
   refine⟨ad,_,rfl,h2,zdd.2 ?_⟩
   rename_i sz n ds
   cases ds with
   |nil=>trivial
   |cons d ds=>
    have hn:n≠0:=fun e=>by subst e;simp at hlen
    obtain⟨bk,o,hb,rfl⟩:=h5.resolve_left (by omega)
    simp only[RowM,hb]at h3
    obtain⟨c,e,k1,k2,k3,k4⟩:=h3
    refine RdT.mk (hS i sz n _ _ bk o hi hi' hb) fun k d' hk=> ?_
    obtain⟨u,g1,g2⟩:=k4 k d' hk
    exact⟨u,by unfold World.cell?;rw[k1];exact g1,g2.stb ⟨fun _ _ _=>rfl,fun b _ hb=>hA b hb⟩⟩
  ·exact h.elim
theorem zkc (hA:∀b,A' b→A b) (hS:zll A' γ L L'):∀{a b:List RO} {k:Nat} {us:List Value},(∀i x,a[i]? =some x→L[k+i]? =some x)→(∀i x,b[i]? =some x→L'[k+i]? =some x)→zbc a b→ROcs A w γ k a us→ROcs A' w (γN γ L) k b us
 |[],[],k,us,_,_,_,h=>h
 |x::a,y::b,k,us,hL,hL',hl,h=>by
  simp only[ROcs]at h⊢
  obtain⟨u,us',rfl,h1,h2⟩:=h
  refine⟨u,us',rfl,ztH hA hS (hL 0 x rfl) (hL' 0 y rfl) hl.1 h1,zkc hA hS (fun i x' hi=> ?_) (fun i x' hi=> ?_) hl.2 h2⟩
  ·have:=hL (i+1) x' (by simpa using hi)
   rwa[show k+(i+1)=k+1+i by omega]at this
  ·have:=hL' (i+1) x' (by simpa using hi)
   rwa[show k+(i+1)=k+1+i by omega]at this
 |[],_::_,_,_,_,_,h,_=>h.elim
 |_::_,[],_,_,_,_,h,_=>h.elim
theorem zpO (hA:∀b,A' b→A b) (hS:zll A' γ L L'):∀{a b:List RF} {k:Nat} {us:List Value},(∀i x,(a.flatMap RF.cells)[i]? =some x→L[k+i]? =some x)→(∀i x,(b.flatMap RF.cells)[i]? =some x→L'[k+i]? =some x)→zbj a b→RFvs A w γ k a us→RFvs A' w (γN γ L) k b us
 |[],[],k,us,_,_,_,h=>h
 |x::a,y::b,k,us,hL,hL',hl,h=>by
  simp only[RFvs]at h⊢
  obtain⟨u,us',rfl,h1,h2⟩:=h
  have hlen:y.cells.length=x.cells.length:=by
   cases x with
   |one x=>cases y with
    |one y=>rfl
    |agg _=>exact hl.1.elim
   |agg l=>cases y with
    |one y=>exact hl.1.elim
    |agg m=>exact zhZ hl.1
  refine⟨u,us',rfl, ?_, ?_⟩
  ·have hx:∀i z,x.cells[i]? =some z→L[k+i]? =some z:=fun i z hi=>hL i z (by rw[List.flatMap_cons,List.getElem?_append_left (List.getElem?_eq_some_iff.1 hi).1];exact hi)
   have hy:∀i z,y.cells[i]? =some z→L'[k+i]? =some z:=fun i z hi=>hL' i z (by rw[List.flatMap_cons,List.getElem?_append_left (List.getElem?_eq_some_iff.1 hi).1];exact hi)
   cases x with
   |one x=>cases y with
    |one y=>simp only[RFv]at h1⊢;exact ztH hA hS (hx 0 x rfl) (hy 0 y rfl) hl.1 h1
    |agg _=>exact hl.1.elim
   |agg l=>cases y with
    |one y=>exact hl.1.elim
    |agg m=>
     simp only[RFv]at h1⊢
     obtain⟨vs,e1,e2⟩:=h1
     exact⟨vs,e1,zkc hA hS hx hy hl.1 e2⟩
  ·rw[hlen]
   refine zpO hA hS (fun i z hi=> ?_) (fun i z hi=> ?_) hl.2 h2
   ·have:=hL (x.cells.length+i) z (by rw[List.flatMap_cons,List.getElem?_append_right (Nat.le_add_right _ _)];simpa using hi)
    rwa[Nat.add_assoc]
   ·have:=hL' (x.cells.length+i) z (by rw[List.flatMap_cons,←hlen,List.getElem?_append_right (Nat.le_add_right _ _)];simpa using hi)
    rwa[Nat.add_assoc]
 |[],_::_,_,_,_,_,h,_=>h.elim
 |_::_,[],_,_,_,_,h,_=>h.elim
theorem zh0 (hA:∀b,A' b→A b) (hS:zll A' γ L L'):∀{ls:List (List RO)} {k:Nat} {bs:List Hold},(∀i x,ls.flatten[i]? =some x→L[k+i]? =some x)→(∀i x,ls.flatten[i]? =some x→L'[k+i]? =some x)→zb5 A w γ k ls bs→zb5 A' w (γN γ L) k ls bs
 |[],k,bs,_,_,h=>by simpa[zb5]using h
 |l::ls,k,[],_,_,h=>by simp[zb5]at h
 |l::ls,k, .blk b::bs,hL,hL',h=>by
  simp only[zb5]at h⊢
  obtain⟨⟨c,e,h1,h2,h3⟩,h4⟩:=h
  refine⟨⟨c,e,h1,zkc hA hS (fun i x hi=>hL i x (by rw[List.flatten_cons,List.getElem?_append_left (List.getElem?_eq_some_iff.1 hi).1];exact hi)) (fun i x hi=>hL' i x (by rw[List.flatten_cons,List.getElem?_append_left (List.getElem?_eq_some_iff.1 hi).1];exact hi)) zfg h2,h3⟩,zh0 hA hS (fun i x hi=> ?_) (fun i x hi=> ?_) h4⟩
  ·have:=hL (l.length+i) x (by rw[List.flatten_cons,List.getElem?_append_right (Nat.le_add_right _ _)];simpa using hi)
   rwa[Nat.add_assoc]
  ·have:=hL' (l.length+i) x (by rw[List.flatten_cons,List.getElem?_append_right (Nat.le_add_right _ _)];simpa using hi)
   rwa[Nat.add_assoc]
 |l::ls,k, .val u::bs,hL,hL',h=>by
  simp only[zb5]at h⊢
  obtain⟨h1,h4⟩:=h
  refine⟨h1.imp id fun h2=>zkc hA hS (fun i x hi=>hL i x (by rw[List.flatten_cons,List.getElem?_append_left (List.getElem?_eq_some_iff.1 hi).1];exact hi)) (fun i x hi=>hL' i x (by rw[List.flatten_cons,List.getElem?_append_left (List.getElem?_eq_some_iff.1 hi).1];exact hi)) zfg h2,zh0 hA hS (fun i x hi=> ?_) (fun i x hi=> ?_) h4⟩
  ·have:=hL (l.length+i) x (by rw[List.flatten_cons,List.getElem?_append_right (Nat.le_add_right _ _)];simpa using hi)
   rwa[Nat.add_assoc]
  ·have:=hL' (l.length+i) x (by rw[List.flatten_cons,List.getElem?_append_right (Nat.le_add_right _ _)];simpa using hi)
   rwa[Nat.add_assoc]
theorem zrW {rfs rfs':List RF} {objs:List (List RO)} (h:zbj rfs rfs'):zbc (zbw rfs objs) (zbw rfs' objs):=zeH (zfM h) zfg
theorem zwd {x:RO} {sz n:Nat} {ds:List D} {bo:Bool} (h:zaH x (.own sz n ds bo)):x= .own sz n ds bo∨∃y,x= .d y:=by
 rcases h with h|h
 ·exact .inl h.symm
 ·cases x with
  |d y=>exact .inr ⟨y,rfl⟩
  |own a b c e=>cases e<;>exact h.elim
theorem Ret.nil {w':World} {bs:List Hold} {rfs rfs':List RF} {objs:List (List RO)} {u:Value} (hA0:∀b,A0 b→b<w.heap.size) (h:Ret w A0 Bor w' bs rfs objs u) (hl:zbj rfs rfs'):Ret w A0 Bor w' bs rfs' objs u:=by
 obtain⟨⟨γ,us,m1,m2,m3,m4,m5,m6⟩,h2,h3,h4,h5⟩:=h
 have hle:=zrW (objs:=objs) hl
 have hown:∀{i sz n b o:Nat} {ds:List D} {bo:Bool},(zbw rfs' objs)[i]? =some (.own sz n ds bo)→(γN γ (zbw rfs objs) i).base=some (b,o)→(zbw rfs objs)[i]? =some (.own sz n ds bo)∧(γ i).base=some (b,o):=fun {i sz n b o ds bo} hi hb=>by
  obtain⟨x,g1,g2⟩:=zlk hle hi
  rcases zwd g2 with rfl|⟨y,rfl⟩
  ·refine⟨g1, ?_⟩
   unfold γN at hb
   rw[g1]at hb
   exact hb
  ·unfold γN at hb
   rw[g1]at hb
   cases hb
 have hNB:∀b,NB (γN γ (zbw rfs objs)) 0 (zbw rfs' objs) b→NB γ 0 (zbw rfs objs) b:=fun b hb=>by
  obtain⟨i,sz,n,ds,bo,o,g1,g2⟩:=zfD hb
  rw[Nat.zero_add]at g2
  obtain⟨g3,g4⟩:=hown g1 g2
  exact zeQ (k:=0) g3 (by rw[Nat.zero_add];exact g4)
 have hlen:(rfs'.flatMap RF.cells).length=(rfs.flatMap RF.cells).length:=zhZ (zfM hl)
 have hS:zll (fun b=>A0 b∨NB (γN γ (zbw rfs objs)) 0 (zbw rfs' objs) b) γ (zbw rfs objs) (zbw rfs' objs):=fun i sz n ds x b o hi hi' hb hA=>by
  rcases hA with hA|hA
  ·exact absurd (hA0 b hA) (Nat.not_lt.2 (m5 i sz n ds b o hi hb))
  ·obtain⟨j,sz',n',ds',bo',o',g1,g2⟩:=zfD hA
   rw[Nat.zero_add]at g2
   obtain⟨g3,g4⟩:=hown g1 g2
   have:=m6 i j b o o' sz n ds false sz' n' ds' bo' hi g3 hb g4
   subst this
   rw[hi']at g1
   cases g1
 refine⟨⟨γN γ (zbw rfs objs),us,m1, ?_, ?_,fun b hb=>m4 b (hNB b hb),fun i sz n ds b o hi hb=> ?_,fun i j b o o' sz n ds bo sz' n' ds' bo' hi hj hbi hbj=> ?_⟩,h2,h3,h4,h5⟩
 ·exact zpO (fun b hb=>hb.imp id (hNB b)) hS (fun i x hi=>by rw[Nat.zero_add];unfold zbw;rw[List.getElem?_append_left (List.getElem?_eq_some_iff.1 hi).1];exact hi) (fun i x hi=>by rw[Nat.zero_add];unfold zbw;rw[List.getElem?_append_left (List.getElem?_eq_some_iff.1 hi).1];exact hi) hl m2
 ·rw[hlen]
  exact zh0 (fun b hb=>hb.imp id (hNB b)) hS (fun i x hi=>by unfold zbw;rw[List.getElem?_append_right (Nat.le_add_right _ _)];simpa using hi) (fun i x hi=>by unfold zbw;rw[←hlen,List.getElem?_append_right (Nat.le_add_right _ _)];simpa using hi) m3
 ·obtain⟨g1,g2⟩:=hown hi hb
  exact m5 i sz n ds b o g1 g2
 ·obtain⟨g1,g2⟩:=hown hi hbi
  obtain⟨g3,g4⟩:=hown hj hbj
  exact m6 i j b o o' sz n ds bo sz' n' ds' bo' g1 g3 g2 g4
theorem CallOK.nil {f:FuncId} {as:List Arg} {rfs':List RF} {objs':List (List RO)} (h:CallOK P f as (fun r o=>zbj r rfs'∧o=objs')):CallOK P f as (fun r o=>r=rfs'∧o=objs'):=
 ⟨h.1,fun w A0 Bor γ bs us h1 h2 h3 h4 h5 h6=>(h.2 w A0 Bor γ bs us h1 h2 h3 h4 h5 h6).mono fun e w' ⟨r,o,u,⟨g1,g2⟩,g3,g4⟩=>⟨rfs',o,u,⟨rfl,g2⟩,g3,g4.nil h1 g1⟩⟩
end
theorem Gh.nil {v:List AV} {r:Rs} {i s sz:Nat} (hi:v[i]? =some (.one (.d (.v (.slice none 0 0))))):
  Gh ⟨v,r⟩ ⟨v.set i (.one (.own ⟨s,1,nxt r s⟩ 0 0)),setR s ⟨nxt r s+1,[none,some {e:=nxt r s,var:=false,fz:=false,sz,cells:=[]}]⟩ r⟩:=fun cx a w ⟨β,hh⟩=>by
 obtain⟨β',q1,q2,q3⟩:=hh.fresh (w':=w) (d:=s) (j0:=1) (L:=[none,some {e:=nxt r s,var:=false,fz:=false,sz,cells:=[]}]) (pl0:=⟨none,0⟩) rfl
  (fun j res hj=>by
   match j with
   |0=>simp at hj
   |1=>rfl
   |j+2=>simp at hj) rfl rfl (fun b o hb=>by cases hb) (fun _ _=>rfl) (Nat.le_refl _)
  (fun β' hx hA=>zcM (ds:=[]) rfl rfl rfl (by simp[RowM]))
 obtain⟨u,g1,g2⟩:=hh.sl i _ hi
 have hu:=(zas.1 g2).1
 subst hu
 refine⟨β',{q1 with sz:=by simpa using q1.sz,sl:=fun j x hj=> ?_}⟩
 rw[List.getElem?_set]at hj
 split at hj
 ·rename_i e
  subst e
  split at hj
  ·cases hj
   refine⟨_,g1, ?_⟩
   simp only[ReA,ReC]
   refine⟨rfl,by rw[zaL,if_pos rfl];exact Nat.lt_succ_self _,fun res hr=> ?_⟩
   obtain⟨hl,_⟩:=zad hr
   rw[zax,if_pos rfl]at hl
   simp only[List.getElem?_cons_succ,List.getElem?_cons_zero,Option.some.injEq]at hl
   subst hl
   rw[q2]
   exact⟨rfl,by simp,Nat.le_refl _,none,rfl, .inl rfl⟩
  ·cases hj
 ·exact q1.sl j x hj
def zcI (keep:List Nat):Rs→Rs
 |[]=>[]
 |(s,rs)::l=>(s,if keep.contains s=true then rs else⟨rs.next,[]⟩)::zcI keep l
theorem zeI (keep adds:List Nat):∀(r:Rs) (s:Nat),(findR s (zcI keep r++adds.map fun s=>(s,(⟨0,[]⟩:RS)))=(findR s r).map fun rs=>if keep.contains s=true then rs else⟨rs.next,[]⟩)∨
  (findR s r=none∧findR s (zcI keep r++adds.map fun s=>(s,(⟨0,[]⟩:RS)))=some ⟨0,[]⟩)
 |[],s=>by
  simp only[zcI,List.nil_append,findR,Option.map_none,true_and]
  induction adds with
  |nil=>left;rfl
  |cons a l ih=>
   simp only[List.map_cons,findR]
   by_cases h:a=s
   ·right;rw[if_pos h]
   ·rw[if_neg h];exact ih
 |(t,rs)::l,s=>by
  simp only[zcI,List.cons_append,findR]
  by_cases h:t=s
  ·subst h;left;simp
  ·rw[if_neg h,if_neg h];exact zeI keep adds l s
theorem Gh.keep (keep adds:List Nat) {v v':List AV} {r r':Rs} (h:Pk.fgt v v') (hr:zcI keep r++adds.map (fun s=>(s,(⟨0,[]⟩:RS)))=r'):Gh ⟨v,r⟩ ⟨v',r'⟩:=fun cx a w ⟨β,hh⟩=>by
 subst hr
 obtain⟨β1,h1⟩:=Gh.fgt (r:=r) h cx a w ⟨β,hh⟩
 have hn:∀s,nxt (zcI keep r++adds.map fun s=>(s,(⟨0,[]⟩:RS))) s=nxt r s:=fun s=>by
  unfold nxt
  rcases zeI keep adds r s with e|⟨e1,e2⟩
  ·rw[e]
   cases findR s r with
   |none=>rfl
   |some rs=>simp only[Option.map_some];split<;>rfl
  ·rw[e1,e2]
 have hl:∀s j res,lookR (zcI keep r++adds.map fun s=>(s,(⟨0,[]⟩:RS))) s j=some res→lookR r s j=some res:=fun s j res hl=>by
  unfold lookR at hl⊢
  rcases zeI keep adds r s with e|⟨e1,e2⟩
  ·rw[e]at hl
   cases hf:findR s r with
   |none=>rw[hf]at hl;cases hl
   |some rs=>
    rw[hf]at hl
    simp only[Option.map_some]at hl⊢
    split at hl
    ·rename_i q hq
     split at hq
     ·simp only[hq];exact hl
     ·simp at hq
    ·cases hl
  ·rw[e2]at hl;simp at hl
 have hg:∀hd res,getR (zcI keep r++adds.map fun s=>(s,(⟨0,[]⟩:RS))) hd=some res→getR r hd=some res:=fun hd res hg=>by
  obtain⟨e1,e2⟩:=zad hg
  exact zao (hl _ _ _ e1) e2
 have x:Ext cx w r β1 w (zcI keep r++adds.map fun s=>(s,(⟨0,[]⟩:RS))) β1:=by
  refine⟨fun s=>by rw[hn];exact Nat.le_refl _,fun hd res' _ hgt=>⟨res',hg _ _ hgt,rfl,rfl,rfl,Nat.le_refl _⟩,⟨fun _ _ _=>rfl,fun b _ hA=> ?_⟩,fun _ _ _=>rfl,rfl,rfl⟩
  rcases hA with hA|⟨s,j,res,o,e1,e2,e3⟩
  ·exact .inl hA
  ·exact .inr ⟨s,j,res,o,hl _ _ _ e1,e2,e3⟩
 exact⟨β1,h1.mk' x (fun s j res e=>⟨(h1.rs s j res (hl _ _ _ e)).1.ext x (fun _ _ _=>rfl) (fun b o hb=>(h1.rs s j res (hl _ _ _ e)).1.lt hb),by rw[hn];exact(h1.rs s j res (hl _ _ _ e)).2⟩)
  (fun s j res s' j' res' b o o' e1 f1 e2 f2=>h1.inj _ _ _ _ _ _ _ _ _ (hl _ _ _ e1) f1 (hl _ _ _ e2) f2) (fun s j res b o e1=>h1.fr _ _ _ _ _ (hl _ _ _ e1)) (Nat.le_refl _)⟩
section
variable {T:Nat→Option TI} {P:Program}
theorem zaf {x:Code} {g:G} {Q:Ex→G→Prop} {τ ρ:Type} (S:τ→G) (J:τ→Prop) (F:τ→ρ) (m:τ→Nat) (t0:τ) (h0:Gh g (S t0)) (hJ:J t0)
  (h2:∀t,J t→F t=F t0→∀K:G→Prop,(∀g t',Gh g (S t')→J t'→F t'=F t→m t'<m t→K g)→awp T P x (S t) (zu5 K Q)):zwG T P x g Q:=
 zhz T P S (fun t=>J t∧F t=F t0) m t0 h0 ⟨hJ,rfl⟩ fun t ht K hK=>h2 t ht.1 ht.2 K fun g t' k1 k2 k3 k4=>hK g t' k1 ⟨k2,by rw[k3,ht.2]⟩ k4
end
theorem zdT {α β:Type} (enc:α→List β) (sz:Nat):∀(l:List α) (i:Nat) (hi:i<l.length),(∀x,(enc x).length=sz)→(l.flatMap enc).drop (i*sz)=enc l[i]++(l.drop (i+1)).flatMap enc
 |x::l,0,_,_=>by simp
 |x::l,i+1,hi,h=>by
  have:=zdT enc sz l i (by simpa using hi) h
  rw[List.flatMap_cons,List.drop_append,List.drop_of_length_le (by rw[h,Nat.add_mul];omega),List.nil_append,h,show(i+1)*sz - sz=i*sz by rw[Nat.add_mul];omega,this]
  simp
theorem zdW {α β:Type} (enc:α→List β) (sz:Nat) (h:∀x,(enc x).length=sz):∀(l:List α),(l.flatMap enc).length=l.length*sz
 |[]=>by simp
 |x::l=>by rw[List.flatMap_cons,List.length_append,h,zdW enc sz h l,List.length_cons,Nat.add_mul];omega
end Go.Pk
