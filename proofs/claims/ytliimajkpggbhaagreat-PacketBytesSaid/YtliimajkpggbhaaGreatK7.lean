import Derived.Test.YtliimajkpggbhaaGreatK6
set_option linter.unusedVariables false
set_option linter.unusedSimpArgs false
set_option linter.unusedSectionVars false
namespace Go.Pk
def RX (a b:C):Prop:=
 b=a∨match a,b with
 | .d (.sl n ds), .aC m es=>m=n/\es=ds
 | .d (.v (.slice none 0 0)), .aC m es=>m=0/\es=[]
 | .d (.v (.slice none 0 0)), .d (.sl m es)=>m=0/\es=[]
 |_,_=>False
def Es:List C->List C->Prop
 |[],[]=>True
 |a::l,b::m=>RX a b/\Es l m
 |_,_=>False
def yQ (a b:C):Prop:=
 b=a∨match a,b with
 | .d (.sl n ds), .aC m es=>m=n/\es=ds
 | .d (.v (.slice none 0 0)), .aC m es=>m=0/\es=[]
 | .d (.v (.slice none 0 0)), .d (.sl m es)=>m=0/\es=[]
 | .d (.v (.func (.func f) ⟨[]⟩ ⟨[]⟩)), .fx g cs=>g=f/\cs=[]
 | .ib l, .ib m=>Es l m
 | .fJ (d::ds), .ib m=>Es ((d::ds).map C.d) m
 |_,_=>False
def ve:List C->List C->Prop
 |[],[]=>True
 |a::l,b::m=>yQ a b/\ve l m
 |_,_=>False
def ud:AV->AV->Prop
 | .one a, .one b=>yQ a b
 | .agg l, .agg m=>ve l m
 |a,b=>b=a
def ow:List Arg->List Arg->Prop
 |[],[]=>True
 | .f a::l, .f b::m=>ud a b/\ow l m
 | .obj x::l, .obj y::m=>y=x/\ow l m
 | .row a b c::l, .row a' b' c'::m=>(a'=a/\b'=b/\c'=c)/\ow l m
 | .fW x y a b c::l, .fW x' y' a' b' c'::m=>(ve x x'/\ve y y'/\a'=a/\b'=b/\c'=c)/\ow l m
 |_,_=>False
section
variable {P:Program} {w:World} {A0 aS:Nat->Prop} {γ:Nat->Pl}
theorem aaM {a b:C} {u:Value} (h:RX a b) (hu:ay (fK P w A0 aS) w [] β0 a u):ay (fK P w A0 aS) w [] β0 b u:=by
 rcases h with rfl|h
 .exact hu
 .split at h
  .rename_i n ds m es;obtain⟨rfl,rfl⟩:=h;simp only[ay,Rd]at hu⊢;obtain⟨ad,cap,h1,h2,h3⟩:=hu;exact⟨ad,cap,h1,h2,(pb.1 h3).imp λ b hb=> .inl hb⟩
  .rename_i m es;obtain⟨rfl,rfl⟩:=h;have:=(iG.1 hu).1;subst this;simp only[ay];exact⟨none,0,rfl,Nat.le_refl _,trivial⟩
  .rename_i m es;obtain⟨rfl,rfl⟩:=h;have:=(iG.1 hu).1;subst this;simp only[ay,Rd];exact⟨none,0,rfl,Nat.le_refl _,by simp[lv]⟩
  .exact h.elim
theorem GH:∀{a b:List C} {u:List Value},Es a b->aH (fK P w A0 aS) w [] β0 a u->aH (fK P w A0 aS) w [] β0 b u
 |[],[],_,_,hu=>hu
 |a::l,b::m,u,h,hu=>by simp only[aH]at hu⊢;obtain⟨x,us,h1,h2,h3⟩:=hu;exact⟨x,us,h1,aaM h.1 h2,GH h.2 h3⟩
 |[],_::_,_,h,_=>h.elim
 |_::_,[],_,h,_=>h.elim
theorem Nv {T:Nat->Prop}:∀{ds:List D} {b o:Nat},cA w (Av (fK P w A0 aS) [] β0) T ds (some ⟨b,o,none⟩)->
  ∃us,(∀k v,us[k]? =some v->w.cell? ⟨b,o+k,none⟩=some v/\flat v=true)/\aH (fK P w A0 aS) w [] β0 (ds.map C.d) us
 |[],b,o,_=>⟨[],by simp,by simp[aH]⟩
 |d::ds,b,o,h=>by
  simp only[cA]at h;obtain⟨b',o',u,e,h2,h3,h4,h5⟩:=h;cases e;obtain⟨us,g1,g2⟩:=Nv h5;refine⟨u::us,λ k y hk=> ?_,by simp only[b7,aH,ay];exact⟨u,us,rfl,h4,g2⟩⟩;cases k with
  |zero=>simp only[c9,bn]at hk;subst hk;exact⟨h3,h4.flat⟩
  |succ k=>
   have:=g1 k y (by simpa using hk)
   rwa[show o+1+k=o+(k+1) by omega]at this
theorem N2 {a b:C} {u:Value} (h:yQ a b) (hu:ay (fK P w A0 aS) w [] β0 a u):ay (fK P w A0 aS) w [] β0 b u:=by
 rcases h with rfl|h
 .exact hu
 .split at h
  .rename_i n ds m es;obtain⟨rfl,rfl⟩:=h;simp only[ay,Rd]at hu⊢;obtain⟨ad,cap,h1,h2,h3⟩:=hu;exact⟨ad,cap,h1,h2,(pb.1 h3).imp λ b hb=> .inl hb⟩
  .rename_i m es;obtain⟨rfl,rfl⟩:=h;have:=(iG.1 hu).1;subst this;simp only[ay];exact⟨none,0,rfl,Nat.le_refl _,trivial⟩
  .rename_i m es;obtain⟨rfl,rfl⟩:=h;have:=(iG.1 hu).1;subst this;simp only[ay,Rd];exact⟨none,0,rfl,Nat.le_refl _,by simp[lv]⟩
  .obtain⟨rfl,rfl⟩:=h;have:=(iG.1 hu).1;subst this;simp only[ay];exact⟨#[],rfl,by simp[aH]⟩
  .simp only[ay]at hu⊢;obtain⟨b,o,us,h1,h2,h3,h4,h5⟩:=hu;exact⟨b,o,us,h1,h2,h3,h4,GH h h5⟩
  .simp only[ay]at hu⊢;obtain⟨b,o,h1,h2⟩:=hu;obtain⟨us,g1,g2⟩:=Nv h2;have h2':=h2;simp only[cA]at h2';obtain⟨b',o',u',e,t1,t2,_⟩:=h2';cases e;exact⟨b,o,us,h1,Cq t2,t1,g1,GH h g2⟩
  .exact h.elim
theorem DB:∀{a b:List C} {u:List Value},ve a b->aH (fK P w A0 aS) w [] β0 a u->aH (fK P w A0 aS) w [] β0 b u
 |[],[],_,_,hu=>hu
 |a::l,b::m,u,h,hu=>by simp only[aH]at hu⊢;obtain⟨x,us,h1,h2,h3⟩:=hu;exact⟨x,us,h1,N2 h.1 h2,DB h.2 h3⟩
 |[],_::_,_,h,_=>h.elim
 |_::_,[],_,h,_=>h.elim
theorem acr {a b:AV} {u:Value} (h:ud a b) (hu:aE (fK P w A0 aS) w [] β0 a u):aE (fK P w A0 aS) w [] β0 b u:=by
 cases a with
 |one a=>cases b with
  |one b=>exact fa.2 (N2 h (fa.1 hu))
  |_=>simp[ud]at h
 |agg l=>cases b with
  |agg m=>
   obtain⟨us,h1,h2⟩:=jX.1 hu;exact jX.2 ⟨us,h1,DB h h2⟩
  |_=>simp[ud]at h
 |ig l=>simp only[ud]at h;subst h;exact hu
 |gd c x=>simp only[ud]at h;subst h;exact hu
theorem xv:∀{as as':List Arg} {k:Nat} {bs:List dQ} {us:List Value},ow as as'->bP P w A0 aS γ k as bs us->bP P w A0 aS γ k as' bs us/\cn as'=cn as
 |[],[],_,_,_,_,h=>⟨h,rfl⟩
 | .f a::l, .f b::m,k,bs,us,hl,h=>by simp only[bP]at h⊢;obtain⟨u,us',h1,h2,h3⟩:=h;obtain⟨g1,g2⟩:=xv hl.2 h3;exact⟨⟨u,us',h1,acr hl.1 h2,g1⟩,by simp only[cn,g2]⟩
 | .obj x::l, .obj y::m,k,bs,us,hl,h=>by obtain⟨rfl,hl⟩:=hl;simp only[bP]at h⊢;obtain⟨b,bs',us',c,e,h1,h2,h3,h4,h5,h6,h7⟩:=h;obtain⟨g1,g2⟩:=xv hl h7;exact⟨⟨b,bs',us',c,e,h1,h2,h3,h4,h5,h6,g1⟩,by simp only[cn,g2]⟩
 | .row a b c::l, .row a' b' c'::m,k,bs,us,hl,h=>by obtain⟨⟨rfl,rfl,rfl⟩,hl⟩:=hl;simp only[bP]at h⊢;obtain⟨u,bs',us',h1,h2,h3,h4⟩:=h;obtain⟨g1,g2⟩:=xv hl h4;exact⟨⟨u,bs',us',h1,h2,h3,g1⟩,by simp only[cn,g2]⟩
 | .fW x y a b c::l, .fW x' y' a' b' c'::m,k,bs,us,hl,h=>by obtain⟨⟨hx,hy,rfl,rfl,rfl⟩,hl⟩:=hl;simp only[bP]at h⊢;obtain⟨vs,u,ws,bs',us',h1,h2,h3,h4,h5,h6⟩:=h;obtain⟨g1,g2⟩:=xv hl h6;exact⟨⟨vs,u,ws,bs',us',h1,h2,DB hx h3,DB hy h4,h5,g1⟩,by simp only[cn,g2]⟩
 | .fW .. ::_,[],_,_,_,h,_=>h.elim
 | .fW .. ::_, .f _::_,_,_,_,h,_=>h.elim
 | .fW .. ::_, .obj _::_,_,_,_,h,_=>h.elim
 | .fW .. ::_, .row .. ::_,_,_,_,h,_=>h.elim
 | .f _::_, .fW .. ::_,_,_,_,h,_=>h.elim
 | .obj _::_, .fW .. ::_,_,_,_,h,_=>h.elim
 | .row .. ::_, .fW .. ::_,_,_,_,h,_=>h.elim
 |[],_::_,_,_,_,h,_=>h.elim
 | .f _::_,[],_,_,_,h,_=>h.elim
 | .obj _::_,[],_,_,_,h,_=>h.elim
 | .row .. ::_,[],_,_,_,h,_=>h.elim
 | .f _::_, .obj _::_,_,_,_,h,_=>h.elim
 | .f _::_, .row .. ::_,_,_,_,h,_=>h.elim
 | .obj _::_, .f _::_,_,_,_,h,_=>h.elim
 | .obj _::_, .row .. ::_,_,_,_,h,_=>h.elim
 | .row .. ::_, .f _::_,_,_,_,h,_=>h.elim
 | .row .. ::_, .obj _::_,_,_,_,h,_=>h.elim
theorem ah.le {f:FuncId} {as as':List Arg} {post:List RF->List (List RO)->Prop} (h:ah P f as' post) (hl:ow as as'):ah P f as post:=
 ⟨h.1,λ w A0 aS γ bs us h1 h2 h3 h4 h5 h6=>by obtain⟨g1,g2⟩:=xv hl h3;exact h.2 w A0 aS γ bs us h1 h2 g1 (by rw[g2];exact h4) h5 (by rw[g2];exact h6)⟩
def ak (a b:RO):Prop:=
 b=a∨match a,b with
 | .d (.v (.slice none 0 0)), .own _ n ds _=>n=0/\ds=[]
 | .d (.v (.slice none 0 0)), .d (.sl n ds)=>n=0/\ds=[]
 | .own sz n ds false, .d (.sl m es)=>m=n/\es=ds/\ds.length=n*sz
 |_,_=>False
def aY:List RO->List RO->Prop
 |[],[]=>True
 |a::l,b::m=>ak a b/\aY l m
 |_,_=>False
def bf:RF->RF->Prop
 | .one a, .one b=>ak a b
 | .agg l, .agg m=>aY l m
 |_,_=>False
def aT:List RF->List RF->Prop
 |[],[]=>True
 |a::l,b::m=>bf a b/\aT l m
 |_,_=>False
theorem Fa:∀{a b c d:List RO},aY a b->aY c d->aY (a++c) (b++d)
 |[],[],_,_,_,h=>h
 |x::a,y::b,_,_,h,h'=>⟨h.1,Fa h.2 h'⟩
 |[],_::_,_,_,h,_=>h.elim
 |_::_,[],_,_,h,_=>h.elim
theorem Ci:∀{a:List RO},aY a a
 |[]=>trivial
 |x::a=>⟨by simp[ak],Ci⟩
theorem Fb:∀{a b:List RF},aT a b->aY (a.flatMap RF.cells) (b.flatMap RF.cells)
 |[],[],_=>trivial
 |x::a,y::b,h=>by
  simp only[fv];refine Fa ?_ (Fb h.2);cases x with
  |one x=>cases y with
   |one y=>exact⟨h.1,trivial⟩
   |agg _=>exact h.1.elim
  |agg l=>cases y with
   |one y=>exact h.1.elim
   |agg m=>exact h.1
 |[],_::_,h=>h.elim
 |_::_,[],h=>h.elim
theorem Gd:∀{a b:List RO},aY a b->b.length=a.length
 |[],[],_=>rfl
 |x::a,y::b,h=>by simp[Gd h.2]
 |[],_::_,h=>h.elim
 |_::_,[],h=>h.elim
theorem Kd:∀{a b:List RO} {i:Nat} {y:RO},aY a b->b[i]? =some y->∃x,a[i]? =some x/\ak x y
 |[],[],_,_,_,h=>by simp at h
 |x::a,y::b,0,z,h,hi=>by simp only[c9,bn]at hi;subst hi;exact⟨x,rfl,h.1⟩
 |x::a,y::b,i+1,z,h,hi=>by simpa using Kd (i:=i) h.2 (by simpa using hi)
 |[],_::_,_,_,h,_=>h.elim
 |_::_,[],_,_,h,_=>h.elim
def γN (γ:Nat->Pl) (L:List RO) (i:Nat):Pl:=
 match L[i]? with
 |some (.own _ _ _ _)=>γ i
 |_=>⟨none,0⟩
variable {A A':Nat->Prop} {L L':List RO}
theorem dm.imp (hA:∀b,A' b->A b) {pl:Pl} {sz:Nat} {ds:List D} (h:dm w A pl sz ds):dm w A' pl sz ds:=
 h.dy ⟨λ _ _ _=>rfl,λ b _ hb=>hA b hb⟩ (λ _ _ _=>rfl)
theorem Aq (hA:∀b,A' b->A b) {a:RO} {u:Value} {i:Nat} (hi:L[i]? =some a) (hu:d9 A w (γ i) a u):d9 A' w (γN γ L i) a u:=by
 cases a with
 |d x=>
  simp only[d9]at hu⊢;exact hu.dy ⟨λ _ _ _=>rfl,λ b _ hb=>hA b hb⟩
 |own sz n ds bo=>
  have:γN γ L i=γ i:=by unfold γN;rw[hi]
  rw[this];simp only[d9]at hu⊢;exact⟨hu.1,hu.2.1,hu.2.2.1.imp hA,hu.2.2.2⟩
theorem GX {sz:Nat} {bo:Bool} {u:Value} {i:Nat} (hi:L[i]? =some (.d (.v (.slice none 0 0)))) (hu:d9 A w (γ i) (.d (.v (.slice none 0 0))) u):d9 A' w (γN γ L i) (.own sz 0 [] bo) u:=by
 have:γN γ L i=⟨none,0⟩:=by unfold γN;rw[hi]
 rw[this];simp only[d9,Rd]at hu⊢;obtain⟨rfl,_⟩:=hu;exact⟨by simp,Nat.le_refl _,by simp[dm],none,rfl,by simp⟩
theorem Lr {u:Value} {pl:Pl} {i:Nat} (hu:d9 A w pl (.d (.v (.slice none 0 0))) u):d9 A' w (γN γ L i) (.d (.sl 0 [])) u:=by simp only[d9,Rd]at hu⊢;obtain⟨rfl,_⟩:=hu;exact⟨none,0,rfl,Nat.le_refl _,trivial⟩
def AM (A':Nat->Prop) (γ:Nat->Pl) (L L':List RO):Prop:=
 ∀(i sz n:Nat) (ds:List D) (x:D) (b o:Nat),L[i]? =some (.own sz n ds false)->L'[i]? =some (.d x)->(γ i).base=some (b,o)->¬A' b
theorem NJ (hA:∀b,A' b->A b) (hS:AM A' γ L L') {a b:RO} {u:Value} {i:Nat} (hi:L[i]? =some a) (hi':L'[i]? =some b) (h:ak a b) (hu:d9 A w (γ i) a u):d9 A' w (γN γ L i) b u:=by
 rcases h with rfl|h
 .exact Aq hA hi hu
 .split at h
  .obtain⟨rfl,rfl⟩:=h;exact GX hi hu
  .obtain⟨rfl,rfl⟩:=h;exact Lr (L:=L) (i:=i) hu
  .obtain⟨rfl,rfl,hlen⟩:=h;simp only[d9,Rd]at hu⊢;obtain⟨h1,h2,h3,ad,rfl,h5⟩:=hu;refine⟨ad,_,rfl,h2,pb.2 ?_⟩;rename_i sz n ds;cases ds with
   |nil=>trivial
   |cons d ds=>
    have hn:n≠0:=λ e=>by subst e;simp at hlen
    obtain⟨bk,o,hb,rfl⟩:=h5.resolve_left (by omega);simp only[dm,hb]at h3;obtain⟨c,e,k1,k2,k3,k4⟩:=h3;refine cA.mk (hS i sz n _ _ bk o hi hi' hb) λ k d' hk=> ?_
    obtain⟨u,g1,g2⟩:=k4 k d' hk;exact⟨u,by unfold World.cell?;rw[k1];exact g1,g2.dy ⟨λ _ _ _=>rfl,λ b _ hb=>hA b hb⟩⟩
  .exact h.elim
theorem DH (hA:∀b,A' b->A b) (hS:AM A' γ L L'):∀{a b:List RO} {k:Nat} {us:List Value},(∀i x,a[i]? =some x->L[k+i]? =some x)->(∀i x,b[i]? =some x->L'[k+i]? =some x)->aY a b->cU A w γ k a us->cU A' w (γN γ L) k b us
 |[],[],k,us,_,_,_,h=>h
 |x::a,y::b,k,us,hL,hL',hl,h=>by
  simp only[cU]at h⊢;obtain⟨u,us',rfl,h1,h2⟩:=h;refine⟨u,us',rfl,NJ hA hS (hL 0 x rfl) (hL' 0 y rfl) hl.1 h1,DH hA hS (λ i x' hi=> ?_) (λ i x' hi=> ?_) hl.2 h2⟩
  .have:=hL (i+1) x' (by simpa using hi)
   rwa[show k+(i+1)=k+1+i by omega]at this
  .have:=hL' (i+1) x' (by simpa using hi)
   rwa[show k+(i+1)=k+1+i by omega]at this
 |[],_::_,_,_,_,_,h,_=>h.elim
 |_::_,[],_,_,_,_,h,_=>h.elim
theorem Nn (hA:∀b,A' b->A b) (hS:AM A' γ L L'):∀{a b:List RF} {k:Nat} {us:List Value},(∀i x,(a.flatMap RF.cells)[i]? =some x->L[k+i]? =some x)->(∀i x,(b.flatMap RF.cells)[i]? =some x->L'[k+i]? =some x)->aT a b->eW A w γ k a us->eW A' w (γN γ L) k b us
 |[],[],k,us,_,_,_,h=>h
 |x::a,y::b,k,us,hL,hL',hl,h=>by
  simp only[eW]at h⊢;obtain⟨u,us',rfl,h1,h2⟩:=h;have hlen:y.cells.length=x.cells.length:=by
   cases x with
   |one x=>cases y with
    |one y=>rfl
    |agg _=>exact hl.1.elim
   |agg l=>cases y with
    |one y=>exact hl.1.elim
    |agg m=>exact Gd hl.1
  refine⟨u,us',rfl, ?_, ?_⟩
  .have hx:∀i z,x.cells[i]? =some z->L[k+i]? =some z:=λ i z hi=>hL i z (by rw[fv,dA (cG.1 hi).1];exact hi)
   have hy:∀i z,y.cells[i]? =some z->L'[k+i]? =some z:=λ i z hi=>hL' i z (by rw[fv,dA (cG.1 hi).1];exact hi)
   cases x with
   |one x=>cases y with
    |one y=>simp only[lp]at h1⊢;exact NJ hA hS (hx 0 x rfl) (hy 0 y rfl) hl.1 h1
    |agg _=>exact hl.1.elim
   |agg l=>cases y with
    |one y=>exact hl.1.elim
    |agg m=>
     simp only[lp]at h1⊢;obtain⟨vs,e1,e2⟩:=h1;exact⟨vs,e1,DH hA hS hx hy hl.1 e2⟩
  .rw[hlen];refine Nn hA hS (λ i z hi=> ?_) (λ i z hi=> ?_) hl.2 h2
   .have:=hL (x.cells.length+i) z (by rw[fv,dL (j5 _ _)];simpa using hi)
    rwa[ey]
   .have:=hL' (x.cells.length+i) z (by rw[fv,←hlen,dL (j5 _ _)];simpa using hi)
    rwa[ey]
 |[],_::_,_,_,_,_,h,_=>h.elim
 |_::_,[],_,_,_,_,h,_=>h.elim
theorem F' (hA:∀b,A' b->A b) (hS:AM A' γ L L'):∀{ls:List (List RO)} {k:Nat} {bs:List dQ},(∀i x,ls.flatten[i]? =some x->L[k+i]? =some x)->(∀i x,ls.flatten[i]? =some x->L'[k+i]? =some x)->gG A w γ k ls bs->gG A' w (γN γ L) k ls bs
 |[],k,bs,_,_,h=>by simpa[gG]using h
 |l::ls,k,[],_,_,h=>by simp[gG]at h
 |l::ls,k, .dI b::bs,hL,hL',h=>by
  simp only[gG]at h⊢;obtain⟨⟨c,e,h1,h2,h3⟩,h4⟩:=h;refine⟨⟨c,e,h1,DH hA hS (λ i x hi=>hL i x (by rw[jK,dA (cG.1 hi).1];exact hi)) (λ i x hi=>hL' i x (by rw[jK,dA (cG.1 hi).1];exact hi)) Ci h2,h3⟩,F' hA hS (λ i x hi=> ?_) (λ i x hi=> ?_) h4⟩
  .have:=hL (l.length+i) x (by rw[jK,dL (j5 _ _)];simpa using hi)
   rwa[ey]
  .have:=hL' (l.length+i) x (by rw[jK,dL (j5 _ _)];simpa using hi)
   rwa[ey]
 |l::ls,k, .val u::bs,hL,hL',h=>by
  simp only[gG]at h⊢;obtain⟨h1,h4⟩:=h;refine⟨h1.imp id λ h2=>DH hA hS (λ i x hi=>hL i x (by rw[jK,dA (cG.1 hi).1];exact hi)) (λ i x hi=>hL' i x (by rw[jK,dA (cG.1 hi).1];exact hi)) Ci h2,F' hA hS (λ i x hi=> ?_) (λ i x hi=> ?_) h4⟩
  .have:=hL (l.length+i) x (by rw[jK,dL (j5 _ _)];simpa using hi)
   rwa[ey]
  .have:=hL' (l.length+i) x (by rw[jK,dL (j5 _ _)];simpa using hi)
   rwa[ey]
theorem ZI {rfs rfs':List RF} {objs:List (List RO)} (h:aT rfs rfs'):aY (cX rfs objs) (cX rfs' objs):=Fa (Fb h) Ci
theorem acA {x:RO} {sz n:Nat} {ds:List D} {bo:Bool} (h:ak x (.own sz n ds bo)):x= .own sz n ds bo∨∃y,x= .d y:=by
 rcases h with h|h
 .exact .inl h.symm
 .cases x with
  |d y=>exact .inr ⟨y,rfl⟩
  |own a b c e=>cases e<;>exact h.elim
theorem fl.nil {w':World} {bs:List dQ} {rfs rfs':List RF} {objs:List (List RO)} {u:Value} (hA0:∀b,A0 b->b<w.heap.size) (h:fl w A0 aS w' bs rfs objs u) (hl:aT rfs rfs'):fl w A0 aS w' bs rfs' objs u:=by
 obtain⟨⟨γ,us,m1,m2,m3,m4,m5,m6⟩,h2,h3,h4,h5⟩:=h;have hle:=ZI (objs:=objs) hl;have hown:∀{i sz n b o:Nat} {ds:List D} {bo:Bool},(cX rfs' objs)[i]? =some (.own sz n ds bo)->(γN γ (cX rfs objs) i).base=some (b,o)->(cX rfs objs)[i]? =some (.own sz n ds bo)/\(γ i).base=some (b,o):=λ {i sz n b o ds bo} hi hb=>by
  obtain⟨x,g1,g2⟩:=Kd hle hi;rcases acA g2 with rfl|⟨y,rfl⟩
  .refine⟨g1, ?_⟩;unfold γN at hb;rw[g1]at hb;exact hb
  .unfold γN at hb;rw[g1]at hb;cases hb
 have hNB:∀b,NB (γN γ (cX rfs objs)) 0 (cX rfs' objs) b->NB γ 0 (cX rfs objs) b:=λ b hb=>by obtain⟨i,sz,n,ds,bo,o,g1,g2⟩:=rz hb;rw[cc]at g2;obtain⟨g3,g4⟩:=hown g1 g2;exact lL (k:=0) g3 (by rw[cc];exact g4)
 have hlen:(rfs'.flatMap RF.cells).length=(rfs.flatMap RF.cells).length:=Gd (Fb hl);have hS:AM (λ b=>A0 b∨NB (γN γ (cX rfs objs)) 0 (cX rfs' objs) b) γ (cX rfs objs) (cX rfs' objs):=λ i sz n ds x b o hi hi' hb hA=>by
  rcases hA with hA|hA
  .exact absurd (hA0 b hA) (Nat.not_lt.2 (m5 i sz n ds b o hi hb))
  .obtain⟨j,sz',n',ds',bo',o',g1,g2⟩:=rz hA;rw[cc]at g2;obtain⟨g3,g4⟩:=hown g1 g2;have:=m6 i j b o o' sz n ds false sz' n' ds' bo' hi g3 hb g4;subst this;rw[hi']at g1;cases g1
 refine⟨⟨γN γ (cX rfs objs),us,m1, ?_, ?_,λ b hb=>m4 b (hNB b hb),λ i sz n ds b o hi hb=> ?_,λ i j b o o' sz n ds bo sz' n' ds' bo' hi hj hbi hbj=> ?_⟩,h2,h3,h4,h5⟩
 .exact Nn (λ b hb=>hb.imp id (hNB b)) hS (λ i x hi=>by rw[cc];unfold cX;rw[dA (cG.1 hi).1];exact hi) (λ i x hi=>by rw[cc];unfold cX;rw[dA (cG.1 hi).1];exact hi) hl m2
 .rw[hlen];exact F' (λ b hb=>hb.imp id (hNB b)) hS (λ i x hi=>by unfold cX;rw[dL (j5 _ _)];simpa using hi) (λ i x hi=>by unfold cX;rw[←hlen,dL (j5 _ _)];simpa using hi) m3
 .obtain⟨g1,g2⟩:=hown hi hb;exact m5 i sz n ds b o g1 g2
 .obtain⟨g1,g2⟩:=hown hi hbi;obtain⟨g3,g4⟩:=hown hj hbj;exact m6 i j b o o' sz n ds bo sz' n' ds' bo' g1 g3 g2 g4
theorem ah.nil {f:FuncId} {as:List Arg} {rfs':List RF} {objs':List (List RO)} (h:ah P f as (λ r o=>aT r rfs'/\o=objs')):ah P f as (λ r o=>r=rfs'/\o=objs'):=
 ⟨h.1,λ w A0 aS γ bs us h1 h2 h3 h4 h5 h6=>(h.2 w A0 aS γ bs us h1 h2 h3 h4 h5 h6).mono λ e w' ⟨r,o,u,⟨g1,g2⟩,g3,g4⟩=>⟨rfs',o,u,⟨rfl,g2⟩,g3,g4.nil h1 g1⟩⟩
end
theorem Gh.nil {v:List AV} {r:Rs} {i s sz:Nat} (hi:v[i]? =some (.one (.d (.v (.slice none 0 0))))):
  Gh ⟨v,r⟩ ⟨v.set i (.one (.own ⟨s,1,ar r s⟩ 0 0)),aN s ⟨ar r s+1,[none,some {e:=ar r s,var:=false,fz:=false,sz,cells:=[]}]⟩ r⟩:=λ cx a w ⟨β,hh⟩=>by
 obtain⟨β',q1,q2,q3⟩:=hh.fresh (w':=w) (d:=s) (j0:=1) (L:=[none,some {e:=ar r s,var:=false,fz:=false,sz,cells:=[]}]) (pl0:=⟨none,0⟩) rfl
  (λ j res hj=>by
   match j with
   |0=>simp at hj
   |1=>rfl
   |j+2=>simp at hj) rfl rfl (λ b o hb=>by cases hb) (λ _ _=>rfl) (Nat.le_refl _)
  (λ β' hx hA=>sw (ds:=[]) rfl rfl rfl (by simp[dm]))
 obtain⟨u,g1,g2⟩:=hh.sl i _ hi;have hu:=(cR.1 g2).1;subst hu;refine⟨β',{q1 with sz:=by simpa using q1.sz,sl:=λ j x hj=> ?_}⟩;rw[nr]at hj;split at hj
 .rename_i e;subst e;split at hj
  .cases hj;refine⟨_,g1, ?_⟩;simp only[aE,ay];refine⟨rfl,by rw[fo,aj rfl];exact jJ _,λ res hr=> ?_⟩;obtain⟨hl,_⟩:=cp hr;rw[fQ,aj rfl]at hl;simp only[lQ,c9,bn]at hl;subst hl;rw[q2];exact⟨rfl,by simp,Nat.le_refl _,none,rfl, .inl rfl⟩
  .cases hj
 .exact q1.sl j x hj
def nH (fj:List Nat):Rs->Rs
 |[]=>[]
 |(s,rs)::l=>(s,if fj.contains s=true then rs else⟨rs.next,[]⟩)::nH fj l
theorem EZ (fj adds:List Nat):∀(r:Rs) (s:Nat),(ao s (nH fj r++adds.map λ s=>(s,(⟨0,[]⟩:RS)))=(ao s r).map λ rs=>if fj.contains s=true then rs else⟨rs.next,[]⟩)∨
  (ao s r=none/\ao s (nH fj r++adds.map λ s=>(s,(⟨0,[]⟩:RS)))=some ⟨0,[]⟩)
 |[],s=>by
  simp only[nH,c5,ao,Option.map_none,jo];induction adds with
  |nil=>left;rfl
  |cons a l ih=>
   simp only[b7,ao];by_cases h:a=s
   .right;rw[aj h]
   .rw[aa h];exact ih
 |(t,rs)::l,s=>by
  simp only[nH,dW,ao];by_cases h:t=s
  .subst h;left;simp
  .rw[aa h,aa h];exact EZ fj adds l s
theorem Gh.fj (fj adds:List Nat) {v v':List AV} {r r':Rs} (h:Pk.fB v v') (hr:nH fj r++adds.map (λ s=>(s,(⟨0,[]⟩:RS)))=r'):Gh ⟨v,r⟩ ⟨v',r'⟩:=λ cx a w ⟨β,hh⟩=>by
 subst hr;obtain⟨β1,h1⟩:=Gh.fB (r:=r) h cx a w ⟨β,hh⟩;have hn:∀s,ar (nH fj r++adds.map λ s=>(s,(⟨0,[]⟩:RS))) s=ar r s:=λ s=>by
  unfold ar;rcases EZ fj adds r s with e|⟨e1,e2⟩
  .rw[e];cases ao s r with
   |none=>rfl
   |some rs=>simp only[im];split<;>rfl
  .rw[e1,e2]
 have hl:∀s j res,aF (nH fj r++adds.map λ s=>(s,(⟨0,[]⟩:RS))) s j=some res->aF r s j=some res:=λ s j res hl=>by
  unfold aF at hl⊢;rcases EZ fj adds r s with e|⟨e1,e2⟩
  .rw[e]at hl;cases hf:ao s r with
   |none=>rw[hf]at hl;cases hl
   |some rs=>
    rw[hf]at hl;simp only[im]at hl⊢;split at hl
    .rename_i q hq;split at hq
     .simp only[hq];exact hl
     .simp at hq
    .cases hl
  .rw[e2]at hl;simp at hl
 have hg:∀hd res,aQ (nH fj r++adds.map λ s=>(s,(⟨0,[]⟩:RS))) hd=some res->aQ r hd=some res:=λ hd res hg=>by obtain⟨e1,e2⟩:=cp hg;exact gu (hl _ _ _ e1) e2
 have x:Ext cx w r β1 w (nH fj r++adds.map λ s=>(s,(⟨0,[]⟩:RS))) β1:=by
  refine⟨λ s=>by rw[hn];exact Nat.le_refl _,λ hd res' _ hgt=>⟨res',hg _ _ hgt,rfl,rfl,rfl,Nat.le_refl _⟩,⟨λ _ _ _=>rfl,λ b _ hA=> ?_⟩,λ _ _ _=>rfl,rfl,rfl⟩;rcases hA with hA|⟨s,j,res,o,e1,e2,e3⟩
  .exact .inl hA
  .exact .inr ⟨s,j,res,o,hl _ _ _ e1,e2,e3⟩
 exact⟨β1,h1.mk' x (λ s j res e=>⟨(h1.rs s j res (hl _ _ _ e)).1.ext x (λ _ _ _=>rfl) (λ b o hb=>(h1.rs s j res (hl _ _ _ e)).1.lt hb),by rw[hn];exact(h1.rs s j res (hl _ _ _ e)).2⟩)
  (λ s j res s' j' res' b o o' e1 f1 e2 f2=>h1.inj _ _ _ _ _ _ _ _ _ (hl _ _ _ e1) f1 (hl _ _ _ e2) f2) (λ s j res b o e1=>h1.fr _ _ _ _ _ (hl _ _ _ e1)) (Nat.le_refl _)⟩
section
variable {T:Nat->Option TI} {P:Program}
theorem bq {x:Code} {g:G} {Q:Ex->G->Prop} {τ ρ:Type} (S:τ->G) (J:τ->Prop) (F:τ->ρ) (m:τ->Nat) (t0:τ) (h0:Gh g (S t0)) (hJ:J t0)
  (h2:∀t,J t->F t=F t0->∀K:G->Prop,(∀g t',Gh g (S t')->J t'->F t'=F t->m t'<m t->K g)->cH T P x (S t) (tM K Q)):yf T P x g Q:=
 Ac T P S (λ t=>J t/\F t=F t0) m t0 h0 ⟨hJ,rfl⟩ λ t ht K hK=>h2 t ht.1 ht.2 K λ g t' k1 k2 k3 k4=>hK g t' k1 ⟨k2,by rw[k3,ht.2]⟩ k4
end
theorem p' {α β:Type} (enc:α->List β) (sz:Nat):∀(l:List α) (i:Nat) (hi:i<l.length),(∀x,(enc x).length=sz)->(l.flatMap enc).drop (i*sz)=enc l[i]++(l.drop (i+1)).flatMap enc
 |x::l,0,_,_=>by simp
 |x::l,i+1,hi,h=>by have:=p' enc sz l i (by simpa using hi) h;rw[fv,List.drop_append,List.drop_of_length_le (by rw[h,eQ];omega),c5,h,show(i+1)*sz - sz=i*sz by rw[eQ];omega,this];simp
theorem mn {α β:Type} (enc:α->List β) (sz:Nat) (h:∀x,(enc x).length=sz):∀(l:List α),(l.flatMap enc).length=l.length*sz
 |[]=>by simp
 |x::l=>by rw[fv,aG,h,mn enc sz h l,cL,eQ];omega
end Go.Pk
