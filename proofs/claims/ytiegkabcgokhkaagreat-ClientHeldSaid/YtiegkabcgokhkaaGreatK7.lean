import Derived.Test.YtiegkabcgokhkaaGreatK6
set_option linter.unusedVariables false
set_option linter.unusedSimpArgs false
set_option linter.unusedSectionVars false
namespace Go.Pk
def Em (a b:C):Prop:=
 b=a∨match a,b with
 | .d (.sl n ds), .aJ m es=>m=n/\es=ds
 | .d (.v (.slice none 0 0)), .aJ m es=>m=0/\es=[]
 | .d (.v (.slice none 0 0)), .d (.sl m es)=>m=0/\es=[]
 |_,_=>False
def tC:List C->List C->Prop
 |[],[]=>True
 |a::l,b::m=>Em a b/\tC l m
 |_,_=>False
def dG (a b:C):Prop:=
 b=a∨match a,b with
 | .d (.sl n ds), .aJ m es=>m=n/\es=ds
 | .d (.v (.slice none 0 0)), .aJ m es=>m=0/\es=[]
 | .d (.v (.slice none 0 0)), .d (.sl m es)=>m=0/\es=[]
 | .d (.v (.func (.func f) ⟨[]⟩ ⟨[]⟩)), .eP g cs=>g=f/\cs=[]
 | .dZ l, .dZ m=>tC l m
 | .dP (d::ds), .dZ m=>tC ((d::ds).map C.d) m
 |_,_=>False
def dw:List C->List C->Prop
 |[],[]=>True
 |a::l,b::m=>dG a b/\dw l m
 |_,_=>False
def dq:AV->AV->Prop
 | .one a, .one b=>dG a b
 | .agg l, .agg m=>dw l m
 |a,b=>b=a
def cV:List Arg->List Arg->Prop
 |[],[]=>True
 | .f a::l, .f b::m=>dq a b/\cV l m
 | .obj x::l, .obj y::m=>y=x/\cV l m
 | .row a b c::l, .row a' b' c'::m=>(a'=a/\b'=b/\c'=c)/\cV l m
 | .dC x y a b c::l, .dC x' y' a' b' c'::m=>(dw x x'/\dw y y'/\a'=a/\b'=b/\c'=c)/\cV l m
 |_,_=>False
section
variable {P:Program} {w:World} {A0 aL:Nat->Prop} {γ:Nat->Pl}
theorem M3 {a b:C} {u:Value} (h:Em a b) (hu:aw (dt P w A0 aL) w [] β0 a u):aw (dt P w A0 aL) w [] β0 b u:=by
 rcases h with rfl|h
 .exact hu
 .split at h
  .rename_i n ds m es;obtain⟨rfl,rfl⟩:=h;simp only[aw,Rd]at hu⊢;obtain⟨ad,cap,h1,h2,h3⟩:=hu;exact⟨ad,cap,h1,h2,(jv.1 h3).imp λ b hb=> .inl hb⟩
  .rename_i m es;obtain⟨rfl,rfl⟩:=h;have:=(eH.1 hu).1;subst this;simp only[aw];exact⟨none,0,rfl,Nat.le_refl _,trivial⟩
  .rename_i m es;obtain⟨rfl,rfl⟩:=h;have:=(eH.1 hu).1;subst this;simp only[aw,Rd];exact⟨none,0,rfl,Nat.le_refl _,by simp[gn]⟩
  .exact h.elim
theorem vg:∀{a b:List C} {u:List Value},tC a b->aC (dt P w A0 aL) w [] β0 a u->aC (dt P w A0 aL) w [] β0 b u
 |[],[],_,_,hu=>hu
 |a::l,b::m,u,h,hu=>by simp only[aC]at hu⊢;obtain⟨x,us,h1,h2,h3⟩:=hu;exact⟨x,us,h1,M3 h.1 h2,vg h.2 h3⟩
 |[],_::_,_,h,_=>h.elim
 |_::_,[],_,h,_=>h.elim
theorem Cg {T:Nat->Prop}:∀{ds:List D} {b o:Nat},bu w (Av (dt P w A0 aL) [] β0) T ds (some ⟨b,o,none⟩)->
  ∃us,(∀k v,us[k]? =some v->w.cell? ⟨b,o+k,none⟩=some v/\flat v=true)/\aC (dt P w A0 aL) w [] β0 (ds.map C.d) us
 |[],b,o,_=>⟨[],by simp,by simp[aC]⟩
 |d::ds,b,o,h=>by
  simp only[bu]at h;obtain⟨b',o',u,e,h2,h3,h4,h5⟩:=h;cases e;obtain⟨us,g1,g2⟩:=Cg h5;refine⟨u::us,λ k y hk=> ?_,by simp only[cJ,aC,aw];exact⟨u,us,rfl,h4,g2⟩⟩;cases k with
  |zero=>simp only[bZ,aQ]at hk;subst hk;exact⟨h3,h4.flat⟩
  |succ k=>
   have:=g1 k y (by simpa using hk)
   rwa[show o+1+k=o+(k+1) by omega]at this
theorem BT {a b:C} {u:Value} (h:dG a b) (hu:aw (dt P w A0 aL) w [] β0 a u):aw (dt P w A0 aL) w [] β0 b u:=by
 rcases h with rfl|h
 .exact hu
 .split at h
  .rename_i n ds m es;obtain⟨rfl,rfl⟩:=h;simp only[aw,Rd]at hu⊢;obtain⟨ad,cap,h1,h2,h3⟩:=hu;exact⟨ad,cap,h1,h2,(jv.1 h3).imp λ b hb=> .inl hb⟩
  .rename_i m es;obtain⟨rfl,rfl⟩:=h;have:=(eH.1 hu).1;subst this;simp only[aw];exact⟨none,0,rfl,Nat.le_refl _,trivial⟩
  .rename_i m es;obtain⟨rfl,rfl⟩:=h;have:=(eH.1 hu).1;subst this;simp only[aw,Rd];exact⟨none,0,rfl,Nat.le_refl _,by simp[gn]⟩
  .obtain⟨rfl,rfl⟩:=h;have:=(eH.1 hu).1;subst this;simp only[aw];exact⟨#[],rfl,by simp[aC]⟩
  .simp only[aw]at hu⊢;obtain⟨b,o,us,h1,h2,h3,h4,h5⟩:=hu;exact⟨b,o,us,h1,h2,h3,h4,vg h h5⟩
  .simp only[aw]at hu⊢;obtain⟨b,o,h1,h2⟩:=hu;obtain⟨us,g1,g2⟩:=Cg h2;have h2':=h2;simp only[bu]at h2';obtain⟨b',o',u',e,t1,t2,_⟩:=h2';cases e;exact⟨b,o,us,h1,rz t2,t1,g1,vg h g2⟩
  .exact h.elim
theorem sH:∀{a b:List C} {u:List Value},dw a b->aC (dt P w A0 aL) w [] β0 a u->aC (dt P w A0 aL) w [] β0 b u
 |[],[],_,_,hu=>hu
 |a::l,b::m,u,h,hu=>by simp only[aC]at hu⊢;obtain⟨x,us,h1,h2,h3⟩:=hu;exact⟨x,us,h1,BT h.1 h2,sH h.2 h3⟩
 |[],_::_,_,h,_=>h.elim
 |_::_,[],_,h,_=>h.elim
theorem Nx {a b:AV} {u:Value} (h:dq a b) (hu:aA (dt P w A0 aL) w [] β0 a u):aA (dt P w A0 aL) w [] β0 b u:=by
 cases a with
 |one a=>cases b with
  |one b=>exact c6.2 (BT h (c6.1 hu))
  |_=>simp[dq]at h
 |agg l=>cases b with
  |agg m=>
   obtain⟨us,h1,h2⟩:=fw.1 hu;exact fw.2 ⟨us,h1,sH h h2⟩
  |_=>simp[dq]at h
 |eY l=>simp only[dq]at h;subst h;exact hu
 |gd c x=>simp only[dq]at h;subst h;exact hu
theorem oj:∀{as as':List Arg} {k:Nat} {bs:List cr} {us:List Value},cV as as'->aW P w A0 aL γ k as bs us->aW P w A0 aL γ k as' bs us/\bn as'=bn as
 |[],[],_,_,_,_,h=>⟨h,rfl⟩
 | .f a::l, .f b::m,k,bs,us,hl,h=>by simp only[aW]at h⊢;obtain⟨u,us',h1,h2,h3⟩:=h;obtain⟨g1,g2⟩:=oj hl.2 h3;exact⟨⟨u,us',h1,Nx hl.1 h2,g1⟩,by simp only[bn,g2]⟩
 | .obj x::l, .obj y::m,k,bs,us,hl,h=>by obtain⟨rfl,hl⟩:=hl;simp only[aW]at h⊢;obtain⟨b,bs',us',c,e,h1,h2,h3,h4,h5,h6,h7⟩:=h;obtain⟨g1,g2⟩:=oj hl h7;exact⟨⟨b,bs',us',c,e,h1,h2,h3,h4,h5,h6,g1⟩,by simp only[bn,g2]⟩
 | .row a b c::l, .row a' b' c'::m,k,bs,us,hl,h=>by obtain⟨⟨rfl,rfl,rfl⟩,hl⟩:=hl;simp only[aW]at h⊢;obtain⟨u,bs',us',h1,h2,h3,h4⟩:=h;obtain⟨g1,g2⟩:=oj hl h4;exact⟨⟨u,bs',us',h1,h2,h3,g1⟩,by simp only[bn,g2]⟩
 | .dC x y a b c::l, .dC x' y' a' b' c'::m,k,bs,us,hl,h=>by obtain⟨⟨hx,hy,rfl,rfl,rfl⟩,hl⟩:=hl;simp only[aW]at h⊢;obtain⟨vs,u,ws,bs',us',h1,h2,h3,h4,h5,h6⟩:=h;obtain⟨g1,g2⟩:=oj hl h6;exact⟨⟨vs,u,ws,bs',us',h1,h2,sH hx h3,sH hy h4,h5,g1⟩,by simp only[bn,g2]⟩
 | .dC .. ::_,[],_,_,_,h,_=>h.elim
 | .dC .. ::_, .f _::_,_,_,_,h,_=>h.elim
 | .dC .. ::_, .obj _::_,_,_,_,h,_=>h.elim
 | .dC .. ::_, .row .. ::_,_,_,_,h,_=>h.elim
 | .f _::_, .dC .. ::_,_,_,_,h,_=>h.elim
 | .obj _::_, .dC .. ::_,_,_,_,h,_=>h.elim
 | .row .. ::_, .dC .. ::_,_,_,_,h,_=>h.elim
 |[],_::_,_,_,_,h,_=>h.elim
 | .f _::_,[],_,_,_,h,_=>h.elim
 | .obj _::_,[],_,_,_,h,_=>h.elim
 | .row .. ::_,[],_,_,_,h,_=>h.elim
 | .f _::_, .obj _::_,_,_,_,h,_=>h.elim
 | .f _::_, .row .. ::_,_,_,_,h,_=>h.elim
 | .obj _::_, .f _::_,_,_,_,h,_=>h.elim
 | .obj _::_, .row .. ::_,_,_,_,h,_=>h.elim
 | .row .. ::_, .f _::_,_,_,_,h,_=>h.elim
 | .row .. ::_, .obj _::_,_,_,_,h,_=>h.elim
theorem ae.le {f:FuncId} {as as':List Arg} {post:List RF->List (List RO)->Prop} (h:ae P f as' post) (hl:cV as as'):ae P f as post:=
 ⟨h.1,λ w A0 aL γ bs us h1 h2 h3 h4 h5 h6=>by obtain⟨g1,g2⟩:=oj hl h3;exact h.2 w A0 aL γ bs us h1 h2 g1 (by rw[g2];exact h4) h5 (by rw[g2];exact h6)⟩
def aN (a b:RO):Prop:=
 b=a∨match a,b with
 | .d (.v (.slice none 0 0)), .own _ n ds _=>n=0/\ds=[]
 | .d (.v (.slice none 0 0)), .d (.sl n ds)=>n=0/\ds=[]
 | .own sz n ds false, .d (.sl m es)=>m=n/\es=ds/\ds.length=n*sz
 |_,_=>False
def gj:List RO->List RO->Prop
 |[],[]=>True
 |a::l,b::m=>aN a b/\gj l m
 |_,_=>False
def mA:RF->RF->Prop
 | .one a, .one b=>aN a b
 | .agg l, .agg m=>gj l m
 |_,_=>False
def iA:List RF->List RF->Prop
 |[],[]=>True
 |a::l,b::m=>mA a b/\iA l m
 |_,_=>False
theorem tZ:∀{a b c d:List RO},gj a b->gj c d->gj (a++c) (b++d)
 |[],[],_,_,_,h=>h
 |x::a,y::b,_,_,h,h'=>⟨h.1,tZ h.2 h'⟩
 |[],_::_,_,_,h,_=>h.elim
 |_::_,[],_,_,h,_=>h.elim
theorem rA:∀{a:List RO},gj a a
 |[]=>trivial
 |x::a=>⟨by simp[aN],rA⟩
theorem uk:∀{a b:List RF},iA a b->gj (a.flatMap RF.cells) (b.flatMap RF.cells)
 |[],[],_=>trivial
 |x::a,y::b,h=>by
  simp only[fm];refine tZ ?_ (uk h.2);cases x with
  |one x=>cases y with
   |one y=>exact⟨h.1,trivial⟩
   |agg _=>exact h.1.elim
  |agg l=>cases y with
   |one y=>exact h.1.elim
   |agg m=>exact h.1
 |[],_::_,h=>h.elim
 |_::_,[],h=>h.elim
theorem uO:∀{a b:List RO},gj a b->b.length=a.length
 |[],[],_=>rfl
 |x::a,y::b,h=>by simp[uO h.2]
 |[],_::_,h=>h.elim
 |_::_,[],h=>h.elim
theorem yO:∀{a b:List RO} {i:Nat} {y:RO},gj a b->b[i]? =some y->∃x,a[i]? =some x/\aN x y
 |[],[],_,_,_,h=>by simp at h
 |x::a,y::b,0,z,h,hi=>by simp only[bZ,aQ]at hi;subst hi;exact⟨x,rfl,h.1⟩
 |x::a,y::b,i+1,z,h,hi=>by simpa using yO (i:=i) h.2 (by simpa using hi)
 |[],_::_,_,_,h,_=>h.elim
 |_::_,[],_,_,h,_=>h.elim
def γN (γ:Nat->Pl) (L:List RO) (i:Nat):Pl:=
 match L[i]? with
 |some (.own _ _ _ _)=>γ i
 |_=>⟨none,0⟩
variable {A A':Nat->Prop} {L L':List RO}
theorem b5.imp (hA:∀b,A' b->A b) {pl:Pl} {sz:Nat} {ds:List D} (h:b5 w A pl sz ds):b5 w A' pl sz ds:=
 h.cg ⟨λ _ _ _=>rfl,λ b _ hb=>hA b hb⟩ (λ _ _ _=>rfl)
theorem pW (hA:∀b,A' b->A b) {a:RO} {u:Value} {i:Nat} (hi:L[i]? =some a) (hu:cA A w (γ i) a u):cA A' w (γN γ L i) a u:=by
 cases a with
 |d x=>
  simp only[cA]at hu⊢;exact hu.cg ⟨λ _ _ _=>rfl,λ b _ hb=>hA b hb⟩
 |own sz n ds bo=>
  have:γN γ L i=γ i:=by unfold γN;rw[hi]
  rw[this];simp only[cA]at hu⊢;exact⟨hu.1,hu.2.1,hu.2.2.1.imp hA,hu.2.2.2⟩
theorem va {sz:Nat} {bo:Bool} {u:Value} {i:Nat} (hi:L[i]? =some (.d (.v (.slice none 0 0)))) (hu:cA A w (γ i) (.d (.v (.slice none 0 0))) u):cA A' w (γN γ L i) (.own sz 0 [] bo) u:=by
 have:γN γ L i=⟨none,0⟩:=by unfold γN;rw[hi]
 rw[this];simp only[cA,Rd]at hu⊢;obtain⟨rfl,_⟩:=hu;exact⟨by simp,Nat.le_refl _,by simp[b5],none,rfl,by simp⟩
theorem z8 {u:Value} {pl:Pl} {i:Nat} (hu:cA A w pl (.d (.v (.slice none 0 0))) u):cA A' w (γN γ L i) (.d (.sl 0 [])) u:=by simp only[cA,Rd]at hu⊢;obtain⟨rfl,_⟩:=hu;exact⟨none,0,rfl,Nat.le_refl _,trivial⟩
def qj (A':Nat->Prop) (γ:Nat->Pl) (L L':List RO):Prop:=
 ∀(i sz n:Nat) (ds:List D) (x:D) (b o:Nat),L[i]? =some (.own sz n ds false)->L'[i]? =some (.d x)->(γ i).base=some (b,o)->¬A' b
theorem B9 (hA:∀b,A' b->A b) (hS:qj A' γ L L') {a b:RO} {u:Value} {i:Nat} (hi:L[i]? =some a) (hi':L'[i]? =some b) (h:aN a b) (hu:cA A w (γ i) a u):cA A' w (γN γ L i) b u:=by
 rcases h with rfl|h
 .exact pW hA hi hu
 .split at h
  .obtain⟨rfl,rfl⟩:=h;exact va hi hu
  .obtain⟨rfl,rfl⟩:=h;exact z8 (L:=L) (i:=i) hu
  .obtain⟨rfl,rfl,hlen⟩:=h;simp only[cA,Rd]at hu⊢;obtain⟨h1,h2,h3,ad,rfl,h5⟩:=hu;refine⟨ad,_,rfl,h2,jv.2 ?_⟩;rename_i sz n ds;cases ds with
   |nil=>trivial
   |cons d ds=>
    have hn:n≠0:=λ e=>by subst e;simp at hlen
    obtain⟨bk,o,hb,rfl⟩:=h5.resolve_left (by omega);simp only[b5,hb]at h3;obtain⟨c,e,k1,k2,k3,k4⟩:=h3;refine bu.mk (hS i sz n _ _ bk o hi hi' hb) λ k d' hk=> ?_
    obtain⟨u,g1,g2⟩:=k4 k d' hk;exact⟨u,by unfold World.cell?;rw[k1];exact g1,g2.cg ⟨λ _ _ _=>rfl,λ b _ hb=>hA b hb⟩⟩
  .exact h.elim
theorem sx (hA:∀b,A' b->A b) (hS:qj A' γ L L'):∀{a b:List RO} {k:Nat} {us:List Value},(∀i x,a[i]? =some x->L[k+i]? =some x)->(∀i x,b[i]? =some x->L'[k+i]? =some x)->gj a b->bP A w γ k a us->bP A' w (γN γ L) k b us
 |[],[],k,us,_,_,_,h=>h
 |x::a,y::b,k,us,hL,hL',hl,h=>by
  simp only[bP]at h⊢;obtain⟨u,us',rfl,h1,h2⟩:=h;refine⟨u,us',rfl,B9 hA hS (hL 0 x rfl) (hL' 0 y rfl) hl.1 h1,sx hA hS (λ i x' hi=> ?_) (λ i x' hi=> ?_) hl.2 h2⟩
  .have:=hL (i+1) x' (by simpa using hi)
   rwa[show k+(i+1)=k+1+i by omega]at this
  .have:=hL' (i+1) x' (by simpa using hi)
   rwa[show k+(i+1)=k+1+i by omega]at this
 |[],_::_,_,_,_,_,h,_=>h.elim
 |_::_,[],_,_,_,_,h,_=>h.elim
theorem Bz (hA:∀b,A' b->A b) (hS:qj A' γ L L'):∀{a b:List RF} {k:Nat} {us:List Value},(∀i x,(a.flatMap RF.cells)[i]? =some x->L[k+i]? =some x)->(∀i x,(b.flatMap RF.cells)[i]? =some x->L'[k+i]? =some x)->iA a b->dp A w γ k a us->dp A' w (γN γ L) k b us
 |[],[],k,us,_,_,_,h=>h
 |x::a,y::b,k,us,hL,hL',hl,h=>by
  simp only[dp]at h⊢;obtain⟨u,us',rfl,h1,h2⟩:=h;have hlen:y.cells.length=x.cells.length:=by
   cases x with
   |one x=>cases y with
    |one y=>rfl
    |agg _=>exact hl.1.elim
   |agg l=>cases y with
    |one y=>exact hl.1.elim
    |agg m=>exact uO hl.1
  refine⟨u,us',rfl, ?_, ?_⟩
  .have hx:∀i z,x.cells[i]? =some z->L[k+i]? =some z:=λ i z hi=>hL i z (by rw[fm,cj (bJ.1 hi).1];exact hi)
   have hy:∀i z,y.cells[i]? =some z->L'[k+i]? =some z:=λ i z hi=>hL' i z (by rw[fm,cj (bJ.1 hi).1];exact hi)
   cases x with
   |one x=>cases y with
    |one y=>simp only[iG]at h1⊢;exact B9 hA hS (hx 0 x rfl) (hy 0 y rfl) hl.1 h1
    |agg _=>exact hl.1.elim
   |agg l=>cases y with
    |one y=>exact hl.1.elim
    |agg m=>
     simp only[iG]at h1⊢;obtain⟨vs,e1,e2⟩:=h1;exact⟨vs,e1,sx hA hS hx hy hl.1 e2⟩
  .rw[hlen];refine Bz hA hS (λ i z hi=> ?_) (λ i z hi=> ?_) hl.2 h2
   .have:=hL (x.cells.length+i) z (by rw[fm,ct (fD _ _)];simpa using hi)
    rwa[cS]
   .have:=hL' (x.cells.length+i) z (by rw[fm,←hlen,ct (fD _ _)];simpa using hi)
    rwa[cS]
 |[],_::_,_,_,_,_,h,_=>h.elim
 |_::_,[],_,_,_,_,h,_=>h.elim
theorem uW (hA:∀b,A' b->A b) (hS:qj A' γ L L'):∀{ls:List (List RO)} {k:Nat} {bs:List cr},(∀i x,ls.flatten[i]? =some x->L[k+i]? =some x)->(∀i x,ls.flatten[i]? =some x->L'[k+i]? =some x)->eA A w γ k ls bs->eA A' w (γN γ L) k ls bs
 |[],k,bs,_,_,h=>by simpa[eA]using h
 |l::ls,k,[],_,_,h=>by simp[eA]at h
 |l::ls,k, .cb b::bs,hL,hL',h=>by
  simp only[eA]at h⊢;obtain⟨⟨c,e,h1,h2,h3⟩,h4⟩:=h;refine⟨⟨c,e,h1,sx hA hS (λ i x hi=>hL i x (by rw[gC,cj (bJ.1 hi).1];exact hi)) (λ i x hi=>hL' i x (by rw[gC,cj (bJ.1 hi).1];exact hi)) rA h2,h3⟩,uW hA hS (λ i x hi=> ?_) (λ i x hi=> ?_) h4⟩
  .have:=hL (l.length+i) x (by rw[gC,ct (fD _ _)];simpa using hi)
   rwa[cS]
  .have:=hL' (l.length+i) x (by rw[gC,ct (fD _ _)];simpa using hi)
   rwa[cS]
 |l::ls,k, .val u::bs,hL,hL',h=>by
  simp only[eA]at h⊢;obtain⟨h1,h4⟩:=h;refine⟨h1.imp id λ h2=>sx hA hS (λ i x hi=>hL i x (by rw[gC,cj (bJ.1 hi).1];exact hi)) (λ i x hi=>hL' i x (by rw[gC,cj (bJ.1 hi).1];exact hi)) rA h2,uW hA hS (λ i x hi=> ?_) (λ i x hi=> ?_) h4⟩
  .have:=hL (l.length+i) x (by rw[gC,ct (fD _ _)];simpa using hi)
   rwa[cS]
  .have:=hL' (l.length+i) x (by rw[gC,ct (fD _ _)];simpa using hi)
   rwa[cS]
theorem Lp {rfs rfs':List RF} {objs:List (List RO)} (h:iA rfs rfs'):gj (cn rfs objs) (cn rfs' objs):=tZ (uk h) rA
theorem Ny {x:RO} {sz n:Nat} {ds:List D} {bo:Bool} (h:aN x (.own sz n ds bo)):x= .own sz n ds bo∨∃y,x= .d y:=by
 rcases h with h|h
 .exact .inl h.symm
 .cases x with
  |d y=>exact .inr ⟨y,rfl⟩
  |own a b c e=>cases e<;>exact h.elim
theorem dc.nil {w':World} {bs:List cr} {rfs rfs':List RF} {objs:List (List RO)} {u:Value} (hA0:∀b,A0 b->b<w.heap.size) (h:dc w A0 aL w' bs rfs objs u) (hl:iA rfs rfs'):dc w A0 aL w' bs rfs' objs u:=by
 obtain⟨⟨γ,us,m1,m2,m3,m4,m5,m6⟩,h2,h3,h4,h5⟩:=h;have hle:=Lp (objs:=objs) hl;have hown:∀{i sz n b o:Nat} {ds:List D} {bo:Bool},(cn rfs' objs)[i]? =some (.own sz n ds bo)->(γN γ (cn rfs objs) i).base=some (b,o)->(cn rfs objs)[i]? =some (.own sz n ds bo)/\(γ i).base=some (b,o):=λ {i sz n b o ds bo} hi hb=>by
  obtain⟨x,g1,g2⟩:=yO hle hi;rcases Ny g2 with rfl|⟨y,rfl⟩
  .refine⟨g1, ?_⟩;unfold γN at hb;rw[g1]at hb;exact hb
  .unfold γN at hb;rw[g1]at hb;cases hb
 have hNB:∀b,NB (γN γ (cn rfs objs)) 0 (cn rfs' objs) b->NB γ 0 (cn rfs objs) b:=λ b hb=>by obtain⟨i,sz,n,ds,bo,o,g1,g2⟩:=kI hb;rw[bC]at g2;obtain⟨g3,g4⟩:=hown g1 g2;exact gx (k:=0) g3 (by rw[bC];exact g4)
 have hlen:(rfs'.flatMap RF.cells).length=(rfs.flatMap RF.cells).length:=uO (uk hl);have hS:qj (λ b=>A0 b∨NB (γN γ (cn rfs objs)) 0 (cn rfs' objs) b) γ (cn rfs objs) (cn rfs' objs):=λ i sz n ds x b o hi hi' hb hA=>by
  rcases hA with hA|hA
  .exact absurd (hA0 b hA) (Nat.not_lt.2 (m5 i sz n ds b o hi hb))
  .obtain⟨j,sz',n',ds',bo',o',g1,g2⟩:=kI hA;rw[bC]at g2;obtain⟨g3,g4⟩:=hown g1 g2;have:=m6 i j b o o' sz n ds false sz' n' ds' bo' hi g3 hb g4;subst this;rw[hi']at g1;cases g1
 refine⟨⟨γN γ (cn rfs objs),us,m1, ?_, ?_,λ b hb=>m4 b (hNB b hb),λ i sz n ds b o hi hb=> ?_,λ i j b o o' sz n ds bo sz' n' ds' bo' hi hj hbi hbj=> ?_⟩,h2,h3,h4,h5⟩
 .exact Bz (λ b hb=>hb.imp id (hNB b)) hS (λ i x hi=>by rw[bC];unfold cn;rw[cj (bJ.1 hi).1];exact hi) (λ i x hi=>by rw[bC];unfold cn;rw[cj (bJ.1 hi).1];exact hi) hl m2
 .rw[hlen];exact uW (λ b hb=>hb.imp id (hNB b)) hS (λ i x hi=>by unfold cn;rw[ct (fD _ _)];simpa using hi) (λ i x hi=>by unfold cn;rw[←hlen,ct (fD _ _)];simpa using hi) m3
 .obtain⟨g1,g2⟩:=hown hi hb;exact m5 i sz n ds b o g1 g2
 .obtain⟨g1,g2⟩:=hown hi hbi;obtain⟨g3,g4⟩:=hown hj hbj;exact m6 i j b o o' sz n ds bo sz' n' ds' bo' g1 g3 g2 g4
theorem ae.nil {f:FuncId} {as:List Arg} {rfs':List RF} {objs':List (List RO)} (h:ae P f as (λ r o=>iA r rfs'/\o=objs')):ae P f as (λ r o=>r=rfs'/\o=objs'):=
 ⟨h.1,λ w A0 aL γ bs us h1 h2 h3 h4 h5 h6=>(h.2 w A0 aL γ bs us h1 h2 h3 h4 h5 h6).mono λ e w' ⟨r,o,u,⟨g1,g2⟩,g3,g4⟩=>⟨rfs',o,u,⟨rfl,g2⟩,g3,g4.nil h1 g1⟩⟩
end
theorem Gh.nil {v:List AV} {r:Rs} {i s sz:Nat} (hi:v[i]? =some (.one (.d (.v (.slice none 0 0))))):
  Gh ⟨v,r⟩ ⟨v.set i (.one (.own ⟨s,1,aq r s⟩ 0 0)),aM s ⟨aq r s+1,[none,some {e:=aq r s,var:=false,fz:=false,sz,cells:=[]}]⟩ r⟩:=λ cx a w ⟨β,hh⟩=>by
 obtain⟨β',q1,q2,q3⟩:=hh.fresh (w':=w) (d:=s) (j0:=1) (L:=[none,some {e:=aq r s,var:=false,fz:=false,sz,cells:=[]}]) (pl0:=⟨none,0⟩) rfl
  (λ j res hj=>by
   match j with
   |0=>simp at hj
   |1=>rfl
   |j+2=>simp at hj) rfl rfl (λ b o hb=>by cases hb) (λ _ _=>rfl) (Nat.le_refl _)
  (λ β' hx hA=>lj (ds:=[]) rfl rfl rfl (by simp[b5]))
 obtain⟨u,g1,g2⟩:=hh.sl i _ hi;have hu:=(bI.1 g2).1;subst hu;refine⟨β',{q1 with sz:=by simpa using q1.sz,sl:=λ j x hj=> ?_}⟩;rw[kl]at hj;split at hj
 .rename_i e;subst e;split at hj
  .cases hj;refine⟨_,g1, ?_⟩;simp only[aA,aw];refine⟨rfl,by rw[c5,ay rfl];exact eX _,λ res hr=> ?_⟩;obtain⟨hl,_⟩:=bq hr;rw[dH,ay rfl]at hl;simp only[gS,bZ,aQ]at hl;subst hl;rw[q2];exact⟨rfl,by simp,Nat.le_refl _,none,rfl, .inl rfl⟩
  .cases hj
 .exact q1.sl j x hj
def iJ (b8:List Nat):Rs->Rs
 |[]=>[]
 |(s,rs)::l=>(s,if b8.contains s=true then rs else⟨rs.next,[]⟩)::iJ b8 l
theorem ub (b8 adds:List Nat):∀(r:Rs) (s:Nat),(ah s (iJ b8 r++adds.map λ s=>(s,(⟨0,[]⟩:RS)))=(ah s r).map λ rs=>if b8.contains s=true then rs else⟨rs.next,[]⟩)∨
  (ah s r=none/\ah s (iJ b8 r++adds.map λ s=>(s,(⟨0,[]⟩:RS)))=some ⟨0,[]⟩)
 |[],s=>by
  simp only[iJ,eJ,ah,Option.map_none,bH];induction adds with
  |nil=>left;rfl
  |cons a l ih=>
   simp only[cJ,ah];by_cases h:a=s
   .right;rw[ay h]
   .rw[ar h];exact ih
 |(t,rs)::l,s=>by
  simp only[iJ,eD,ah];by_cases h:t=s
  .subst h;left;simp
  .rw[ar h,ar h];exact ub b8 adds l s
theorem Gh.b8 (b8 adds:List Nat) {v v':List AV} {r r':Rs} (h:Pk.fH v v') (hr:iJ b8 r++adds.map (λ s=>(s,(⟨0,[]⟩:RS)))=r'):Gh ⟨v,r⟩ ⟨v',r'⟩:=λ cx a w ⟨β,hh⟩=>by
 subst hr;obtain⟨β1,h1⟩:=Gh.fH (r:=r) h cx a w ⟨β,hh⟩;have hn:∀s,aq (iJ b8 r++adds.map λ s=>(s,(⟨0,[]⟩:RS))) s=aq r s:=λ s=>by
  unfold aq;rcases ub b8 adds r s with e|⟨e1,e2⟩
  .rw[e];cases ah s r with
   |none=>rfl
   |some rs=>simp only[fE];split<;>rfl
  .rw[e1,e2]
 have hl:∀s j res,aB (iJ b8 r++adds.map λ s=>(s,(⟨0,[]⟩:RS))) s j=some res->aB r s j=some res:=λ s j res hl=>by
  unfold aB at hl⊢;rcases ub b8 adds r s with e|⟨e1,e2⟩
  .rw[e]at hl;cases hf:ah s r with
   |none=>rw[hf]at hl;cases hl
   |some rs=>
    rw[hf]at hl;simp only[fE]at hl⊢;split at hl
    .rename_i q hq;split at hq
     .simp only[hq];exact hl
     .simp at hq
    .cases hl
  .rw[e2]at hl;simp at hl
 have hg:∀hd res,aK (iJ b8 r++adds.map λ s=>(s,(⟨0,[]⟩:RS))) hd=some res->aK r hd=some res:=λ hd res hg=>by obtain⟨e1,e2⟩:=bq hg;exact ed (hl _ _ _ e1) e2
 have x:Ext cx w r β1 w (iJ b8 r++adds.map λ s=>(s,(⟨0,[]⟩:RS))) β1:=by
  refine⟨λ s=>by rw[hn];exact Nat.le_refl _,λ hd res' _ hgt=>⟨res',hg _ _ hgt,rfl,rfl,rfl,Nat.le_refl _⟩,⟨λ _ _ _=>rfl,λ b _ hA=> ?_⟩,λ _ _ _=>rfl,rfl,rfl⟩;rcases hA with hA|⟨s,j,res,o,e1,e2,e3⟩
  .exact .inl hA
  .exact .inr ⟨s,j,res,o,hl _ _ _ e1,e2,e3⟩
 exact⟨β1,h1.mk' x (λ s j res e=>⟨(h1.rs s j res (hl _ _ _ e)).1.ext x (λ _ _ _=>rfl) (λ b o hb=>(h1.rs s j res (hl _ _ _ e)).1.lt hb),by rw[hn];exact(h1.rs s j res (hl _ _ _ e)).2⟩)
  (λ s j res s' j' res' b o o' e1 f1 e2 f2=>h1.inj _ _ _ _ _ _ _ _ _ (hl _ _ _ e1) f1 (hl _ _ _ e2) f2) (λ s j res b o e1=>h1.fr _ _ _ _ _ (hl _ _ _ e1)) (Nat.le_refl _)⟩
section
variable {T:Nat->Option TI} {P:Program}
theorem gr {x:Code} {g:G} {Q:Ex->G->Prop} {τ ρ:Type} (S:τ->G) (J:τ->Prop) (F:τ->ρ) (m:τ->Nat) (t0:τ) (h0:Gh g (S t0)) (hJ:J t0)
  (h2:∀t,J t->F t=F t0->∀K:G->Prop,(∀g t',Gh g (S t')->J t'->F t'=F t->m t'<m t->K g)->bQ T P x (S t) (lP K Q)):CF T P x g Q:=
 fJ T P S (λ t=>J t/\F t=F t0) m t0 h0 ⟨hJ,rfl⟩ λ t ht K hK=>h2 t ht.1 ht.2 K λ g t' k1 k2 k3 k4=>hK g t' k1 ⟨k2,by rw[k3,ht.2]⟩ k4
end
theorem sn {α β:Type} (enc:α->List β) (sz:Nat):∀(l:List α) (i:Nat) (hi:i<l.length),(∀x,(enc x).length=sz)->(l.flatMap enc).drop (i*sz)=enc l[i]++(l.drop (i+1)).flatMap enc
 |x::l,0,_,_=>by simp
 |x::l,i+1,hi,h=>by have:=sn enc sz l i (by simpa using hi) h;rw[fm,List.drop_append,List.drop_of_length_le (by rw[h,cQ];omega),eJ,h,show(i+1)*sz - sz=i*sz by rw[cQ];omega,this];simp
theorem oG {α β:Type} (enc:α->List β) (sz:Nat) (h:∀x,(enc x).length=sz):∀(l:List α),(l.flatMap enc).length=l.length*sz
 |[]=>by simp
 |x::l=>by rw[fm,b6,h,oG enc sz h l,de,cQ];omega
end Go.Pk
