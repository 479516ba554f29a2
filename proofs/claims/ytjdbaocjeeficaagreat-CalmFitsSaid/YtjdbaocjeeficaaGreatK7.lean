import Derived.Test.YtjdbaocjeeficaaGreatK6
set_option linter.unusedVariables false
set_option linter.unusedSimpArgs false
set_option linter.unusedSectionVars false
namespace Go.Pk
def yB (a b:C):Prop:=
 b=a∨match a,b with
 | .d (.sl n ds), .aI m es=>m=n/\es=ds
 | .d (.v (.slice none 0 0)), .aI m es=>m=0/\es=[]
 | .d (.v (.slice none 0 0)), .d (.sl m es)=>m=0/\es=[]
 |_,_=>False
def o8:List C->List C->Prop
 |[],[]=>True
 |a::l,b::m=>yB a b/\o8 l m
 |_,_=>False
def j7 (a b:C):Prop:=
 b=a∨match a,b with
 | .d (.sl n ds), .aI m es=>m=n/\es=ds
 | .d (.v (.slice none 0 0)), .aI m es=>m=0/\es=[]
 | .d (.v (.slice none 0 0)), .d (.sl m es)=>m=0/\es=[]
 | .d (.v (.func (.func f) ⟨[]⟩ ⟨[]⟩)), .dF g cs=>g=f/\cs=[]
 | .cN l, .cN m=>o8 l m
 | .cZ (d::ds), .cN m=>o8 ((d::ds).map C.d) m
 | .d (.pt ds), .cZ es=>es=ds
 |_,_=>False
def jb:List C->List C->Prop
 |[],[]=>True
 |a::l,b::m=>j7 a b/\jb l m
 |_,_=>False
def iQ:AV->AV->Prop
 | .one a, .one b=>j7 a b
 | .agg l, .agg m=>jb l m
 |a,b=>b=a
def gQ:List Arg->List Arg->Prop
 |[],[]=>True
 | .f a::l, .f b::m=>iQ a b/\gQ l m
 | .ob p x::l, .ob q y::m=>(q=p/\y=x)/\gQ l m
 | .row a b c::l, .row a' b' c'::m=>(a'=a/\b'=b/\c'=c)/\gQ l m
 | .cW x y a b c::l, .cW x' y' a' b' c'::m=>(jb x x'/\jb y y'/\a'=a/\b'=b/\c'=c)/\gQ l m
 |_,_=>False
section
variable {P:Program} {w:World} {A0 aH:Nat->Prop} {γ:Nat->Pl}
theorem DZ {a b:C} {u:Value} (h:yB a b) (hu:ae (bV P w A0 aH) w [] β0 a u):ae (bV P w A0 aH) w [] β0 b u:=by
 rcases h with rfl|h
 .exact hu
 .split at h
  .rename_i n ds m es;obtain⟨rfl,rfl⟩:=h;simp only[ae,Rd]at hu⊢;obtain⟨ad,cap,h1,h2,h3⟩:=hu;exact⟨ad,cap,h1,h2,(fS.1 h3).imp λ b hb=> .inl hb⟩
  .rename_i m es;obtain⟨rfl,rfl⟩:=h;have:=(dN.1 hu).1;subst this;simp only[ae];exact⟨none,0,rfl,Nat.le_refl _,trivial⟩
  .rename_i m es;obtain⟨rfl,rfl⟩:=h;have:=(dN.1 hu).1;subst this;simp only[ae,Rd];exact⟨none,0,rfl,Nat.le_refl _,by simp[ek]⟩
  .exact h.elim
theorem qb:∀{a b:List C} {u:List Value},o8 a b->ar (bV P w A0 aH) w [] β0 a u->ar (bV P w A0 aH) w [] β0 b u
 |[],[],_,_,hu=>hu
 |a::l,b::m,u,h,hu=>by simp only[ar]at hu⊢;obtain⟨x,us,h1,h2,h3⟩:=hu;exact⟨x,us,h1,DZ h.1 h2,qb h.2 h3⟩
 |[],_::_,_,h,_=>h.elim
 |_::_,[],_,h,_=>h.elim
theorem vP {T:Nat->Prop}:∀{ds:List D} {b o:Nat},ba w (Av (bV P w A0 aH) [] β0) T ds (some ⟨b,o,none⟩)->
  ∃us,(∀k v,us[k]? =some v->w.cell? ⟨b,o+k,none⟩=some v/\flat v=true)/\ar (bV P w A0 aH) w [] β0 (ds.map C.d) us
 |[],b,o,_=>⟨[],by simp,by simp[ar]⟩
 |d::ds,b,o,h=>by
  simp only[ba]at h;obtain⟨b',o',u,e,h2,h3,h4,h5⟩:=h;cases e;obtain⟨us,g1,g2⟩:=vP h5;refine⟨u::us,λ k y hk=> ?_,by simp only[fF,ar,ae];exact⟨u,us,rfl,h4,g2⟩⟩;cases k with
  |zero=>simp only[bG,aF]at hk;subst hk;exact⟨h3,h4.flat⟩
  |succ k=>
   have:=g1 k y (by simpa using hk)
   rwa[show o+1+k=o+(k+1) by omega]at this
theorem wg {a b:C} {u:Value} (h:j7 a b) (hu:ae (bV P w A0 aH) w [] β0 a u):ae (bV P w A0 aH) w [] β0 b u:=by
 rcases h with rfl|h
 .exact hu
 .split at h
  .rename_i n ds m es;obtain⟨rfl,rfl⟩:=h;simp only[ae,Rd]at hu⊢;obtain⟨ad,cap,h1,h2,h3⟩:=hu;exact⟨ad,cap,h1,h2,(fS.1 h3).imp λ b hb=> .inl hb⟩
  .rename_i m es;obtain⟨rfl,rfl⟩:=h;have:=(dN.1 hu).1;subst this;simp only[ae];exact⟨none,0,rfl,Nat.le_refl _,trivial⟩
  .rename_i m es;obtain⟨rfl,rfl⟩:=h;have:=(dN.1 hu).1;subst this;simp only[ae,Rd];exact⟨none,0,rfl,Nat.le_refl _,by simp[ek]⟩
  .obtain⟨rfl,rfl⟩:=h;have:=(dN.1 hu).1;subst this;simp only[ae];exact⟨#[],rfl,by simp[ar]⟩
  .simp only[ae]at hu⊢;obtain⟨b,o,us,h1,h2,h3,h4,h5⟩:=hu;exact⟨b,o,us,h1,h2,h3,h4,qb h h5⟩
  .simp only[ae]at hu⊢;obtain⟨b,o,h1,h2⟩:=hu;obtain⟨us,g1,g2⟩:=vP h2;have h2':=h2;simp only[ba]at h2';obtain⟨b',o',u',e,t1,t2,_⟩:=h2';cases e;exact⟨b,o,us,h1,nz t2,t1,g1,qb h g2⟩
  .subst h;simp only[ae,Rd]at hu⊢;obtain⟨b,o,h1,h2⟩:=hu;exact⟨b,o,h1,(fS.1 h2).imp λ b hb=> .inl hb⟩
  .exact h.elim
theorem n9:∀{a b:List C} {u:List Value},jb a b->ar (bV P w A0 aH) w [] β0 a u->ar (bV P w A0 aH) w [] β0 b u
 |[],[],_,_,hu=>hu
 |a::l,b::m,u,h,hu=>by simp only[ar]at hu⊢;obtain⟨x,us,h1,h2,h3⟩:=hu;exact⟨x,us,h1,wg h.1 h2,n9 h.2 h3⟩
 |[],_::_,_,h,_=>h.elim
 |_::_,[],_,h,_=>h.elim
theorem EM {a b:AV} {u:Value} (h:iQ a b) (hu:ak (bV P w A0 aH) w [] β0 a u):ak (bV P w A0 aH) w [] β0 b u:=by
 cases a with
 |one a=>cases b with
  |one b=>exact ck.2 (wg h (ck.1 hu))
  |_=>simp[iQ]at h
 |agg l=>cases b with
  |agg m=>
   obtain⟨us,h1,h2⟩:=ec.1 hu;exact ec.2 ⟨us,h1,n9 h h2⟩
  |_=>simp[iQ]at h
 |eW l=>simp only[iQ]at h;subst h;exact hu
 |gd c x=>simp only[iQ]at h;subst h;exact hu
theorem la:∀{as as':List Arg} {k:Nat} {bs:List ct} {us:List Value},gQ as as'->aV P w A0 aH γ k as bs us->aV P w A0 aH γ k as' bs us/\br as'=br as
 |[],[],_,_,_,_,h=>⟨h,rfl⟩
 | .f a::l, .f b::m,k,bs,us,hl,h=>by simp only[aV]at h⊢;obtain⟨u,us',h1,h2,h3⟩:=h;obtain⟨g1,g2⟩:=la hl.2 h3;exact⟨⟨u,us',h1,EM hl.1 h2,g1⟩,by simp only[br,g2]⟩
 | .ob p x::l, .ob q y::m,k,bs,us,hl,h=>by obtain⟨⟨rfl,rfl⟩,hl⟩:=hl;simp only[aV]at h⊢;obtain⟨b,bs',us',c,e,h1,h2,h3,h4,h5,h6,h7⟩:=h;obtain⟨g1,g2⟩:=la hl h7;exact⟨⟨b,bs',us',c,e,h1,h2,h3,h4,h5,h6,g1⟩,by simp only[br,g2]⟩
 | .row a b c::l, .row a' b' c'::m,k,bs,us,hl,h=>by obtain⟨⟨rfl,rfl,rfl⟩,hl⟩:=hl;simp only[aV]at h⊢;obtain⟨u,bs',us',h1,h2,h3,h4⟩:=h;obtain⟨g1,g2⟩:=la hl h4;exact⟨⟨u,bs',us',h1,h2,h3,g1⟩,by simp only[br,g2]⟩
 | .cW x y a b c::l, .cW x' y' a' b' c'::m,k,bs,us,hl,h=>by obtain⟨⟨hx,hy,rfl,rfl,rfl⟩,hl⟩:=hl;simp only[aV]at h⊢;obtain⟨vs,u,ws,bs',us',h1,h2,h3,h4,h5,h6⟩:=h;obtain⟨g1,g2⟩:=la hl h6;exact⟨⟨vs,u,ws,bs',us',h1,h2,n9 hx h3,n9 hy h4,h5,g1⟩,by simp only[br,g2]⟩
 | .cW .. ::_,[],_,_,_,h,_=>h.elim
 | .cW .. ::_, .f _::_,_,_,_,h,_=>h.elim
 | .cW .. ::_, .ob .. ::_,_,_,_,h,_=>h.elim
 | .cW .. ::_, .row .. ::_,_,_,_,h,_=>h.elim
 | .f _::_, .cW .. ::_,_,_,_,h,_=>h.elim
 | .ob .. ::_, .cW .. ::_,_,_,_,h,_=>h.elim
 | .row .. ::_, .cW .. ::_,_,_,_,h,_=>h.elim
 |[],_::_,_,_,_,h,_=>h.elim
 | .f _::_,[],_,_,_,h,_=>h.elim
 | .ob .. ::_,[],_,_,_,h,_=>h.elim
 | .row .. ::_,[],_,_,_,h,_=>h.elim
 | .f _::_, .ob .. ::_,_,_,_,h,_=>h.elim
 | .f _::_, .row .. ::_,_,_,_,h,_=>h.elim
 | .ob .. ::_, .f _::_,_,_,_,h,_=>h.elim
 | .ob .. ::_, .row .. ::_,_,_,_,h,_=>h.elim
 | .row .. ::_, .f _::_,_,_,_,h,_=>h.elim
 | .row .. ::_, .ob .. ::_,_,_,_,h,_=>h.elim
theorem ag.le {f:FuncId} {as as':List Arg} {post:List RF->List (List RO)->Prop} (h:ag P f as' post) (hl:gQ as as'):ag P f as post:=
 ⟨h.1,λ w A0 aH γ bs us h1 h2 h3 h4 h5 h6=>by obtain⟨g1,g2⟩:=la hl h3;exact h.2 w A0 aH γ bs us h1 h2 g1 (by rw[g2];exact h4) h5 (by rw[g2];exact h6)⟩
def lV (a b:RO):Prop:=
 b=a∨match a,b with
 | .d (.v (.slice none 0 0)), .own _ n ds _=>n=0/\ds=[]
 | .d (.v (.slice none 0 0)), .d (.sl n ds)=>n=0/\ds=[]
 | .own sz n ds false, .d (.sl m es)=>m=n/\es=ds/\ds.length=n*sz
 |_,_=>False
def iG:List RO->List RO->Prop
 |[],[]=>True
 |a::l,b::m=>lV a b/\iG l m
 |_,_=>False
def Fb:RF->RF->Prop
 | .one a, .one b=>lV a b
 | .agg l, .agg m=>iG l m
 |_,_=>False
def lA:List RF->List RF->Prop
 |[],[]=>True
 |a::l,b::m=>Fb a b/\lA l m
 |_,_=>False
theorem pq:∀{a b c d:List RO},iG a b->iG c d->iG (a++c) (b++d)
 |[],[],_,_,_,h=>h
 |x::a,y::b,_,_,h,h'=>⟨h.1,pq h.2 h'⟩
 |[],_::_,_,_,h,_=>h.elim
 |_::_,[],_,_,h,_=>h.elim
theorem nt:∀{a:List RO},iG a a
 |[]=>trivial
 |x::a=>⟨by simp[lV],nt⟩
theorem pB:∀{a b:List RF},lA a b->iG (a.flatMap RF.cells) (b.flatMap RF.cells)
 |[],[],_=>trivial
 |x::a,y::b,h=>by
  simp only[dA];refine pq ?_ (pB h.2);cases x with
  |one x=>cases y with
   |one y=>exact⟨h.1,trivial⟩
   |agg _=>exact h.1.elim
  |agg l=>cases y with
   |one y=>exact h.1.elim
   |agg m=>exact h.1
 |[],_::_,h=>h.elim
 |_::_,[],h=>h.elim
theorem pS:∀{a b:List RO},iG a b->b.length=a.length
 |[],[],_=>rfl
 |x::a,y::b,h=>by simp[pS h.2]
 |[],_::_,h=>h.elim
 |_::_,[],h=>h.elim
theorem ug:∀{a b:List RO} {i:Nat} {y:RO},iG a b->b[i]? =some y->∃x,a[i]? =some x/\lV x y
 |[],[],_,_,_,h=>by simp at h
 |x::a,y::b,0,z,h,hi=>by simp only[bG,aF]at hi;subst hi;exact⟨x,rfl,h.1⟩
 |x::a,y::b,i+1,z,h,hi=>by simpa using ug (i:=i) h.2 (by simpa using hi)
 |[],_::_,_,_,h,_=>h.elim
 |_::_,[],_,_,h,_=>h.elim
def γN (γ:Nat->Pl) (L:List RO) (i:Nat):Pl:=
 match L[i]? with
 |some (.own _ _ _ _)=>γ i
 |_=>⟨none,0⟩
variable {A A':Nat->Prop} {L L':List RO}
theorem bL.imp (hA:∀b,A' b->A b) {pl:Pl} {sz:Nat} {ds:List D} (h:bL w A pl sz ds):bL w A' pl sz ds:=
 h.bC ⟨λ _ _ _=>rfl,λ b _ hb=>hA b hb⟩ (λ _ _ _=>rfl)
theorem p' (hA:∀b,A' b->A b) {a:RO} {u:Value} {i:Nat} (hi:L[i]? =some a) (hu:cy A w (γ i) a u):cy A' w (γN γ L i) a u:=by
 cases a with
 |d x=>
  simp only[cy]at hu⊢;exact hu.bC ⟨λ _ _ _=>rfl,λ b _ hb=>hA b hb⟩
 |own sz n ds bo=>
  have:γN γ L i=γ i:=by unfold γN;rw[hi]
  rw[this];simp only[cy]at hu⊢;exact⟨hu.1,hu.2.1,hu.2.2.1.imp hA,hu.2.2.2⟩
theorem uz {sz:Nat} {bo:Bool} {u:Value} {i:Nat} (hi:L[i]? =some (.d (.v (.slice none 0 0)))) (hu:cy A w (γ i) (.d (.v (.slice none 0 0))) u):cy A' w (γN γ L i) (.own sz 0 [] bo) u:=by
 have:γN γ L i=⟨none,0⟩:=by unfold γN;rw[hi]
 rw[this];simp only[cy,Rd]at hu⊢;obtain⟨rfl,_⟩:=hu;exact⟨by simp,Nat.le_refl _,by simp[bL],none,rfl,by simp⟩
theorem uG {u:Value} {pl:Pl} {i:Nat} (hu:cy A w pl (.d (.v (.slice none 0 0))) u):cy A' w (γN γ L i) (.d (.sl 0 [])) u:=by simp only[cy,Rd]at hu⊢;obtain⟨rfl,_⟩:=hu;exact⟨none,0,rfl,Nat.le_refl _,trivial⟩
def mA (A':Nat->Prop) (γ:Nat->Pl) (L L':List RO):Prop:=
 ∀(i sz n:Nat) (ds:List D) (x:D) (b o:Nat),L[i]? =some (.own sz n ds false)->L'[i]? =some (.d x)->(γ i).base=some (b,o)->¬A' b
theorem v9 (hA:∀b,A' b->A b) (hS:mA A' γ L L') {a b:RO} {u:Value} {i:Nat} (hi:L[i]? =some a) (hi':L'[i]? =some b) (h:lV a b) (hu:cy A w (γ i) a u):cy A' w (γN γ L i) b u:=by
 rcases h with rfl|h
 .exact p' hA hi hu
 .split at h
  .obtain⟨rfl,rfl⟩:=h;exact uz hi hu
  .obtain⟨rfl,rfl⟩:=h;exact uG (L:=L) (i:=i) hu
  .obtain⟨rfl,rfl,hlen⟩:=h;simp only[cy,Rd]at hu⊢;obtain⟨h1,h2,h3,ad,rfl,h5⟩:=hu;refine⟨ad,_,rfl,h2,fS.2 ?_⟩;rename_i sz n ds;cases ds with
   |nil=>trivial
   |cons d ds=>
    have hn:n≠0:=λ e=>by subst e;simp at hlen
    obtain⟨bk,o,hb,rfl⟩:=h5.resolve_left (by omega);simp only[bL,hb]at h3;obtain⟨c,e,k1,k2,k3,k4⟩:=h3;refine ba.mk (hS i sz n _ _ bk o hi hi' hb) λ k d' hk=> ?_
    obtain⟨u,g1,g2⟩:=k4 k d' hk;exact⟨u,by unfold World.cell?;rw[k1];exact g1,g2.bC ⟨λ _ _ _=>rfl,λ b _ hb=>hA b hb⟩⟩
  .exact h.elim
theorem oa (hA:∀b,A' b->A b) (hS:mA A' γ L L'):∀{a b:List RO} {k:Nat} {us:List Value},(∀i x,a[i]? =some x->L[k+i]? =some x)->(∀i x,b[i]? =some x->L'[k+i]? =some x)->iG a b->bM A w γ k a us->bM A' w (γN γ L) k b us
 |[],[],k,us,_,_,_,h=>h
 |x::a,y::b,k,us,hL,hL',hl,h=>by
  simp only[bM]at h⊢;obtain⟨u,us',rfl,h1,h2⟩:=h;refine⟨u,us',rfl,v9 hA hS (hL 0 x rfl) (hL' 0 y rfl) hl.1 h1,oa hA hS (λ i x' hi=> ?_) (λ i x' hi=> ?_) hl.2 h2⟩
  .have:=hL (i+1) x' (by simpa using hi)
   rwa[show k+(i+1)=k+1+i by omega]at this
  .have:=hL' (i+1) x' (by simpa using hi)
   rwa[show k+(i+1)=k+1+i by omega]at this
 |[],_::_,_,_,_,_,h,_=>h.elim
 |_::_,[],_,_,_,_,h,_=>h.elim
theorem vp (hA:∀b,A' b->A b) (hS:mA A' γ L L'):∀{a b:List RF} {k:Nat} {us:List Value},(∀i x,(a.flatMap RF.cells)[i]? =some x->L[k+i]? =some x)->(∀i x,(b.flatMap RF.cells)[i]? =some x->L'[k+i]? =some x)->lA a b->cM A w γ k a us->cM A' w (γN γ L) k b us
 |[],[],k,us,_,_,_,h=>h
 |x::a,y::b,k,us,hL,hL',hl,h=>by
  simp only[cM]at h⊢;obtain⟨u,us',rfl,h1,h2⟩:=h;have hlen:y.cells.length=x.cells.length:=by
   cases x with
   |one x=>cases y with
    |one y=>rfl
    |agg _=>exact hl.1.elim
   |agg l=>cases y with
    |one y=>exact hl.1.elim
    |agg m=>exact pS hl.1
  refine⟨u,us',rfl, ?_, ?_⟩
  .have hx:∀i z,x.cells[i]? =some z->L[k+i]? =some z:=λ i z hi=>hL i z (by rw[dA,bJ (bq.1 hi).1];exact hi)
   have hy:∀i z,y.cells[i]? =some z->L'[k+i]? =some z:=λ i z hi=>hL' i z (by rw[dA,bJ (bq.1 hi).1];exact hi)
   cases x with
   |one x=>cases y with
    |one y=>simp only[fP]at h1⊢;exact v9 hA hS (hx 0 x rfl) (hy 0 y rfl) hl.1 h1
    |agg _=>exact hl.1.elim
   |agg l=>cases y with
    |one y=>exact hl.1.elim
    |agg m=>
     simp only[fP]at h1⊢;obtain⟨vs,e1,e2⟩:=h1;exact⟨vs,e1,oa hA hS hx hy hl.1 e2⟩
  .rw[hlen];refine vp hA hS (λ i z hi=> ?_) (λ i z hi=> ?_) hl.2 h2
   .have:=hL (x.cells.length+i) z (by rw[dA,bT (ej _ _)];simpa using hi)
    rwa[cq]
   .have:=hL' (x.cells.length+i) z (by rw[dA,←hlen,bT (ej _ _)];simpa using hi)
    rwa[cq]
 |[],_::_,_,_,_,_,h,_=>h.elim
 |_::_,[],_,_,_,_,h,_=>h.elim
theorem pL (hA:∀b,A' b->A b) (hS:mA A' γ L L'):∀{ls:List (List RO)} {k:Nat} {bs:List ct},(∀i x,ls.flatten[i]? =some x->L[k+i]? =some x)->(∀i x,ls.flatten[i]? =some x->L'[k+i]? =some x)->dO A w γ k ls bs->dO A' w (γN γ L) k ls bs
 |[],k,bs,_,_,h=>by simpa[dO]using h
 |l::ls,k,[],_,_,h=>by simp[dO]at h
 |l::ls,k, .bP b::bs,hL,hL',h=>by
  simp only[dO]at h⊢;obtain⟨⟨c,e,h1,h2,h3⟩,h4⟩:=h;refine⟨⟨c,e,h1,oa hA hS (λ i x hi=>hL i x (by rw[fl,bJ (bq.1 hi).1];exact hi)) (λ i x hi=>hL' i x (by rw[fl,bJ (bq.1 hi).1];exact hi)) nt h2,h3⟩,pL hA hS (λ i x hi=> ?_) (λ i x hi=> ?_) h4⟩
  .have:=hL (l.length+i) x (by rw[fl,bT (ej _ _)];simpa using hi)
   rwa[cq]
  .have:=hL' (l.length+i) x (by rw[fl,bT (ej _ _)];simpa using hi)
   rwa[cq]
 |l::ls,k, .val u::bs,hL,hL',h=>by
  simp only[dO]at h⊢;obtain⟨h1,h4⟩:=h;refine⟨h1.imp id λ h2=>oa hA hS (λ i x hi=>hL i x (by rw[fl,bJ (bq.1 hi).1];exact hi)) (λ i x hi=>hL' i x (by rw[fl,bJ (bq.1 hi).1];exact hi)) nt h2,pL hA hS (λ i x hi=> ?_) (λ i x hi=> ?_) h4⟩
  .have:=hL (l.length+i) x (by rw[fl,bT (ej _ _)];simpa using hi)
   rwa[cq]
  .have:=hL' (l.length+i) x (by rw[fl,bT (ej _ _)];simpa using hi)
   rwa[cq]
theorem C9 {rfs rfs':List RF} {objs:List (List RO)} (h:lA rfs rfs'):iG (bA rfs objs) (bA rfs' objs):=pq (pB h) nt
theorem Ee {x:RO} {sz n:Nat} {ds:List D} {bo:Bool} (h:lV x (.own sz n ds bo)):x= .own sz n ds bo∨∃y,x= .d y:=by
 rcases h with h|h
 .exact .inl h.symm
 .cases x with
  |d y=>exact .inr ⟨y,rfl⟩
  |own a b c e=>cases e<;>exact h.elim
theorem dT.nil {w':World} {bs:List ct} {rfs rfs':List RF} {objs:List (List RO)} {u:Value} (hA0:∀b,A0 b->b<w.heap.size) (h:dT w A0 aH w' bs rfs objs u) (hl:lA rfs rfs'):dT w A0 aH w' bs rfs' objs u:=by
 obtain⟨⟨γ,us,m1,m2,m3,m4,m5,m6⟩,h2,h3,h4,h5⟩:=h;have hle:=C9 (objs:=objs) hl;have hown:∀{i sz n b o:Nat} {ds:List D} {bo:Bool},(bA rfs' objs)[i]? =some (.own sz n ds bo)->(γN γ (bA rfs objs) i).base=some (b,o)->(bA rfs objs)[i]? =some (.own sz n ds bo)/\(γ i).base=some (b,o):=λ {i sz n b o ds bo} hi hb=>by
  obtain⟨x,g1,g2⟩:=ug hle hi;rcases Ee g2 with rfl|⟨y,rfl⟩
  .refine⟨g1, ?_⟩;unfold γN at hb;rw[g1]at hb;exact hb
  .unfold γN at hb;rw[g1]at hb;cases hb
 have hNB:∀b,NB (γN γ (bA rfs objs)) 0 (bA rfs' objs) b->NB γ 0 (bA rfs objs) b:=λ b hb=>by obtain⟨i,sz,n,ds,bo,o,g1,g2⟩:=jO hb;rw[bu]at g2;obtain⟨g3,g4⟩:=hown g1 g2;exact fm (k:=0) g3 (by rw[bu];exact g4)
 have hlen:(rfs'.flatMap RF.cells).length=(rfs.flatMap RF.cells).length:=pS (pB hl);have hS:mA (λ b=>A0 b∨NB (γN γ (bA rfs objs)) 0 (bA rfs' objs) b) γ (bA rfs objs) (bA rfs' objs):=λ i sz n ds x b o hi hi' hb hA=>by
  rcases hA with hA|hA
  .exact absurd (hA0 b hA) (Nat.not_lt.2 (m5 i sz n ds b o hi hb))
  .obtain⟨j,sz',n',ds',bo',o',g1,g2⟩:=jO hA;rw[bu]at g2;obtain⟨g3,g4⟩:=hown g1 g2;have:=m6 i j b o o' sz n ds false sz' n' ds' bo' hi g3 hb g4;subst this;rw[hi']at g1;cases g1
 refine⟨⟨γN γ (bA rfs objs),us,m1, ?_, ?_,λ b hb=>m4 b (hNB b hb),λ i sz n ds b o hi hb=> ?_,λ i j b o o' sz n ds bo sz' n' ds' bo' hi hj hbi hbj=> ?_⟩,h2,h3,h4,h5⟩
 .exact vp (λ b hb=>hb.imp id (hNB b)) hS (λ i x hi=>by rw[bu];unfold bA;rw[bJ (bq.1 hi).1];exact hi) (λ i x hi=>by rw[bu];unfold bA;rw[bJ (bq.1 hi).1];exact hi) hl m2
 .rw[hlen];exact pL (λ b hb=>hb.imp id (hNB b)) hS (λ i x hi=>by unfold bA;rw[bT (ej _ _)];simpa using hi) (λ i x hi=>by unfold bA;rw[←hlen,bT (ej _ _)];simpa using hi) m3
 .obtain⟨g1,g2⟩:=hown hi hb;exact m5 i sz n ds b o g1 g2
 .obtain⟨g1,g2⟩:=hown hi hbi;obtain⟨g3,g4⟩:=hown hj hbj;exact m6 i j b o o' sz n ds bo sz' n' ds' bo' g1 g3 g2 g4
theorem ag.nil {f:FuncId} {as:List Arg} {rfs':List RF} {objs':List (List RO)} (h:ag P f as (λ r o=>lA r rfs'/\o=objs')):ag P f as (λ r o=>r=rfs'/\o=objs'):=
 ⟨h.1,λ w A0 aH γ bs us h1 h2 h3 h4 h5 h6=>(h.2 w A0 aH γ bs us h1 h2 h3 h4 h5 h6).mono λ e w' ⟨r,o,u,⟨g1,g2⟩,g3,g4⟩=>⟨rfs',o,u,⟨rfl,g2⟩,g3,g4.nil h1 g1⟩⟩
end
theorem Gh.nil {v:List AV} {r:Rs} {i s sz:Nat} (hi:v[i]? =some (.one (.d (.v (.slice none 0 0))))):
  Gh ⟨v,r⟩ ⟨v.set i (.one (.own ⟨s,1,af r s⟩ 0 0)),az s ⟨af r s+1,[none,some {e:=af r s,var:=false,fz:=false,sz,cells:=[]}]⟩ r⟩:=λ cx a w ⟨β,hh⟩=>by
 obtain⟨β',q1,q2,q3⟩:=hh.fresh (w':=w) (d:=s) (j0:=1) (L:=[none,some {e:=af r s,var:=false,fz:=false,sz,cells:=[]}]) (pl0:=⟨none,0⟩) rfl
  (λ j res hj=>by
   match j with
   |0=>simp at hj
   |1=>rfl
   |j+2=>simp at hj) rfl rfl (λ b o hb=>by cases hb) (λ _ _=>rfl) (Nat.le_refl _)
  (λ β' hx hA=>jH (ds:=[]) rfl rfl rfl (by simp[bL]))
 obtain⟨u,g1,g2⟩:=hh.sl i _ hi;have hu:=(bj.1 g2).1;subst hu;refine⟨β',{q1 with sz:=by simpa using q1.sz,sl:=λ j x hj=> ?_}⟩;rw[kJ]at hj;split at hj
 .rename_i e;subst e;split at hj
  .cases hj;refine⟨_,g1, ?_⟩;simp only[ak,ae];refine⟨rfl,by rw[c6,ao rfl];exact eH _,λ res hr=> ?_⟩;obtain⟨hl,_⟩:=bh hr;rw[dy,ao rfl]at hl;simp only[fI,bG,aF]at hl;subst hl;rw[q2];exact⟨rfl,by simp,Nat.le_refl _,none,rfl, .inl rfl⟩
  .cases hj
 .exact q1.sl j x hj
def fR (aT:List Nat):Rs->Rs
 |[]=>[]
 |(s,rs)::l=>(s,if aT.contains s=true then rs else⟨rs.next,[]⟩)::fR aT l
theorem po (aT adds:List Nat):∀(r:Rs) (s:Nat),(aa s (fR aT r++adds.map λ s=>(s,(⟨0,[]⟩:RS)))=(aa s r).map λ rs=>if aT.contains s=true then rs else⟨rs.next,[]⟩)∨
  (aa s r=none/\aa s (fR aT r++adds.map λ s=>(s,(⟨0,[]⟩:RS)))=some ⟨0,[]⟩)
 |[],s=>by
  simp only[fR,kx,aa,Option.map_none,ca];induction adds with
  |nil=>left;rfl
  |cons a l ih=>
   simp only[fF,aa];by_cases h:a=s
   .right;rw[ao h]
   .rw[aj h];exact ih
 |(t,rs)::l,s=>by
  simp only[fR,iE,aa];by_cases h:t=s
  .subst h;left;simp
  .rw[aj h,aj h];exact po aT adds l s
theorem Gh.aT (aT adds:List Nat) {v v':List AV} {r r':Rs} (h:Pk.kT v v') (hr:fR aT r++adds.map (λ s=>(s,(⟨0,[]⟩:RS)))=r'):Gh ⟨v,r⟩ ⟨v',r'⟩:=λ cx a w ⟨β,hh⟩=>by
 subst hr;obtain⟨β1,h1⟩:=Gh.kT (r:=r) h cx a w ⟨β,hh⟩;have hn:∀s,af (fR aT r++adds.map λ s=>(s,(⟨0,[]⟩:RS))) s=af r s:=λ s=>by
  unfold af;rcases po aT adds r s with e|⟨e1,e2⟩
  .rw[e];cases aa s r with
   |none=>rfl
   |some rs=>simp only[fZ];split<;>rfl
  .rw[e1,e2]
 have hl:∀s j res,aq (fR aT r++adds.map λ s=>(s,(⟨0,[]⟩:RS))) s j=some res->aq r s j=some res:=λ s j res hl=>by
  unfold aq at hl⊢;rcases po aT adds r s with e|⟨e1,e2⟩
  .rw[e]at hl;cases hf:aa s r with
   |none=>rw[hf]at hl;cases hl
   |some rs=>
    rw[hf]at hl;simp only[fZ]at hl⊢;split at hl
    .rename_i q hq;split at hq
     .simp only[hq];exact hl
     .simp at hq
    .cases hl
  .rw[e2]at hl;simp at hl
 have hg:∀hd res,ax (fR aT r++adds.map λ s=>(s,(⟨0,[]⟩:RS))) hd=some res->ax r hd=some res:=λ hd res hg=>by obtain⟨e1,e2⟩:=bh hg;exact dH (hl _ _ _ e1) e2
 have x:Ext cx w r β1 w (fR aT r++adds.map λ s=>(s,(⟨0,[]⟩:RS))) β1:=by
  refine⟨λ s=>by rw[hn];exact Nat.le_refl _,λ hd res' _ hgt=>⟨res',hg _ _ hgt,rfl,rfl,rfl,Nat.le_refl _⟩,⟨λ _ _ _=>rfl,λ b _ hA=> ?_⟩,λ _ _ _=>rfl,rfl,rfl⟩;rcases hA with hA|⟨s,j,res,o,e1,e2,e3⟩
  .exact .inl hA
  .exact .inr ⟨s,j,res,o,hl _ _ _ e1,e2,e3⟩
 exact⟨β1,h1.mk' x (λ s j res e=>⟨(h1.rs s j res (hl _ _ _ e)).1.ext x (λ _ _ _=>rfl) (λ b o hb=>(h1.rs s j res (hl _ _ _ e)).1.lt hb),by rw[hn];exact(h1.rs s j res (hl _ _ _ e)).2⟩)
  (λ s j res s' j' res' b o o' e1 f1 e2 f2=>h1.inj _ _ _ _ _ _ _ _ _ (hl _ _ _ e1) f1 (hl _ _ _ e2) f2) (λ s j res b o e1=>h1.fr _ _ _ _ _ (hl _ _ _ e1)) (Nat.le_refl _)⟩
section
variable {T:Nat->Option TI} {P:Program}
theorem ll {x:Code} {g:G} {Q:Ex->G->Prop} {τ ρ:Type} (S:τ->G) (J:τ->Prop) (F:τ->ρ) (m:τ->Nat) (t0:τ) (h0:Gh g (S t0)) (hJ:J t0)
  (h2:∀t,J t->F t=F t0->∀K:G->Prop,(∀g t',Gh g (S t')->J t'->F t'=F t->m t'<m t->K g)->bZ T P x (S t) (lT K Q)):wQ T P x g Q:=
 gI T P S (λ t=>J t/\F t=F t0) m t0 h0 ⟨hJ,rfl⟩ λ t ht K hK=>h2 t ht.1 ht.2 K λ g t' k1 k2 k3 k4=>hK g t' k1 ⟨k2,by rw[k3,ht.2]⟩ k4
end
theorem qx {α β:Type} (enc:α->List β) (sz:Nat) (h:∀x,(enc x).length=sz):∀(l:List α),(l.flatMap enc).length=l.length*sz
 |[]=>by simp
 |x::l=>by rw[dA,eh,h,qx enc sz h l,dK,cV];omega
end Go.Pk
