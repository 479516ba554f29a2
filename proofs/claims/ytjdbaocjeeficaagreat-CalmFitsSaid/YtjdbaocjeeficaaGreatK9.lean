import Derived.Test.YtjdbaocjeeficaaGreatK8
set_option linter.unusedVariables false
set_option linter.unusedSimpArgs false
set_option linter.unusedSectionVars false
namespace Go.Pk
section
variable {T:Nat->Option TI} {P:Program} {cx:Cx} {v:List AV} {r:Rs} {a:Act} {w:World} {β:Nat->Nat->Pl}
end
section
variable {T:Nat->Option TI} {P:Program} {cx:Cx} {v:List AV} {r:Rs} {a:Act} {w:World} {β:Nat->Nat->Pl}
def EU (n:Nat) (ks:List Nat) (nw:Nat->List Value) (V:aM):G:=⟨wL n (0::ks),(0,{next:=1,l:=[some V]})::qK nw ks⟩
def Fa (V:aM) (g:G):Prop:=∃ds:List D,g.v[0]? =some (.one (.ptr ⟨0,0,0⟩ 0))/\ax g.r ⟨0,0,0⟩=some V/\V.var=true/\V.cells=ds.map C.d
def Fx (T:Nat->Option TI) (rvs:List ResultVar) (n:Nat) (ks:List Nat) (sz:Nat->Nat) (nw:Value->Nat->List Value) (Px:Value->Prop) (post:List RF->List (List RO)->Prop) (e:Ex) (g:G):Prop:=
 match e with
 | .normal=>gu T rvs [.o 0] post g
 | .ret=>gu T rvs [.o 0] post g
 | .exit _=>False
 | .panic x=>Px x/\g.v.length=n/\qE sz g ks/\∃V,Fa V g/\gu T rvs [.o 0] post (EU n ks (nw x) V)
end
variable {v:List AV} {r r':Rs}
def FA:C->Bool
 | .dead=>false
 | .lk .. =>false
 |_=>true
def FM (r:Rs):C->Option (List D×Rs)
 | .ptr ⟨s,0,e⟩ 0=>match aa s r with
  |some ⟨nx,some V::l⟩=>if(V.var&&V.e==e&& !V.cf)=true then(match cQ V.cells with|some ds=>some (ds,az s ⟨nx,none::l⟩ r)|none=>none)else none
  |_=>none
 |_=>none
variable {P:Program}
abbrev fo (ds:List D):List RF:=ds.map λ d=> .one (.d d)
theorem kY (ds:List D):(fo ds).flatMap RF.cells=ds.map RO.d:=by
 induction ds with
 |nil=>rfl
 |cons d ds ih=>simp only[fo,fF,dA,RF.cells]at ih⊢;rw[ih];rfl
theorem mz {γ:Nat->Pl}:∀{ds:List D} {k b:Nat},¬NB γ k (ds.map RO.d) b
 |[],_,_=>λ h=>h
 |d::ds,k,b=>λ h=>mz (ds:=ds) (k:=k+1) (b:=b) h
theorem tI {A A':Nat->Prop} {w:World} {γ γ':Nat->Pl} (hA:∀b,A' b->A b):∀{ds:List D} {k k':Nat} {us:List Value},cM A w γ k (fo ds) us->cM A' w γ' k' (fo ds) us
 |[],_,_,_,h=>h
 |d::ds,k,k',us,h=>by obtain⟨u,us',e,h1,h2⟩:=h;exact⟨u,us',e,Rd.bC ⟨λ _ _ _=>rfl,λ b _ hb=>hA b hb⟩ h1,tI hA h2⟩
theorem tF {A:Nat->Prop} {w:World} {γ:Nat->Pl}:∀{ds:List D} {k:Nat} {us:List Value},bM A w γ k (ds.map RO.d) us->∀(i:Nat) (d:D),ds[i]? =some d->∃u,us[i]? =some u/\Rd w A d u
 |[],_,_,_,i,d,hi=>by simp at hi
 |e::ds,k,us,h,i,d,hi=>by
  obtain⟨u,us',rfl,h1,h2⟩:=h;cases i with
  |zero=>simp only[bG,aF]at hi;subst hi;exact⟨u,rfl,h1⟩
  |succ i=>simpa using tF h2 i d (by simpa using hi)
section
variable {w:World} {A0 aH:Nat->Prop} {β:Nat->Nat->Pl}
theorem qA {A:Nat->Prop} {b:Nat} (h:ib (bV P w A0 aH) A b):ib (bV P w A0 (λ _=>False)) A b:=by
 rcases h with h|⟨h1,h2⟩
 .exact .inl h
 .exact .inr ⟨h1,λ h=>h⟩
mutual
theorem vD:∀{c:C} {u:Value},ae (bV P w A0 aH) w [] β c u->ae (bV P w A0 (λ _=>False)) w [] β c u
 | .d _,_,h=>by simp only[ae]at h⊢;exact h
 | .aI n ds,_,h=>by simp only[ae]at h⊢;obtain⟨a,cap,h1,h2,h3⟩:=h;exact⟨a,cap,h1,h2,h3.imp λ b hb=>qA hb⟩
 | .own hd lo n,u,h=>by simp only[ae]at h⊢;exact h
 | .ptr hd off,u,h=>by simp only[ae]at h⊢;exact h
 | .cZ ds,_,h=>by simp only[ae]at h⊢;obtain⟨b,o,h1,h2⟩:=h;exact⟨b,o,h1,h2.imp λ b hb=>qA hb⟩
 | .dF f caps,_,h=>by simp only[ae]at h⊢;obtain⟨us,h1,h2⟩:=h;exact⟨us,h1,nT h2⟩
 | .ab,_,h=>by simp only[ae]at h⊢;exact h
 | .dead,_,_=>by simp only[ae]
 | .cN cs,_,h=>by simp only[ae]at h⊢;obtain⟨b,o,us,h1,h2,h3,h4,h5⟩:=h;exact⟨b,o,us,h1,h2,qA h3,h4,nT h5⟩
 | .cP hd lo n k,_,h=>by simp only[ae]at h⊢;exact h
 | .lk hd n x,_,h=>by simp only[ae]at h⊢;exact h
theorem nT:∀{cs:List C} {us:List Value},ar (bV P w A0 aH) w [] β cs us->ar (bV P w A0 (λ _=>False)) w [] β cs us
 |[],_,h=>by simp only[ar]at h⊢;exact h
 |c::cs,us,h=>by simp only[ar]at h⊢;obtain⟨u,us',h1,h2,h3⟩:=h;exact⟨u,us',h1,vD h2,nT h3⟩
end
mutual
theorem qq:∀{x:AV} {u:Value},ak (bV P w A0 aH) w [] β x u->ak (bV P w A0 (λ _=>False)) w [] β x u
 | .one c,_,h=>by simp only[ak]at h⊢;exact vD h
 | .agg l,_,h=>by simp only[ak]at h⊢;obtain⟨us,h1,h2⟩:=h;exact⟨us,h1,nT h2⟩
 | .eW l,_,h=>by simp only[ak]at h⊢;obtain⟨us,h1,h2⟩:=h;exact⟨us,h1,uN h2⟩
 | .gd c x,_,h=>by simp only[ak]at h⊢;exact⟨λ hc=>qq (h.1 hc),h.2⟩
theorem uN:∀{xs:List AV} {us:List Value},aL (bV P w A0 aH) w [] β xs us->aL (bV P w A0 (λ _=>False)) w [] β xs us
 |[],_,h=>by simp only[aL]at h⊢;exact h
 |c::cs,us,h=>by simp only[aL]at h⊢;obtain⟨u,us',h1,h2,h3⟩:=h;exact⟨u,us',h1,qq h2,uN h3⟩
end
end
theorem c8.jC {f:FuncId} {as:List Arg} {ds:List D} {l:List RO} {X:D} (h:c8 P f as (fo ds) l) (hn:jt as=true)
  (hX:∀(w':World) (A A':Nat->Prop) (γ:Nat->Pl) (k b:Nat) (c:Array Value) (e:TypeId),(∀q,A' q->A q)->¬A' b->w'.heap[b]? =some (.cells c e (0,0))->bM A w' γ k l c.toList->Rd w' A' X (eb b)):
  ag P f as (λ r o=>r= .one (.d X)::fo ds/\o=[]):=
 ⟨h.1,λ w A0 aH γ bs us h1 h2 h3 h4 h5 h6=>by
  obtain⟨n1,n2⟩:=uj hn;have hbs:bs=[]/\aV P w A0 (λ _=>False) (λ _=>⟨none,0⟩) 0 as [] us:=by
   clear h h4 h5 h6;have key:∀{as:List Arg} {k k':Nat} {bs:List ct} {us:List Value},jt as=true->aV P w A0 aH γ k as bs us->bs=[]/\aV P w A0 (λ _=>False) (λ _=>⟨none,0⟩) k' as [] us:=by
    intro as;induction as with
    |nil=>intro k k' bs us _ h;exact⟨h.2,h.1,rfl⟩
    |cons a as ih=>
     intro k k' bs us hn h;cases a with
     |f x=>
      obtain⟨u,us',e1,e2,e3⟩:=h;obtain⟨g1,g2⟩:=ih (k':=k') hn e3;exact⟨g1,u,us',e1,qq e2,g2⟩
     |_=>cases hn
   exact key hn h3
  obtain⟨rfl,ha⟩:=hbs;refine(h.2 w A0 us h1 ha).mono λ e w' ⟨bs,r,o,u,⟨b,g1,g2,g3⟩,g4,g5,g6⟩=> ?_
  subst g1 g2 g3;obtain⟨⟨γ',us',m1,m2,m3,m4,m5,m6⟩,k2,k3,k4,k5⟩:=g6;refine⟨_,_,u,⟨rfl,rfl⟩,g4,⟨⟨γ',us',m1, ?_,rfl, ?_, ?_, ?_⟩,k2,λ b hb _=>k3 b hb (λ h=>h),k4,k5⟩⟩
  .obtain⟨q,qs,e1,q1,q2⟩:=m2;refine⟨q,qs,e1, ?_, ?_⟩
   .have hq:q=eb b:=q1.1;subst hq;obtain⟨⟨c,e,t1,t2,t3⟩,_⟩:=m3;refine hX w' _ _ γ' _ b c e ?_ ?_ t1 t2
    .rintro q (hq|hq)
     .exact .inl (.inl hq)
     .exact .inl (.inl (by unfold bA at hq;rw[show(RF.one (RO.d X)::fo ds).flatMap RF.cells=(X::ds).map RO.d by rw[dA,kY];rfl,kD,dz]at hq;exact absurd hq mz))
    .rintro(hq|hq)
     .have:=g5 b (by simp[bI]);have:=h1 b hq;omega
     .unfold bA at hq;rw[show(RF.one (RO.d X)::fo ds).flatMap RF.cells=(X::ds).map RO.d by rw[dA,kY];rfl,kD,dz]at hq;exact mz hq
   .refine tI ?_ q2
    rintro q (hq|hq)
    .exact .inl (.inl hq)
    .unfold bA at hq;rw[show(RF.one (RO.d X)::fo ds).flatMap RF.cells=(X::ds).map RO.d by rw[dA,kY];rfl,kD,dz]at hq;exact absurd hq mz
  .intro q hq;unfold bA at hq;rw[show(RF.one (RO.d X)::fo ds).flatMap RF.cells=(X::ds).map RO.d by rw[dA,kY];rfl,kD,dz]at hq;exact absurd hq mz
  .intro i sz n es b' o' hi;unfold bA at hi;rw[show(RF.one (RO.d X)::fo ds).flatMap RF.cells=(X::ds).map RO.d by rw[dA,kY];rfl,kD,dz,eK]at hi;cases hz:(X::ds)[i]? <;>rw[hz]at hi<;>cases hi
  .intro i j b' o1 o2 sz n es bo sz' n' es' bo' hi;unfold bA at hi;rw[show(RF.one (RO.d X)::fo ds).flatMap RF.cells=(X::ds).map RO.d by rw[dA,kY];rfl,kD,dz,eK]at hi;cases hz:(X::ds)[i]? <;>rw[hz]at hi<;>cases hi⟩
theorem c8.any {f:FuncId} {as:List Arg} {ds:List D} {l:List RO} (h:c8 P f as (fo ds) l) (hn:jt as=true:=by rfl):ag P f as (λ r o=>r= .one (.d .any)::fo ds/\o=[]):=
 h.jC hn λ _ _ _ _ _ _ _ _ _ _ _ _=>rfl
theorem c8.pt {f:FuncId} {as:List Arg} {ds es:List D} (h:c8 P f as (fo ds) (es.map RO.d)) (hn:jt as=true:=by rfl):ag P f as (λ r o=>r= .one (.d (.pt es))::fo ds/\o=[]):=
 h.jC hn λ w' A A' γ k b c e hA hb hc hr=>by simp only[Rd];refine⟨b,0,rfl,fS.2 (ba.mk hb λ i d hi=> ?_)⟩;obtain⟨u,h1,h2⟩:=tF hr i d hi;refine⟨u, ?_,Rd.bC ⟨λ _ _ _=>rfl,λ b _ hb=>hA b hb⟩ h2⟩;unfold World.cell?;rw[hc];simpa using h1
def oJ (r:Rs) (s k:Nat):Rs:=
 match aa s r with
 |some ⟨nx,some V::l⟩=>az s ⟨nx,some {V with cells:=V.cells.set k (.d .any)}::l⟩ r
 |_=>r
def vZ (r:Rs) (s k:Nat):Bool:=
 match aa s r with
 |some ⟨_,some V::_⟩=>V.var&&decide (k<V.cells.length)
 |_=>false
theorem Gh.E6 {v:List AV} {r:Rs} (s k:Nat) (hok:vZ r s k=true:=by rfl):Gh ⟨v,r⟩ ⟨v,oJ r s k⟩:=λ cx a w ⟨β,hh⟩=>by
 unfold vZ at hok;split at hok
 .rename_i nx V l hf;simp only[cg,dQ]at hok;obtain⟨hv,hk⟩:=hok;have hr:oJ r s k=az s ⟨nx,some {V with cells:=V.cells.set k (.d .any)}::l⟩ r:=by unfold oJ;rw[hf]
  rw[hr];have hl:aq r s 0=some V:=by unfold aq;rw[hf];rfl
  have h1:=(hh.rs _ _ _ hl).1;unfold bn at h1;rw[ao hv]at h1;obtain⟨_,b,c,e,hb,hc,hcs,hfl⟩:=h1;have hkc:k<c.toList.length:=by rw[gp hcs];exact hk
  have hu:c[k]? =some c.toList[k]:=by rw[←gw,gy hkc]
  obtain⟨β',g1,_⟩:=hh.oG (d:=s) (x:= .d .any) (next':=nx) hf rfl hv hb hc hu (by simp only[ae,Rd];exact hfl _ (List.getElem_mem hkc)) (Nat.le_refl _);exact⟨β',g1⟩
 .cases hok
end Go.Pk
