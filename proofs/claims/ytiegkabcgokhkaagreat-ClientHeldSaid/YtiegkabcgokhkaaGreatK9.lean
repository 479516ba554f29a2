import Derived.Test.YtiegkabcgokhkaaGreatK8
set_option linter.unusedVariables false
set_option linter.unusedSimpArgs false
set_option linter.unusedSectionVars false
namespace Go.Pk
section
variable {T:Nat->Option TI} {P:Program} {cx:Cx} {v:List AV} {r:Rs} {a:Act} {w:World} {β:Nat->Nat->Pl}
theorem aH.again (h:aH cx ⟨v,r⟩ a w β) {hd:Hd} {d n:Nat} {res:aY} {ds:List D} {u:Value} (hg:aK r hd=some res) (hf:res.fz=true)
  (hu:aw cx w r β (.own hd 0 n) u) (hds:cX (sub 0 n res.sz res.cells)=some ds):
  ∃β' ad cap,aH cx ⟨v,aM d ⟨aq r d+1,[none,some {e:=aq r d,var:=false,fz:=true,sz:=res.sz,cells:=ds.map C.d}]⟩ r⟩ a w β'/\
   u= .slice ad n cap/\n≤cap/\aw cx w (aM d ⟨aq r d+1,[none,some {e:=aq r d,var:=false,fz:=true,sz:=res.sz,cells:=ds.map C.d}]⟩ r) β' (.cZ ⟨d,1,aq r d⟩ 0 n n) (.slice ad n n):=by
 generalize hr':aM d ⟨aq r d+1,[none,some {e:=aq r d,var:=false,fz:=true,sz:=res.sz,cells:=ds.map C.d}]⟩ r=r';simp only[aw]at hu;obtain⟨_,_,hu⟩:=hu;obtain⟨o1,o2,o3,ad,o4,o5⟩:=hu res hg;rw[nK,bC]at o2;rw[bC]at o3;rw[nv]at o4 o5;obtain⟨hl,he⟩:=bq hg;obtain⟨hok,_⟩:=h.rs _ _ _ hl;obtain⟨ds0,k1,k2,k3⟩:=hok.row o1;have hds0:ds=ds0.take (n*res.sz):=by rw[k1,jd,du]at hds;simpa using hds.symm
 have hlen:n*res.sz≤ds0.length:=by rw[k1,cF]at o2;exact o2
 obtain⟨pl0,hpl⟩:∃pl0:Pl,pl0=if n=0 then⟨none,0⟩else⟨(β hd.s hd.j).base,n⟩:=⟨_,rfl⟩
 have hplb:∀b o,pl0.base=some (b,o)->(β hd.s hd.j).base=some (b,o):=λ b o hb=>by
  rw[hpl]at hb;split at hb
  .cases hb
  .exact hb
 have hlook:∀j x,aB r' d j=some x->j=1/\x={e:=aq r d,var:=false,fz:=true,sz:=res.sz,cells:=ds.map C.d}:=λ j x hx=>by
  rw[←hr',dH,ay rfl]at hx;simp only at hx
  match j with
  |0=>simp at hx
  |1=>simp at hx;exact⟨rfl,hx.symm⟩
  |j+2=>simp at hx
 have hlook2:∀s j,s≠d->aB r' s j=aB r s j:=λ s j hs=>by rw[←hr',dH,ar (dU hs)]
 have hnx:aq r' d=aq r d+1:=by rw[←hr',c5,ay rfl]
 have hnx2:∀s,s≠d->aq r' s=aq r s:=λ s hs=>by rw[←hr',c5,ar (dU hs)]
 let β':Nat->Nat->Pl:=λ s j=>if s=d then(if j=1 then pl0 else⟨none,0⟩)else β s j
 have hβ0:β' d 1=pl0:=by simp[β']
 have hβ1:∀s j,s≠d->β' s j=β s j:=λ s j hs=>by simp[β',hs]
 have hx:Ext cx w r β w r' β':=by
  refine⟨λ s=> ?_,λ hd res' hlt hg=> ?_,⟨λ b _ _=>rfl,λ b hb' hA=> ?_⟩,λ b _ _=>rfl,rfl,rfl⟩
  .by_cases hs:s=d
   .subst hs;rw[hnx];exact lN _
   .rw[hnx2 s hs];exact Nat.le_refl _
  .obtain⟨hl,hee⟩:=bq hg;by_cases hs:hd.s=d
   .rw[hs]at hl;obtain⟨_,rfl⟩:=hlook _ _ hl;rw[hs]at hlt;simp only at hee;omega
   .rw[hlook2 _ _ hs]at hl;exact⟨res',ed hl hee,hβ1 _ _ hs,rfl,rfl,Nat.le_refl _⟩
  .rcases hA with hA|⟨s,j,res,o,hl,hf,hbs⟩
   .exact .inl hA
   .by_cases hs:s=d
    .subst hs;obtain⟨rfl,rfl⟩:=hlook _ _ hl;cases hf
    .rw[hlook2 _ _ hs]at hl;rw[hβ1 _ _ hs]at hbs;exact .inr ⟨s,j,res,o,hl,hf,hbs⟩
 have hcap:pl0.cap=n:=by rw[hpl];split<;>simp_all
 refine⟨β',ad,_,h.mk' hx (λ s j res2 hl=> ?_) (λ s j res s' j' res' b o o' hl hf hl' hf' hbs hbs'=> ?_) (λ s j res b o hl hf hbs=> ?_) (Nat.le_refl _),o4,o3, ?_⟩
 .by_cases hs:s=d
  .subst hs;obtain⟨rfl,rfl⟩:=hlook _ _ hl;rw[hβ0];refine⟨?_,by rw[hnx];exact eX _⟩;unfold bB;rw[ar (by simp)];have hk2:b5 w (Av cx r' β') pl0 res.sz ds:=by
    have k2:=k2.cg hx.st (λ _ _ _=>rfl);unfold b5 at k2⊢;cases hb:pl0.base with
    |none=>
     simp only;by_cases hn:n=0
     .subst hn;exact⟨by rw[hds0];simp,hcap⟩
     .rw[hpl,ar hn]at hb;simp only at hb;rw[hb]at k2;simp only at k2;omega
    |some p=>
     obtain⟨b,o⟩:=p;rw[hplb b o hb]at k2;obtain⟨c,e,m1,m2,m3,m4⟩:=k2;refine⟨c,e,m1, ?_, ?_,λ k d hk=> ?_⟩
     .rw[hcap];have:=fe res.sz o3;omega
     .rw[hcap,hds0,gR];exact Nat.min_le_left _ _
     .refine m4 k d ?_;rw[hds0,List.getElem?_take]at hk;split at hk
      .exact hk
      .cases hk
   exact⟨ds,rfl,hk2,λ _ b o hb hA=>k3 hf b o (hplb b o hb) (hx.st.av b (hok.lt (hplb b o hb)) hA)⟩
  .rw[hlook2 _ _ hs]at hl;rw[hβ1 _ _ hs];obtain⟨g1,g2⟩:=h.rs s j res2 hl;exact⟨g1.ext hx (λ b o hbs=>rfl) (λ b o hbs=>g1.lt hbs),by rw[hnx2 s hs];exact g2⟩
 .by_cases hs:s=d
  .subst hs;obtain⟨rfl,rfl⟩:=hlook _ _ hl;cases hf
  .by_cases hs':s'=d
   .subst hs';obtain⟨rfl,rfl⟩:=hlook _ _ hl';cases hf'
   .rw[hlook2 _ _ hs]at hl;rw[hlook2 _ _ hs']at hl';rw[hβ1 _ _ hs]at hbs;rw[hβ1 _ _ hs']at hbs';exact h.inj _ _ _ _ _ _ _ _ _ hl hf hl' hf' hbs hbs'
 .by_cases hs:s=d
  .subst hs;obtain⟨rfl,rfl⟩:=hlook _ _ hl;cases hf
  .rw[hlook2 _ _ hs]at hl;rw[hβ1 _ _ hs]at hbs;exact h.fr _ _ _ _ _ hl hf hbs
 .simp only[aw];refine⟨rfl,by rw[hnx];exact eX _,by omega,ad,by rw[nv],λ res' hg'=> ?_⟩;obtain⟨hl',_⟩:=bq hg';obtain⟨_,rfl⟩:=hlook _ _ hl';refine⟨rfl,by rw[hβ0];exact hcap, ?_⟩;rw[hβ0,nv];by_cases hn:n=0
  .exact .inl hn
  .rcases o5 with o5|⟨b,o,o5,o6⟩
   .omega
   .exact .inr ⟨b,o,by rw[hpl,ar hn];exact o5,o6⟩
end
section
variable {T:Nat->Option TI} {P:Program} {cx:Cx} {v:List AV} {r:Rs} {a:Act} {w:World} {β:Nat->Nat->Pl}
def NS (n:Nat) (ks:List Nat) (nw:Nat->List Value) (V:aY):G:=⟨th n (0::ks),(0,{next:=1,l:=[some V]})::kQ nw ks⟩
def wv (V:aY) (g:G):Prop:=∃ds:List D,g.v[0]? =some (.one (.ptr ⟨0,0,0⟩ 0))/\aK g.r ⟨0,0,0⟩=some V/\V.var=true/\V.cells=ds.map C.d
def Ok (T:Nat->Option TI) (rvs:List ResultVar) (n:Nat) (ks:List Nat) (sz:Nat->Nat) (nw:Value->Nat->List Value) (Px:Value->Prop) (post:List RF->List (List RO)->Prop) (e:Ex) (g:G):Prop:=
 match e with
 | .normal=>fM T rvs [.o 0] post g
 | .ret=>fM T rvs [.o 0] post g
 | .exit _=>False
 | .panic x=>Px x/\g.v.length=n/\nk sz g ks/\∃V,wv V g/\fM T rvs [.o 0] post (NS n ks (nw x) V)
end
end Go.Pk
