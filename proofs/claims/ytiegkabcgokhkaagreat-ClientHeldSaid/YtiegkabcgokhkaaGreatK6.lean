import Derived.Test.YtiegkabcgokhkaaGreatK5
import Derived.Deep.LoopGhost
import Derived.Scope
import Derived.Defers
import Derived.Laws.StructEq
import Derived.ChangeArms
import Derived.ChangeShapes
import Derived.SizedLaws
import Derived.WideKeyArgs
import Derived.ChangeSame
import Derived.RowKit
import Derived.Carry
set_option linter.unusedVariables false
set_option linter.unusedSimpArgs false
set_option linter.unusedSectionVars false
namespace Go.Pk
section
variable {v v':List AV} {r r':Rs} {T:Nat->Option TI} {c:Bool} {cx:Cx} {a:Act} {w:World} {β:Nat->Nat->Pl} {all:List Oper} {Q:Exit->Act->World->Prop} {K:Ex->G->Prop}
theorem cP.congr (h:cP cx ⟨v,r⟩ a w) (hf:∀s,ah s r=ah s r'):cP cx ⟨v,r'⟩ a w:=
 let ⟨β,h⟩:=h
 ⟨β,h.congr hf⟩
theorem rK (hT:bF cx.P T) (hQ:∀e g a w,cP cx g a w->K e g->Q (nP e) a w):∀(rest:List Oper) (k:Nat) (m:M) (v:List AV) (r:Rs) (a:Act) (w:World),
  (∀j,rest[j]? =all[k+j]?)->aP T cx.P all m rest v r K->cP cx ⟨v,r⟩ a w->wpOps cx.P all.toArray Q (List.range' k rest.length) a w
 |[],k,m,v,r,a,w,_,hk,h=>hQ .normal _ _ _ h hk.2
 |o::rest,k,m,v,r,a,w,hall,hk,h=>by
  have ho:all.toArray[k]? =some o:=by simpa using(hall 0).symm
  obtain⟨β,h⟩:=h;rw[de,qx,wpOps_cons];rcases Bv hT hk with⟨fp,x,r1,⟨h1,h2⟩,_,_,h3⟩|⟨_,hp|⟨v',r',fp,x,r1,off',himp,⟨h1,h2⟩,h3⟩⟩
  case inr.inl=>exact hp a w β h k Q _ ho (λ x g a w hg hk=>hQ (.panic x) g a w hg hk)
  case inr.inr=>
   obtain⟨β',h'⟩:=himp _ _ _ ⟨β,h⟩;refine wpOp_mono (λ a' w' hd=> ?_) (h2 v' r' (λ _ _=>rfl) (λ _ _ _=>rfl) (λ _ _=>rfl) a w β' h' k Q ho);obtain⟨r1',g1,g2,g3⟩:=hd;refine rK hT hQ rest (k+1) _ _ _ a' w' (λ j=> ?_) h3 (g1.congr λ s=> ?_)
   .have:=hall (j+1);simpa[cS,iz 1 j]using this
   .by_cases hs:s∈fp.w
    .exact g2 s hs
    .rw[g3 s hs,h1 s hs]
  refine wpOp_mono (λ a' w' hd=> ?_) (h2 v r (λ _ _=>rfl) (λ _ _ _=>rfl) (λ _ _=>rfl) a w β h k Q ho);obtain⟨r1',g1,g2,g3⟩:=hd;refine rK hT hQ rest (k+1) _ _ _ a' w' (λ j=> ?_) h3 (g1.congr λ s=> ?_)
  .have:=hall (j+1);simpa[cS,iz 1 j]using this
  .by_cases hs:s∈fp.w
   .exact g2 s hs
   .rw[g3 s hs,h1 s hs]
theorem Ji (hT:bF cx.P T) (hQ:∀e g a w,cP cx g a w->K e g->Q (nP e) a w) {ops:Array Oper} {id:Nat} {m:M} {g:G} (hk:aP T cx.P ops.toList m ops.toList g.v g.r K)
  (h:cP cx g a w):(Code.region id ops false).wp cx.P Q a w:=by
 refine wp_region ?_;have:=rK hT hQ ops.toList 0 m g.v g.r a w (λ j=>by simp) hk h;simpa[List.range_eq_range']using this
section
variable {L α:Type} (b0:L->α) (Wr:Nat->L->Option α)
def dO (S:Nat->Bool):Nat->L->α
 |0,l=>b0 l
 |k+1,l=>if S k then(Wr k l).getD (dO S k l)else dO S k l
variable {b0 Wr} {S S':Nat->Bool} {j n:Nat} {l:L}
theorem ym (hj:S j=false) (hjn:j≤n) (h1:∀k,k<j->Wr k l≠none->S k=true) (h2:∀k,j<k->Wr k l≠none->S k=false):
  dO b0 Wr S n l=dO b0 Wr (λ _=>true) j l:=by
 have p1:∀k,k≤j->dO b0 Wr S k l=dO b0 Wr (λ _=>true) k l:=by
  intro k;induction k with
  |zero=>intro _;rfl
  |succ k ih=>
   intro hk;simp only[dO,fB];rw[ih (by omega)];cases hw:Wr k l with
   |none=>simp
   |some y=>rw[h1 k (by omega) (by rw[hw];simp)];simp
 have p2:∀d,dO b0 Wr S (j+d) l=dO b0 Wr S j l:=by
  intro d;induction d with
  |zero=>rfl
  |succ d ih=>
   rw[←cS];simp only[dO];rw[ih];cases d with
   |zero=>simp[hj]
   |succ d=>
    cases hw:Wr (j+(d+1)) l with
    |none=>simp
    |some y=>rw[h2 (j+(d+1)) (by omega) (by rw[hw];simp)];simp
 have:=p2 (n - j);rw[show j+(n - j)=n from by omega]at this;rw[this,p1 j (Nat.le_refl _)]
theorem zk (hS:∀k,k≠j->S' k=S k) (hw:Wr j l=none):dO b0 Wr S' n l=dO b0 Wr S n l:=by
 induction n with
 |zero=>rfl
 |succ n ih=>
  simp only[dO];rw[ih];by_cases hn:n=j
  .subst hn;rw[hw];simp
  .rw[hS n hn]
theorem AJ (hS:∀k,k≠j->S' k=S k) (hj:S' j=true) {y:α} (hw:Wr j l=some y) (hjn:j<n) (h2:∀k,j<k->Wr k l≠none->S k=false):
  dO b0 Wr S' n l=y:=by
 have p:∀d,dO b0 Wr S' (j+1+d) l=y:=by
  intro d;induction d with
  |zero=>simp only[eV,dO];rw[hj,hw];rfl
  |succ d ih=>
   rw[←cS];simp only[dO];rw[ih];cases hw':Wr (j+1+d) l with
   |none=>simp
   |some y'=>
    rw[hS _ (by omega),h2 (j+1+d) (by omega) (by rw[hw'];simp)];simp
 have:=p (n - (j+1))
 rwa[show j+1+(n - (j+1))=n from by omega]at this
theorem Aw (h:∀k,k<n->S k=true):dO b0 Wr S n l=dO b0 Wr (λ _=>true) n l:=by
 induction n with
 |zero=>rfl
 |succ n ih=>
  simp only[dO,fB];rw[ih λ k hk=>h k (by omega),h n (by omega),ay rfl]
theorem zQ (h:∀k,k<n->S k=false):dO b0 Wr S n l=b0 l:=by
 induction n with
 |zero=>rfl
 |succ n ih=>
  simp only[dO];rw[ih λ k hk=>h k (by omega),h n (by omega)];rfl
end
end
section
variable {T:Nat->Option TI} {cx:Cx} {all:List Oper} {K:Ex->G->Prop}
theorem yn (hT:bF cx.P T):∀(rest:List Oper) (k:Nat) (m:List FP) (off:List (Nat×Bool)) (v:List AV) (r:Rs),aP T cx.P all ⟨some m,off⟩ rest v r K->
  ∃(St:Nat->G) (X:Nat->AV) (F:List FP),St k=⟨v,r⟩/\K .normal (St (k+rest.length))/\nA all (m.reverse++F)=true/\F.length=rest.length/\
   ∀j o,rest[j]? =some o->∃fp,ik cx all o (St (k+j)).v (St (k+j)).r fp (X (k+j)) (St (k+j+1)).r/\(St (k+j+1)).v=bz (St (k+j)).v o.dst (X (k+j))/\
    F[j]? =some fp/\∀s∈fp.w,s∈fp.t
 |[],k,m,off,v,r,hk=>⟨λ _=>⟨v,r⟩,λ _=> .one .dead,[],rfl,hk.2,by have:=hk.1;simpa[qQ]using this,rfl,λ j o h=>by simp at h⟩
 |o::rest,k,m,off,v,r,hk=>by
  obtain⟨fp,x,r1,h1,h0,off',h2⟩:=(Bv hT hk).resolve_right (λ h=>by cases h.1);obtain⟨St,X,F,g1,g2,g3,g4,g5⟩:=yn hT rest (k+1) _ _ _ _ h2;refine⟨λ i=>if i=k then⟨v,r⟩else St i,λ i=>if i=k then x else X i,fp::F,by simp, ?_,by simpa using g3,by simp[g4],λ j o' hj=> ?_⟩
  .simp only[de];rw[ar (by omega),show k+(rest.length+1)=k+1+rest.length from by omega];exact g2
  .cases j with
   |zero=>
    simp only[bZ,aQ]at hj;subst hj;simp only[eV,fB];rw[ar (by omega),g1];exact⟨fp,h1,rfl,by simp,h0⟩
   |succ j=>
    have:=g5 j o' (by simpa using hj);simp only[ar (show k+(j+1)≠k from by omega),ar (show k+(j+1)+1≠k from by omega)];rw[show k+(j+1)=k+1+j from by omega];simpa using this
theorem u5 {a b:List Nat} (h:rh a b=true) {s:Nat} (ha:s∈a):s ∉ b:=by unfold rh at h;have:=iu.1 h s ha;simpa using this
theorem uF {F:List FP} (h:nA all F=true) {i j:Nat} {x y:FP} (hx:F[i]? =some x) (hy:F[j]? =some y) (hij:i<j):
  ((lv all).getD j 0).testBit i=true∨FP.apart x y=true:=by
 unfold nA at h;have h1:=iu.1 h (y,j) (qt.2 hy);have h2:=iu.1 h1 (x,i) (qt.2 hx);simp only[nq,jF,iP]at h2;rcases h2 with(h2|h2)|h2
 .exact absurd hij h2
 .exact .inl h2
 .exact .inr h2
theorem rP (h:qU all=true):Region.noSelect all.toArray=true/\(∀(j:Nat) (y:Oper),all[j]? =some y->∀e∈y.after,Region.binds .any e=true->e.on<j)/\
  ∀(i j:Nat) (x y:Oper),all[i]? =some x->all[j]? =some y->i<j->((lv all).getD j 0).testBit i=true∨x.apart all.toArray y=true:=by
 unfold qU at h;simp only[cu]at h;refine⟨h.1,λ j y hy e he hb=> ?_,λ i j x y hx hy hij=> ?_⟩
 .have h1:=iu.1 h.2 (y,j) (qt.2 hy);simp only[cu]at h1;have h2:=Array.all_eq_true_iff_forall_mem.1 h1.1 e he;simp only[hb,oS,nJ,eo]at h2;exact h2
 .have h1:=iu.1 h.2 (y,j) (qt.2 hy);simp only[cu]at h1;have h2:=iu.1 h1.2 (x,i) (qt.2 hx);simp only[nq,jF,iP]at h2;rcases h2 with(h2|h2)|h2
  .exact absurd hij h2
  .exact .inl h2
  .exact .inr h2
def lT (acc:List Nat) (o:Oper):Nat:=o.after.foldl (λ s e=>if Region.binds .any e then s|||2^e.on|||acc.getD e.on 0 else s) 0
theorem Jw (ops:List Oper):lv ops=ops.foldl (λ acc o=>acc++[lT acc o]) []:=rfl
theorem zz (acc:List Nat):∀(l:List Edge) (s:Nat) (i:Nat),(l.foldl (λ s e=>if Region.binds .any e then s|||2^e.on|||acc.getD e.on 0 else s) s).testBit i=true->
  s.testBit i=true∨∃e∈l,Region.binds .any e=true/\(i=e.on∨(acc.getD e.on 0).testBit i=true)
 |[],s,i,h=> .inl h
 |e::l,s,i,h=>by
  simp only[nE]at h;rcases zz acc l _ i h with h1|⟨e',h1,h2⟩
  .by_cases hb:Region.binds .any e=true
   .rw[ay hb]at h1;simp only[Nat.testBit_or,nq,Nat.testBit_two_pow,eo]at h1;rcases h1 with(h1|h1)|h1
    .exact .inl h1
    .exact .inr ⟨e,by simp,hb, .inl h1.symm⟩
    .exact .inr ⟨e,by simp,hb, .inr h1⟩
   .rw[ar hb]at h1;exact .inl h1
  .exact .inr ⟨e',by simp[h1],h2⟩
theorem JM {acc:List Nat} {o:Oper} {i:Nat} (h:(lT acc o).testBit i=true):∃e∈o.after,Region.binds .any e=true/\(i=e.on∨(acc.getD e.on 0).testBit i=true):=by
 unfold lT at h;rw[←Array.foldl_toList]at h;rcases zz acc _ _ _ h with h1|⟨e,h1,h2⟩
 .simp at h1
 .exact⟨e,Array.mem_toList_iff.1 h1,h2⟩
theorem AF:∀(ops:List Oper) (acc:List Nat),(ops.foldl (λ acc o=>acc++[lT acc o]) acc).length=acc.length+ops.length/\
  (∀k,k<acc.length->(ops.foldl (λ acc o=>acc++[lT acc o]) acc)[k]? =acc[k]?)/\
  ∀j o,ops[j]? =some o->(ops.foldl (λ acc o=>acc++[lT acc o]) acc)[acc.length+j]? =some (lT ((ops.foldl (λ acc o=>acc++[lT acc o]) acc).take (acc.length+j)) o)
 |[],acc=>⟨by simp,λ _ _=>rfl,λ j o h=>by simp at h⟩
 |o::ops,acc=>by
  obtain⟨h1,h2,h3⟩:=AF ops (acc++[lT acc o]);simp only[nE];simp only[b6,de,iq,bC]at h1 h2 h3;refine⟨by rw[h1];simp;omega,λ k hk=> ?_,λ j o' hj=> ?_⟩
  .rw[h2 k (by omega),cj hk]
  .cases j with
   |zero=>
    simp only[bZ,aQ]at hj;subst hj;rw[eV,h2 acc.length (by omega)];simp only[ct (Nat.le_refl _),Nat.sub_self,bZ,aQ];congr 1;apply oT;intro k;rw[List.getElem?_take];split
    .rename_i hk;rw[h2 k (by omega),cj hk]
    .rename_i hk;rw[tf (by omega)]
   |succ j=>
    have:=h3 j o' (by simpa using hj);rw[show acc.length+(j+1)=acc.length+1+j from by omega];exact this
theorem IG {i j:Nat} {o:Oper} (hj:all[j]? =some o) (h:((lv all).getD j 0).testBit i=true):
  ∃e∈o.after,Region.binds .any e=true/\(i=e.on∨((lv all).getD e.on 0).testBit i=true):=by
 obtain⟨_,_,h3⟩:=AF all [];have h4:=h3 j o hj;rw[←Jw]at h4;simp only[iq,bC]at h4;rw[fC,h4]at h;simp only[Option.getD_some]at h;obtain⟨e,h5,h6,h7⟩:=JM h;refine⟨e,h5,h6,h7.imp id λ h8=> ?_⟩;rw[fC,List.getElem?_take]at h8;split at h8
 .rw[fC];exact h8
 .simp at h8
def oP (all:List Oper) (S:Nat->Bool):Prop:=∀(j:Nat) (o:Oper),all[j]? =some o->S j=true->∀e∈o.after,Region.binds .any e=true->S e.on=true
theorem oP.nX {S:Nat->Bool} (h:oP all S) (hb:∀(j:Nat) (y:Oper),all[j]? =some y->∀e∈y.after,Region.binds .any e=true->e.on<j):
  ∀(n j:Nat),j<n->∀(o:Oper),all[j]? =some o->(∀e∈o.after,Region.binds .any e=true->S e.on=true)->∀i,((lv all).getD j 0).testBit i=true->S i=true
 |0,_,h0,_,_,_,_,_=>absurd h0 (Nat.not_lt_zero _)
 |n+1,j,hjn,o,ho,hr,i,hbit=>by
  obtain⟨e,h1,h2,h3⟩:=IG ho hbit;have hs:=hr e h1 h2;rcases h3 with rfl|h3
  .exact hs
  .have hlt:=hb j o ho e h1 h2;have hjl:j<all.length:=(bJ.1 ho).1;have ho':all[e.on]? =some all[e.on]:=eC (by omega);exact h.nX hb n e.on (by omega) _ ho' (h e.on _ ho' hs) i h3
end
section
variable {T:Nat->Option TI} {cx:Cx} {all:List Oper} {K:Ex->G->Prop} {Q:Exit->Act->World->Prop}
structure Found (cx:Cx) (all:List Oper) (St:Nat->G) (X:Nat->AV) (F:List FP):Prop where
 len:F.length=all.length
 step:∀j o,all[j]? =some o->∃fp,ik cx all o (St j).v (St j).r fp (X j) (St (j+1)).r/\(St (j+1)).v=bz (St j).v o.dst (X j)/\F[j]? =some fp/\∀s∈fp.w,s∈fp.t
 ord:qU all=true
 wY:nA all F=true
section
variable {St:Nat->G} {X:Nat->AV} {F:List FP} (hf:Found cx all St X F)
def mG (all:List Oper) (N:Nat) (X:Nat->AV) (k d:Nat):Option (Option AV):=
 match all[k]? with
 |some o=>if o.dst=some d/\d<N then some (some (X k))else none
 |none=>none
def mF (F:List FP) (St:Nat->G) (k s:Nat):Option (Option RS):=
 match F[k]? with
 |some f=>if s∈f.w then some (ah s (St (k+1)).r)else none
 |none=>none
theorem z6 {v:List AV} {dst:Option Nat} {x:AV}:(bz v dst x).length=v.length:=by cases dst<;>simp[bz]
theorem vM {N k d:Nat} (h:mG all N X k d≠none):∃o,all[k]? =some o/\o.dst=some d/\d<N:=by
 unfold mG at h;split at h
 .rename_i o ho;split at h
  .rename_i hd;exact⟨o,ho,hd⟩
  .exact absurd rfl h
 .exact absurd rfl h
theorem vP {k s:Nat} (h:mF F St k s≠none):∃f,F[k]? =some f/\s∈f.w:=by
 unfold mF at h;split at h
 .rename_i f hf;split at h
  .rename_i hd;exact⟨f,hf,hd⟩
  .exact absurd rfl h
 .exact absurd rfl h
include hf in
theorem Found.CA:∀k,k≤all.length->(St k).v.length=(St 0).v.length
 |0,_=>rfl
 |k+1,h=>by obtain⟨_,_,h2,_⟩:=hf.step k all[k] (eC (by omega));rw[h2,z6];exact Found.CA k (by omega)
theorem zW {v:List AV} {dst:Option Nat} {x:AV} {d:Nat}:(bz v dst x)[d]? =if dst=some d/\d<v.length then some x else v[d]? :=by
 cases dst with
 |none=>simp[bz]
 |some e=>
  simp only[bz,aQ,kl];by_cases h:e=d
  .subst h;simp only[bH,fB];split
   .rfl
   .rename_i h;rw[tf (by omega)]
  .simp[h]
include hf in
theorem Found.v3 (d:Nat):∀k,k≤all.length->dO (λ d=>(St 0).v[d]?) (mG all (St 0).v.length X) (λ _=>true) k d=(St k).v[d]?
 |0,_=>rfl
 |k+1,h=>by have ho:all[k]? =some all[k]:=eC (by omega);obtain⟨_,_,h2,_⟩:=hf.step k _ ho;simp only[dO,fB];rw[Found.v3 d k (by omega),h2,zW];simp only[mG,ho,hf.CA k (by omega)];split<;>simp
include hf in
theorem Found.wz (s:Nat):∀k,k≤all.length->dO (λ s=>ah s (St 0).r) (mF F St) (λ _=>true) k s=ah s (St k).r
 |0,_=>rfl
 |k+1,h=>by
  have ho:all[k]? =some all[k]:=eC (by omega);obtain⟨fp,h1,_,h3,_⟩:=hf.step k _ ho;simp only[dO,fB];rw[Found.wz s k (by omega)];simp only[mF,h3];split
  .simp
  .rename_i hs;simp only[Option.getD_none];exact(h1.1 s hs).symm
def Inv (cx:Cx) (all:List Oper) (St:Nat->G) (X:Nat->AV) (F:List FP) (S:Nat->Bool) (a:Act) (w:World):Prop:=
 ∃v r,cP cx ⟨v,r⟩ a w/\v.length=(St 0).v.length/\(∀d,v[d]? =dO (λ d=>(St 0).v[d]?) (mG all (St 0).v.length X) S all.length d)/\
  ∀s,ah s r=dO (λ s=>ah s (St 0).r) (mF F St) S all.length s
include hf in
theorem Found.Mt {S:Nat->Bool} (hc:oP all S) {j:Nat} {o:Oper} (hj:all[j]? =some o) (hS:S j=false) (hr:∀e∈o.after,Region.binds .any e=true->S e.on=true)
  {d:Nat} (hd:d∈o.looksAt all.toArray):dO (λ d=>(St 0).v[d]?) (mG all (St 0).v.length X) S all.length d=(St j).v[d]? :=by
 obtain⟨_,o2,o3⟩:=rP hf.ord;have hjl:j<all.length:=(bJ.1 hj).1;rw[←hf.v3 d j (by omega)];refine ym hS (by omega) (λ k hk hw=> ?_) (λ k hk hw=> ?_)
 .obtain⟨x,hx,hxd,_⟩:=vM hw;rcases o3 k j x o hx hj hk with h|h
  .exact hc.nX o2 (j+1) j (by omega) o hj hr k h
  .exact absurd hd ((Oper.apart_spec h).1 d hxd)
 .obtain⟨x,hx,hxd,_⟩:=vM hw;rcases o3 j k o x hj hx hk with h|h
  .cases hSk:S k with
   |false=>rfl
   |true=>rw[hc.nX o2 (k+1) k (by omega) x hx (hc k x hx hSk) j h]at hS;cases hS
  .exact absurd hd ((Oper.apart_spec h).2.2 d hxd)
include hf in
theorem Found.MH {S:Nat->Bool} (hc:oP all S) {j:Nat} {o:Oper} {f:FP} (hj:all[j]? =some o) (hfj:F[j]? =some f) (hS:S j=false) (hr:∀e∈o.after,Region.binds .any e=true->S e.on=true)
  {s:Nat} (hs:s∈f.t):dO (λ s=>ah s (St 0).r) (mF F St) S all.length s=ah s (St j).r:=by
 obtain⟨_,o2,_⟩:=rP hf.ord;have hjl:j<all.length:=(bJ.1 hj).1;rw[←hf.wz s j (by omega)];refine ym hS (by omega) (λ k hk hw=> ?_) (λ k hk hw=> ?_)
 .obtain⟨x,hx,hxd⟩:=vP hw;rcases uF hf.wY hx hfj hk with h|h
  .exact hc.nX o2 (j+1) j (by omega) o hj hr k h
  .simp only[FP.apart,cu]at h;exact absurd hs (u5 h.1.1 hxd)
 .obtain⟨x,hx,hxd⟩:=vP hw;have hk':k<all.length:=by rw[←hf.len];exact(bJ.1 hx).1
  rcases uF hf.wY hfj hx hk with h|h
  .cases hSk:S k with
   |false=>rfl
   |true=>
    have hok:all[k]? =some all[k]:=eC hk';rw[hc.nX o2 (k+1) k (by omega) _ hok (hc k _ hok hSk) j h]at hS;cases hS
  .simp only[FP.apart,cu]at h;exact absurd hxd (u5 h.1.2 hs)
theorem Nn {v v':List AV} {x:Operand} (h:∀t,x= .tmp t->v'[t]? =v[t]?):bg v' x=bg v x:=by
 cases x with
 |tmp t=>simp only[bg,fC,h t rfl]
 |_=>rfl
theorem MP {v v':List AV} {j:Nat} (h:∀t,(all[j]?.bind (·.dst))=some t->v'[t]? =v[t]?):dN all v' j=dN all v j:=by
 unfold dN;split
 .rename_i o ho;split
  .rename_i d hd;simp only[fC,h d (by rw[ho];exact hd)]
  .rfl
 .rfl
include hf in
theorem Found.KP {S S':Nat->Bool} {a:Act} {w:World} (hI:Inv cx all St X F S a w) (hc:oP all S) {j:Nat} {o:Oper} (hj:all[j]? =some o) (hS:S j=false)
  (hr:∀e∈o.after,Region.binds .any e=true->S e.on=true) (hS1:S' j=true) (hS2:∀k,k≠j->S' k=S k):
  wpOp cx.P all.toArray Q j (Inv cx all St X F S') a w:=by
 obtain⟨v,r,⟨β,hH⟩,hl,hv,hrr⟩:=hI;obtain⟨fp,⟨h1,h2⟩,h3,h4,h5⟩:=hf.step j o hj;obtain⟨_,o2,o3⟩:=rP hf.ord;have hjl:j<all.length:=(bJ.1 hj).1;have hlook:∀d∈o.looksAt all.toArray,v[d]? =(St j).v[d]? :=λ d hd=>by rw[hv d,hf.Mt hc hj hS hr hd]
 have hlk:∀s∈fp.t,ah s r=ah s (St j).r:=λ s hs=>by rw[hrr s,hf.MH hc hj h4 hS hr hs]
 refine wpOp_mono (λ a' w' hd=> ?_) (h2 v r (λ x hx=>Nn λ t ht=>hlook t ?_) (λ i b hg=>MP λ t ht=>hlook t ?_) hlk a w β hH j Q (by simpa using hj))
 .obtain⟨r1',g1,g2,g3⟩:=hd;refine⟨_,r1',g1,by rw[z6,hl],λ d=> ?_,λ s=> ?_⟩
  .rw[zW,hl];by_cases hd:o.dst=some d/\d<(St 0).v.length
   .rw[ay hd];refine(AJ hS2 hS1 (y:=some (X j)) (by unfold mG;simp only[hj];rw[ay hd]) hjl (λ k hk hw=> ?_)).symm;obtain⟨x,hx,hxd,_⟩:=vM hw;rcases o3 j k o x hj hx hk with h|h
    .cases hSk:S k with
     |false=>rfl
     |true=>rw[hc.nX o2 (k+1) k (by omega) x hx (hc k x hx hSk) j h]at hS;cases hS
    .exact absurd hxd ((Oper.apart_spec h).2.1 d hd.1)
   .rw[ar hd,hv d];exact(zk hS2 (by unfold mG;simp only[hj];rw[ar hd])).symm
  .by_cases hs:s∈fp.w
   .rw[g2 s hs];refine(AJ hS2 hS1 (y:=ah s (St (j+1)).r) (by unfold mF;simp only[h4];rw[ay hs]) hjl (λ k hk hw=> ?_)).symm;obtain⟨x,hx,hxd⟩:=vP hw;have hk':k<all.length:=by rw[←hf.len];exact(bJ.1 hx).1
    rcases uF hf.wY h4 hx hk with h|h
    .cases hSk:S k with
     |false=>rfl
     |true=>
      have hok:all[k]? =some all[k]:=eC hk';rw[hc.nX o2 (k+1) k (by omega) _ hok (hc k _ hok hSk) j h]at hS;cases hS
    .simp only[FP.apart,cu]at h;exact absurd hxd (u5 h.2 hs)
   .rw[g3 s hs,hrr s];exact(zk hS2 (by unfold mF;simp only[h4];rw[ar hs])).symm
 .subst ht;exact me _ (List.mem_filterMap.2 ⟨.tmp t,hx,rfl⟩)
 .unfold Oper.looksAt;refine nI _ ?_;rw[hg];simp only[mi];rw[ht];simp
end
theorem filter_lt {α:Type} {p q:α->Bool}:∀{l:List α},(∀x∈l,p x=true->q x=true)->(∃x∈l,q x=true/\p x=false)->(l.filter p).length<(l.filter q).length
 |[],_,⟨x,h,_⟩=>by simp at h
 |y::l,h,⟨x,hx,h1,h2⟩=>by
  have hle:(l.filter p).length≤(l.filter q).length:=by
   clear hx h1 h2;induction l with
   |nil=>simp
   |cons z l ih=>
    have:=ih λ x hx=>h x (by simp only[cL]at hx⊢;rcases hx with h|h<;>simp[h])
    have hz:=h z (by simp);simp only[List.filter_cons];cases hp:p z with
    |true=>rw[hz hp];simpa using this
    |false=>cases hq:q z<;>simp<;>omega
  simp only[List.filter_cons];by_cases hxy:x=y
  .subst hxy;rw[h1,h2];simp only[np,eB,fB,de];omega
  .have hx':x∈l:=by simp only[cL]at hx;exact hx.resolve_left hxy
   have ih:=filter_lt (p:=p) (q:=q) (l:=l) (λ x hx=>h x (by simp[hx])) ⟨x,hx',h1,h2⟩;have hy:=h y (by simp);cases hp:p y with
   |true=>rw[hy hp];simpa using ih
   |false=>cases hq:q y<;>simp<;>omega
def pt (n:Nat) (listed:Array Bool):Nat:=((List.range n).filter λ i=> !listed.getD i true).length
section
variable {St:Nat->G} {X:Nat->AV} {F:List FP} (hf:Found cx all St X F)
include hf in
theorem Found.xV {listed:Array Bool} (hr:Region.ready .any all.toArray listed=[]) (hsz:listed.size=all.length):∀n j,j<n->j<all.length->listed.getD j false=true
 |0,_,h,_=>absurd h (Nat.not_lt_zero _)
 |n+1,j,hj,hjl=>by
  obtain⟨_,o2,_⟩:=rP hf.ord;have ho:all[j]? =some all[j]:=eC hjl;cases hl:listed.getD j true with
  |true=>simpa[hsz,hjl]using hl
  |false=>
   have:j∈Region.ready .any all.toArray listed:=by rw[mem_ready];refine⟨hl,all[j],by simp,λ e he hb=> ?_⟩;have hlt:=o2 j _ ho e he hb;exact Found.xV hr hsz n e.on (by omega) (by omega)
   rw[hr]at this;cases this
include hf in
theorem Found.any (hQ:∀a w,cP cx (St all.length) a w->Q .normal a w):∀(fuel:Nat) (listed:Array Bool) (a:Act) (w:World),listed.size=all.length->pt all.length listed≤fuel->
  oP all (λ i=>listed.getD i false)->Inv cx all St X F (λ i=>listed.getD i false) a w->wpAny cx.P .any all.toArray Q fuel listed a w:=by
 have hend:∀(listed:Array Bool) (a:Act) (w:World),(∀j,j<all.length->listed.getD j false=true)->Inv cx all St X F (λ i=>listed.getD i false) a w->Q .normal a w:=λ listed a w hl hI=>by
  obtain⟨v,r,hH,hlen,hv,hrr⟩:=hI;refine hQ a w ?_;have e1:v=(St all.length).v:=by apply oT;intro d;rw[hv d,Aw (λ k hk=>hl k hk),hf.v3 d _ (Nat.le_refl _)]
  have:=hH.congr (r':=(St all.length).r) λ s=>by rw[hrr s,Aw (λ k hk=>hl k hk),hf.wz s _ (Nat.le_refl _)]
  rw[e1]at this;exact this
 intro fuel;induction fuel with
 |zero=>
  intro listed a w hsz hu hc hI;have hall:∀j,j<all.length->listed.getD j false=true:=λ j hj=>by
   cases hl:listed.getD j true with
   |true=>simpa[hsz,hj]using hl
   |false=>
    have:j∈(List.range all.length).filter λ i=> !listed.getD i true:=by simp only[List.mem_filter,qv,hl,hj,Bool.not_false,and_self]
    have:=List.length_pos_of_mem this;unfold pt at hu;omega
  refine⟨?_,hend listed a w hall hI⟩;rw[List.eq_nil_iff_forall_not_mem];intro j hj;obtain⟨h1,o,ho,_⟩:=mem_ready.1 hj;have hjl:j<all.length:=by simpa using(Array.getElem?_eq_some_iff.1 ho).1
  have:=hall j hjl;simp[hsz,hjl]at h1 this;rw[h1]at this;cases this
 |succ fuel ih=>
  intro listed a w hsz hu hc hI;refine⟨λ hr=>hend listed a w (λ j hj=>hf.xV hr hsz (j+1) j (by omega) hj) hI,λ j hj=> ?_⟩;obtain⟨h1,o,ho,hall⟩:=mem_ready.1 hj;have ho':all[j]? =some o:=by simpa using ho
  have hjl:j<all.length:=(bJ.1 ho').1;have hjf:listed.getD j false=false:=by simp[hsz,hjl]at h1⊢;exact h1
  have hset:(listed.setIfInBounds j true).getD j false=true:=by simp[hsz,hjl]
  have hset2:∀k,k≠j->(listed.setIfInBounds j true).getD k false=listed.getD k false:=λ k hk=>getD_set_ne false (dU hk)
  refine wpOp_mono (λ a' w' hI'=>ih (listed.setIfInBounds j true) a' w' (by simp[hsz]) ?_ ?_ hI') (hf.KP (S':=λ i=>(listed.setIfInBounds j true).getD i false) hI hc ho' hjf hall hset hset2)
  .have:pt all.length (listed.setIfInBounds j true)<pt all.length listed:=by
    unfold pt;refine filter_lt (λ x hx hp=> ?_) ⟨j,by simp[hjl],by rw[h1];rfl,by simp[hsz,hjl]⟩;by_cases hxj:x=j
    .subst hxj;rw[h1];rfl
    .rwa[getD_set_ne true (dU hxj)]at hp
   omega
  .intro k ok hk hSk e he hb;by_cases hkj:k=j
   .subst hkj;rw[ho']at hk;cases hk;exact getD_set_true (hall e he hb)
   .simp only[hset2 k hkj]at hSk;exact getD_set_true (hc k ok hk hSk e he hb)
end
theorem Jg (hT:bF cx.P T) (hm:cx.P.follows .mixedOrders=true) (hQ:∀g a w,cP cx g a w->K .normal g->Q .normal a w) {ops:Array Oper} {id:Nat} {g:G} (ho:tB ops.toList)
  (hk:aP T cx.P ops.toList ⟨some [],[]⟩ ops.toList g.v g.r K) {a:Act} {w:World} (h:cP cx g a w):(Code.region id ops true).wp cx.P Q a w:=by
 obtain⟨St,X,F,g1,g2,g3,g4,g5⟩:=yn hT ops.toList 0 [] [] g.v g.r hk;have hf:Found cx ops.toList St X F:=⟨g4,λ j o hj=>by simpa using g5 j o hj,ho,by simpa using g3⟩;refine wp_region_any hm ?_;have hz:∀i,(Array.replicate ops.size false).getD i false=false:=λ i=>by simp only[Array.getD_eq_getD_getElem?,Array.getElem?_replicate];split<;>rfl
 obtain⟨β,h⟩:=h;have:=hf.any (Q:=Q) (λ a w hH=>hQ _ a w hH (by simpa using g2)) ops.size (Array.replicate ops.size false) a {w with drawn:=w.drawn+1} (by simp)
  (by unfold pt;exact gl (List.length_filter_le _ _) (by simp)) (λ j o _ hS=>by have hS':=hz j;simp only at hS;rw[hS']at hS;cases hS)
  ⟨g.v,g.r,⟨β,h.drew⟩,by rw[g1],λ d=>by rw[zQ (λ k _=>hz k),g1],λ s=>by rw[zQ (λ k _=>hz k),g1]⟩
 simpa using this
end
section
variable {T:Nat->Option TI} {cx:Cx}
theorem oL (hT:bF cx.P T) (hm:cx.P.follows .mixedOrders=true):∀(c:Code) (g:G) (Qa:Ex->G->Prop) (Q:Exit->Act->World->Prop),
  (∀e g a w,cP cx g a w->Qa e g->Q (nP e) a w)->bQ T cx.P c g Qa->∀a w,cP cx g a w->c.wp cx.P Q a w:=by
 intro c;induction c with
 |skip=>intro g Qa Q hQ hk a w h;exact wp_skip (hQ .normal g a w h hk)
 |exit id=>intro g Qa Q hQ hk a w h;exact wp_exit (hQ (.exit id) g a w h hk)
 |ret=>intro g Qa Q hQ hk a w h;exact wp_ret (hQ .ret g a w h hk)
 |region id ops d=>
  intro g Qa Q hQ hk a w h;cases d with
  |true=>exact Jg hT hm (λ g a w h hq=>hQ .normal g a w h hq) hk.1 hk.2 h
  |false=>exact Ji hT (λ e g a w h hq=>hQ e g a w h hq) hk h
 |seq x y ihx ihy=>
  intro g Qa Q hQ hk a w h;refine wp_seq (ihx g _ _ (λ e g a w h hq=> ?_) hk a w h);cases e with
  |normal=>
   rcases hq with⟨g',h1,h2⟩|hq
   .exact ihy g' Qa Q hQ h2 a w (h1 _ _ _ h)
   .exact hq cx rfl Q hQ a w h
  |exit id=>exact hQ (.exit id) g a w h hq
  |ret=>exact hQ .ret g a w h hq
  |panic x=>exact hQ (.panic x) g a w h hq
 |cond c x y ihx ihy=>
  intro g Qa Q hQ hk a w h;simp only[bQ]at hk;split at hk
  .rename_i b hb;obtain⟨h1,h2,h3⟩:=hk;obtain⟨β,hh⟩:=h;have he:=cd (v:=g.v) (r:=g.r) hh (c:=true) rfl h1;rw[hb]at he;exact wp_cond_split (bI.1 he).1 (λ ht=>ihx g Qa Q hQ (h2 ht) a w ⟨β,hh⟩) (λ ht=>ihy g Qa Q hQ (h3 ht) a w ⟨β,hh⟩)
  .rename_i hb;obtain⟨h1,h2,h3⟩:=hk;obtain⟨β,hh⟩:=h;have he:=cd (v:=g.v) (r:=g.r) hh (c:=true) rfl h1;rw[hb]at he;simp only[aA,aw]at he;obtain⟨b,hb'⟩:=he;exact wp_cond_split hb' (λ _=>ihx g Qa Q hQ h2 a w ⟨β,hh⟩) (λ _=>ihy g Qa Q hQ h3 a w ⟨β,hh⟩)
  .exact hk.elim
 |block id x ih=>
  intro g Qa Q hQ hk a w h;refine wp_block (ih g _ _ (λ e g a w h hq=> ?_) hk a w h);cases e with
  |normal=>exact hQ .normal g a w h hq
  |exit id'=>
   simp only[nP,Exit.inBlock];simp only at hq;split
   .rename_i hid;rw[ay hid]at hq;exact hQ .normal g a w h hq
   .rename_i hid;rw[ar hid]at hq;exact hQ (.exit id') g a w h hq
  |ret=>exact hQ .ret g a w h hq
  |panic x=>exact hQ (.panic x) g a w h hq
 |loop x ih=>
  intro g Qa Q hQ hk a w h;obtain⟨I,n0,⟨g0,h0,h1⟩,h2⟩:=hk;refine wp_loop_ghost (λ n a w=>∃g,I n g/\cP cx g a w) n0 ⟨g0,h1,h0 _ _ _ h⟩ ?_
  rintro n a w ⟨g',hI,hh⟩
  refine ih g' _ _ (λ e g a w h hq=> ?_) (h2 n g' hI) a w hh;cases e with
  |normal=>
   obtain⟨n',g1,k1,k2,k3⟩:=hq;exact⟨n',k1,g1,k3,k2 _ _ _ h⟩
  |exit id=>exact hQ (.exit id) g a w h hq
  |ret=>exact hQ .ret g a w h hq
  |panic x=>exact hQ (.panic x) g a w h hq
 |label l=>intro g Qa Q hQ hk a w h;exact wp_label (hQ .normal g a w h hk)
 |scope x ih=>
  intro g Qa Q hQ hk a w h;refine wp_scope_straight (ih g _ _ (λ e g a w h hq=> ?_) hk a w h);cases e with
  |normal=>exact hQ .normal g a w h hq
  |exit id=>exact hQ (.exit id) g a w h hq
  |ret=>exact hQ .ret g a w h hq
  |panic x=>exact hQ (.panic x) g a w h hq
 |_=>intro g Qa Q hQ hk a w h;exact hk.elim
end
def dJ:Nat->List Arg->List AV
 |_,[]=>[]
 |p, .f x::xs=>x::dJ (p+1) xs
 |p, .obj _::xs=> .one (.ptr ⟨p,0,0⟩ 0)::dJ (p+1) xs
 |p, .row _ n _::xs=> .one (.own ⟨p,1,0⟩ 0 n)::dJ (p+1) xs
 |p, .dC pre post _ n _::xs=> .agg (pre++ .own ⟨p,1,0⟩ 0 n::post)::dJ (p+1) xs
def fW:List RO->List (Option aY)
 |[]=>[]
 | .d _::xs=>none::fW xs
 | .own sz _ ds _::xs=>some {e:=0,var:=false,fz:=false,cw:=true,sz,cells:=ds.map C.d}::fW xs
def aX:Nat->List Arg->Rs
 |_,[]=>[]
 |p, .f _::xs=>aX (p+1) xs
 |p, .obj l::xs=>(p,{next:=1,l:=some {e:=0,var:=true,fz:=false,cw:=true,sz:=0,cells:=dD p 0 0 l}::fW l})::aX (p+1) xs
 |p, .row sz _ ds::xs=>(p,{next:=1,l:=[none,some {e:=0,var:=false,fz:=false,cw:=true,sz,cells:=ds.map C.d}]})::aX (p+1) xs
 |p, .dC _ _ sz _ ds::xs=>(p,{next:=1,l:=[none,some {e:=0,var:=false,fz:=false,cw:=true,sz,cells:=ds.map C.d}]})::aX (p+1) xs
def aU:Nat->List Arg->List Pos
 |_,[]=>[]
 |p, .f _::xs=>aU (p+1) xs
 |p, .obj _::xs=> .o p::aU (p+1) xs
 |p, .row _ n _::xs=> .r p n::aU (p+1) xs
 |p, .dC _ _ _ n _::xs=> .r p n::aU (p+1) xs
def kc:Nat->List Arg->List (Nat×Nat)
 |_,[]=>[]
 |p, .f _::xs=>kc (p+1) xs
 |p, .obj l::xs=>(List.range l.length).map (λ i=>(p,i+1))++kc (p+1) xs
 |p, .row _ _ _::xs=>(p,1)::kc (p+1) xs
 |p, .dC _ _ _ _ _::xs=>(p,1)::kc (p+1) xs
def cc (γ:Nat->Pl):Nat->Nat->List Arg->List cr->Nat->Nat->Pl
 |p,k, .f _::xs,bs=>cc γ (p+1) k xs bs
 |p,k, .row _ _ _::xs, .val _::bs=>λ s j=>if s=p then γ k else cc γ (p+1) (k+1) xs bs s j
 |p,k, .dC _ _ _ _ _::xs, .val _::bs=>λ s j=>if s=p then γ k else cc γ (p+1) (k+1) xs bs s j
 |p,k, .obj l::xs, .cb b::bs=>λ s j=>if s=p then(if j=0 then⟨some (b,0),0⟩else γ (k+(j - 1)))else cc γ (p+1) (k+l.length) xs bs s j
 |_,_,_,_=>λ _ _=>⟨none,0⟩
section
variable {P:Program} {w:World} {A0 aL:Nat->Prop} {γ:Nat->Pl}
theorem vu:∀{l:List RO} {j:Nat} {res:aY},(fW l)[j]? =some (some res)->∃sz n ds bo,l[j]? =some (RO.own sz n ds bo)/\res={e:=0,var:=false,fz:=false,cw:=true,sz,cells:=ds.map C.d}
 |[],j,_,h=>by simp[fW]at h
 | .d x::l,0,_,h=>by simp[fW]at h
 | .own sz n ds bo::l,0,res,h=>by simp only[fW,bZ,aQ]at h;exact⟨sz,n,ds,bo,by simp,h.symm⟩
 | .d x::l,j+1,res,h=>by simpa using vu (l:=l) (j:=j) (by simpa[fW]using h)
 | .own .. ::l,j+1,res,h=>by simpa using vu (l:=l) (j:=j) (by simpa[fW]using h)
theorem vI:∀{l:List RO} {j sz n:Nat} {ds:List D} {bo:Bool},l[j]? =some (RO.own sz n ds bo)->(fW l)[j]? =some (some {e:=0,var:=false,fz:=false,cw:=true,sz,cells:=ds.map C.d})
 |[],j,_,_,_,_,h=>by simp at h
 | .d x::l,0,_,_,_,_,h=>by simp at h
 | .own sz n ds bo::l,0,_,_,_,_,h=>by simp only[bZ,aQ,RO.own.injEq]at h;obtain⟨rfl,rfl,rfl,rfl⟩:=h;rfl
 | .d x::l,j+1,sz,n,ds,bo,h=>by simpa[fW]using vI (l:=l) (j:=j) (by simpa using h)
 | .own .. ::l,j+1,sz,n,ds,bo,h=>by simpa[fW]using vI (l:=l) (j:=j) (by simpa using h)
theorem om:∀{args:List Arg} {p s j:Nat} {res:aY},aB (aX p args) s j=some res->aq (aX p args) s=1
 |[],_,_,_,_,h=>by simp[aX,aB,ah]at h
 | .f _::xs,p,s,j,res,h=>om (args:=xs) (p:=p+1) (by simpa[aX]using h)
 | .obj l::xs,p,s,j,res,h=>by
  simp only[aX,aB,ah]at h;simp only[aX,aq,ah];by_cases hp:p=s
  .rw[ay hp]
  .rw[ar hp]at h⊢;exact om (args:=xs) (p:=p+1) (s:=s) (j:=j) (res:=res) (by unfold aB;exact h)
 | .row .. ::xs,p,s,j,res,h=>by
  simp only[aX,aB,ah]at h;simp only[aX,aq,ah];by_cases hp:p=s
  .rw[ay hp]
  .rw[ar hp]at h⊢;exact om (args:=xs) (p:=p+1) (s:=s) (j:=j) (res:=res) (by unfold aB;exact h)
 | .dC .. ::xs,p,s,j,res,h=>by
  simp only[aX,aB,ah]at h;simp only[aX,aq,ah];by_cases hp:p=s
  .rw[ay hp]
  .rw[ar hp]at h⊢;exact om (args:=xs) (p:=p+1) (s:=s) (j:=j) (res:=res) (by unfold aB;exact h)
theorem ll:∀{args:List Arg} {p k s j:Nat} {res:aY} {bs:List cr} {us:List Value},aW P w A0 aL γ k args bs us->aB (aX p args) s j=some res->
  p≤s/\res.e=0/\res.fz=false/\res.cw=true/\
  ((res.var=true/\j=0/\∃(i b:Nat) (l:List RO) (m:Nat) (c:Array Value) (e:Nat),(aU p args)[i]? =some (.o s)/\bs[i]? =some (.cb b)/\aL b/\cc γ p k args bs s 0=⟨some (b,0),0⟩/\w.heap[b]? =some (.cells c e (0,0))/\
    res.cells=dD s 0 0 l/\bP A0 w γ m l c.toList/\(∀u∈c.toList,flat u=true)/\
    (∀(i sz n:Nat) (ds:List D) (bo:Bool),l[i]? =some (.own sz n ds bo)->aB (aX p args) s (i+1)=some {e:=0,var:=false,fz:=false,cw:=true,sz,cells:=ds.map C.d}/\
     cc γ p k args bs s (i+1)=γ (m+i)))∨
   (res.var=false/\∃(m sz n:Nat) (ds:List D) (bo:Bool),(kc p args)[m]? =some (s,j)/\(bn args)[m]? =some (.own sz n ds bo)/\cc γ p k args bs s j=γ (k+m)/\res.sz=sz/\res.cells=ds.map C.d/\
    b5 w A0 (γ (k+m)) sz ds))
 |[],_,_,_,_,_,_,_,_,h=>by simp[aX,aB,ah]at h
 | .f x::xs,p,k,s,j,res,bs,us,ha,h=>by simp only[aW]at ha;obtain⟨u,us',_,_,ha⟩:=ha;obtain⟨h1,h2⟩:=ll (p:=p+1) ha (by simpa[aX]using h);exact⟨by omega,h2⟩
 | .obj l::xs,p,k,s,j,res,bs,us,ha,h=>by
  simp only[aW]at ha;obtain⟨b,bs',us',c,e,rfl,rfl,hB,hw,hro,hfl,ha⟩:=ha;by_cases hp:p=s
  .subst hp;have hl:∀i,aB (aX p (.obj l::xs)) p i=(match (some {e:=0,var:=true,fz:=false,cw:=true,sz:=0,cells:=dD p 0 0 l}::fW l)[i]? with|some (some res)=>some res|_=>none):=λ i=>by simp only[aX,aB,ah,fB];rfl
   rw[hl]at h;cases j with
   |zero=>
    simp only[bZ,aQ]at h;subst h;refine⟨Nat.le_refl _,rfl,rfl,rfl, .inl ⟨rfl,rfl,0,b,l,k,c,e,by simp[aU],by simp,hB,by simp[cc],hw,rfl,hro,hfl,λ i sz n ds bo hi=>⟨?_,by simp[cc]⟩⟩⟩;rw[hl];simp[vI hi]
   |succ i=>
    simp only[gS]at h;split at h
    .rename_i q hq;cases h;obtain⟨sz,n,ds,bo,g1,rfl⟩:=vu hq;have hi:i<l.length:=(bJ.1 g1).1;have hrow:=bP.row hro g1;refine⟨Nat.le_refl _,rfl,rfl,rfl, .inr ⟨rfl,i,sz,n,ds,bo, ?_, ?_,by simp[cc],rfl,rfl,hrow⟩⟩
     .simp only[kc];rw[cj (by simpa using hi)];simp[hi]
     .simp only[bn];rw[cj hi];exact g1
    .cases h
  .have hl:∀s' i,p≠s'->aB (aX p (.obj l::xs)) s' i=aB (aX (p+1) xs) s' i:=λ s' i hs'=>by simp only[aX,aB,ah,ar hs']
   rw[hl s j hp]at h;obtain⟨h1,h2,h3,h4,h5⟩:=ll (p:=p+1) ha h;have hb:∀j',cc γ p k (.obj l::xs) (.cb b::bs') s j'=cc γ (p+1) (k+l.length) xs bs' s j':=λ j'=>by simp only[cc];rw[ar (dU hp)]
   refine⟨by omega,h2,h3,h4, ?_⟩;rcases h5 with⟨g0,g1,i,b',l',m,c',e',g2,g3,g4,g5,g6,g7,g8,g9,g10⟩|⟨g0,m,sz,n,ds,bo,g1,g2,g3,g4,g5,g6⟩
   .refine .inl ⟨g0,g1,i+1,b',l',m,c',e',by simpa[aU]using g2,by simpa using g3,g4,by rw[hb];exact g5,g6,g7,g8,g9,λ i sz n ds bo hi=> ?_⟩;rw[hl _ _ hp,hb];exact g10 i sz n ds bo hi
   .refine .inr ⟨g0,l.length+m,sz,n,ds,bo, ?_, ?_, ?_,g4,g5, ?_⟩
    .simp only[kc];rw[ct (by simp)];simpa using g1
    .simp only[bn];rw[ct (by simp)];simpa using g2
    .rw[hb,g3,cS]
    .rw[←cS];exact g6
 | .row sz0 n0 ds0::xs,p,k,s,j,res,bs,us,ha,h=>by
  simp only[aW]at ha;obtain⟨u,bs',us',rfl,rfl,hro,ha⟩:=ha;by_cases hp:p=s
  .subst hp;have hl:∀i,aB (aX p (.row sz0 n0 ds0::xs)) p i=(match ([none,some {e:=0,var:=false,fz:=false,cw:=true,sz:=sz0,cells:=ds0.map C.d}]:List (Option aY))[i]? with|some (some res)=>some res|_=>none):=λ i=>by simp only[aX,aB,ah,fB];rfl
   rw[hl]at h;simp only[cA]at hro
   match j,h with
   |0,h=>simp at h
   |1,h=>
    simp only[gS,bZ,aQ]at h;subst h;exact⟨Nat.le_refl _,rfl,rfl,rfl, .inr ⟨rfl,0,sz0,n0,ds0,true,by simp[kc],by simp[bn],by simp[cc],rfl,rfl,hro.2.2.1⟩⟩
   |j+2,h=>simp at h
  .have hl:∀s' i,p≠s'->aB (aX p (.row sz0 n0 ds0::xs)) s' i=aB (aX (p+1) xs) s' i:=λ s' i hs'=>by simp only[aX,aB,ah,ar hs']
   rw[hl s j hp]at h;obtain⟨h1,h2,h3,h4,h5⟩:=ll (p:=p+1) ha h;have hb:∀j',cc γ p k (.row sz0 n0 ds0::xs) (.val u::bs') s j'=cc γ (p+1) (k+1) xs bs' s j':=λ j'=>by simp only[cc];rw[ar (dU hp)]
   refine⟨by omega,h2,h3,h4, ?_⟩;rcases h5 with⟨g0,g1,i,b',l',m,c',e',g2,g3,g4,g5,g6,g7,g8,g9,g10⟩|⟨g0,m,sz,n,ds,bo,g1,g2,g3,g4,g5,g6⟩
   .refine .inl ⟨g0,g1,i+1,b',l',m,c',e',by simpa[aU]using g2,by simpa using g3,g4,by rw[hb];exact g5,g6,g7,g8,g9,λ i sz n ds bo hi=> ?_⟩;rw[hl _ _ hp,hb];exact g10 i sz n ds bo hi
   .refine .inr ⟨g0,m+1,sz,n,ds,bo,by simpa[kc]using g1,by simpa[bn]using g2, ?_,g4,g5, ?_⟩
    .rw[hb,g3];congr 1;omega
    .rw[show k+(m+1)=k+1+m from by omega];exact g6
 | .dC pre0 post0 sz0 n0 ds0::xs,p,k,s,j,res,bs,us,ha,h=>by
  simp only[aW]at ha;obtain⟨vs,u,ws,bs',us',rfl,rfl,_,_,hro,ha⟩:=ha;by_cases hp:p=s
  .subst hp;have hl:∀i,aB (aX p (.dC pre0 post0 sz0 n0 ds0::xs)) p i=(match ([none,some {e:=0,var:=false,fz:=false,cw:=true,sz:=sz0,cells:=ds0.map C.d}]:List (Option aY))[i]? with|some (some res)=>some res|_=>none):=λ i=>by simp only[aX,aB,ah,fB];rfl
   rw[hl]at h;simp only[cA]at hro
   match j,h with
   |0,h=>simp at h
   |1,h=>
    simp only[gS,bZ,aQ]at h;subst h;exact⟨Nat.le_refl _,rfl,rfl,rfl, .inr ⟨rfl,0,sz0,n0,ds0,true,by simp[kc],by simp[bn],by simp[cc],rfl,rfl,hro.2.2.1⟩⟩
   |j+2,h=>simp at h
  .have hl:∀s' i,p≠s'->aB (aX p (.dC pre0 post0 sz0 n0 ds0::xs)) s' i=aB (aX (p+1) xs) s' i:=λ s' i hs'=>by simp only[aX,aB,ah,ar hs']
   rw[hl s j hp]at h;obtain⟨h1,h2,h3,h4,h5⟩:=ll (p:=p+1) ha h;have hb:∀j',cc γ p k (.dC pre0 post0 sz0 n0 ds0::xs) (.val u::bs') s j'=cc γ (p+1) (k+1) xs bs' s j':=λ j'=>by simp only[cc];rw[ar (dU hp)]
   refine⟨by omega,h2,h3,h4, ?_⟩;rcases h5 with⟨g0,g1,i,b',l',m,c',e',g2,g3,g4,g5,g6,g7,g8,g9,g10⟩|⟨g0,m,sz,n,ds,bo,g1,g2,g3,g4,g5,g6⟩
   .refine .inl ⟨g0,g1,i+1,b',l',m,c',e',by simpa[aU]using g2,by simpa using g3,g4,by rw[hb];exact g5,g6,g7,g8,g9,λ i sz n ds bo hi=> ?_⟩;rw[hl _ _ hp,hb];exact g10 i sz n ds bo hi
   .refine .inr ⟨g0,m+1,sz,n,ds,bo,by simpa[kc]using g1,by simpa[bn]using g2, ?_,g4,g5, ?_⟩
    .rw[hb,g3];congr 1;omega
    .rw[show k+(m+1)=k+1+m from by omega];exact g6
theorem pZ:∀{args:List Arg} {k:Nat} {bs:List cr} {us:List Value},aW P w A0 aL γ k args bs us->us.length=args.length/\(∀p,(aU p args).length=bs.length)/\∀p,(dJ p args).length=args.length
 |[],k,bs,us,h=>by simp only[aW]at h;obtain⟨rfl,rfl⟩:=h;exact⟨rfl,λ _=>rfl,λ _=>rfl⟩
 | .f x::xs,k,bs,us,h=>by simp only[aW]at h;obtain⟨u,us',rfl,_,h⟩:=h;obtain⟨g1,g2,g3⟩:=pZ h;exact⟨by simp[g1],λ p=>by simp only[aU];exact g2 _,λ p=>by simp[dJ,g3]⟩
 | .obj l::xs,k,bs,us,h=>by simp only[aW]at h;obtain⟨b,bs',us',c,e,rfl,rfl,_,_,_,_,h⟩:=h;obtain⟨g1,g2,g3⟩:=pZ h;exact⟨by simp[g1],λ p=>by simp[aU,g2],λ p=>by simp[dJ,g3]⟩
 | .row .. ::xs,k,bs,us,h=>by simp only[aW]at h;obtain⟨u,bs',us',rfl,rfl,_,h⟩:=h;obtain⟨g1,g2,g3⟩:=pZ h;exact⟨by simp[g1],λ p=>by simp[aU,g2],λ p=>by simp[dJ,g3]⟩
 | .dC .. ::xs,k,bs,us,h=>by simp only[aW]at h;obtain⟨vs,u,ws,bs',us',rfl,rfl,_,_,_,h⟩:=h;obtain⟨g1,g2,g3⟩:=pZ h;exact⟨by simp[g1],λ p=>by simp[aU,g2],λ p=>by simp[dJ,g3]⟩
theorem pO:∀{args:List Arg} {p k i:Nat} {bs:List cr} {us:List Value} {x:AV},aW P w A0 aL γ k args bs us->(dJ p args)[i]? =some x->
  ∃u,us[i]? =some u/\(aA (dt P w A0 aL) w [] (λ _ _=>⟨none,0⟩) x u∨
   (∃b,x= .one (.ptr ⟨p+i,0,0⟩ 0)/\u= .pointer (some ⟨b,0,none⟩)/\cc γ p k args bs (p+i) 0=⟨some (b,0),0⟩/\aq (aX p args) (p+i)=1)∨
   (∃sz n ds m,x= .one (.own ⟨p+i,1,0⟩ 0 n)/\cA A0 w (γ m) (.own sz n ds true) u/\cc γ p k args bs (p+i) 1=γ m/\aq (aX p args) (p+i)=1/\
    ∀res,aK (aX p args) ⟨p+i,1,0⟩=some res->res.var=false/\res.sz=sz/\res.cells=ds.map C.d)∨
   (∃pre post sz n ds m vs u0 ws,x= .agg (pre++ .own ⟨p+i,1,0⟩ 0 n::post)/\u= .agg (vs++u0::ws).toArray/\aC (dt P w A0 aL) w [] (λ _ _=>⟨none,0⟩) pre vs/\aC (dt P w A0 aL) w [] (λ _ _=>⟨none,0⟩) post ws/\
    cA A0 w (γ m) (.own sz n ds true) u0/\cc γ p k args bs (p+i) 1=γ m/\aq (aX p args) (p+i)=1/\
    ∀res,aK (aX p args) ⟨p+i,1,0⟩=some res->res.var=false/\res.sz=sz/\res.cells=ds.map C.d))
 |[],p,k,i,bs,us,x,h,hi=>by simp[dJ]at hi
 | .f y::xs,p,k,i,bs,us,x,h,hi=>by
  simp only[aW]at h;obtain⟨u,us',rfl,h1,h⟩:=h;cases i with
  |zero=>simp only[dJ,bZ,aQ]at hi;subst hi;exact⟨u,by simp, .inl h1⟩
  |succ i=>
   obtain⟨u',g1,g2⟩:=pO (p:=p+1) (i:=i) h (by simpa[dJ]using hi);rw[show p+1+i=p+(i+1) from by omega]at g2;exact⟨u',by simpa using g1,g2⟩
 | .obj l::xs,p,k,i,bs,us,x,h,hi=>by
  simp only[aW]at h;obtain⟨b,bs',us',c,e,rfl,rfl,_,_,_,_,h⟩:=h;cases i with
  |zero=>
   simp only[dJ,bZ,aQ]at hi;subst hi;exact⟨_,by simp, .inr (.inl ⟨b,by simp,rfl,by simp[cc],by simp[aX,aq,ah]⟩)⟩
  |succ i=>
   obtain⟨u',g1,g2⟩:=pO (p:=p+1) (i:=i) h (by simpa[dJ]using hi);rw[show p+1+i=p+(i+1) from by omega]at g2;refine⟨u',by simpa using g1,g2.imp id (Or.imp ?_ (Or.imp ?_ ?_))⟩
   .rintro⟨b',q1,q2,q3,q4⟩
    refine⟨b',q1,q2, ?_, ?_⟩
    .simp only[cc];rw[ar (by omega)];exact q3
    .simp only[aX,aq,ah];rw[ar (by omega)];exact q4
   .rintro⟨sz,n,ds,m,q1,q2,q3,q4,q5⟩
    refine⟨sz,n,ds,m,q1,q2, ?_, ?_, ?_⟩
    .simp only[cc];rw[ar (by omega)];exact q3
    .simp only[aX,aq,ah];rw[ar (by omega)];exact q4
    .simp only[aX,aK,aB,ah];rw[ar (by omega)];simpa only[aK,aB]using q5
   .rintro⟨pre,post,sz,n,ds,m,vs1,u1,ws1,q1,q2,q21,q22,q23,q3,q4,q5⟩
    refine⟨pre,post,sz,n,ds,m,vs1,u1,ws1,q1,q2,q21,q22,q23, ?_, ?_, ?_⟩
    .simp only[cc];rw[ar (by omega)];exact q3
    .simp only[aX,aq,ah];rw[ar (by omega)];exact q4
    .simp only[aX,aK,aB,ah];rw[ar (by omega)];simpa only[aK,aB]using q5
 | .row sz0 n0 ds0::xs,p,k,i,bs,us,x,h,hi=>by
  simp only[aW]at h;obtain⟨u,bs',us',rfl,rfl,h0,h⟩:=h;cases i with
  |zero=>
   simp only[dJ,bZ,aQ]at hi;subst hi;refine⟨u,by simp, .inr (.inr (.inl ⟨sz0,n0,ds0,k,by simp,h0,by simp[cc],by simp[aX,aq,ah],λ res hr=> ?_⟩))⟩;simp[aX,aK,aB,ah]at hr;subst hr;exact⟨rfl,rfl,rfl⟩
  |succ i=>
   obtain⟨u',g1,g2⟩:=pO (p:=p+1) (i:=i) h (by simpa[dJ]using hi);rw[show p+1+i=p+(i+1) from by omega]at g2;refine⟨u',by simpa using g1,g2.imp id (Or.imp ?_ (Or.imp ?_ ?_))⟩
   .rintro⟨b',q1,q2,q3,q4⟩
    refine⟨b',q1,q2, ?_, ?_⟩
    .simp only[cc];rw[ar (by omega)];exact q3
    .simp only[aX,aq,ah];rw[ar (by omega)];exact q4
   .rintro⟨sz,n,ds,m,q1,q2,q3,q4,q5⟩
    refine⟨sz,n,ds,m,q1,q2, ?_, ?_, ?_⟩
    .simp only[cc];rw[ar (by omega)];exact q3
    .simp only[aX,aq,ah];rw[ar (by omega)];exact q4
    .simp only[aX,aK,aB,ah];rw[ar (by omega)];simpa only[aK,aB]using q5
   .rintro⟨pre,post,sz,n,ds,m,vs1,u1,ws1,q1,q2,q21,q22,q23,q3,q4,q5⟩
    refine⟨pre,post,sz,n,ds,m,vs1,u1,ws1,q1,q2,q21,q22,q23, ?_, ?_, ?_⟩
    .simp only[cc];rw[ar (by omega)];exact q3
    .simp only[aX,aq,ah];rw[ar (by omega)];exact q4
    .simp only[aX,aK,aB,ah];rw[ar (by omega)];simpa only[aK,aB]using q5
 | .dC pre0 post0 sz0 n0 ds0::xs,p,k,i,bs,us,x,h,hi=>by
  simp only[aW]at h;obtain⟨vs,u,ws,bs',us',rfl,rfl,h01,h02,h0,h⟩:=h;cases i with
  |zero=>
   simp only[dJ,bZ,aQ]at hi;subst hi;refine⟨_,by simp, .inr (.inr (.inr ⟨pre0,post0,sz0,n0,ds0,k,vs,u,ws,by simp,rfl,h01,h02,h0,by simp[cc],by simp[aX,aq,ah],λ res hr=> ?_⟩))⟩;simp[aX,aK,aB,ah]at hr;subst hr;exact⟨rfl,rfl,rfl⟩
  |succ i=>
   obtain⟨u',g1,g2⟩:=pO (p:=p+1) (i:=i) h (by simpa[dJ]using hi);rw[show p+1+i=p+(i+1) from by omega]at g2;refine⟨u',by simpa using g1,g2.imp id (Or.imp ?_ (Or.imp ?_ ?_))⟩
   .rintro⟨b',q1,q2,q3,q4⟩
    refine⟨b',q1,q2, ?_, ?_⟩
    .simp only[cc];rw[ar (by omega)];exact q3
    .simp only[aX,aq,ah];rw[ar (by omega)];exact q4
   .rintro⟨sz,n,ds,m,q1,q2,q3,q4,q5⟩
    refine⟨sz,n,ds,m,q1,q2, ?_, ?_, ?_⟩
    .simp only[cc];rw[ar (by omega)];exact q3
    .simp only[aX,aq,ah];rw[ar (by omega)];exact q4
    .simp only[aX,aK,aB,ah];rw[ar (by omega)];simpa only[aK,aB]using q5
   .rintro⟨pre,post,sz,n,ds,m,vs1,u1,ws1,q1,q2,q21,q22,q23,q3,q4,q5⟩
    refine⟨pre,post,sz,n,ds,m,vs1,u1,ws1,q1,q2,q21,q22,q23, ?_, ?_, ?_⟩
    .simp only[cc];rw[ar (by omega)];exact q3
    .simp only[aX,aq,ah];rw[ar (by omega)];exact q4
    .simp only[aX,aK,aB,ah];rw[ar (by omega)];simpa only[aK,aB]using q5
end
section
variable {P:Program} {w:World} {A0 aL:Nat->Prop} {γ:Nat->Pl} {T:Nat->Option TI}
def cR (n:Nat) (args:List Arg):G:=⟨dJ 0 args++List.replicate (n - args.length) (.one .dead),aX 0 args⟩
theorem ox:∀{bs:List cr} {i b:Nat},bs[i]? =some (.cb b)->b∈b9 bs
 |[],i,b,h=>by simp at h
 | .cb b'::bs,0,b,h=>by simp only[bZ,aQ,cr.cb.injEq]at h;subst h;simp[b9]
 | .val u::bs,0,b,h=>by simp at h
 | .cb b'::bs,i+1,b,h=>by simp only[b9,cL];exact .inr (ox (i:=i) (by simpa using h))
 | .val u::bs,i+1,b,h=>ox (bs:=bs) (i:=i) (by simpa using h)
theorem zt:∀{l:List cr} {i j b:Nat},(b9 l).Nodup->l[i]? =some (.cb b)->l[j]? =some (.cb b)->i=j
 |[],i,j,b,_,h,_=>by simp at h
 |x::l,0,0,b,_,_,_=>rfl
 |x::l,0,j+1,b,hn,h,h'=>by simp only[bZ,aQ]at h;subst h;exact absurd (ox (by simpa using h')) (List.nodup_cons.1 hn).1
 |x::l,i+1,0,b,hn,h,h'=>by simp only[bZ,aQ]at h';subst h';exact absurd (ox (by simpa using h)) (List.nodup_cons.1 hn).1
 |x::l,i+1,j+1,b,hn,h,h'=>by
  have hn':(b9 l).Nodup:=by cases x with
   |cb _=>exact(List.nodup_cons.1 hn).2
   |val _=>exact hn
  rw[zt hn' (i:=i) (j:=j) (by simpa using h) (by simpa using h')]
theorem bP.shift {A:Nat->Prop} {m:Nat}:∀{l:List RO} {k:Nat} {us:List Value},bP A w γ (m+k) l us->bP A w (λ i=>γ (m+i)) k l us
 |[],_,_,h=>h
 |x::l,k,us,h=>by simp only[bP]at h⊢;obtain⟨u,us',rfl,h1,h2⟩:=h;exact⟨u,us',rfl,h1,bP.shift (k:=k+1) h2⟩
def dT:List Pos->List cr->List (Nat×Nat)
 | .o p::ps, .cb b::bs=>(p,b)::dT ps bs
 | .r _ _::ps,_::bs=>dT ps bs
 | .o _::ps, .val _::bs=>dT ps bs
 |_,_=>[]
def rowsOf:List Pos->List cr->List (Nat×Nat×Value)
 | .r p n::ps, .val u::bs=>(p,n,u)::rowsOf ps bs
 | .o _::ps,_::bs=>rowsOf ps bs
 | .r _ _::ps, .cb _::bs=>rowsOf ps bs
 |_,_=>[]
theorem Ac {cx:Cx} {w:World} {r:Rs} {β:Nat->Nat->Pl}:∀{p k:Nat} {args:List Arg} {bs:List cr} {us:List Value} {w1:World} {A0 aL:Nat->Prop},aW P w1 A0 aL γ k args bs us->
  (∀p b,(p,b)∈dT (aU p args) bs->True)->
  (∀q b,(q,b)∈dT (aU p args) bs->∀res,aK r ⟨q,0,0⟩=some res->(β q 0).base=some (b,0))->
  (∀q n u,(q,n,u)∈rowsOf (aU p args) bs->aw cx w r β (.own ⟨q,1,0⟩ 0 n) u)->cy cx w r β (aU p args) bs:=by
 intro p k args;induction args generalizing p k with
 |nil=>intro bs us w1 A0 aL h _ _ _;simp only[aW]at h;obtain⟨_,rfl⟩:=h;simp[aU,cy]
 |cons x xs ih=>
  intro bs us w1 A0 aL h h0 h1 h2;cases x with
  |f y=>
   simp only[aW]at h;obtain⟨u,us',rfl,_,h⟩:=h;exact ih h (λ _ _ _=>trivial) h1 h2
  |obj l=>
   simp only[aW]at h;obtain⟨b',bs',us',c,e,rfl,rfl,_,_,_,_,h⟩:=h;simp only[aU,cy];refine⟨h1 p b' (by simp[aU,dT]),ih h (λ _ _ _=>trivial) (λ q b hm=>h1 q b (by simp[aU,dT,hm])) (λ q n u hm=>h2 q n u (by simpa[aU,rowsOf]using hm))⟩
  |dC pre post sz n ds=>
   simp only[aW]at h;obtain⟨vs,u,ws,bs',us',rfl,rfl,_,_,_,h⟩:=h;simp only[aU,cy];refine⟨h2 p n u (by simp[aU,rowsOf]),ih h (λ _ _ _=>trivial) (λ q b hm=>h1 q b (by simpa[aU,dT]using hm)) (λ q n u hm=>h2 q n u (by simp[aU,rowsOf,hm]))⟩
  |row sz n ds=>
   simp only[aW]at h;obtain⟨u,bs',us',rfl,rfl,_,h⟩:=h;simp only[aU,cy];refine⟨h2 p n u (by simp[aU,rowsOf]),ih h (λ _ _ _=>trivial) (λ q b hm=>h1 q b (by simpa[aU,dT]using hm)) (λ q n u hm=>h2 q n u (by simp[aU,rowsOf,hm]))⟩
theorem og:∀{ys:List Arg} {q:Nat},(∀s b bs,(s,b)∈dT (aU q ys) bs->q≤s)/\(∀s n u bs,(s,n,u)∈rowsOf (aU q ys) bs->q≤s):=by
 intro ys;induction ys with
 |nil=>intro q;exact⟨λ s b bs h=>by simp[aU,dT]at h,λ s n u bs h=>by simp[aU,rowsOf]at h⟩
 |cons y ys ih=>
  intro q;cases y with
  |f _=>exact⟨λ s b bs h=>by have:=(ih (q:=q+1)).1 s b bs h;omega,λ s n u bs h=>by have:=(ih (q:=q+1)).2 s n u bs h;omega⟩
  |obj l=>
   refine⟨λ s b bs h=> ?_,λ s n u bs h=> ?_⟩
   .cases bs with
    |nil=>simp[aU,dT]at h
    |cons b0 bs=>
     cases b0 with
     |cb b0=>
      simp only[aU,dT,cL,jI]at h;rcases h with⟨rfl,_⟩|h
      .exact Nat.le_refl _
      .have:=(ih (q:=q+1)).1 s b bs h;omega
     |val _=>have:=(ih (q:=q+1)).1 s b bs (by simpa[aU,dT]using h);omega
   .cases bs with
    |nil=>simp[aU,rowsOf]at h
    |cons b0 bs=>have:=(ih (q:=q+1)).2 s n u bs (by simpa[aU,rowsOf]using h);omega
  |row sz n0 ds=>
   refine⟨λ s b bs h=> ?_,λ s n u bs h=> ?_⟩
   .cases bs with
    |nil=>simp[aU,dT]at h
    |cons b0 bs=>have:=(ih (q:=q+1)).1 s b bs (by simpa[aU,dT]using h);omega
   .cases bs with
    |nil=>simp[aU,rowsOf]at h
    |cons b0 bs=>
     cases b0 with
     |val u0=>
      simp only[aU,rowsOf,cL,jI]at h;rcases h with⟨rfl,_⟩|h
      .exact Nat.le_refl _
      .have:=(ih (q:=q+1)).2 s n u bs h;omega
     |cb _=>have:=(ih (q:=q+1)).2 s n u bs (by simpa[aU,rowsOf]using h);omega
  |dC _ _ sz n0 ds=>
   refine⟨λ s b bs h=> ?_,λ s n u bs h=> ?_⟩
   .cases bs with
    |nil=>simp[aU,dT]at h
    |cons b0 bs=>have:=(ih (q:=q+1)).1 s b bs (by simpa[aU,dT]using h);omega
   .cases bs with
    |nil=>simp[aU,rowsOf]at h
    |cons b0 bs=>
     cases b0 with
     |val u0=>
      simp only[aU,rowsOf,cL,jI]at h;rcases h with⟨rfl,_⟩|h
      .exact Nat.le_refl _
      .have:=(ih (q:=q+1)).2 s n u bs h;omega
     |cb _=>have:=(ih (q:=q+1)).2 s n u bs (by simpa[aU,rowsOf]using h);omega
theorem Lv:∀{p k:Nat} {args:List Arg} {bs:List cr} {us:List Value},aW P w A0 aL γ k args bs us->
  ∀(s b:Nat),(s,b)∈dT (aU p args) bs->(cc γ p k args bs s 0).base=some (b,0)/\aq (aX p args) s=1:=by
 intro p k args;induction args generalizing p k with
 |nil=>intro bs us h s b h1;simp[aU,dT]at h1
 |cons x xs ih=>
  intro bs us h s b h1;cases x with
  |f y=>
   simp only[aW]at h;obtain⟨u,us',rfl,_,h⟩:=h;exact ih (p:=p+1) h s b (by simpa[aU]using h1)
  |obj l=>
   simp only[aW]at h;obtain⟨b',bs',us',c,e,rfl,rfl,_,_,_,_,h⟩:=h;simp only[aU,dT,cL,jI]at h1;rcases h1 with⟨rfl,rfl⟩|h1
   .exact⟨by simp[cc],by simp[aX,aq,ah]⟩
   .have hs:=og.1 s b bs' h1;have:=ih (p:=p+1) (k:=k+l.length) h s b h1;simp only[cc,aX,aq,ah];rw[ar (by omega),ar (by omega)];exact this
  |row sz n ds=>
   simp only[aW]at h;obtain⟨u,bs',us',rfl,rfl,_,h⟩:=h;have h1:(s,b)∈dT (aU (p+1) xs) bs':=by simpa[aU,dT]using h1
   have hs:=og.1 s b bs' h1;have:=ih (p:=p+1) (k:=k+1) h s b h1;simp only[cc,aX,aq,ah];rw[ar (by omega),ar (by omega)];exact this
  |dC pre post sz n ds=>
   simp only[aW]at h;obtain⟨vs,u,ws,bs',us',rfl,rfl,_,_,_,h⟩:=h;have h1:(s,b)∈dT (aU (p+1) xs) bs':=by simpa[aU,dT]using h1
   have hs:=og.1 s b bs' h1;have:=ih (p:=p+1) (k:=k+1) h s b h1;simp only[cc,aX,aq,ah];rw[ar (by omega),ar (by omega)];exact this
theorem LN:∀{p k:Nat} {args:List Arg} {bs:List cr} {us:List Value},aW P w A0 aL γ k args bs us->
  ∀(s n:Nat) (u:Value),(s,n,u)∈rowsOf (aU p args) bs->∃sz ds m,cA A0 w (γ m) (.own sz n ds true) u/\cc γ p k args bs s 1=γ m/\aq (aX p args) s=1/\
   ∀res,aK (aX p args) ⟨s,1,0⟩=some res->res.var=false/\res.sz=sz/\res.cells=ds.map C.d:=by
 intro p k args;induction args generalizing p k with
 |nil=>intro bs us h s n u h1;simp[aU,rowsOf]at h1
 |cons x xs ih=>
  intro bs us h s n u h1;cases x with
  |f y=>
   simp only[aW]at h;obtain⟨u0,us',rfl,_,h⟩:=h;exact ih (p:=p+1) h s n u (by simpa[aU]using h1)
  |obj l=>
   simp only[aW]at h;obtain⟨b',bs',us',c,e,rfl,rfl,_,_,_,_,h⟩:=h;have h1:(s,n,u)∈rowsOf (aU (p+1) xs) bs':=by simpa[aU,rowsOf]using h1
   have hs:=og.2 s n u bs' h1;obtain⟨sz,ds,m,q1,q2,q3,q4⟩:=ih (p:=p+1) (k:=k+l.length) h s n u h1;refine⟨sz,ds,m,q1, ?_, ?_, ?_⟩
   .simp only[cc];rw[ar (by omega)];exact q2
   .simp only[aX,aq,ah];rw[ar (by omega)];exact q3
   .simp only[aX,aK,aB,ah];rw[ar (by omega)];simpa only[aK,aB]using q4
  |row sz n0 ds=>
   simp only[aW]at h;obtain⟨u0,bs',us',rfl,rfl,h0,h⟩:=h;simp only[aU,rowsOf,cL,jI]at h1;rcases h1 with⟨rfl,rfl,rfl⟩|h1
   .refine⟨sz,ds,k,h0,by simp[cc],by simp[aX,aq,ah],λ res hr=> ?_⟩;simp[aX,aK,aB,ah]at hr;subst hr;exact⟨rfl,rfl,rfl⟩
   .have hs:=og.2 s n u bs' h1;obtain⟨sz,ds,m,q1,q2,q3,q4⟩:=ih (p:=p+1) (k:=k+1) h s n u h1;refine⟨sz,ds,m,q1, ?_, ?_, ?_⟩
    .simp only[cc];rw[ar (by omega)];exact q2
    .simp only[aX,aq,ah];rw[ar (by omega)];exact q3
    .simp only[aX,aK,aB,ah];rw[ar (by omega)];simpa only[aK,aB]using q4
  |dC pre post sz n0 ds=>
   simp only[aW]at h;obtain⟨vs,u0,ws,bs',us',rfl,rfl,_,_,h0,h⟩:=h;simp only[aU,rowsOf,cL,jI]at h1;rcases h1 with⟨rfl,rfl,rfl⟩|h1
   .refine⟨sz,ds,k,h0,by simp[cc],by simp[aX,aq,ah],λ res hr=> ?_⟩;simp[aX,aK,aB,ah]at hr;subst hr;exact⟨rfl,rfl,rfl⟩
   .have hs:=og.2 s n u bs' h1;obtain⟨sz,ds,m,q1,q2,q3,q4⟩:=ih (p:=p+1) (k:=k+1) h s n u h1;refine⟨sz,ds,m,q1, ?_, ?_, ?_⟩
    .simp only[cc];rw[ar (by omega)];exact q2
    .simp only[aX,aq,ah];rw[ar (by omega)];exact q3
    .simp only[aX,aK,aB,ah];rw[ar (by omega)];simpa only[aK,aB]using q4
theorem uP {cx:Cx} {w:World} {r:Rs} {β:Nat->Nat->Pl} {A:Nat->Prop} {hd:Hd} {sz n:Nat} {ds:List D} {u:Value} {pl:Pl} (h:cA A w pl (.own sz n ds true) u) (hpl:β hd.s hd.j=pl) (hlt:hd.e<aq r hd.s)
  (hr:∀res,aK r hd=some res->res.var=false/\res.sz=sz/\res.cells=ds.map C.d):aw cx w r β (.own hd 0 n) u:=by
 simp only[cA]at h;obtain⟨h1,h2,h3,ad,rfl,h5⟩:=h;simp only[aw];refine⟨rfl,hlt,λ res hres=> ?_⟩;obtain⟨g1,g2,g3⟩:=hr res hres;refine⟨g1,by rw[g2,g3];simpa using h1,by rw[hpl];omega,ad,by rw[hpl];simp, ?_⟩;rw[hpl];rcases h5 with h5|⟨b,o,h5,h6⟩
 .exact .inl (by omega)
 .exact .inr ⟨b,o,h5,by simpa using h6⟩
abbrev eZ (P:Program) (w:World) (A0 aL:Nat->Prop) (args:List Arg) (bs:List cr):Cx:={P,w0:=w,A0,aL,Obj:=dT (aU 0 args) bs,Row:=rowsOf (aU 0 args) bs}
section
variable {cx:Cx} {r:Rs} {β:Nat->Nat->Pl} {ob:List (Nat×Nat)} {rw':List (Nat×Nat×Value)}
mutual
theorem aw.obj:∀{c:C} {u:Value},aw cx w r β c u->aw {cx with Obj:=ob,Row:=rw'} w r β c u
 | .d _,_,h=>by simp only[aw]at h⊢;exact h
 | .aJ n ds,_,h=>by simp only[aw]at h⊢;exact h
 | .own hd lo n,u,h=>by simp only[aw]at h⊢;exact h
 | .ptr hd off,u,h=>by simp only[aw]at h⊢;exact h
 | .dP ds,_,h=>by simp only[aw]at h⊢;exact h
 | .eP f caps,_,h=>by simp only[aw]at h⊢;obtain⟨us,h1,h2⟩:=h;exact⟨us,h1,aC.obj h2⟩
 | .ab,_,h=>by simpa only[aw]using h
 | .dead,_,_=>by simp[aw]
 | .dZ cs,u,h=>by simp only[aw]at h⊢;obtain⟨b,o,us,h1,h2,h3,h4,h5⟩:=h;exact⟨b,o,us,h1,h2,h3,h4,aC.obj h5⟩
 | .cZ hd lo n k,u,h=>by simp only[aw]at h⊢;exact h
 | .lk hd n x,u,h=>by simp only[aw]at h⊢;exact h
theorem aC.obj:∀{c:List C} {u:List Value},aC cx w r β c u->aC {cx with Obj:=ob,Row:=rw'} w r β c u
 |[],_,h=>by simpa[aC]using h
 |c::cs,_,h=>by simp only[aC]at h⊢;obtain⟨u,us,h1,h2,h3⟩:=h;exact⟨u,us,h1,aw.obj h2,aC.obj h3⟩
end
mutual
theorem aA.obj:∀{c:AV} {u:Value},aA cx w r β c u->aA {cx with Obj:=ob,Row:=rw'} w r β c u
 | .one _,_,h=>by simp only[aA]at h⊢;exact h.obj
 | .agg l,_,h=>by simp only[aA]at h⊢;obtain⟨us,h1,h2⟩:=h;exact⟨us,h1,h2.obj⟩
 | .eY l,_,h=>by simp only[aA]at h⊢;obtain⟨us,h1,h2⟩:=h;exact⟨us,h1,aZ.obj h2⟩
 | .gd c y,_,h=>by simp only[aA]at h⊢;exact⟨λ hc=>aA.obj (h.1 hc),h.2⟩
theorem aZ.obj:∀{c:List AV} {u:List Value},aZ cx w r β c u->aZ {cx with Obj:=ob,Row:=rw'} w r β c u
 |[],_,h=>by simpa[aZ]using h
 |c::cs,_,h=>by simp only[aZ]at h⊢;obtain⟨u,us,h1,h2,h3⟩:=h;exact⟨u,us,h1,aA.obj h2,aZ.obj h3⟩
end
end
theorem pE {args:List Arg} {bs:List cr} {us:List Value} {n:Nat} (h:aW P w A0 aL γ 0 args bs us) (hA:∀b,A0 b->b<w.heap.size) (hB:∀b,aL b->A0 b)
  (hnb:∀b,NB γ 0 (bn args) b->aL b/\b ∉ b9 bs) (hnd:(b9 bs).Nodup) (hap:mn γ (bn args)):
  aH (eZ P w A0 aL args bs) (cR n args) {tmps:=us.toArray++Array.replicate (n - us.length) undef,defers:=[]} w (cc γ 0 0 args bs):=by
 obtain⟨l1,l2,l3⟩:=pZ h;have hbase:∀s j res b o,aB (aX 0 args) s j=some res->(cc γ 0 0 args bs s j).base=some (b,o)->aL b:=λ s j res b o hl hb=>by
  obtain⟨_,_,_,_,h5⟩:=ll h hl;rcases h5 with⟨_,rfl,i,b',l',m,c,e,_,_,g4,g5,_⟩|⟨_,m,sz,n,ds,bo,_,g2,g3,_⟩
  .rw[g5]at hb;cases hb;exact g4
  .rw[g3]at hb;exact(hnb b (gx (k:=0) g2 hb)).1
 have hAv:∀b,Av (eZ P w A0 aL args bs) (aX 0 args) (cc γ 0 0 args bs) b->A0 b:=λ b hb=>by
  rcases hb with hb|⟨s,j,res,o,hl,_,hb⟩
  .exact hb
  .exact hB b (hbase s j res b o hl hb)
 have hx:Ext (eZ P w A0 aL args bs) w [] (λ _ _=>⟨none,0⟩) w (aX 0 args) (cc γ 0 0 args bs):=
  ⟨λ s=>by simp[aq,ah],λ hd res' hlt _=>by simp[aq,ah]at hlt,⟨λ _ _ _=>rfl,λ b _ hb=> .inl (hAv b hb)⟩,λ _ _ _=>rfl,rfl,rfl⟩
 refine⟨by simp[cR,l1,l3],rfl,λ i x hi=> ?_,λ s j res hl=> ?_,λ s j res s' j' res' b o o' hl _ hl' _ hb hb'=> ?_,λ s j res b o hl _ hb=> ?_,Nat.le_refl _,λ _ _ _=>rfl,hA,hB,λ p b hm=> ?_,λ p n u hm=> ?_,rfl,rfl⟩
 .simp only[cR]at hi;rcases gW i args.length with hlt|hge
  .rw[cj (by rw[l3];exact hlt)]at hi;obtain⟨u,g1,g2⟩:=pO h hi;refine⟨u,by rw[Array.getElem?_append_left (by simp[l1];exact hlt)];simpa using g1, ?_⟩;rcases g2 with g2|⟨b,rfl,rfl,g3,g4⟩|⟨sz,n',ds,m,rfl,g2,g3,g4,g5⟩|⟨pre,post,sz,n',ds,m,vs1,u1,ws1,rfl,rfl,q1,q2,g2,g3,g4,g5⟩
   .exact(aA.obj (ob:=dT (aU 0 args) bs) (rw':=rowsOf (aU 0 args) bs) g2).ext hx
   .simp only[bC]at g3 g4⊢;simp only[aA,aw];exact⟨rfl,by simp only[cR];rw[g4];exact Nat.one_pos,λ res hres=>⟨b,0,by rw[g3],rfl⟩⟩
   .simp only[bC]at g3 g4 g5⊢;exact c6.2 (uP g2 g3 (by simp only[cR];rw[g4];exact Nat.one_pos) g5)
   .simp only[bC]at g3 g4 g5⊢;refine fw.2 ⟨_,rfl, ?_⟩;have hown:=uP (cx:=eZ P w A0 aL args bs) (w:=w) (r:=aX 0 args) (β:=cc γ 0 0 args bs) (hd:=⟨i,1,0⟩) g2 g3 (by rw[g4];exact Nat.one_pos) g5;have h1:=(aC.obj (ob:=dT (aU 0 args) bs) (rw':=rowsOf (aU 0 args) bs) q1).ext hx;have h2:=(aC.obj (ob:=dT (aU 0 args) bs) (rw':=rowsOf (aU 0 args) bs) q2).ext hx;exact uf h1 (by simp only[aC];exact⟨_,_,rfl,hown,h2⟩)
  .rw[ct (by rw[l3];exact hge)]at hi;rw[tr]at hi;split at hi
   .rename_i hlt;cases hi;refine⟨undef, ?_,by simp[aA,aw]⟩;rw[l3]at hlt;rw[Array.getElem?_append_right (by simp[l1];exact hge)];simp[l1,hlt]
   .cases hi
 .simp only[cR]at hl⊢;obtain⟨_,h2,h3,h4,h5⟩:=ll h hl;refine⟨?_,by rw[h2,om hl];exact Nat.one_pos⟩;rcases h5 with⟨g0,rfl,i,b,l',m,c,e,g2,g3,g4,g5,g6,g7,g8,g9,g10⟩|⟨g0,m,sz,n,ds,bo,g1,g2,g3,g4,g5,g6⟩
  .unfold bB;rw[ay g0];refine⟨h3,b,c,e,by rw[g5],g6, ?_,g9⟩;rw[g7];refine mQ (γ:=λ k=>γ (m+k)) hAv (λ i sz n ds bo hi=> ?_) ?_
   .obtain⟨q1,q2⟩:=g10 i sz n ds bo hi;rw[bC];exact⟨⟨true,ed q1 rfl⟩,q2,by rw[om hl];exact Nat.one_pos⟩
   .exact bP.shift (m:=m) (k:=0) g8
  .unfold bB;rw[ar (by simp[g0])];refine⟨ds,g5, ?_,λ hf=>by rw[h3]at hf;cases hf⟩;rw[g3,g4,bC];rw[bC]at g6;exact g6.cg ⟨λ _ _ _=>rfl,λ b _ hb=>hAv b hb⟩ (λ _ _ _=>rfl)
 .simp only[cR]at hl hl';obtain⟨_,_,_,_,h5⟩:=ll h hl;obtain⟨_,_,_,_,h5'⟩:=ll h hl';rcases h5 with⟨g0,rfl,i,b1,l',m,c,e,g2,g3,g4,g5,g6⟩|⟨g0,m,sz,n,ds,bo,g1,g2,g3,g4⟩<;>
   rcases h5' with⟨k0,rfl,i',b1',l'',m',c',e',k2,k3,k4,k5,k6⟩|⟨k0,m',sz',n',ds',bo',k1,k2,k3,k4⟩
  .rw[g5]at hb;rw[k5]at hb';cases hb;cases hb';have hi:i=i':=zt hnd g3 k3;subst hi;rw[g2]at k2;cases k2;exact⟨rfl,rfl⟩
  .rw[g5]at hb;rw[k3]at hb';cases hb;exact absurd (ox g3) (hnb _ (gx (k:=0) k2 hb')).2
  .rw[g3]at hb;rw[k5]at hb';cases hb';exact absurd (ox k3) (hnb _ (gx (k:=0) g2 hb)).2
  .rw[g3,bC]at hb;rw[k3,bC]at hb';have:=hap m m' b o o' sz n ds bo sz' n' ds' bo' g2 k2 hb hb';subst this;rw[g1]at k1;cases k1;exact⟨rfl,rfl⟩
 .exact⟨.inr (hbase s j res b o hl hb),λ hbor=>by obtain⟨_,_,_,h4,_⟩:=ll h (by simpa[cR]using hl);rw[h4]at hbor;cases hbor⟩
 .obtain⟨e1,e2⟩:=Lv h p b hm;simp only[cR];exact⟨by rw[e2];exact Nat.one_pos,λ _ _=>e1⟩
 .obtain⟨sz,ds,m,q1,q2,q3,q4⟩:=LN h p n u hm;exact uP q1 q2 (by simp only[cR];rw[q3];exact Nat.one_pos) q4
end
section
variable {P:Program} {cx:Cx} {T:Nat->Option TI} {v:List AV} {r:Rs} {a:Act} {w:World} {β:Nat->Nat->Pl}
def fT (tmps:Array Value):ResultVar->Sem Value
 | .tmp t=>pure (tmps.getD t undef)
 | .cell a t=>do loadVar t (←asAddr (tmps.getD a undef))
theorem JI (fn:Func) (tmps:Array Value):results fn tmps=(do
  let vs←fn.results.mapM (fT tmps)
  pure (if h:vs.size=1 then vs[0]else .tuple vs)):=by
 unfold results fT;rfl
theorem L3 (hT:bF cx.P T) (h:aH cx ⟨v,r⟩ a w β) {x:ResultVar} (hs:(nO T v r x).1):
  ∃u,(fT a.tmps x).run cx.P w= .ok u w/\aA cx w r β (nO T v r x).2 u:=by
 cases x with
 |tmp t=>exact⟨a.eval (.tmp t),by simp[fT,Act.eval],qo h (.tmp t)⟩
 |cell p t=>
  simp only[nO]at hs⊢;have hg:=qo h (.tmp p);split at hs
  .rename_i hd off h1
   try simp only[h1]
   rw[h1]at hg;split at hs
   .rename_i res h2
    try simp only[h2]
    simp only[aA,aw]at hg;obtain⟨b,o',g1,g2⟩:=hg.2.2 res h2;obtain⟨hl,_⟩:=bq h2;have hcs:=((h.rs _ _ _ hl).1.cells g1).drop (k:=off);obtain⟨u,f1,f2⟩:=sG hT hcs hs;refine⟨u, ?_,f2⟩;have g2':a.tmps[p]?.getD undef= .pointer (some ⟨b,o'+off,none⟩):=by simpa[Act.eval]using g2
    simp[fT,g2',asAddr,f1]
   .exact hs.elim
  .exact hs.elim
theorem pU (hT:bF cx.P T) (h:aH cx ⟨v,r⟩ a w β):∀{xs:List ResultVar},(gi T v r xs).1->
  ∃us,(xs.mapM (fT a.tmps)).run cx.P w= .ok us w/\aZ cx w r β (gi T v r xs).2 us
 |[],_=>⟨[],by simp,by simp[gi,aZ]⟩
 |x::xs,hs=>by simp only[gi]at hs⊢;obtain⟨u,h1,h2⟩:=L3 hT h hs.1;obtain⟨us,h3,h4⟩:=pU hT h hs.2;refine⟨u::us, ?_,by simp only[aZ];exact⟨u,us,rfl,h2,h4⟩⟩;rw[List.mapM_cons];simp[h1,h3]
theorem rv {fn:Func} {rvs:List ResultVar} {tmps:Array Value} {us:List Value} (hr:fn.results=rvs.toArray) (h:(rvs.mapM (fT tmps)).run P w= .ok us w):
  (results fn tmps).run P w= .ok (jO us) w:=by
 rw[JI,hr,List.mapM_toArray];simp only[gA,map_eq_pure_bind,h,fo];simp only[ke,fo];congr 1;cases us with
 |nil=>rfl
 |cons x xs=>
  cases xs with
  |nil=>rfl
  |cons y ys=>simp[jO]
def kp (T:Nat->Option TI) (rvs:List ResultVar) (ps:List Pos) (post:List RF->List (List RO)->Prop) (e:Ex) (g:G):Prop:=
 match e with
 | .normal=>fM T rvs ps post g
 | .ret=>fM T rvs ps post g
 | .exit _=>False
 | .panic _=>False
theorem xF {rvs:List ResultVar} {ps:List Pos} {post:List RF->List (List RO)->Prop} {g:G}:kp T rvs ps post .normal g=fM T rvs ps post g:=rfl
theorem Ag {rvs:List ResultVar} {ps:List Pos} {post:List RF->List (List RO)->Prop} {g:G}:kp T rvs ps post .ret g=fM T rvs ps post g:=rfl
theorem za {rvs:List ResultVar} {ps:List Pos} {post:List RF->List (List RO)->Prop} {g:G} {id:Nat}:kp T rvs ps post (.exit id) g=False:=rfl
theorem pH:∀{ps:List Pos} {cs:List (List C)} {bs:List cr} {b:Nat},dE r ps cs->cy cx w r β ps bs->b∈b9 bs->∃hd res,aK r hd=some res/\res.var=true/\(β hd.s hd.j).base=some (b,0)
 |[],_,[],_,_,_,h=>by simp[b9]at h
 |[],_,_::_,_,_,hp,_=>by simp[cy]at hp
 | .o p::ps,[],_,_,h1,_,_=>by simp[dE]at h1
 | .o p::ps,_::_,[],_,_,hp,_=>by simp[cy]at hp
 | .o p::ps,_::_, .val _::_,_,_,hp,_=>by simp[cy]at hp
 | .o p::ps,c::cs, .cb b0::bs,b,h1,hp,hm=>by
  simp only[dE]at h1;simp only[cy]at hp;obtain⟨⟨res,g1,g2,_⟩,g3⟩:=h1;simp only[b9,cL]at hm;rcases hm with rfl|hm
  .exact⟨⟨p,0,0⟩,res,g1,g2,hp.1 res g1⟩
  .exact pH g3 hp.2 hm
 | .h hd::ps,[],_,_,h1,_,_=>by simp[dE]at h1
 | .h hd::ps,_::_,[],_,_,hp,_=>by simp[cy]at hp
 | .h hd::ps,_::_, .val _::_,_,_,hp,_=>by simp[cy]at hp
 | .h hd::ps,c::cs, .cb b0::bs,b,h1,hp,hm=>by
  simp only[dE]at h1;simp only[cy]at hp;obtain⟨⟨res,g1,g2,_⟩,g3⟩:=h1;simp only[b9,cL]at hm;rcases hm with rfl|hm
  .exact⟨hd,res,g1,g2,hp.1 res g1⟩
  .exact pH g3 hp.2 hm
 | .r p n::ps,[],_,_,h1,_,_=>by simp[dE]at h1
 | .r p n::ps,_::_,[],_,_,hp,_=>by simp[cy]at hp
 | .r p n::ps,_::_, .cb _::_,_,_,hp,_=>by simp[cy]at hp
 | .r p n::ps,c::cs, .val u::bs,b,h1,hp,hm=>by simp only[dE]at h1;simp only[cy]at hp;exact pH h1.2 hp.2 (by simpa[b9]using hm)
theorem yf (hT:bF P T) (hm:P.follows .mixedOrders=true) {f:FuncId} {fn:Func} {c:Code} {rvs:List ResultVar} {n:Nat} (hf:P.funcs[f]? =some fn) (hb:fn.body=some c)
  (hres:fn.results=rvs.toArray) (hn:fn.ntmps=n) (hcall:∀(us:Array Value) (w:World),(callFunc f us).run P w= .ok (.enter f us) w) {args:List Arg} {post:List RF->List (List RO)->Prop}
  (F:Nat->G) (Cd:Nat->Prop) (hF:∀cx a w,cP cx (cR n args) a w->∃k,Cd k/\cP cx (F k) a w)
  (h:∀k,Cd k->bQ T P c (F k) (kp T rvs (aU 0 args) post)):ae P f args post:=by
 refine⟨hcall,λ w A0 aL γ bs us hA hB ha hnb hnd hap=> ?_⟩;refine calls_of_wp hf hb ?_;have h0:=pE (n:=n) ha hA hB hnb hnd hap;have hend:∀g a w',cP (eZ P w A0 aL args bs) g a w'->fM T rvs (aU 0 args) post g->
   a.defers=[]/\∃v,(results fn a.tmps).run P w'= .ok v w'/\∃rfs objs u,post rfs objs/\Ending.returned v= .returned u/\dc w A0 aL w' bs rfs objs u:=by
  rintro⟨v,r⟩ a w' ⟨β,hh⟩ ⟨g1,g2⟩
  obtain⟨vs,k1,k2⟩:=pU (cx:=eZ P w A0 aL args bs) hT hh g1;refine⟨hh.df,jO vs,rv hres k1, ?_⟩;unfold oO at g2;split at g2
  .rename_i rfs cs q1 q2;split at g2
   .rename_i objs q3;refine⟨rfs,objs,jO vs,g2.2,rfl, ?_⟩;have hpos:cy (eZ P w A0 aL args bs) w' r β (aU 0 args) bs:=Ac ha (λ _ _ _=>trivial) (λ q b hm res hg=>(hh.ob q b hm).2 res hg) (λ q n u hm=>hh.rw q n u hm);refine sQ (cx:=eZ P w A0 aL args bs) hh (A1:=A0) (λ b hb=> .inl hb) k2 rfl q1 (pN q2) q3 g2.1 hpos (λ s j res b o hl hfz hv hbase hmem=> ?_);obtain⟨p,res',e1,e2,hbase'⟩:=pH (pN q2) hpos hmem;have hlk:=(bq e1).1;have hf':res'.fz=false:=by
     cases hq:res'.fz with
     |false=>rfl
     |true=>have:=hh.vz _ _ _ hlk hq;rw[e2]at this;cases this
    obtain⟨p1,p2⟩:=hh.inj _ _ _ _ _ _ _ _ _ hl hfz hlk hf' hbase hbase';subst p1 p2;rw[hl]at hlk;cases hlk;rw[hv]at e2;cases e2
   .exact g2.elim
  .exact g2.elim
 have hact:({tmps:=us.toArray++Array.replicate (fn.ntmps - us.toArray.size) undef,defers:=[]}:Act)={tmps:=us.toArray++Array.replicate (n - us.length) undef,defers:=[]}:=by rw[hn];simp
 rw[hact];obtain⟨k,hk,hFk⟩:=hF _ _ _ ⟨_,h0⟩;refine oL (cx:=eZ P w A0 aL args bs) hT hm c (F k) _ _ (λ e g a w' hh hq=> ?_) (h k hk) _ _ hFk;cases e with
 |normal=>exact hend g a w' hh hq
 |ret=>exact hend g a w' hh hq
 |exit id=>exact hq.elim
 |panic x=>exact hq.elim
theorem aR (hT:bF P T) (hm:P.follows .mixedOrders=true) {f:FuncId} {fn:Func} {c:Code} {rvs:List ResultVar} {n:Nat} (hf:P.funcs[f]? =some fn) (hb:fn.body=some c)
  (hres:fn.results=rvs.toArray) (hn:fn.ntmps=n) (hcall:∀(us:Array Value) (w:World),(callFunc f us).run P w= .ok (.enter f us) w) {args:List Arg} {post:List RF->List (List RO)->Prop}
  (h:bQ T P c (cR n args) (kp T rvs (aU 0 args) post)):ae P f args post:=
 yf hT hm hf hb hres hn hcall (λ _=>cR n args) (λ _=>True) (λ _ _ _ hh=>⟨0,trivial,hh⟩) λ _ _=>h
end
section
variable {P:Program} {cx:Cx} {T:Nat->Option TI} {v:List AV} {r:Rs} {a:Act} {w:World} {β:Nat->Nat->Pl}
section
variable {cx:Cx} {r:Rs} {β:Nat->Nat->Pl} {ob:List (Nat×Nat)} {rw':List (Nat×Nat×Value)} {dd:List Deferred}
mutual
theorem aw.gI:∀{c:C} {u:Value},aw cx w r β c u->aw {cx with Obj:=ob,Row:=rw',ds:=dd} w r β c u
 | .d _,_,h=>by simp only[aw]at h⊢;exact h
 | .aJ n ds,_,h=>by simp only[aw]at h⊢;exact h
 | .own hd lo n,u,h=>by simp only[aw]at h⊢;exact h
 | .ptr hd off,u,h=>by simp only[aw]at h⊢;exact h
 | .dP ds,_,h=>by simp only[aw]at h⊢;exact h
 | .eP f caps,_,h=>by simp only[aw]at h⊢;obtain⟨us,h1,h2⟩:=h;exact⟨us,h1,aC.gI h2⟩
 | .ab,_,h=>by simpa only[aw]using h
 | .dead,_,_=>by simp[aw]
 | .dZ cs,u,h=>by simp only[aw]at h⊢;obtain⟨b,o,us,h1,h2,h3,h4,h5⟩:=h;exact⟨b,o,us,h1,h2,h3,h4,aC.gI h5⟩
 | .cZ hd lo n k,u,h=>by simp only[aw]at h⊢;exact h
 | .lk hd n x,u,h=>by simp only[aw]at h⊢;exact h
theorem aC.gI:∀{c:List C} {u:List Value},aC cx w r β c u->aC {cx with Obj:=ob,Row:=rw',ds:=dd} w r β c u
 |[],_,h=>by simpa[aC]using h
 |c::cs,_,h=>by simp only[aC]at h⊢;obtain⟨u,us,h1,h2,h3⟩:=h;exact⟨u,us,h1,aw.gI h2,aC.gI h3⟩
end
mutual
theorem aA.gI:∀{c:AV} {u:Value},aA cx w r β c u->aA {cx with Obj:=ob,Row:=rw',ds:=dd} w r β c u
 | .one _,_,h=>by simp only[aA]at h⊢;exact h.gI
 | .agg l,_,h=>by simp only[aA]at h⊢;obtain⟨us,h1,h2⟩:=h;exact⟨us,h1,h2.gI⟩
 | .eY l,_,h=>by simp only[aA]at h⊢;obtain⟨us,h1,h2⟩:=h;exact⟨us,h1,aZ.gI h2⟩
 | .gd c y,_,h=>by simp only[aA]at h⊢;exact⟨λ hc=>aA.gI (h.1 hc),h.2⟩
theorem aZ.gI:∀{c:List AV} {u:List Value},aZ cx w r β c u->aZ {cx with Obj:=ob,Row:=rw',ds:=dd} w r β c u
 |[],_,h=>by simpa[aZ]using h
 |c::cs,_,h=>by simp only[aZ]at h⊢;obtain⟨u,us,h1,h2,h3⟩:=h;exact⟨u,us,h1,aA.gI h2,aZ.gI h3⟩
end
theorem bB.gI {pl:Pl} {res:aY} (h:bB cx w r β pl res):bB {cx with Obj:=ob,Row:=rw',ds:=dd} w r β pl res:=by
 unfold bB at h⊢;split
 .rename_i hv;rw[ay hv]at h;obtain⟨h0,b,c,e,h1,h2,h3,h4⟩:=h;exact⟨h0,b,c,e,h1,h2,h3.gI,h4⟩
 .rename_i hv;rw[ar hv]at h;exact h
end
def FM (x:Value) (e:Ex) (g:G):Prop:=
 match e with
 | .panic y=>y=x
 |_=>False
theorem uo {x y:Value} {g:G}:FM x (.panic y) g=(y=x):=rfl
theorem JL (hT:bF P T) (hm:P.follows .mixedOrders=true) {f:FuncId} {fn:Func} {c:Code} {n:Nat} (hf:P.funcs[f]? =some fn) (hb:fn.body=some c)
  (hn:fn.ntmps=n) (hcall:∀(us:Array Value) (w:World),(callFunc f us).run P w= .ok (.enter f us) w) {args:List Arg} {x:Value}
  (h:bQ T P c (cR n args) (FM x)):ni P f args x:=by
 refine⟨hcall,λ w A0 aL γ bs us hA hB ha hnb hnd hap=> ?_⟩;refine calls_of_wp hf hb ?_;have h0:=pE (n:=n) ha hA hB hnb hnd hap;have hact:({tmps:=us.toArray++Array.replicate (fn.ntmps - us.toArray.size) undef,defers:=[]}:Act)={tmps:=us.toArray++Array.replicate (n - us.length) undef,defers:=[]}:=by rw[hn];simp
 rw[hact];refine oL (cx:=eZ P w A0 aL args bs) hT hm c _ _ _ (λ e g a w' hh hq=> ?_) h _ _ ⟨_,h0⟩;cases e with
 |panic y=>
  obtain⟨β,hh⟩:=hh;cases(show y=x from hq);exact⟨hh.df,rfl,hh.n0,hh.ba,hh.os,hh.out⟩
 |normal=>exact hq.elim
 |ret=>exact hq.elim
 |exit id=>exact hq.elim
theorem B' (hT:bF cx.P T) {fn:Func} {rvs:List ResultVar} {post:List RF->List (List RO)->Prop} (hres:fn.results=rvs.toArray) {g:G} (hh:cP cx g a w) (hc:fM T rvs [] post g):
  ∃v,(results fn a.tmps).run cx.P w= .ok v w/\∃rfs objs u,post rfs objs/\Ending.returned v= .returned u/\dc cx.w0 cx.A0 cx.aL w [] rfs objs u:=by
 obtain⟨v,r⟩:=g;obtain⟨β,hh⟩:=hh;obtain⟨g1,g2⟩:=hc;obtain⟨vs,k1,k2⟩:=pU hT hh g1;refine⟨jO vs,rv hres k1, ?_⟩;unfold oO at g2;split at g2
 .rename_i rfs cs q1 q2;split at g2
  .rename_i objs q3;refine⟨rfs,objs,jO vs,g2.2,rfl, ?_⟩;exact sQ hh (A1:=cx.A0) (λ b hb=> .inl hb) k2 rfl q1 (pN q2) q3 g2.1 (by simp[cy]) (λ s j res b o _ _ _ _ hm=>by simp[b9]at hm)
  .exact g2.elim
 .exact g2.elim
def th (n:Nat) (ks:List Nat):List AV:=(List.range n).map λ i=>if ks.contains i then .one (.ptr ⟨i,0,0⟩ 0)else .one .dead
def kQ (nw:Nat->List Value):List Nat->Rs
 |[]=>[]
 |k::ks=>(k,{next:=1,l:=[some {e:=0,var:=true,fz:=false,sz:=0,cells:=(nw k).map λ x=> .d (.v x)}]})::kQ nw ks
def iT (n:Nat) (ks:List Nat) (nw:Nat->List Value):G:=⟨th n ks,kQ nw ks⟩
def nk (sz:Nat->Nat) (g:G):List Nat->Prop
 |[]=>True
 |k::ks=>(∃res,g.v[k]? =some (.one (.ptr ⟨k,0,0⟩ 0))/\aK g.r ⟨k,0,0⟩=some res/\res.var=true/\res.cw=false/\res.cells.length=sz k)/\nk sz g ks
theorem pF {sz:Nat->Nat} {g:G}:∀{ks:List Nat},nk sz g ks->∀k∈ks,∃res,g.v[k]? =some (.one (.ptr ⟨k,0,0⟩ 0))/\aK g.r ⟨k,0,0⟩=some res/\res.var=true/\res.cw=false/\res.cells.length=sz k
 |[],_,k,hk=>by simp at hk
 |k'::ks,h,k,hk=>by
  rcases cL.1 hk with rfl|hk
  .exact h.1
  .exact pF h.2 k hk
def wh (T:Nat->Option TI) (rvs:List ResultVar) (n:Nat) (ks:List Nat) (sz:Nat->Nat) (nw:Value->Nat->List Value) (Px:Value->Prop) (post:List RF->List (List RO)->Prop) (e:Ex) (g:G):Prop:=
 match e with
 | .normal=>fM T rvs [] post g
 | .ret=>fM T rvs [] post g
 | .exit _=>False
 | .panic x=>Px x/\g.v.length=n/\nk sz g ks/\fM T rvs [] post (iT n ks (nw x))
theorem p8 {rvs:List ResultVar} {n:Nat} {ks:List Nat} {sz:Nat->Nat} {nw:Value->Nat->List Value} {Px:Value->Prop} {post:List RF->List (List RO)->Prop} {g:G}:wh T rvs n ks sz nw Px post .ret g=fM T rvs [] post g:=rfl
theorem oa {rvs:List ResultVar} {n:Nat} {ks:List Nat} {sz:Nat->Nat} {nw:Value->Nat->List Value} {Px:Value->Prop} {post:List RF->List (List RO)->Prop} {g:G} {x:Value}:
  wh T rvs n ks sz nw Px post (.panic x) g=(Px x/\g.v.length=n/\nk sz g ks/\fM T rvs [] post (iT n ks (nw x))):=rfl
def oQ (P:Program) (fc:FuncId) (k:Nat):Prop:=
 ∀(us:Array Value) (w:World),us.size=k->CallsD P fc us .returning w λ e u' w'=>e= .returned (.tuple #[])/\u'= .returning/\mE w fI w'
def oJ (P:Program) (fc:FuncId) (ks:List Nat) (sz:Nat->Nat) (nw:Value->Nat->List Value) (Px:Value->Prop):Prop:=
 ∀(x:Value) (bl:Nat->Nat) (w:World),Px x->(∀k∈ks,∃c e,w.heap[bl k]? =some (.cells c e (0,0))/\c.size=sz k/\∀u∈c.toList,flat u=true)->(∀k∈ks,∀k'∈ks,bl k=bl k'->k=k')->
  CallsD P fc (ks.map λ k=>dg (bl k)).toArray (.panicking [{v:=x,recovered:=false}]) w λ e u' w'=>e= .returned (.tuple #[])/\u'= .panicking [{v:=x,recovered:=true}]/\
   w.heap.size≤w'.heap.size/\(∀b,b<w.heap.size->(∀k∈ks,bl k≠b)->w'.heap[b]? =w.heap[b]?)/\
   (∀k∈ks,∃e,w'.heap[bl k]? =some (.cells (nw x k).toArray e (0,0))/\∀u∈nw x k,flat u=true)/\w'.os=w.os/\w'.output=w.output
theorem yD {nw:Nat->List Value} {s:Nat}:∀{ks:List Nat} {rs:RS},ah s (kQ nw ks)=some rs->s∈ks/\rs={next:=1,l:=[some {e:=0,var:=true,fz:=false,sz:=0,cells:=(nw s).map λ x=> .d (.v x)}]}
 |[],rs,h=>by simp[kQ,ah]at h
 |k::ks,rs,h=>by
  simp only[kQ,ah]at h;split at h
  .rename_i hk;subst hk;cases h;exact⟨by simp,rfl⟩
  .obtain⟨h1,h2⟩:=yD h;exact⟨by simp[h1],h2⟩
theorem rT {nw:Nat->List Value} {s:Nat}:∀{ks:List Nat},s∈ks->ah s (kQ nw ks)=some {next:=1,l:=[some {e:=0,var:=true,fz:=false,sz:=0,cells:=(nw s).map λ x=> .d (.v x)}]}
 |[],h=>by simp at h
 |k::ks,h=>by
  simp only[kQ,ah];split
  .rename_i hk;subst hk;rfl
  .rename_i hk;rcases cL.1 h with rfl|h
   .exact absurd rfl hk
   .exact rT h
theorem rH {nw:Nat->List Value} {ks:List Nat} {s j:Nat} {res:aY} (h:aB (kQ nw ks) s j=some res):s∈ks/\j=0/\res={e:=0,var:=true,fz:=false,sz:=0,cells:=(nw s).map λ x=> .d (.v x)}:=by
 unfold aB at h;cases hf:ah s (kQ nw ks)with
 |none=>rw[hf]at h;cases h
 |some rs=>
  rw[hf]at h;obtain⟨h1,rfl⟩:=yD hf;cases j with
  |zero=>simp at h;exact⟨h1,rfl,h.symm⟩
  |succ j=>simp at h
theorem ya {r:Rs}:∀{us:List Value},(∀u∈us,flat u=true)->aC cx w r β (us.map λ x=> .d (.v x)) us
 |[],_=>by simp[aC]
 |u::us,h=>by simp only[cJ,aC];exact⟨u,us,rfl,eH.2 ⟨rfl,h u (by simp)⟩,ya λ x hx=>h x (by simp[hx])⟩
theorem Nf (h:aH cx ⟨v,r⟩ a w β) {ks:List Nat} {sz:Nat->Nat} {nw:Nat->List Value} {bl:Nat->Nat} {w':World} (hob:∀k∈ks,(k,bl k)∈cx.Obj)
  (hkp:nk sz ⟨v,r⟩ ks) (hobj:∀p b,(p,b)∈cx.Obj->p∈ks/\b=bl p) (hrow:cx.Row=[]) (hsz:w.heap.size≤w'.heap.size)
  (hold:∀b,b<w.heap.size->(∀k∈ks,bl k≠b)->w'.heap[b]? =w.heap[b]?)
  (hnw:∀k∈ks,∃e,w'.heap[bl k]? =some (.cells (nw k).toArray e (0,0))/\∀u∈nw k,flat u=true) (hos:w'.os=w.os) (hout:w'.output=w.output):
  cP cx (iT v.length ks nw) a w':=by
 have hbase:∀k∈ks,(β k 0).base=some (bl k,0)/\∃res,aB r k 0=some res/\res.fz=false/\res.cw=false:=λ k hk=>by obtain⟨res,g1,g2,g3,g4,_⟩:=pF hkp k hk;refine⟨(h.ob k (bl k) (hob k hk)).2 res g2,res,(bq g2).1, ?_,g4⟩;have:=(h.rs _ _ _ (bq g2).1).1;unfold bB at this;rw[ay g3]at this;exact this.1
 refine⟨β,⟨?_,h.df,λ i x hi=> ?_,λ s j res hl=> ?_,λ s j res s' j' res' b o o' hl hf hl' hf' hb hb'=> ?_,λ s j res b o hl hf hb=> ?_,gl h.n0 hsz,λ b hb hn=> ?_,h.a0,h.cw,λ p b hm=> ?_,λ p n u hm=> ?_,hos.trans h.os,hout.trans h.out⟩⟩
 .rw[h.sz];simp[iT,th]
 .have hi2:=hi;simp only[iT,th,fl]at hi;cases hr:(List.range v.length)[i]? with
  |none=>rw[hr]at hi;cases hi
  |some i'=>
   rw[hr]at hi;obtain⟨hlt,rfl⟩:=bJ.1 hr;simp only[qu]at hlt;simp only[List.getElem_range,fE,aQ]at hi;by_cases hc:ks.contains i=true
   .rw[ay hc]at hi;subst hi;have hk:i∈ks:=by simpa using hc
    obtain⟨res,g1,g2,_⟩:=pF hkp i hk;obtain⟨u,e1,e2⟩:=h.sl i _ g1;refine⟨u,e1, ?_⟩;simp only[aA,aw]at e2⊢;refine⟨e2.1, ?_,λ res' hg=> ?_⟩
    .unfold aq;simp only[iT];rw[rT hk];simp
    .exact e2.2.2 res g2
   .rw[ar hc]at hi;subst hi;obtain⟨u,hu⟩:∃u,a.tmps[i]? =some u:=⟨a.tmps[i]'(by have:=h.sz;simp only at this;omega),Array.getElem?_eq_getElem _⟩;exact⟨u,hu,by simp[aA,aw]⟩
 .obtain⟨hk,rfl,rfl⟩:=rH hl;obtain⟨e,g1,g2⟩:=hnw s hk;refine⟨?_,by unfold aq;simp only[iT];rw[rT hk];simp⟩;unfold bB;rw[ay rfl];exact⟨rfl,bl s,_,e,(hbase s hk).1,g1,ya g2,λ u hu=>g2 u (by simpa using hu)⟩
 .obtain⟨hk,rfl,rfl⟩:=rH hl;obtain⟨hk',rfl,rfl⟩:=rH hl';obtain⟨fT,p1,p2,_⟩:=(hbase s hk).2;obtain⟨res2,p3,p4,_⟩:=(hbase s' hk').2;exact h.inj _ _ _ _ _ _ _ _ _ p1 p2 p3 p4 hb hb'
 .obtain⟨hk,rfl,rfl⟩:=rH hl;obtain⟨fT,p1,p2,p3⟩:=(hbase s hk).2;have:=h.fr _ _ _ _ _ p1 p2 hb;exact⟨this.1,λ _=>this.2 p3⟩
 .rw[hold b (dI hb h.n0) λ k hk hkb=> ?_]
  .exact h.ba b hb hn
  .obtain⟨hb1,fT,p1,p2,_⟩:=hbase k hk;rcases(h.fr _ _ _ _ _ p1 p2 hb1).1 with h1|h1
   .omega
   .rw[hkb]at h1;exact hn h1
 .obtain⟨hk,rfl⟩:=hobj p b hm;refine⟨by unfold aq;simp only[iT];rw[rT hk];simp,λ _ _=>(hbase p hk).1⟩
 .rw[hrow]at hm;simp at hm
theorem vJ {k:Nat} {A0 aL:Nat->Prop} {γ:Nat->Pl}:∀{xs:List AV} {bs:List cr} {us:List Value} {p:Nat},aW P w A0 aL γ k (xs.map Arg.f) bs us->bs=[]/\aU p (xs.map Arg.f)=[]
 |[],bs,us,p,h=>by simp only[ff,aW]at h;exact⟨h.2,rfl⟩
 |x::xs,bs,us,p,h=>by simp only[cJ,aW]at h;obtain⟨u,us',_,_,h3⟩:=h;obtain⟨h4,_⟩:=vJ (p:=p) h3;refine⟨h4, ?_⟩;simp only[cJ,aU];exact(vJ (p:=p+1) h3).2
theorem kz (hT:bF P T) (hm:P.follows .mixedOrders=true) {f fc:FuncId} {fn:Func} {i0 i1 tq n:Nat} {ops0:Array Oper} {mf df:Oper} {ts:Array TypeId} {rest:Code} {rvs:List ResultVar} {ks:List Nat}
  (hf:P.funcs[f]? =some fn) (hb:fn.body=some (.seq (.region i0 ops0 false) (.seq (.region i1 #[mf,df] false) rest)))
  (hres:fn.results=rvs.toArray) (hn:fn.ntmps=n) (hcall:∀(us:Array Value) (w:World),(callFunc f us).run P w= .ok (.enter f us) w)
  (hcallc:∀(us:Array Value) (w:World),(callFunc fc us).run P w= .ok (.enter fc us) w)
  (hmf:mf.op= .makeFunc (.func fc) #[] (ks.map Operand.tmp).toArray) (hmd:mf.dst=some tq) (hmg:mf.guard=none)
  (hdf:df.op= .defer ⟨.value (.tmp tq), #[],ts⟩) (hdd:df.dst=none) (hdg:df.guard=none) (hks:tq ∉ ks) (htq:tq<n)
  {xs:List AV} {post:List RF->List (List RO)->Prop} {sz:Nat->Nat} {nw:Value->Nat->List Value} {Px:Value->Prop} (hidle:oQ P fc ks.length) (hcatch:oJ P fc ks sz nw Px)
  (G0:G) (h0:bQ T P (.region i0 ops0 false) (cR n (xs.map Arg.f)) (lP (λ g=>Gh g G0) λ _ _=>False)) (hG0:nk sz G0 ks) (hl0:G0.v.length=n)
  (h1:bQ T P rest ⟨G0.v.set tq (.one .dead),G0.r⟩ (wh T rvs n ks sz nw Px post)):ae P f (xs.map Arg.f) post:=by
 refine⟨hcall,λ w A0 aL γ bs us hA hB ha hnb hnd hap=> ?_⟩;obtain⟨rfl,hpos⟩:=vJ (p:=0) ha;refine calls_of_wp_defers hf hb ?_;have hop:=pE (n:=n) ha hA hB hnb hnd hap;have hact:({tmps:=us.toArray++Array.replicate (fn.ntmps - us.toArray.size) undef,defers:=[]}:Act)={tmps:=us.toArray++Array.replicate (n - us.length) undef,defers:=[]}:=by rw[hn];simp
 rw[hact];refine wp_seq (oL (cx:=eZ P w A0 aL (xs.map Arg.f) []) hT hm _ _ _ _ (λ e g a w1 hh hq=> ?_) h0 _ _ ⟨_,hop⟩);cases e with
 |exit id=>exact hq.elim
 |ret=>exact hq.elim
 |panic x=>exact hq.elim
 |normal=>
  obtain⟨β1,hh1⟩:=(show Gh g G0 from hq) _ _ _ hh;obtain⟨v0,r0⟩:=G0;simp only at hl0 h1
  -- where the results' cells lie
  let bl:Nat->Nat:=λ k=>match (β1 k 0).base with|some (b,_)=>b|none=>0
  have hbl:∀k∈ks,(β1 k 0).base=some (bl k,0)/\a.tmps[k]? =some (dg (bl k))/\0<aq r0 k/\∃res,aB r0 k 0=some res/\res.e=0:=λ k hk=>by obtain⟨res,g1,g2,g3,g4,g5⟩:=pF hG0 k hk;obtain⟨hl,he⟩:=bq g2;have hok:=(hh1.rs _ _ _ hl).1;unfold bB at hok;rw[ay g3]at hok;obtain⟨_,b,c,e,k1,_⟩:=hok;simp only at k1;obtain⟨u,e1,e2⟩:=hh1.sl k _ g1;simp only[aA,aw]at e2;obtain⟨_,e3,e4⟩:=e2;obtain⟨b',o',e5,e6⟩:=e4 res g2;rw[k1]at e5;cases e5;refine⟨by simp only[bl];rw[k1], ?_,e3,res,hl,he⟩;rw[e1,e6];simp only[bl,k1]
  let d:Deferred:={target:= .fn (.func fc) (ks.map λ k=>dg (bl k)).toArray,args:= #[]}
  let cx1:Cx:={P,w0:=w,A0,aL,Obj:=ks.map λ k=>(k,bl k),ds:=[d]}
  have hcaps:((ks.map Operand.tmp).toArray).map a.eval=(ks.map λ k=>dg (bl k)).toArray:=by
   simp only[List.map_toArray,oW];congr 1;refine List.map_congr_left λ k hk=> ?_
   simp only[Function.comp_apply,Act.eval];have:=(hbl k hk).2.1;simp[Array.getD_eq_getD_getElem?,this]
  have hdf0:a.defers=[]:=hh1.df
  -- the closure is made,and deferred
  refine wp_seq (wp_region ?_);have hrg:List.range (#[mf,df]:Array Oper).size=[0,1]:=rfl;rw[hrg,wpOps_cons];have hi0:([mf,df]:List Oper).toArray[0]? =some mf:=rfl;have hi1:([mf,df]:List Oper).toArray[1]? =some df:=rfl;refine jr (cx:=cx1) (all:=[mf,df]) hi0 (n7 hmg) ?_;unfold Oper.wp;have hr0:(execOp a.eval mf).run P w1= .ok (.value (.func (.func fc) #[] (ks.map λ k=>dg (bl k)).toArray)) w1:=by simp[execOp,hmf,hcaps,Instr.makeFunc]
  rw[hr0,Oper.upon_value,hmd,wpOps_cons];refine jr (cx:=cx1) (all:=[mf,df]) hi1 (n7 hdg) ?_;unfold Oper.wp;have hsz:a.tmps.size=n:=by rw[hh1.sz];exact hl0
  have hev:(a.put (some tq) (.func (.func fc) #[] (ks.map λ k=>dg (bl k)).toArray)).eval (.tmp tq)= .func (.func fc) #[] (ks.map λ k=>dg (bl k)).toArray:=by simp[Act.eval,Act.put,hsz,htq]
  have hr1:(execOp (a.put (some tq) (.func (.func fc) #[] (ks.map λ k=>dg (bl k)).toArray)).eval df).run P w1= .ok (.defer d) w1:=by simp only[execOp,hdf,resolve,hev];simp[Deferred.ofValue,d]
  rw[hr1,Oper.upon_defer,hdd];simp only[wpOps];show rest.wp P _ _ w1;have hh2:aH cx1 ⟨v0.set tq (.one .dead),r0⟩ ({(a.put (some tq) (.func (.func fc) #[] (ks.map λ k=>dg (bl k)).toArray))with defers:=d::(a.put (some tq) (.func (.func fc) #[] (ks.map λ k=>dg (bl k)).toArray)).defers}.put none undef) w1 β1:=by
   refine⟨?_, ?_,λ i x hi=> ?_,λ s j res hl=>⟨(hh1.rs s j res hl).1.gI,(hh1.rs s j res hl).2⟩,hh1.inj,hh1.fr,hh1.n0,hh1.ba,hh1.a0,hh1.cw,λ p b hm=> ?_,λ p q u hm=>by simp[cx1]at hm,hh1.os,hh1.out⟩
   .simp[Act.put,hsz,hl0]
   .simp[Act.put,hdf0,cx1]
   .simp only[kl]at hi;by_cases hi':tq=i
    .subst hi';rw[ay rfl,ay (by rw[hl0];exact htq)]at hi;cases hi;exact⟨_,by simp only[Act.put];rw[Array.getElem?_setIfInBounds_self];rw[ay (by rw[hsz];exact htq)],by simp[aA,aw]⟩
    .rw[ar hi']at hi;obtain⟨u,e1,e2⟩:=hh1.sl i x hi;refine⟨u, ?_,e2.gI⟩;simp only[Act.put];rw[Array.getElem?_setIfInBounds_ne hi'];exact e1
   .simp only[cx1,kM]at hm;obtain⟨k,hk,hm⟩:=hm;injection hm with e1 e2
    subst e1 e2;obtain⟨q1,_,q3,_⟩:=hbl k hk;exact⟨q3,λ _ _=>q1⟩
  refine oL (cx:=cx1) hT hm rest _ _ _ (λ e g a' w' hh hq=> ?_) h1 _ _ ⟨β1,hh2⟩;have hobk:∀k∈ks,(k,bl k)∈cx1.Obj:=λ k hk=>kM.2 ⟨k,hk,rfl⟩
  have hdf1:a'.defers=[d]:=by obtain⟨β',hh⟩:=hh;exact hh.df
  have hsize1:w.heap.size≤w'.heap.size:=by obtain⟨β',hh⟩:=hh;exact hh.n0
  have hinv:(invoke d.target d.args).run P w'= .ok (.enter fc (ks.map λ k=>dg (bl k)).toArray) w':=by simp only[d,invoke];have:=hcallc (ks.map λ k=>dg (bl k)).toArray w';simpa using this
  have hend:∀{g:G},cP cx1 g a' w'->fM T rvs [] post g->Leaves P fn a'.tmps (λ e w'=>∃rfs objs u,post rfs objs/\e= .returned u/\dc w A0 aL w' [] rfs objs u) [d] .returning w':=λ {g} hg hq=>by
   refine leaves_cons (by simp) hinv ((hidle _ w' (by simp)).mono ?_)
   rintro e u' w'' ⟨rfl,rfl,hp⟩
   obtain⟨v1,r1⟩:=g;obtain⟨β',hg⟩:=hg;obtain⟨val,q1,q2⟩:=B' (cx:=cx1) hT hres ⟨β',yW hg hp⟩ hq;exact⟨val,q1,q2⟩
  cases e with
  |exit id=>exact hq.elim
  |normal=>
   show Leaves P fn a'.tmps _ a'.defers .returning w';rw[hdf1];exact hend hh hq
  |ret=>
   show Leaves P fn a'.tmps _ a'.defers .returning w';rw[hdf1];exact hend hh hq
  |panic x=>
   obtain⟨hx,hlen,hkp,hq⟩:=hq;show Leaves P fn a'.tmps _ a'.defers (.panicking [{v:=x,recovered:=false}]) w';rw[hdf1];obtain⟨v1,r1⟩:=g;obtain⟨β',hg⟩:=hh;have hblk:∀k∈ks,(β' k 0).base=some (bl k,0)/\∃res,aB r1 k 0=some res/\res.fz=false/\∃c e,w'.heap[bl k]? =some (.cells c e (0,0))/\c.size=sz k/\∀u∈c.toList,flat u=true:=λ k hk=>by obtain⟨res,g1,g2,g3,g4,g5⟩:=pF hkp k hk;obtain⟨hl,he⟩:=bq g2;have hok:=(hg.rs _ _ _ hl).1;unfold bB at hok;rw[ay g3]at hok;obtain⟨q0,b,c,e,k1,k2,k3,k4⟩:=hok;have hb1:=(hg.ob k (bl k) (hobk k hk)).2 res g2;simp only at k1;rw[hb1]at k1;cases k1;refine⟨hb1,res,hl,q0,c,e,k2, ?_,k4⟩;rw[←g5,←iM];exact i9 k3
   refine leaves_cons (by simp) hinv ((hcatch x bl w' hx (λ k hk=>(hblk k hk).2.choose_spec.2.2) (λ k hk k' hk' hb=> ?_)).mono ?_)
   .obtain⟨p1,res,p2,p3,_⟩:=hblk k hk;obtain⟨p4,res',p5,p6,_⟩:=hblk k' hk';rw[hb]at p1;exact(hg.inj _ _ _ _ _ _ _ _ _ p2 p3 p5 p6 p1 p4).1
   .rintro e u' w'' ⟨rfl,rfl,s1,s2,s3,s4,s5⟩
    show Leaves P fn a'.tmps _ [] (settle (.panicking [{v:=x,recovered:=true}])) w''
    have hc:=Nf (cx:=cx1) hg (nw:=nw x) (bl:=bl) hobk hkp (λ p b hm=>by simp only[cx1,kM]at hm;obtain⟨k,hk,hm⟩:=hm;cases hm;exact⟨hk,rfl⟩) rfl s1 s2 s3 s4 s5
    simp only at hc hlen;rw[hlen]at hc;obtain⟨val,q1,q2⟩:=B' (cx:=cx1) hT hres hc hq;exact⟨val,q1,q2⟩
end
set_option maxRecDepth 100000
theorem Bf:iV []=true:=rfl
theorem BO {x:Nat×Nat}:iV [x]=true:=rfl
theorem Gv:type_of% (I (I (I (I (@Go.Pk.xF) (I (@Go.Pk.Ag) (@Go.Pk.za))) (I (I (@Go.Pk.Bf) (@Go.Pk.BO)) (I (@Go.Pk.fM.eq_def) (@Go.Pk.oO.eq_def)))) (I (I (I (@Go.Pk.qk.eq_def) (@Go.Pk.tN.eq_def)) (I (@Go.Pk.pn.eq_def) (@Go.Pk.kE.eq_def))) (I (I (@Go.Pk.nO.eq_def) (@Go.Pk.cR.eq_def)) (I (@Go.Pk.gZ.eq_1) (@Go.Pk.gZ.eq_2))))) (I (I (I (@Go.Pk.iO.eq_1) (I (@Go.Pk.iO.eq_2) (@Go.Pk.dV.eq_1))) (I (I (@Go.Pk.dV.eq_2) (@Go.Pk.ez.eq_1)) (I (@Go.Pk.ez.eq_2) (@Go.Pk.gi.eq_1)))) (I (I (I (@Go.Pk.gi.eq_2) (@Go.Pk.gX.eq_1)) (I (@Go.Pk.gX.eq_2) (@Go.Pk.gX.eq_3))) (I (I (@Go.Pk.gX.eq_4) (@Go.Pk.gg.eq_1)) (I (@Go.Pk.gg.eq_2) (@Go.Pk.gg.eq_3)))))):=I (I (I (I (@Go.Pk.xF) (I (@Go.Pk.Ag) (@Go.Pk.za))) (I (I (@Go.Pk.Bf) (@Go.Pk.BO)) (I (@Go.Pk.fM.eq_def) (@Go.Pk.oO.eq_def)))) (I (I (I (@Go.Pk.qk.eq_def) (@Go.Pk.tN.eq_def)) (I (@Go.Pk.pn.eq_def) (@Go.Pk.kE.eq_def))) (I (I (@Go.Pk.nO.eq_def) (@Go.Pk.cR.eq_def)) (I (@Go.Pk.gZ.eq_1) (@Go.Pk.gZ.eq_2))))) (I (I (I (@Go.Pk.iO.eq_1) (I (@Go.Pk.iO.eq_2) (@Go.Pk.dV.eq_1))) (I (I (@Go.Pk.dV.eq_2) (@Go.Pk.ez.eq_1)) (I (@Go.Pk.ez.eq_2) (@Go.Pk.gi.eq_1)))) (I (I (I (@Go.Pk.gi.eq_2) (@Go.Pk.gX.eq_1)) (I (@Go.Pk.gX.eq_2) (@Go.Pk.gX.eq_3))) (I (I (@Go.Pk.gX.eq_4) (@Go.Pk.gg.eq_1)) (I (@Go.Pk.gg.eq_2) (@Go.Pk.gg.eq_3)))))
theorem He:type_of% (I (I (I (I (@Go.Pk.gg.eq_4) (@Go.Pk.gg.eq_5)) (I (@Go.Pk.dJ.eq_1) (I (@Go.Pk.dJ.eq_2) (@Go.Pk.dJ.eq_3)))) (I (I (@Go.Pk.dJ.eq_4) (@Go.Pk.dJ.eq_5)) (I (@Go.Pk.fW.eq_1) (I (@Go.Pk.fW.eq_2) (@Go.Pk.fW.eq_3))))) (I (I (I (@Go.Pk.aX.eq_1) (@Go.Pk.aX.eq_2)) (I (@Go.Pk.aX.eq_3) (I (@Go.Pk.aX.eq_4) (@Go.Pk.aX.eq_5)))) (I (I (@Go.Pk.aU.eq_1) (@Go.Pk.aU.eq_2)) (I (@Go.Pk.aU.eq_3) (I (@Go.Pk.aU.eq_4) (@Go.Pk.aU.eq_5)))))):=I (I (I (I (@Go.Pk.gg.eq_4) (@Go.Pk.gg.eq_5)) (I (@Go.Pk.dJ.eq_1) (I (@Go.Pk.dJ.eq_2) (@Go.Pk.dJ.eq_3)))) (I (I (@Go.Pk.dJ.eq_4) (@Go.Pk.dJ.eq_5)) (I (@Go.Pk.fW.eq_1) (I (@Go.Pk.fW.eq_2) (@Go.Pk.fW.eq_3))))) (I (I (I (@Go.Pk.aX.eq_1) (@Go.Pk.aX.eq_2)) (I (@Go.Pk.aX.eq_3) (I (@Go.Pk.aX.eq_4) (@Go.Pk.aX.eq_5)))) (I (I (@Go.Pk.aU.eq_1) (@Go.Pk.aU.eq_2)) (I (@Go.Pk.aU.eq_3) (I (@Go.Pk.aU.eq_4) (@Go.Pk.aU.eq_5)))))
set_option maxRecDepth 100000
theorem F8:type_of% (I (I (I (I (I (HQ) (I (HN) (GJ))) (I (GU) (I (G7) (Hi)))) (I (I (Hh) (I (GM) (Hx))) (I (I (Hk) (FC)) (I (Gv) (He))))) (I (I (I (@xD) (I (@zm) (@AM))) (I (@lZ) (I (@zA) (@Aq)))) (I (I (@l4) (I (@xJ) (@zh))) (I (I (@z9) (@l5)) (I (@List.append_eq.{0}) (@de.{0})))))) (I (I (I (I (@iq.{0}) (I (bC) (eV))) (I (bH) (I (bL) (kh)))) (I (I (iQ) (I (np) (Bool.or_false))) (I (I (nJ) (Bool.true_or)) (I (Bool.or_true) (ko))))) (I (I (I (oY) (I (@Nat.zero_lt_succ) (@List.zip_nil_left.{0,0}))) (I (I (@List.zip_nil_right.{0,0}) (gQ)) (I (pK.eq_1) (@fB.{1})))) (I (I (@eB.{1}) (I (@km.{0}) (@imp_self))) (I (I (@gw.{1}) (@not_false_eq_true)) (I (@kN.{0}) (true_implies))))))):=I (I (I (I (I (HQ) (I (HN) (GJ))) (I (GU) (I (G7) (Hi)))) (I (I (Hh) (I (GM) (Hx))) (I (I (Hk) (FC)) (I (Gv) (He))))) (I (I (I (@xD) (I (@zm) (@AM))) (I (@lZ) (I (@zA) (@Aq)))) (I (I (@l4) (I (@xJ) (@zh))) (I (I (@z9) (@l5)) (I (@List.append_eq.{0}) (@de.{0})))))) (I (I (I (I (@iq.{0}) (I (bC) (eV))) (I (bH) (I (bL) (kh)))) (I (I (iQ) (I (np) (Bool.or_false))) (I (I (nJ) (Bool.true_or)) (I (Bool.or_true) (ko))))) (I (I (I (oY) (I (@Nat.zero_lt_succ) (@List.zip_nil_left.{0,0}))) (I (I (@List.zip_nil_right.{0,0}) (gQ)) (I (pK.eq_1) (@fB.{1})))) (I (I (@eB.{1}) (I (@km.{0}) (@imp_self))) (I (I (@gw.{1}) (@not_false_eq_true)) (I (@kN.{0}) (true_implies))))))
theorem Gh.refl {g:G}:Gh g g:=λ _ _ _ h=>h
theorem Gh.trans {g g' g'':G} (h:Gh g g') (h':Gh g' g''):Gh g g'':=λ cx a w hh=>h' cx a w (h cx a w hh)
def fH:List AV->List AV->Prop
 |[],[]=>True
 |x::xs,y::ys=>(y= .one .dead∨x=y)/\fH xs ys
 |_,_=>False
theorem oH:fH [] []=True:=rfl
theorem ov {x:AV} {xs ys:List AV}:fH (x::xs) (.one .dead::ys)=fH xs ys:=by simp[fH]
theorem oA {x:AV} {xs ys:List AV}:fH (x::xs) (x::ys)=fH xs ys:=by simp[fH]
theorem Bk:∀{v v':List AV},fH v v'->v'.length=v.length/\∀(i:Nat) (y:AV),v'[i]? =some y->y= .one .dead∨v[i]? =some y
 |[],[],_=>⟨rfl,λ i y h=>by simp at h⟩
 |x::xs,y::ys,h=>by
  obtain⟨h1,h2⟩:=h;obtain⟨g1,g2⟩:=Bk h2;refine⟨by simp[g1],λ i z hz=> ?_⟩;cases i with
  |zero=>
   simp only[bZ,aQ]at hz;subst hz;exact h1.imp id λ e=>by simp[e]
  |succ i=>simpa using g2 i z (by simpa using hz)
 |[],_::_,h=>h.elim
 |_::_,[],h=>h.elim
theorem Gh.fH {v v':List AV} {r:Rs} (h:fH v v'):Gh ⟨v,r⟩ ⟨v',r⟩:=λ cx a w ⟨β,hh⟩=>by
 obtain⟨h1,h2⟩:=Bk h;refine⟨β,{hh with sz:=by rw[hh.sz];exact h1.symm,sl:=λ i x hi=> ?_}⟩;rcases h2 i x hi with rfl|h3
 .have hlt:i<a.tmps.size:=by rw[hh.sz];simp only;rw[←h1];exact(bJ.1 hi).1
  exact⟨a.tmps[i],Array.getElem?_eq_getElem hlt,by simp[aA,aw]⟩
 .exact hh.sl i x h3
section
variable {T:Nat->Option TI} {P:Program}
theorem ag {b:Bool} {x y:Code} {g:G} {Q:Ex->G->Prop} (h1:b=true->bQ T P x g Q) (h2:b=false->bQ T P y g Q):o9 T P (.one (.d (.v (.bool b)))) True x y g Q:=
 ⟨trivial,h1,h2⟩
theorem aE {all:List Oper} {m:M} {rest:List Oper} {dst:Option Nat} {v:List AV} {r:Rs} {K:Ex->G->Prop} {n:FuncId} {as:List Arg} {rfs:List RF}
  (h:ae P n as (λ r o=>r=rfs/\o=[])) (hk:aP T P all m rest (bz v dst (dx r dst rfs).1) (dx r dst rfs).2 K) {f:Operand} {args:Array Operand}:mg T P all m rest dst v r K f args (some (n,as)):=
 .inl ⟨rfs,λ _=>h,hk⟩
theorem jc (i:Nat) {all:List Oper} {m:M} {rest:List Oper} {dst:Option Nat} {v:List AV} {r:Rs} {K:Ex->G->Prop} {n:FuncId} {ars:List Arg} {mv:Mv} {aJ:List Nat} {rfs:List RF} {l':List RO}
  {f:Operand} {args:Array Operand} {a:Option (FuncId×List Arg)} (hc:dL i v r f args=some (n,ars,mv,aJ)) (h:ae P n ars (λ r o=>r=rfs/\o=[l'])) (hs:bA r dst mv aJ l')
  (hk:aP T P all (fu dst mv.s m) rest (bz v dst (bindM r dst mv rfs l').1) (bindM r dst mv rfs l').2 K):mg T P all m rest dst v r K f args a:=
 .inr (.inl ⟨i,by rw[hc];exact⟨rfs,l',h,hs,hk⟩⟩)
theorem oD {all:List Oper} {m:M} {rest:List Oper} {d:Nat} {v:List AV} {r:Rs} {K:Ex->G->Prop} {n:FuncId} {as:List Arg} {rfs:List RF} {l:List RO} {f:Operand} {args:Array Operand}
  (h:gy P n as rfs l) (hk:aP T P all (fu (some d) (d+pK) m) rest (bz v (some d) (c7 r d rfs l).1) (c7 r d rfs l).2 K):mg T P all m rest (some d) v r K f args (some (n,as)):=
 .inr (.inr (.inr (.inl ⟨d,rfl,rfs,l,h,hk⟩)))
theorem rQ (i:Nat) {all:List Oper} {m:M} {rest:List Oper} {dst:Option Nat} {v:List AV} {r:Rs} {K:Ex->G->Prop} {n:FuncId} {ars:List Arg} {mv:Mv} {aJ:List Nat} {l':List RO} {x:Value}
  {f:Operand} {args:Array Operand} {a:Option (FuncId×List Arg)} (hc:dL i v r f args=some (n,ars,mv,aJ)) (h:ni P n ars x) (hs:bA r none mv aJ l') (hm:m.fp=none)
  (hk:K (.panic x) ⟨v,lG r mv⟩):mg T P all m rest dst v r K f args a:=
 .inr (.inr (.inr (.inr (.inl ⟨hm,n,ars,x,h, .inr ⟨i,mv,aJ,l',hc,hs,hk⟩⟩))))
theorem aG {f:Operand} {args:Array Operand} {j:Nat} {want:Bool} {all:List Oper} {m:M} {rest:List Oper} {c:Bool} {dst:Option Nat} {v:List AV} {r:Rs} {K:Ex->G->Prop} {n:FuncId} {as:List Arg} {rfs:List RF}
  (h:c=true->ae P n as (λ r o=>r=rfs/\o=[])) (hn:fR (rfs.flatMap RF.cells)=true) (hk:aP T P all m rest (bz v dst (.gd c (hP (fx 0 0 0 rfs)))) r K):
  sW T P all m rest c dst v r K f args j want (some (n,as)):=
 .inl ⟨rfs,h,hn,hk⟩
theorem aj {f:Operand} {args:Array Operand} {j:Nat} {want:Bool} {all:List Oper} {m:M} {rest:List Oper} {dst:Option Nat} {v:List AV} {r:Rs} {K:Ex->G->Prop} {a:Option (FuncId×List Arg)} (hk:aP T P all m rest (bz v dst kO) r K):
  sW T P all m rest false dst v r K f args j want a:= .inr (.inl ⟨rfl,hk⟩)
theorem aD {f:Operand} {args:Array Operand} {j:Nat} {want:Bool} {all:List Oper} {m:M} {rest:List Oper} {dst:Option Nat} {v:List AV} {r:Rs} {K:Ex->G->Prop} {a:Option (FuncId×List Arg)} (h:mg T P all m rest dst v r K f args a):
  sW T P all m rest true dst v r K f args j want a:= .inr (.inr ⟨λ _=>h,λ h=>(by cases h)⟩)
end
theorem wrap64 {n:Int} (h1: -9223372036854775808≤n) (h2:n<9223372036854775808):IntKind.i64.wrap n=n:=by unfold IntKind.wrap;simp[IntKind.bits,IntKind.signed];omega
theorem Ai {l:List Oper} (h:qU l=true):tB l:=h
theorem vO {a:List Oper} {b:List FP} (h:nA a b=true):nA a b=true:=h
theorem Ci {l:List Nat} {n:Nat} (h:l=List.range n):l=List.range n:=h
def mo:IntKind->Nat
 | .i8=>1| .i16=>2| .i32=>3| .i64=>4| .u8=>5| .u16=>6| .u32=>7| .u64=>8
mutual
def lO (P:Program):Nat->Nat->Option (List Nat)
 |0,_=>none
 |d+1,t=>match P.underlying t with
  |some .bool=>some [9]
  |some .string=>some [10]
  |some (.int k)=>if mo k=0 then none else some [mo k]
  |some (.struct fs)=>if P.stoodInHeld t then none else match (P.info? t).map (·.size),pj P d fs.toList 0 with
   |some n,some ks=>if ks.length=n then some ks else none
   |_,_=>none
  |_=>none
def pj (P:Program):Nat->List Field->Nat->Option (List Nat)
 |_,[],_=>some []
 |0,_::_,_=>none
 |d+1,f::fs,off=>if f.name= "_" ∨f.offset≠off then none else match lO P d f.type with
  |some ks=>match pj P d fs (off+ks.length)with
   |some l=>some (ks++l)
   |none=>none
  |none=>none
end
theorem A2 {v:Value} {k:IntKind} (h0:mo k≠0) (h:cI v=mo k):∃n,v= .int k n:=by
 cases v with
 |int k' n=>cases k<;>cases k'<;>first|(exact⟨n,rfl⟩)|(simp[cI,mo]at h h0)
 |bool b=>cases k<;>simp[cI,mo]at h h0
 |string b=>cases k<;>simp[cI,mo]at h h0
 |_=>cases k<;>simp[cI,mo]at h h0
theorem zi {v:Value} (h:cI v=9):∃n,v= .bool n:=by
 cases v with
 |bool b=>exact⟨b,rfl⟩
 |int k n=>cases k<;>simp[cI]at h
 |_=>simp[cI]at h
theorem xB {v:Value} (h:cI v=10):∃n,v= .string n:=by
 cases v with
 |string b=>exact⟨b,rfl⟩
 |int k n=>cases k<;>simp[cI]at h
 |_=>simp[cI]at h
theorem xI:∀{a b c d:List Value},a.length=b.length->ek (a++c) (b++d)=(ek a b&&ek c d)
 |[],[],_,_,_=>by simp[ek]
 |x::a,y::b,c,d,h=>by simp[ek,xI (a:=a) (b:=b) (c:=c) (d:=d) (by simpa using h),Bool.and_assoc]
def iU (P:Program) (t:Nat) (l:List Value):Value:=
 match P.underlying t with
 |some (.struct _)=> .agg l.toArray
 |_=>l.headD undef
variable {P:Program}
theorem A9 {d t off:Nat} {ks:List Nat} {xs:List Value} {w:World} (h:lO P d t=some ks) (hx:(xs.drop off).length≥ks.length):
  (part t xs.toArray off).run P w= .ok (iU P t ((xs.drop off).take ks.length)) w:=by
 cases d with
 |zero=>simp[lO]at h
 |succ d=>
  have basic:∀{td:TypeDesc},P.underlying t=some td->ks.length=1->(∀fs,td≠ .struct fs)->(∀n e,td≠ .array n e)->(part t xs.toArray off).run P w= .ok (iU P t ((xs.drop off).take ks.length)) w:=λ {td} hu hl h1 h2=>by
   have hlt:off<xs.length:=by rw[hl]at hx;simp at hx;omega
   have hag:(isAgg t).run P w= .ok false w:=by unfold isAgg;rw[gA,qA hu,fo];cases td<;>first|rfl|exact absurd rfl (h1 _)|exact absurd rfl (h2 _ _)
   unfold part;rw[gA,hag,fo];have e1:xs.toArray[off]? =some xs[off]:=by simp[hlt]
   have e2:iU P t ((xs.drop off).take ks.length)=xs[off]:=by
    unfold iU;rw[hu,hl];have:(xs.drop off).take 1=[xs[off]]:=by rw[kn hlt];rfl
    rw[this];cases td<;>first|rfl|exact absurd rfl (h1 _)
   simp[e1,e2]
  simp only[lO]at h;split at h
  .rename_i hu;cases h;exact basic hu rfl (by simp) (by simp)
  .rename_i hu;cases h;exact basic hu rfl (by simp) (by simp)
  .rename_i k hu;split at h
   .cases h
   .cases h;exact basic hu rfl (by simp) (by simp)
  .rename_i fs hu;split at h
   .cases h
   .split at h
    .rename_i n ks' h1 h2;split at h
     .rename_i hn;cases h;have hag:(isAgg t).run P w= .ok true w:=by unfold isAgg;rw[gA,qA hu,fo];rfl
      obtain⟨i,hi,hi2⟩:=gE.1 h1;have hsz:(sizeOf t).run P w= .ok n w:=by simp[sizeOf,typeInfo,hi,hi2]
      unfold part;rw[gA,hag,fo];simp only[fB,gA,hsz,fo,ke];unfold iU;rw[hu,hn];congr 2;apply gk;simp[List.extract_eq_take_drop]
     .cases h
    .cases h
  .cases h
mutual
theorem Bp:∀{d t:Nat} {ks:List Nat} {xs ys:List Value} {w:World} {D:Nat},d≤D->lO P d t=some ks->xs.map cI=ks->ys.map cI=ks->
  (Op.equalIn D t (iU P t xs) (iU P t ys)).run P w= .ok (ek xs ys) w
 |0,t,ks,xs,ys,w,D,_,h,_,_=>by simp[lO]at h
 |d+1,t,ks,xs,ys,w,0,hD,h,hx,hy=>by omega
 |d+1,t,ks,xs,ys,w,D+1,hD,h,hx,hy=>by
  have one:∀{k:Nat} {zs:List Value},zs.map cI=[k]->∃z,zs=[z]/\cI z=k:=λ {k zs} hz=>by
   cases zs with
   |nil=>simp at hz
   |cons z zs=>
    cases zs with
    |nil=>exact⟨z,rfl,by simpa using hz⟩
    |cons _ _=>simp at hz
  simp only[lO]at h;split at h
  .rename_i hu;cases h;obtain⟨x,rfl,hx'⟩:=one hx;obtain⟨y,rfl,hy'⟩:=one hy;obtain⟨a,rfl⟩:=zi hx';obtain⟨b,rfl⟩:=zi hy';simp only[iU,hu,List.headD_cons];rw[run_equalIn_bool' w D t a b hu];simp[ek,pv]
  .rename_i hu;cases h;obtain⟨x,rfl,hx'⟩:=one hx;obtain⟨y,rfl,hy'⟩:=one hy;obtain⟨a,rfl⟩:=xB hx';obtain⟨b,rfl⟩:=xB hy';simp only[iU,hu,List.headD_cons];rw[run_equalIn_string w D t a b hu];simp[ek,pv]
  .rename_i k hu;split at h
   .cases h
   .rename_i h0;cases h;obtain⟨x,rfl,hx'⟩:=one hx;obtain⟨y,rfl,hy'⟩:=one hy;obtain⟨a,rfl⟩:=A2 h0 hx';obtain⟨b,rfl⟩:=A2 h0 hy';simp only[iU,hu,List.headD_cons];rw[run_equalIn_int w D t k k a b hu];simp[ek,pv]
  .rename_i fs hu;split at h
   .cases h
   .rename_i hst;split at h
    .rename_i n ks' h1 h2;split at h
     .cases h;have hf:P.fieldsOf t=fs:=by unfold Program.fieldsOf;rw[hu]
      simp only[iU,hu];rw[run_equalIn_struct w D t _ _ (by rw[hf];exact hu) (by simpa using hst),hf];have:=Bm (d:=d) (D:=D) (w:=w) (pre:=[]) (pre':=[]) (by omega) h2 rfl rfl hx hy;simpa using this
     .cases h
    .cases h
  .cases h
theorem Bm:∀{d:Nat} {fs:List Field} {off:Nat} {ks:List Nat} {pre pre' xs ys:List Value} {w:World} {D:Nat},d≤D->pj P d fs off=some ks->pre.length=off->pre'.length=off->
  xs.map cI=ks->ys.map cI=ks->(Op.eqFields D (pre++xs).toArray (pre'++ys).toArray fs).run P w= .ok (ek xs ys) w
 |d,[],off,ks,pre,pre',xs,ys,w,D,_,h,_,_,hx,hy=>by simp only[pj,aQ]at h;subst h;simp only[List.map_eq_nil_iff]at hx hy;subst hx hy;simp[Op.eqFields,ek]
 |0,f::fs,off,ks,pre,pre',xs,ys,w,D,_,h,_,_,hx,hy=>by simp[pj]at h
 |d+1,f::fs,off,ks,pre,pre',xs,ys,w,D,hD,h,hp,hp',hx,hy=>by
  simp only[pj]at h;split at h
  .cases h
  .rename_i hno;simp only[jh,Decidable.not_not]at hno;split at h
   .rename_i k1 h1;split at h
    .rename_i k2 h2;cases h;have hxl:xs.length=k1.length+k2.length:=by have:=congrArg List.length hx;simpa using this
     have hyl:ys.length=k1.length+k2.length:=by have:=congrArg List.length hy;simpa using this
     have hx1:(xs.take k1.length).map cI=k1:=by rw[nL,hx];simp
     have hy1:(ys.take k1.length).map cI=k1:=by rw[nL,hy];simp
     have hx2:(xs.drop k1.length).map cI=k2:=by rw[lF,hx];simp
     have hy2:(ys.drop k1.length).map cI=k2:=by rw[lF,hy];simp
     have e1:(part f.type (pre++xs).toArray f.offset).run P w= .ok (iU P f.type (xs.take k1.length)) w:=by rw[hno.2,←hp];have:=A9 (w:=w) (xs:=pre++xs) (off:=pre.length) h1 (by simp;omega);simpa using this
     have e2:(part f.type (pre'++ys).toArray f.offset).run P w= .ok (iU P f.type (ys.take k1.length)) w:=by rw[hno.2,←hp'];have:=A9 (w:=w) (xs:=pre'++ys) (off:=pre'.length) h1 (by simp;omega);simpa using this
     have e3:=Bp (w:=w) (D:=D) (by omega) h1 hx1 hy1;have e4:=Bm (w:=w) (D:=D) (pre:=pre++xs.take k1.length) (pre':=pre'++ys.take k1.length) (xs:=xs.drop k1.length) (ys:=ys.drop k1.length) (by omega) h2
      (by simp[hp];omega) (by simp[hp'];omega) hx2 hy2
     rw[jg,jg,oU,oU]at e4;have hsplit:ek xs ys=(ek (xs.take k1.length) (ys.take k1.length)&&ek (xs.drop k1.length) (ys.drop k1.length)):=by rw[←xI (by simp;omega),oU,oU]
     rw[hsplit];unfold Op.eqFields;rw[ay hno.1];simp only[gA,e1,e2,e3,fo];cases ek (xs.take k1.length) (ys.take k1.length)with
     |true=>simpa using e4
     |false=>simp
    .cases h
   .cases h
end
def wX (P:Program) (t:Nat):Bool:=
 match lO P 64 t,nN P [] t with
 |some ks,some ti=>decide (ti.zero.map cI=ks)&& !P.eqGuardType P.depth t&&ph ti.desc
 |_,_=>false
theorem M8 {eqs:List Nat} (h:∀t∈eqs,wX P t=true):bF P (nN P eqs):=by
 intro t ti ht;refine⟨ME ht,λ he xs ys w hx hy=> ?_⟩;have ht':=ht;unfold nN at ht';split at ht'
 .rename_i i d hi hd;split at ht'
  .rename_i z hz;split at ht'
   .rename_i hfl;cases ht';simp only[qG,eo]at he;have hb:=h t he;unfold wX at hb;split at hb
    .rename_i ks ti' h1 h2;unfold nN at h2;rw[hi,hd]at h2;simp only[hz]at h2;rw[ay hfl]at h2;cases h2;simp only[cu,eo,jF]at hb;obtain⟨⟨g1,g2⟩,g3⟩:=hb;have hst:∃fs,d= .struct fs:=by
      unfold lO at h1;rw[hd]at h1;cases d with
      |struct fs=>exact⟨fs,rfl⟩
      |array n e=>simp at h1
      |_=>simp[c8,ph]at g3
     obtain⟨fs,rfl⟩:=hst;refine⟨λ o x y _=>run_eqGuard_agg w o t x y _ _ g2, ?_⟩;have:=Bp (w:=w) (D:=10000) (by omega) h1 (hx.trans g1) (hy.trans g1);simp only[iU,hd]at this;exact this
    .cases hb
   .cases ht'
  .cases ht'
 .cases ht'
inductive Sh where
 |bool
 |int (k:IntKind)
 |str
 |slice (by_:Nat) (s:Sh)
 |struct (l:List Sh)
mutual
def Sh.size:Sh->Nat
 | .struct l=>Sh.lI l
 | .bool=>1
 | .int _=>1
 | .str=>1
 | .slice _ _=>1
def Sh.lI:List Sh->Nat
 |[]=>0
 |s::l=>s.size+Sh.lI l
end
mutual
def dr:Sh->List D->Prop
 | .bool,ds=>∃b,ds=[.v (.bool b)]
 | .int k,ds=>∃n,ds=[.v (.int k n)]/\(Lit.int k n).wf=true
 | .str,ds=>∃s:ByteArray,ds=[.v (.string s)]/\s.size≤reachBytes
 | .slice b s,ds=>∃xs:List (List D),ds=[.sl xs.length xs.flatten]/\xs.length*b≤reachBytes/\∀x∈xs,dr s x
 | .struct l,ds=>la l ds
def la:List Sh->List D->Prop
 |[],ds=>ds=[]
 |s::l,ds=>∃a b,ds=a++b/\dr s a/\la l b
end
mutual
theorem dr.len:∀{s:Sh} {ds:List D},dr s ds->ds.length=s.size
 | .bool,_,h=>by simp only[dr]at h;obtain⟨b,rfl⟩:=h;rfl
 | .int k,_,h=>by simp only[dr]at h;obtain⟨n,rfl,_⟩:=h;rfl
 | .str,_,h=>by simp only[dr]at h;obtain⟨n,rfl,_⟩:=h;rfl
 | .slice b s,_,h=>by simp only[dr]at h;obtain⟨xs,rfl,_⟩:=h;rfl
 | .struct l,_,h=>by simp only[dr]at h;simp only[Sh.size];exact la.len h
theorem la.len:∀{l:List Sh} {ds:List D},la l ds->ds.length=Sh.lI l
 |[],_,h=>by simp only[la]at h;subst h;rfl
 |s::l,_,h=>by simp only[la]at h;obtain⟨a,b,rfl,h1,h2⟩:=h;simp only[b6,Sh.lI,h1.len,h2.len]
end
mutual
def lV (P:Program):Nat->TypeId->Option Sh
 |0,_=>none
 |n+1,t=>match P.underlying t with
  |some .bool=>some .bool
  |some (.int k)=>some (.int k)
  |some .string=>some .str
  |some (.slice e)=>match lV P n e with
   |some s=>if P.cellsOf e=s.size/\s.size≠0 then some (.slice (P.bytesOf e) s)else none
   |none=>none
  |some (.struct fs)=>match nR P n fs.toList 0 with
   |some l=>if P.cellsOf t=Sh.lI l then some (.struct l)else none
   |none=>none
  |_=>none
def nR (P:Program):Nat->List Field->Nat->Option (List Sh)
 |_,[],_=>some []
 |0,_::_,_=>none
 |n+1,f::fs,off=>match lV P n f.type with
  |some s=>if f.offset=off/\P.cellsOf f.type=s.size then match nR P n fs (off+s.size)with
    |some l=>some (s::l)
    |none=>none
   else none
  |none=>none
end
def jV (w:World) (ds:List D) (cs:List Value):Prop:=
 ds.length=cs.length/\∀(k:Nat) (d:D),ds[k]? =some d->∃u,cs[k]? =some u/\Rd w (λ _=>False) d u
theorem jV.append {w:World} {a b:List D} {cs ds:List Value} (h:jV w a cs) (h':jV w b ds):jV w (a++b) (cs++ds):=by
 refine⟨by simp[h.1,h'.1],λ k d hk=> ?_⟩;by_cases hlt:k<a.length
 .rw[cj hlt]at hk;rw[cj (by rw[←h.1];exact hlt)];exact h.2 k d hk
 .rw[ct (by omega)]at hk;rw[ct (by rw[←h.1];omega),←h.1];exact h'.2 _ d hk
theorem jV.one {w:World} {d:D} {u:Value} (h:Rd w (λ _=>False) d u):jV w [d] [u]:=
 ⟨rfl,λ k d' hk=>by cases k with
  |zero=>simp only[bZ,aQ]at hk;subst hk;exact⟨u,rfl,h⟩
  |succ k=>simp at hk⟩
theorem NQ {w:World} {a:Addr} {u:Value} (h:w.cell? a=some u):a.spot=none:=by
 unfold World.cell? at h;split at h
 .cases hs:a.spot with
  |none=>rfl
  |some _=>simp[hs]at h
 .cases h
theorem M1 (a:Addr) (i j:Nat):(a.add i).add j=a.add (i+j):=by unfold Addr.add;by_cases hi:i=0<;>by_cases hj:j=0<;>simp[hi,hj];omega
theorem Cv {w:World}:∀{ds:List D} {a:Addr} {cs:List Value},jV w ds cs->(∀(i:Nat) u,cs[i]? =some u->w.cell? (a.add i)=some u)->gn w (λ _=>False) ds (some a)
 |[],_,_,_,_=>trivial
 |d::ds,a,cs,h,hc=>by
  obtain⟨u,h1,h2⟩:=h.2 0 d rfl;have hc0:=hc 0 u h1;simp only[Addr.add,fB]at hc0;have hs:=NQ hc0;obtain⟨b,o,sp⟩:=a;simp only at hs;subst hs;simp only[gn];refine⟨b,o,u,rfl,λ h=>h,hc0,h2, ?_⟩;cases cs with
  |nil=>simp at h1
  |cons c cs=>
   refine Cv (cs:=cs) ⟨by simpa using h.1,λ k d' hk=> ?_⟩ (λ i u' hi=> ?_)
   .have:=h.2 (k+1) d' (by simpa using hk);simpa using this
   .have:=hc (i+1) u' (by simpa using hi);unfold Addr.add at this⊢;simp only[Nat.succ_ne_zero,Nat.add_one_ne_zero,eB]at this;by_cases hi0:i=0
    .subst hi0;simpa using this
    .simp only[hi0,eB];rw[show o+1+i=o+(i+1) by omega];exact this
variable {H:Type} {enc:TypeId×Value->H} {P:Program} {w:World} {base:Nat} {sp:Nat->Bool} {held:Bool}
theorem xL {e:TypeId}:∀{ds:List (DataW H)} {d:DataW H},d∈ds->∀x∈DataW.weights P e d,x∈DataW.weightsAll P e ds
 |[],d,h=>by simp at h
 |d'::ds,d,h=>λ x hx=>by
  simp only[DataW.weightsAll,eE];rcases cL.1 h with rfl|h
  .exact .inl hx
  .exact .inr (xL h x hx)
theorem Iq {α:Type} {l:List α} {o n:Nat} (h:o+n≤l.length):(l.drop o).take n++l.drop (o+n)=l.drop o:=by rw[←List.drop_drop];exact oU n (l.drop o)
theorem JC:∀(n:Nat),
  (∀(t:TypeId) (s:Sh),lV P n t=some s->∀(fuel:Nat) (cs:List Value) (d:DataW H) (ps:List MemPlace),DataW.trod enc P w base sp held fuel t cs=some (d,ps)->
   (∀x∈DataW.weights P t d,x≤reachBytes)->∃ds,dr s ds/\jV w ds cs)/\
  (∀(fs:List Field) (off:Nat) (l:List Sh),nR P n fs off=some l->∀(fuel:Nat) (cs:List Value) (xs:List (DataW H×List MemPlace)),xs.length=fs.length->off+Sh.lI l=cs.length->
   (∀(i:Nat) (f:Field),fs[i]? =some f->DataW.trod enc P w base sp held fuel f.type ((cs.drop f.offset).take (P.cellsOf f.type))=xs[i]?)->
   (∀x∈DataW.weightsEach P (fs.map (·.type)) (xs.map (·.1)),x≤reachBytes)->∃ds,la l ds/\jV w ds (cs.drop off)):=by
 intro n;induction n with
 |zero=>
  refine⟨λ t s h=>by simp[lV]at h,λ fs off l h fuel cs xs hx hl hf hw=> ?_⟩;cases fs with
  |nil=>
   simp only[nR,aQ]at h;subst h;simp only[Sh.lI,eV]at hl;refine⟨[],rfl, ?_⟩;rw[hl,pb];exact⟨rfl,λ k d hk=>by simp at hk⟩
  |cons f fs=>simp[nR]at h
 |succ n ih=>
  refine⟨λ t s h fuel cs d ps ht hw=> ?_,λ fs off l h fuel cs xs hx hl hf hw=> ?_⟩
  .unfold lV at h;split at h
   .rename_i hu;cases h;obtain⟨b,rfl,e⟩:=DataW.trod_bool hu ht;exact⟨[.v (.bool b)],⟨b,rfl⟩, .one (by simp only[Rd];exact⟨trivial,rfl⟩)⟩
   .rename_i k hu;cases h;obtain⟨m,rfl,e,hwf⟩:=DataW.trod_int hu ht;exact⟨[.v (.int k m)],⟨m,rfl,hwf⟩, .one (by simp only[Rd];exact⟨trivial,rfl⟩)⟩
   .rename_i hu;cases h;obtain⟨b,rfl,e,hb⟩:=DataW.trod_string hu ht;cases e;refine⟨[.v (.string b)],⟨b,rfl, ?_⟩, .one (by simp only[Rd];exact⟨trivial,rfl⟩)⟩;have:=hw b.data.toList.length (by simp[DataW.weights]);simpa using this
   .rename_i e hu;split at h
    .rename_i s' hs;split at h
     .rename_i hcond;cases h;rcases DataW.trod_slice hu ht with⟨rfl,_⟩|⟨a,len,cap,elems,rest,m,rfl,rfl,e1,hb,hlc,hcm,hel,hget,_,_⟩
      .exact⟨[.sl 0 []],⟨[],rfl,by simp,λ x hx=>by simp at hx⟩, .one (by simp only[Rd,gn];exact⟨none,0,rfl,Nat.le_refl _,trivial⟩)⟩
      .cases e1;simp only[DataW.weights,hu]at hw;have hsz:=hw _ (List.mem_cons_self)
       -- each element
       have each:∀(k:Nat),k≤len->∃xs:List (List D),xs.length=k/\(∀x∈xs,dr s' x)/\∃cs:List Value,jV w xs.flatten cs/\∀(i:Nat) u,cs[i]? =some u->w.cell? (a.add i)=some u:=by
        intro k;induction k with
        |zero=>intro _;exact⟨[],rfl,λ x hx=>by simp at hx,[],⟨rfl,λ k d hk=>by simp at hk⟩,λ i u hi=>by simp at hi⟩
        |succ k ihk=>
         intro hk;obtain⟨xs,g1,g2,cs,g3,g4⟩:=ihk (by omega);have hg:=hget k (by omega);have hkl:k<elems.length:=by omega
         rw[eC hkl]at hg;obtain⟨cs',h1,h2⟩:=nz.1 hg;obtain⟨_,c1,c2⟩:=World.cells?_some h1;obtain⟨ds,k1,k2⟩:=ih.1 e s' hs m cs' elems[k].1 elems[k].2 h2 (λ x hx=>hw x (List.mem_cons_of_mem _ (me _ (xL (kM.2 ⟨elems[k],ix hkl,rfl⟩) x hx))));refine⟨xs++[ds],by simp[g1],λ x hx=> ?_,cs++cs', ?_,λ i u hi=> ?_⟩
         .rcases eE.1 hx with hx|hx
          .exact g2 x hx
          .simp only[ji]at hx;subst hx;exact k1
         .rw[List.flatten_append];simpa using g3.append k2
         .have hlen:∀(ys:List (List D)),(∀x∈ys,dr s' x)->ys.flatten.length=ys.length*s'.size:=by
           intro ys;induction ys with
           |nil=>intro _;simp
           |cons y ys ihy=>
            intro hy;rw[gC,b6,ihy (λ x hx=>hy x (by simp[hx])),(hy y (by simp)).len,de,cQ];omega
          have hcl:cs.length=k*s'.size:=by rw[←g3.1,hlen xs g2,g1]
          by_cases hi2:i<cs.length
          .rw[cj hi2]at hi;exact g4 i u hi
          .rw[ct (by omega)]at hi;have hi3:i - cs.length<P.cellsOf e:=by rw[←c1];exact(bJ.1 hi).1
           have:=c2 (i - cs.length) hi3;rw[hi,M1,hcond.1]at this;rw[show i=k*s'.size+(i - cs.length) by omega];exact this
       obtain⟨xs,g1,g2,cs,g3,g4⟩:=each len (Nat.le_refl _);refine⟨[.sl xs.length xs.flatten],⟨xs,rfl, ?_,g2⟩, .one ?_⟩
       .refine gl (fe _ ?_) hsz;simp only[cF];omega
       .simp only[Rd];exact⟨some a,cap,by rw[g1],by omega,Cv g3 g4⟩
     .cases h
    .cases h
   .rename_i fs hu;split at h
    .rename_i l hs;split at h
     .rename_i hcell;cases h;obtain⟨xs,m,rfl,e1,hcl,hxl,hget⟩:=DataW.trod_struct hu ht;cases e1;simp only[DataW.weights,hu]at hw;obtain⟨ds,g1,g2⟩:=ih.2 fs.toList 0 l hs m cs xs (by simpa using hxl) (by rw[bC,hcl,hcell]) (λ i f hf=>hget i f (by simpa using hf)) (by simpa using hw);exact⟨ds,by simp only[dr];exact g1,by simpa using g2⟩
     .cases h
    .cases h
   .cases h
  .cases fs with
   |nil=>
    simp only[nR,aQ]at h;subst h;simp only[Sh.lI,eV]at hl;refine⟨[],rfl, ?_⟩;rw[hl,pb];exact⟨rfl,λ k d hk=>by simp at hk⟩
   |cons f fs=>
    simp only[nR]at h;split at h
    .rename_i s hs;split at h
     .rename_i hcond;split at h
      .rename_i l' hl';cases h;cases xs with
       |nil=>simp at hx
       |cons x xs=>
        simp only[Sh.lI]at hl;simp only[cJ,DataW.weightsEach]at hw;have h0:=hf 0 f rfl;simp only[bZ]at h0;obtain⟨da,k1,k2⟩:=ih.1 f.type s hs fuel _ x.1 x.2 h0 (λ y hy=>hw y (me _ hy));obtain⟨db,k3,k4⟩:=ih.2 fs (off+s.size) l' hl' fuel cs xs (by simpa using hx) (by omega) (λ i f' hf'=>by have:=hf (i+1) f' (by simpa using hf');simpa using this) (λ y hy=>hw y (nI _ hy));refine⟨da++db,by simp only[la];exact⟨da,db,rfl,k1,k3⟩, ?_⟩;have:=k2.append k4
        rwa[hcond.1,hcond.2,Iq (by omega)]at this
      .cases h
     .cases h
    .cases h
open Go.ChangeShapes Go.WideShapes Go.RowKit
def qC:Sh->List D->AV
 | .struct _,ds=> .agg (ds.map C.d)
 |_,[d]=> .one (.d d)
 |_,_=> .one .dead
def je:List Sh->List (List D)->List Arg
 |s::shs,ds::dss=> .f (qC s ds)::je shs dss
 |_,_=>[]
def mq:List Sh->List (List D)->Prop
 |[],[]=>True
 |s::shs,ds::dss=>dr s ds/\mq shs dss
 |_,_=>False
abbrev jn:Nat->Prop:=λ _=>False
section
variable {H:Type} {enc:TypeId×Value->H} {P:Program} {w:World} {base:Nat} {sp:Nat->Bool} {held:Bool}
theorem Cz {d:D} {u:Value} (h:Rd w jn d u):Rd w (Av (dt P w jn jn) [] β0) d u:=h.cg ⟨λ _ _ _=>rfl,λ b _ hb=>fX.1 hb⟩
theorem Bs:∀{ds:List D} {us:List Value},jV w ds us->aC (dt P w jn jn) w [] β0 (ds.map C.d) us
 |[],us,h=>by have:=h.1;simp only[ff,aC];exact gT this.symm
 |d::ds,us,h=>by
  cases us with
  |nil=>have:=h.1;simp at this
  |cons u us=>
   simp only[cJ,aC];obtain⟨u',h1,h2⟩:=h.2 0 d rfl;simp only[bZ,aQ]at h1;subst h1;exact⟨u,us,rfl,by simp only[aw];exact Cz h2,Bs ⟨by simpa using h.1,λ k d' hk=>by simpa using h.2 (k+1) d' (by simpa using hk)⟩⟩
theorem rE {d:D} {ds:List D} {u:Value} (h:jV w [d] [u]):aA (dt P w jn jn) w [] β0 (.one (.d d)) u:=by obtain⟨u',h1,h2⟩:=h.2 0 d rfl;simp only[bZ,aQ]at h1;subst h1;simp only[aA,aw];exact Cz h2
theorem NL {n:Nat} {t:TypeId} {s:Sh} (hs:lV P n t=some s) {v:Value} {d:DataW H} {ps:List MemPlace} (hv:Value.okWide P w .any base t v) (ht:DataW.Trod enc P w 0 sp held t v d ps)
  (hw:∀x∈DataW.weights P t d,x≤reachBytes):∃ds,dr s ds/\aA (dt P w jn jn) w [] β0 (qC s ds) v:=by
 obtain⟨fuel,ht⟩:=ht;obtain⟨ds,h1,h2⟩:=(JC n).1 t s hs fuel _ d ps ht hw;refine⟨ds,h1, ?_⟩;cases n with
 |zero=>simp[lV]at hs
 |succ n=>
  unfold lV at hs;split at hs
  .rename_i hu;cases hs;obtain⟨b,rfl⟩:=okWide_bool hu hv;have h3:=h1;simp only[dr]at h3;obtain⟨b',rfl⟩:=h3;exact rE (ds:=[]) h2
  .rename_i k hu;cases hs;obtain⟨b,rfl⟩:=okWide_int hu hv;have h3:=h1;simp only[dr]at h3;obtain⟨b',rfl,_⟩:=h3;exact rE (ds:=[]) h2
  .rename_i hu;cases hs;obtain⟨b,rfl⟩:=okWide_string hu hv;have h3:=h1;simp only[dr]at h3;obtain⟨b',rfl,_⟩:=h3;exact rE (ds:=[]) h2
  .rename_i e hu;obtain⟨a,len,cap,rfl⟩:=okWide_slice hu hv;split at hs
   .split at hs
    .cases hs;have h3:=h1;simp only[dr]at h3;obtain⟨xs,rfl,_⟩:=h3;exact rE (ds:=[]) h2
    .cases hs
   .cases hs
  .rename_i fs hu;obtain⟨cs,rfl,_⟩:=okWide_struct hu hv;split at hs
   .split at hs
    .cases hs;simp only[qC,aA];exact⟨cs,rfl,Bs h2⟩
    .cases hs
   .cases hs
  .cases hs
def ny (P:Program) (n:Nat):List TypeId->Option (List Sh)
 |[]=>some []
 |t::ts=>match lV P n t,ny P n ts with
  |some s,some l=>some (s::l)
  |_,_=>none
theorem BF {n:Nat} {γ:Nat->Pl}:∀{ts:List TypeId} {shs:List Sh} {vs:List Value} {ds:List (DataW H)} {ps:List MemPlace},ny P n ts=some shs->DataW.TrodAll enc P w 0 sp held ts vs ds ps->
  (∀(j:Nat) t v,ts[j]? =some t->vs[j]? =some v->Value.okWide P w .any base t v)->(∀x∈DataW.weightsEach P ts ds,x≤reachBytes)->
  ∃dss,mq shs dss/\aW P w jn jn γ 0 (je shs dss) [] vs
 |[],shs,vs,ds,ps,hs,ht,_,_=>by simp only[ny,aQ]at hs;subst hs;obtain⟨rfl,rfl,rfl⟩:=trodAll_nil ht;exact⟨[],trivial,by simp[je,aW]⟩
 |t::ts,shs,vs,ds,ps,hs,ht,hv,hw=>by
  simp only[ny]at hs;split at hs
  .rename_i s l g1 g2;cases hs;obtain⟨v,vs',d,ds',p,q,rfl,rfl,rfl,h1,h2⟩:=trodAll_cons ht;simp only[DataW.weightsEach]at hw;obtain⟨x,k1,k2⟩:=NL g1 (hv 0 t v rfl rfl) h1 (λ y hy=>hw y (me _ hy));obtain⟨xs,k3,k4⟩:=BF (γ:=γ) g2 h2 (λ j t' v' hj hj'=>hv (j+1) t' v' (by simpa using hj) (by simpa using hj')) (λ y hy=>hw y (nI _ hy));refine⟨x::xs,⟨k1,k3⟩, ?_⟩;simp only[je,aW];exact⟨v,vs',rfl,k2,k4⟩
  .cases hs
theorem uh:∀{shs:List Sh} {dss:List (List D)},bn (je shs dss)=[]
 |[],_=>by simp[je,bn]
 |_::_,[]=>by simp[je,bn]
 |_::shs,_::dss=>by simp[je,bn,uh (shs:=shs)]
theorem xi (hl:laidOutB P=true):∀{ts:List TypeId} {vs:List Value} {ds:List (DataW H)} {ps:List MemPlace},(∀t∈ts,P.readableRec t=true/\t<P.types.size)->∀{W W':World},DataW.TrodAll enc P W 0 (λ _=>true) true ts vs ds ps->
  (∀p∈ps,W.sameAt W' p)->∀{sp':Nat->Bool},(∀p∈ps,sp' p.block=true)->DataW.TrodAll enc P W' 0 sp' true ts vs ds ps
 |[],vs,ds,ps,_,W,W',h,_,sp',_=>by obtain⟨rfl,rfl,rfl⟩:=trodAll_nil h;rfl
 |t::ts,vs,ds,ps,hr,W,W',h,hsame,sp',hsp=>by
  obtain⟨v,vs',d,ds',p,q,rfl,rfl,rfl,h1,h2⟩:=trodAll_cons h;obtain⟨r1,r2⟩:=hr t (by simp)
  exact⟨p,q,WideElems.Trod_stays hl r1 r2 h1 (λ x hx=>hsame x (me _ hx)) (λ x hx=>hsp x (me _ hx)),
   xi hl (λ t' ht'=>hr t' (by simp[ht'])) h2 (λ x hx=>hsame x (nI _ hx)) (λ x hx=>hsp x (nI _ hx)),rfl⟩
theorem xv {f:FuncId} {fn:Func} {s:ChangeSpec} {shs:List Sh} {tb:TypeId} {n:Nat} (hsh:ny P n fn.params.toList=some shs) (hvars:s.vars=[])
  (hfn:∀(ds:List (DataW H)),ds.length=fn.params.size->(s.fn H ds).results=[.lit (.bool true)]/\(s.fn H ds).args=ds/\(s.fn H ds).vars=[]) (hres:fn.resultTypes= #[tb]) (htb:P.underlying tb=some .bool) (hl:laidOutB P=true)
  (hread:∀t∈fn.params.toList,P.readableRec t=true/\t<P.types.size)
  (hok:∀dss,mq shs dss->ae P f (je shs dss) (λ r o=>r=[.one (.d (.v (.bool true)))]/\o=[]))
  (W:World) (base:Nat) (args:Array Value) (ds gs:List (DataW H)) (before:List MemPlace)
  (hval:∀(j:Nat) t v,fn.params[j]? =some t->args[j]? =some v->Value.okWide P W .any base t v)
  (hW:DataW.Whole enc P fn.params.toList s.vars false W args.toList ds gs before)
  (hsz:(DataW.weightsEach P (fn.params.toList++s.plain.varTypes P) (ds++gs)).all (·≤reachBytes)=true):
  Calls P f args W λ e W'=>∃v,e= .returned v/\s.post enc P fn false true false false W args v W':=by
 have hW':=hW;obtain⟨p,q,hA,hV,rfl,hfz,hnd⟩:=hW;rw[hvars]at hV;obtain⟨rfl,rfl⟩:=trodVars_none hV;have hvt:s.plain.varTypes P=[]:=by have:s.plain.vars=[]:=hvars;simp[DataSpec.varTypes,this]
 rw[hvt,eU,eU]at hsz;have hlen:∀{ts:List TypeId} {vs:List Value} {ds:List (DataW H)} {ps:List MemPlace},DataW.TrodAll enc P W 0 (λ _=>true) true ts vs ds ps->ds.length=ts.length:=by
  intro ts;induction ts with
  |nil=>intro vs ds ps h;obtain⟨_,rfl,_⟩:=trodAll_nil h;rfl
  |cons t ts ih=>intro vs ds ps h;obtain⟨v,vs',d,ds',p,q,rfl,rfl,rfl,h1,h2⟩:=trodAll_cons h;simp[ih h2]
 obtain⟨f1,f2,f3⟩:=hfn ds (by rw[hlen hA];simp)
 obtain⟨dss,g1,g2⟩:=BF (n:=n) (γ:=λ _=>⟨none,0⟩) hsh hA (λ j t v hj hj'=>hval j t v (by simpa using hj) (by simpa using hj')) (λ x hx=>by have:=iu.1 hsz x hx;simpa using this)
 have hc:=(hok dss g1).2 W jn jn (λ _=>⟨none,0⟩) [] args.toList (λ b hb=>hb.elim) (λ b hb=>hb) g2 (by rw[uh];intro b hb;exact hb.elim) qF (by rw[uh];intro i j b o o' sz n ds bo sz' n' ds' bo' h1;simp at h1);simp only[nD]at hc;refine hc.mono λ e W' ⟨rfs,objs,u,⟨e1,e2⟩,e3,e4⟩=>⟨u,e3, ?_⟩
 subst e1 e2;obtain⟨⟨γ,us,m1,m2,_⟩,hsize,hold,hos,hout⟩:=e4;have hu:u= .bool true:=by simp only[dp,iG,cA,Rd]at m2;obtain⟨u1,us1,rfl,⟨rfl,_⟩,rfl⟩:=m2;simpa using m1
 subst hu;have hheap:∀b,b<W.heap.size->W'.heap[b]? =W.heap[b]? :=λ b hb=>hold b hb (λ h=>h)
 have hplace:∀x∈p,x.block<W.heap.size:=λ x hx=>by have:=hW'.lt x (by simpa using hx);simpa using this
 have hsame:∀x∈p,W.sameAt W' x:=λ x hx=>by
  have hb:=hheap x.block (hplace x hx);cases x with
  |cell b o=>exact World.cell?_of_block (w:=W) hb
  |map b=>exact hb
 refine⟨ds,[],p++[],[],p,[],by simpa using hW', ?_, ?_, ?_, ?_,λ h=>by cases h⟩
 .rw[eU,f1,hres];exact trodAll_mk1 (shut_bool htb _)
 .rw[eU,f2];exact xi hl hread hA hsame (λ x hx=>by simpa using hplace x hx)
 .rw[eU,f3,hvars];rfl
 .refine⟨hos,hout,λ i hi=> ?_⟩;rw[hheap i hi];split<;>simp_all
end
end Go.Pk
