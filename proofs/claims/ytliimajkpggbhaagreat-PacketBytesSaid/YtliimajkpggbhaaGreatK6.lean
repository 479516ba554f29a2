import Derived.Test.YtliimajkpggbhaaGreatK5
import Derived.Deep.LoopGhost
import Derived.Scope
import Derived.Defers
import Derived.Laws.StructEq
import Derived.ChangeArms
import Derived.ChangeShapes
import Derived.SizedLaws
import Derived.WideKeyArgs
import Derived.ChangeSame
import Derived.RowKit
import Derived.Carry
set_option linter.unusedVariables false
set_option linter.unusedSimpArgs false
set_option linter.unusedSectionVars false
namespace Go.Pk
section
variable {v v':List AV} {r r':Rs} {T:Nat->Option TI} {c:Bool} {cx:Cx} {a:Act} {w:World} {β:Nat->Nat->Pl} {all:List Oper} {Q:Exit->Act->World->Prop} {K:Ex->G->Prop}
theorem dJ.congr (h:dJ cx ⟨v,r⟩ a w) (hf:∀s,ao s r=ao s r'):dJ cx ⟨v,r'⟩ a w:=
 let ⟨β,h⟩:=h
 ⟨β,h.congr hf⟩
theorem xk (hT:cl cx.P T) (hQ:∀e g a w,dJ cx g a w->K e g->Q (qG e) a w):∀(rest:List Oper) (k:Nat) (m:M) (v:List AV) (r:Rs) (a:Act) (w:World),
  (∀j,rest[j]? =all[k+j]?)->bS T cx.P all m rest v r K->dJ cx ⟨v,r⟩ a w->wpOps cx.P all.toArray Q (List.range' k rest.length) a w
 |[],k,m,v,r,a,w,_,hk,h=>hQ .normal _ _ _ h hk.2
 |o::rest,k,m,v,r,a,w,hall,hk,h=>by
  have ho:all.toArray[k]? =some o:=by simpa using(hall 0).symm
  obtain⟨β,h⟩:=h;rw[cL,List.range'_succ,wpOps_cons];rcases Hp hT hk with⟨fp,x,r1,⟨h1,h2⟩,_,_,h3⟩|⟨_,hp|⟨v',r',fp,x,r1,off',himp,⟨h1,h2⟩,h3⟩⟩
  case inr.inl=>exact hp a w β h k Q _ ho (λ x g a w hg hk=>hQ (.panic x) g a w hg hk)
  case inr.inr=>
   obtain⟨β',h'⟩:=himp _ _ _ ⟨β,h⟩;refine wpOp_mono (λ a' w' hd=> ?_) (h2 v' r' (λ _ _=>rfl) (λ _ _ _=>rfl) (λ _ _=>rfl) a w β' h' k Q ho);obtain⟨r1',g1,g2,g3⟩:=hd;refine xk hT hQ rest (k+1) _ _ _ a' w' (λ j=> ?_) h3 (g1.congr λ s=> ?_)
   .have:=hall (j+1);simpa[ey,kT 1 j]using this
   .by_cases hs:s∈fp.w
    .exact g2 s hs
    .rw[g3 s hs,h1 s hs]
  refine wpOp_mono (λ a' w' hd=> ?_) (h2 v r (λ _ _=>rfl) (λ _ _ _=>rfl) (λ _ _=>rfl) a w β h k Q ho);obtain⟨r1',g1,g2,g3⟩:=hd;refine xk hT hQ rest (k+1) _ _ _ a' w' (λ j=> ?_) h3 (g1.congr λ s=> ?_)
  .have:=hall (j+1);simpa[ey,kT 1 j]using this
  .by_cases hs:s∈fp.w
   .exact g2 s hs
   .rw[g3 s hs,h1 s hs]
theorem VY (hT:cl cx.P T) (hQ:∀e g a w,dJ cx g a w->K e g->Q (qG e) a w) {ops:Array Oper} {id:Nat} {m:M} {g:G} (hk:bS T cx.P ops.toList m ops.toList g.v g.r K)
  (h:dJ cx g a w):(Code.region id ops false).wp cx.P Q a w:=by
 refine wp_region ?_;have:=xk hT hQ ops.toList 0 m g.v g.r a w (λ j=>by simp) hk h;simpa[AU]using this
section
variable {L α:Type} (b0:L->α) (Wr:Nat->L->Option α)
def fI (S:Nat->Bool):Nat->L->α
 |0,l=>b0 l
 |k+1,l=>if S k then(Wr k l).getD (fI S k l)else fI S k l
variable {b0 Wr} {S S':Nat->Bool} {j n:Nat} {l:L}
theorem Jb (hj:S j=false) (hjn:j≤n) (h1:∀k,k<j->Wr k l≠none->S k=true) (h2:∀k,j<k->Wr k l≠none->S k=false):
  fI b0 Wr S n l=fI b0 Wr (λ _=>true) j l:=by
 have p1:∀k,k≤j->fI b0 Wr S k l=fI b0 Wr (λ _=>true) k l:=by
  intro k;induction k with
  |zero=>intro _;rfl
  |succ k ih=>
   intro hk;simp only[fI,cS];rw[ih (by omega)];cases hw:Wr k l with
   |none=>simp
   |some y=>rw[h1 k (by omega) (by rw[hw];simp)];simp
 have p2:∀d,fI b0 Wr S (j+d) l=fI b0 Wr S j l:=by
  intro d;induction d with
  |zero=>rfl
  |succ d ih=>
   rw[←ey];simp only[fI];rw[ih];cases d with
   |zero=>simp[hj]
   |succ d=>
    cases hw:Wr (j+(d+1)) l with
    |none=>simp
    |some y=>rw[h2 (j+(d+1)) (by omega) (by rw[hw];simp)];simp
 have:=p2 (n - j);rw[show j+(n - j)=n from by omega]at this;rw[this,p1 j (Nat.le_refl _)]
theorem KI (hS:∀k,k≠j->S' k=S k) (hw:Wr j l=none):fI b0 Wr S' n l=fI b0 Wr S n l:=by
 induction n with
 |zero=>rfl
 |succ n ih=>
  simp only[fI];rw[ih];by_cases hn:n=j
  .subst hn;rw[hw];simp
  .rw[hS n hn]
theorem LI (hS:∀k,k≠j->S' k=S k) (hj:S' j=true) {y:α} (hw:Wr j l=some y) (hjn:j<n) (h2:∀k,j<k->Wr k l≠none->S k=false):
  fI b0 Wr S' n l=y:=by
 have p:∀d,fI b0 Wr S' (j+1+d) l=y:=by
  intro d;induction d with
  |zero=>simp only[iy,fI];rw[hj,hw];rfl
  |succ d ih=>
   rw[←ey];simp only[fI];rw[ih];cases hw':Wr (j+1+d) l with
   |none=>simp
   |some y'=>
    rw[hS _ (by omega),h2 (j+1+d) (by omega) (by rw[hw'];simp)];simp
 have:=p (n - (j+1))
 rwa[show j+1+(n - (j+1))=n from by omega]at this
theorem LG (h:∀k,k<n->S k=true):fI b0 Wr S n l=fI b0 Wr (λ _=>true) n l:=by
 induction n with
 |zero=>rfl
 |succ n ih=>
  simp only[fI,cS];rw[ih λ k hk=>h k (by omega),h n (by omega),aj rfl]
theorem zP (h:∀k,k<n->S k=false):fI b0 Wr S n l=b0 l:=by
 induction n with
 |zero=>rfl
 |succ n ih=>
  simp only[fI];rw[ih λ k hk=>h k (by omega),h n (by omega)];rfl
end
end
section
variable {T:Nat->Option TI} {cx:Cx} {all:List Oper} {K:Ex->G->Prop}
theorem Jo (hT:cl cx.P T):∀(rest:List Oper) (k:Nat) (m:List FP) (off:List (Nat×Bool)) (v:List AV) (r:Rs),bS T cx.P all ⟨some m,off⟩ rest v r K->
  ∃(St:Nat->G) (X:Nat->AV) (F:List FP),St k=⟨v,r⟩/\K .normal (St (k+rest.length))/\tm all (m.reverse++F)=true/\F.length=rest.length/\
   ∀j o,rest[j]? =some o->∃fp,mq cx all o (St (k+j)).v (St (k+j)).r fp (X (k+j)) (St (k+j+1)).r/\(St (k+j+1)).v=cq (St (k+j)).v o.dst (X (k+j))/\
    F[j]? =some fp/\∀s∈fp.w,s∈fp.t
 |[],k,m,off,v,r,hk=>⟨λ _=>⟨v,r⟩,λ _=> .one .dead,[],rfl,hk.2,by have:=hk.1;simpa[Bx]using this,rfl,λ j o h=>by simp at h⟩
 |o::rest,k,m,off,v,r,hk=>by
  obtain⟨fp,x,r1,h1,h0,off',h2⟩:=(Hp hT hk).resolve_right (λ h=>by cases h.1);obtain⟨St,X,F,g1,g2,g3,g4,g5⟩:=Jo hT rest (k+1) _ _ _ _ h2;refine⟨λ i=>if i=k then⟨v,r⟩else St i,λ i=>if i=k then x else X i,fp::F,by simp, ?_,by simpa using g3,by simp[g4],λ j o' hj=> ?_⟩
  .simp only[cL];rw[aa (by omega),show k+(rest.length+1)=k+1+rest.length from by omega];exact g2
  .cases j with
   |zero=>
    simp only[c9,bn]at hj;subst hj;simp only[iy,cS];rw[aa (by omega),g1];exact⟨fp,h1,rfl,by simp,h0⟩
   |succ j=>
    have:=g5 j o' (by simpa using hj);simp only[aa (show k+(j+1)≠k from by omega),aa (show k+(j+1)+1≠k from by omega)];rw[show k+(j+1)=k+1+j from by omega];simpa using this
theorem GQ {a b:List Nat} (h:yI a b=true) {s:Nat} (ha:s∈a):s ∉ b:=by unfold yI at h;have:=jh.1 h s ha;simpa using this
theorem FI {F:List FP} (h:tm all F=true) {i j:Nat} {x y:FP} (hx:F[i]? =some x) (hy:F[j]? =some y) (hij:i<j):
  ((qc all).getD j 0).testBit i=true∨FP.apart x y=true:=by
 unfold tm at h;have h1:=jh.1 h (y,j) (Bc.2 hy);have h2:=jh.1 h1 (x,i) (Bc.2 hx);simp only[pv,ir,gg]at h2;rcases h2 with(h2|h2)|h2
 .exact absurd hij h2
 .exact .inl h2
 .exact .inr h2
theorem xt (h:yF all=true):Region.noSelect all.toArray=true/\(∀(j:Nat) (y:Oper),all[j]? =some y->∀e∈y.after,Region.binds .any e=true->e.on<j)/\
  ∀(i j:Nat) (x y:Oper),all[i]? =some x->all[j]? =some y->i<j->((qc all).getD j 0).testBit i=true∨x.apart all.toArray y=true:=by
 unfold yF at h;simp only[bM]at h;refine⟨h.1,λ j y hy e he hb=> ?_,λ i j x y hx hy hij=> ?_⟩
 .have h1:=jh.1 h.2 (y,j) (Bc.2 hy);simp only[bM]at h1;have h2:=Array.all_eq_true_iff_forall_mem.1 h1.1 e he;simp only[hb,dx,lR,dX]at h2;exact h2
 .have h1:=jh.1 h.2 (y,j) (Bc.2 hy);simp only[bM]at h1;have h2:=jh.1 h1.2 (x,i) (Bc.2 hx);simp only[pv,ir,gg]at h2;rcases h2 with(h2|h2)|h2
  .exact absurd hij h2
  .exact .inl h2
  .exact .inr h2
def tO (acc:List Nat) (o:Oper):Nat:=o.after.foldl (λ s e=>if Region.binds .any e then s|||2^e.on|||acc.getD e.on 0 else s) 0
theorem V9 (ops:List Oper):qc ops=ops.foldl (λ acc o=>acc++[tO acc o]) []:=rfl
theorem K5 (acc:List Nat):∀(l:List Edge) (s:Nat) (i:Nat),(l.foldl (λ s e=>if Region.binds .any e then s|||2^e.on|||acc.getD e.on 0 else s) s).testBit i=true->
  s.testBit i=true∨∃e∈l,Region.binds .any e=true/\(i=e.on∨(acc.getD e.on 0).testBit i=true)
 |[],s,i,h=> .inl h
 |e::l,s,i,h=>by
  simp only[tu]at h;rcases K5 acc l _ i h with h1|⟨e',h1,h2⟩
  .by_cases hb:Region.binds .any e=true
   .rw[aj hb]at h1;simp only[Nat.testBit_or,pv,Nat.testBit_two_pow,dX]at h1;rcases h1 with(h1|h1)|h1
    .exact .inl h1
    .exact .inr ⟨e,by simp,hb, .inl h1.symm⟩
    .exact .inr ⟨e,by simp,hb, .inr h1⟩
   .rw[aa hb]at h1;exact .inl h1
  .exact .inr ⟨e',by simp[h1],h2⟩
theorem YA {acc:List Nat} {o:Oper} {i:Nat} (h:(tO acc o).testBit i=true):∃e∈o.after,Region.binds .any e=true/\(i=e.on∨(acc.getD e.on 0).testBit i=true):=by
 unfold tO at h;rw[←Array.foldl_toList]at h;rcases K5 acc _ _ _ h with h1|⟨e,h1,h2⟩
 .simp at h1
 .exact⟨e,Array.mem_toList_iff.1 h1,h2⟩
theorem La:∀(ops:List Oper) (acc:List Nat),(ops.foldl (λ acc o=>acc++[tO acc o]) acc).length=acc.length+ops.length/\
  (∀k,k<acc.length->(ops.foldl (λ acc o=>acc++[tO acc o]) acc)[k]? =acc[k]?)/\
  ∀j o,ops[j]? =some o->(ops.foldl (λ acc o=>acc++[tO acc o]) acc)[acc.length+j]? =some (tO ((ops.foldl (λ acc o=>acc++[tO acc o]) acc).take (acc.length+j)) o)
 |[],acc=>⟨by simp,λ _ _=>rfl,λ j o h=>by simp at h⟩
 |o::ops,acc=>by
  obtain⟨h1,h2,h3⟩:=La ops (acc++[tO acc o]);simp only[tu];simp only[aG,cL,fN,cc]at h1 h2 h3;refine⟨by rw[h1];simp;omega,λ k hk=> ?_,λ j o' hj=> ?_⟩
  .rw[h2 k (by omega),dA hk]
  .cases j with
   |zero=>
    simp only[c9,bn]at hj;subst hj;rw[iy,h2 acc.length (by omega)];simp only[dL (Nat.le_refl _),iq,c9,bn];congr 1;apply xY;intro k;rw[List.getElem?_take];split
    .rename_i hk;rw[h2 k (by omega),dA hk]
    .rename_i hk;rw[uW (by omega)]
   |succ j=>
    have:=h3 j o' (by simpa using hj);rw[show acc.length+(j+1)=acc.length+1+j from by omega];exact this
theorem Vq {i j:Nat} {o:Oper} (hj:all[j]? =some o) (h:((qc all).getD j 0).testBit i=true):
  ∃e∈o.after,Region.binds .any e=true/\(i=e.on∨((qc all).getD e.on 0).testBit i=true):=by
 obtain⟨_,_,h3⟩:=La all [];have h4:=h3 j o hj;rw[←V9]at h4;simp only[fN,cc]at h4;rw[j7,h4]at h;simp only[ku]at h;obtain⟨e,h5,h6,h7⟩:=YA h;refine⟨e,h5,h6,h7.imp id λ h8=> ?_⟩;rw[j7,List.getElem?_take]at h8;split at h8
 .rw[j7];exact h8
 .simp at h8
def uF (all:List Oper) (S:Nat->Bool):Prop:=∀(j:Nat) (o:Oper),all[j]? =some o->S j=true->∀e∈o.after,Region.binds .any e=true->S e.on=true
theorem uF.t9 {S:Nat->Bool} (h:uF all S) (hb:∀(j:Nat) (y:Oper),all[j]? =some y->∀e∈y.after,Region.binds .any e=true->e.on<j):
  ∀(n j:Nat),j<n->∀(o:Oper),all[j]? =some o->(∀e∈o.after,Region.binds .any e=true->S e.on=true)->∀i,((qc all).getD j 0).testBit i=true->S i=true
 |0,_,h0,_,_,_,_,_=>absurd h0 (tH _)
 |n+1,j,hjn,o,ho,hr,i,hbit=>by
  obtain⟨e,h1,h2,h3⟩:=Vq ho hbit;have hs:=hr e h1 h2;rcases h3 with rfl|h3
  .exact hs
  .have hlt:=hb j o ho e h1 h2;have hjl:j<all.length:=(cG.1 ho).1;have ho':all[e.on]? =some all[e.on]:=dG (by omega);exact h.t9 hb n e.on (by omega) _ ho' (h e.on _ ho' hs) i h3
end
section
variable {T:Nat->Option TI} {cx:Cx} {all:List Oper} {K:Ex->G->Prop} {Q:Exit->Act->World->Prop}
structure Found (cx:Cx) (all:List Oper) (St:Nat->G) (X:Nat->AV) (F:List FP):Prop where
 len:F.length=all.length
 step:∀j o,all[j]? =some o->∃fp,mq cx all o (St j).v (St j).r fp (X j) (St (j+1)).r/\(St (j+1)).v=cq (St j).v o.dst (X j)/\F[j]? =some fp/\∀s∈fp.w,s∈fp.t
 ord:yF all=true
 H3:tm all F=true
section
variable {St:Nat->G} {X:Nat->AV} {F:List FP} (hf:Found cx all St X F)
def vj (all:List Oper) (N:Nat) (X:Nat->AV) (k d:Nat):Option (Option AV):=
 match all[k]? with
 |some o=>if o.dst=some d/\d<N then some (some (X k))else none
 |none=>none
def uc (F:List FP) (St:Nat->G) (k s:Nat):Option (Option RS):=
 match F[k]? with
 |some f=>if s∈f.w then some (ao s (St (k+1)).r)else none
 |none=>none
theorem LY {v:List AV} {dst:Option Nat} {x:AV}:(cq v dst x).length=v.length:=by cases dst<;>simp[cq]
theorem D0 {N k d:Nat} (h:vj all N X k d≠none):∃o,all[k]? =some o/\o.dst=some d/\d<N:=by
 unfold vj at h;split at h
 .rename_i o ho;split at h
  .rename_i hd;exact⟨o,ho,hd⟩
  .exact absurd rfl h
 .exact absurd rfl h
theorem DY {k s:Nat} (h:uc F St k s≠none):∃f,F[k]? =some f/\s∈f.w:=by
 unfold uc at h;split at h
 .rename_i f hf;split at h
  .rename_i hd;exact⟨f,hf,hd⟩
  .exact absurd rfl h
 .exact absurd rfl h
include hf in
theorem Found.On:∀k,k≤all.length->(St k).v.length=(St 0).v.length
 |0,_=>rfl
 |k+1,h=>by obtain⟨_,_,h2,_⟩:=hf.step k all[k] (dG (by omega));rw[h2,LY];exact Found.On k (by omega)
theorem Ln {v:List AV} {dst:Option Nat} {x:AV} {d:Nat}:(cq v dst x)[d]? =if dst=some d/\d<v.length then some x else v[d]? :=by
 cases dst with
 |none=>simp[cq]
 |some e=>
  simp only[cq,bn,nr];by_cases h:e=d
  .subst h;simp only[jo,cS];split
   .rfl
   .rename_i h;rw[uW (by omega)]
  .simp[h]
include hf in
theorem Found.EB (d:Nat):∀k,k≤all.length->fI (λ d=>(St 0).v[d]?) (vj all (St 0).v.length X) (λ _=>true) k d=(St k).v[d]?
 |0,_=>rfl
 |k+1,h=>by have ho:all[k]? =some all[k]:=dG (by omega);obtain⟨_,_,h2,_⟩:=hf.step k _ ho;simp only[fI,cS];rw[Found.EB d k (by omega),h2,Ln];simp only[vj,ho,hf.On k (by omega)];split<;>simp
include hf in
theorem Found.Ey (s:Nat):∀k,k≤all.length->fI (λ s=>ao s (St 0).r) (uc F St) (λ _=>true) k s=ao s (St k).r
 |0,_=>rfl
 |k+1,h=>by
  have ho:all[k]? =some all[k]:=dG (by omega);obtain⟨fp,h1,_,h3,_⟩:=hf.step k _ ho;simp only[fI,cS];rw[Found.Ey s k (by omega)];simp only[uc,h3];split
  .simp
  .rename_i hs;simp only[Bd];exact(h1.1 s hs).symm
def Inv (cx:Cx) (all:List Oper) (St:Nat->G) (X:Nat->AV) (F:List FP) (S:Nat->Bool) (a:Act) (w:World):Prop:=
 ∃v r,dJ cx ⟨v,r⟩ a w/\v.length=(St 0).v.length/\(∀d,v[d]? =fI (λ d=>(St 0).v[d]?) (vj all (St 0).v.length X) S all.length d)/\
  ∀s,ao s r=fI (λ s=>ao s (St 0).r) (uc F St) S all.length s
include hf in
theorem Found.abC {S:Nat->Bool} (hc:uF all S) {j:Nat} {o:Oper} (hj:all[j]? =some o) (hS:S j=false) (hr:∀e∈o.after,Region.binds .any e=true->S e.on=true)
  {d:Nat} (hd:d∈o.looksAt all.toArray):fI (λ d=>(St 0).v[d]?) (vj all (St 0).v.length X) S all.length d=(St j).v[d]? :=by
 obtain⟨_,o2,o3⟩:=xt hf.ord;have hjl:j<all.length:=(cG.1 hj).1;rw[←hf.EB d j (by omega)];refine Jb hS (by omega) (λ k hk hw=> ?_) (λ k hk hw=> ?_)
 .obtain⟨x,hx,hxd,_⟩:=D0 hw;rcases o3 k j x o hx hj hk with h|h
  .exact hc.t9 o2 (j+1) j (by omega) o hj hr k h
  .exact absurd hd ((A4 h).1 d hxd)
 .obtain⟨x,hx,hxd,_⟩:=D0 hw;rcases o3 j k o x hj hx hk with h|h
  .cases hSk:S k with
   |false=>rfl
   |true=>rw[hc.t9 o2 (k+1) k (by omega) x hx (hc k x hx hSk) j h]at hS;cases hS
  .exact absurd hd ((A4 h).2.2 d hxd)
include hf in
theorem Found.abi {S:Nat->Bool} (hc:uF all S) {j:Nat} {o:Oper} {f:FP} (hj:all[j]? =some o) (hfj:F[j]? =some f) (hS:S j=false) (hr:∀e∈o.after,Region.binds .any e=true->S e.on=true)
  {s:Nat} (hs:s∈f.t):fI (λ s=>ao s (St 0).r) (uc F St) S all.length s=ao s (St j).r:=by
 obtain⟨_,o2,_⟩:=xt hf.ord;have hjl:j<all.length:=(cG.1 hj).1;rw[←hf.Ey s j (by omega)];refine Jb hS (by omega) (λ k hk hw=> ?_) (λ k hk hw=> ?_)
 .obtain⟨x,hx,hxd⟩:=DY hw;rcases FI hf.H3 hx hfj hk with h|h
  .exact hc.t9 o2 (j+1) j (by omega) o hj hr k h
  .simp only[FP.apart,bM]at h;exact absurd hs (GQ h.1.1 hxd)
 .obtain⟨x,hx,hxd⟩:=DY hw;have hk':k<all.length:=by rw[←hf.len];exact(cG.1 hx).1
  rcases FI hf.H3 hfj hx hk with h|h
  .cases hSk:S k with
   |false=>rfl
   |true=>
    have hok:all[k]? =some all[k]:=dG hk';rw[hc.t9 o2 (k+1) k (by omega) _ hok (hc k _ hok hSk) j h]at hS;cases hS
  .simp only[FP.apart,bM]at h;exact absurd hxd (GQ h.1.2 hs)
theorem N' {v v':List AV} {x:Operand} (h:∀t,x= .tmp t->v'[t]? =v[t]?):b6 v' x=b6 v x:=by
 cases x with
 |tmp t=>simp only[b6,j7,h t rfl]
 |_=>rfl
theorem aaY {v v':List AV} {j:Nat} (h:∀t,(all[j]?.bind (·.dst))=some t->v'[t]? =v[t]?):gi all v' j=gi all v j:=by
 unfold gi;split
 .rename_i o ho;split
  .rename_i d hd;simp only[j7,h d (by rw[ho];exact hd)]
  .rfl
 .rfl
include hf in
theorem Found.LO {S S':Nat->Bool} {a:Act} {w:World} (hI:Inv cx all St X F S a w) (hc:uF all S) {j:Nat} {o:Oper} (hj:all[j]? =some o) (hS:S j=false)
  (hr:∀e∈o.after,Region.binds .any e=true->S e.on=true) (hS1:S' j=true) (hS2:∀k,k≠j->S' k=S k):
  wpOp cx.P all.toArray Q j (Inv cx all St X F S') a w:=by
 obtain⟨v,r,⟨β,hH⟩,hl,hv,hrr⟩:=hI;obtain⟨fp,⟨h1,h2⟩,h3,h4,h5⟩:=hf.step j o hj;obtain⟨_,o2,o3⟩:=xt hf.ord;have hjl:j<all.length:=(cG.1 hj).1;have hlook:∀d∈o.looksAt all.toArray,v[d]? =(St j).v[d]? :=λ d hd=>by rw[hv d,hf.abC hc hj hS hr hd]
 have hlk:∀s∈fp.t,ao s r=ao s (St j).r:=λ s hs=>by rw[hrr s,hf.abi hc hj h4 hS hr hs]
 refine wpOp_mono (λ a' w' hd=> ?_) (h2 v r (λ x hx=>N' λ t ht=>hlook t ?_) (λ i b hg=>aaY λ t ht=>hlook t ?_) hlk a w β hH j Q (by simpa using hj))
 .obtain⟨r1',g1,g2,g3⟩:=hd;refine⟨_,r1',g1,by rw[LY,hl],λ d=> ?_,λ s=> ?_⟩
  .rw[Ln,hl];by_cases hd:o.dst=some d/\d<(St 0).v.length
   .rw[aj hd];refine(LI hS2 hS1 (y:=some (X j)) (by unfold vj;simp only[hj];rw[aj hd]) hjl (λ k hk hw=> ?_)).symm;obtain⟨x,hx,hxd,_⟩:=D0 hw;rcases o3 j k o x hj hx hk with h|h
    .cases hSk:S k with
     |false=>rfl
     |true=>rw[hc.t9 o2 (k+1) k (by omega) x hx (hc k x hx hSk) j h]at hS;cases hS
    .exact absurd hxd ((A4 h).2.1 d hd.1)
   .rw[aa hd,hv d];exact(KI hS2 (by unfold vj;simp only[hj];rw[aa hd])).symm
  .by_cases hs:s∈fp.w
   .rw[g2 s hs];refine(LI hS2 hS1 (y:=ao s (St (j+1)).r) (by unfold uc;simp only[h4];rw[aj hs]) hjl (λ k hk hw=> ?_)).symm;obtain⟨x,hx,hxd⟩:=DY hw;have hk':k<all.length:=by rw[←hf.len];exact(cG.1 hx).1
    rcases FI hf.H3 h4 hx hk with h|h
    .cases hSk:S k with
     |false=>rfl
     |true=>
      have hok:all[k]? =some all[k]:=dG hk';rw[hc.t9 o2 (k+1) k (by omega) _ hok (hc k _ hok hSk) j h]at hS;cases hS
    .simp only[FP.apart,bM]at h;exact absurd hxd (GQ h.2 hs)
   .rw[g3 s hs,hrr s];exact(KI hS2 (by unfold uc;simp only[h4];rw[aa hs])).symm
 .subst ht;exact tg _ (List.mem_filterMap.2 ⟨.tmp t,hx,rfl⟩)
 .unfold Oper.looksAt;refine wu _ ?_;rw[hg];simp only[u9];rw[ht];simp
end
theorem filter_lt {α:Type} {p q:α->Bool}:∀{l:List α},(∀x∈l,p x=true->q x=true)->(∃x∈l,q x=true/\p x=false)->(l.filter p).length<(l.filter q).length
 |[],_,⟨x,h,_⟩=>by simp at h
 |y::l,h,⟨x,hx,h1,h2⟩=>by
  have hle:(l.filter p).length≤(l.filter q).length:=by
   clear hx h1 h2;induction l with
   |nil=>simp
   |cons z l ih=>
    have:=ih λ x hx=>h x (by simp only[cF]at hx⊢;rcases hx with h|h<;>simp[h])
    have hz:=h z (by simp);simp only[tf];cases hp:p z with
    |true=>rw[hz hp];simpa using this
    |false=>cases hq:q z<;>simp<;>omega
  simp only[tf];by_cases hxy:x=y
  .subst hxy;rw[h1,h2];simp only[lU,cE,cS,cL];omega
  .have hx':x∈l:=by simp only[cF]at hx;exact hx.resolve_left hxy
   have ih:=filter_lt (p:=p) (q:=q) (l:=l) (λ x hx=>h x (by simp[hx])) ⟨x,hx',h1,h2⟩;have hy:=h y (by simp);cases hp:p y with
   |true=>rw[hy hp];simpa using ih
   |false=>cases hq:q y<;>simp<;>omega
def pU (n:Nat) (listed:Array Bool):Nat:=((List.range n).filter λ i=> !listed.getD i true).length
section
variable {St:Nat->G} {X:Nat->AV} {F:List FP} (hf:Found cx all St X F)
include hf in
theorem Found.JF {listed:Array Bool} (hr:Region.ready .any all.toArray listed=[]) (hsz:listed.size=all.length):∀n j,j<n->j<all.length->listed.getD j false=true
 |0,_,h,_=>absurd h (tH _)
 |n+1,j,hj,hjl=>by
  obtain⟨_,o2,_⟩:=xt hf.ord;have ho:all[j]? =some all[j]:=dG hjl;cases hl:listed.getD j true with
  |true=>simpa[hsz,hjl]using hl
  |false=>
   have:j∈Region.ready .any all.toArray listed:=by rw[mem_ready];refine⟨hl,all[j],by simp,λ e he hb=> ?_⟩;have hlt:=o2 j _ ho e he hb;exact Found.JF hr hsz n e.on (by omega) (by omega)
   rw[hr]at this;cases this
include hf in
theorem Found.any (hQ:∀a w,dJ cx (St all.length) a w->Q .normal a w):∀(fuel:Nat) (listed:Array Bool) (a:Act) (w:World),listed.size=all.length->pU all.length listed≤fuel->
  uF all (λ i=>listed.getD i false)->Inv cx all St X F (λ i=>listed.getD i false) a w->wpAny cx.P .any all.toArray Q fuel listed a w:=by
 have hend:∀(listed:Array Bool) (a:Act) (w:World),(∀j,j<all.length->listed.getD j false=true)->Inv cx all St X F (λ i=>listed.getD i false) a w->Q .normal a w:=λ listed a w hl hI=>by
  obtain⟨v,r,hH,hlen,hv,hrr⟩:=hI;refine hQ a w ?_;have e1:v=(St all.length).v:=by apply xY;intro d;rw[hv d,LG (λ k hk=>hl k hk),hf.EB d _ (Nat.le_refl _)]
  have:=hH.congr (r':=(St all.length).r) λ s=>by rw[hrr s,LG (λ k hk=>hl k hk),hf.Ey s _ (Nat.le_refl _)]
  rw[e1]at this;exact this
 intro fuel;induction fuel with
 |zero=>
  intro listed a w hsz hu hc hI;have hall:∀j,j<all.length->listed.getD j false=true:=λ j hj=>by
   cases hl:listed.getD j true with
   |true=>simpa[hsz,hj]using hl
   |false=>
    have:j∈(List.range all.length).filter λ i=> !listed.getD i true:=by simp only[yj,tx,hl,hj,eR,and_self]
    have:=List.length_pos_of_mem this;unfold pU at hu;omega
  refine⟨?_,hend listed a w hall hI⟩;rw[List.eq_nil_iff_forall_not_mem];intro j hj;obtain⟨h1,o,ho,_⟩:=mem_ready.1 hj;have hjl:j<all.length:=by simpa using(Array.getElem?_eq_some_iff.1 ho).1
  have:=hall j hjl;simp[hsz,hjl]at h1 this;rw[h1]at this;cases this
 |succ fuel ih=>
  intro listed a w hsz hu hc hI;refine⟨λ hr=>hend listed a w (λ j hj=>hf.JF hr hsz (j+1) j (by omega) hj) hI,λ j hj=> ?_⟩;obtain⟨h1,o,ho,hall⟩:=mem_ready.1 hj;have ho':all[j]? =some o:=by simpa using ho
  have hjl:j<all.length:=(cG.1 ho').1;have hjf:listed.getD j false=false:=by simp[hsz,hjl]at h1⊢;exact h1
  have hset:(listed.setIfInBounds j true).getD j false=true:=by simp[hsz,hjl]
  have hset2:∀k,k≠j->(listed.setIfInBounds j true).getD k false=listed.getD k false:=λ k hk=>getD_set_ne false (fu hk)
  refine wpOp_mono (λ a' w' hI'=>ih (listed.setIfInBounds j true) a' w' (by simp[hsz]) ?_ ?_ hI') (hf.LO (S':=λ i=>(listed.setIfInBounds j true).getD i false) hI hc ho' hjf hall hset hset2)
  .have:pU all.length (listed.setIfInBounds j true)<pU all.length listed:=by
    unfold pU;refine filter_lt (λ x hx hp=> ?_) ⟨j,by simp[hjl],by rw[h1];rfl,by simp[hsz,hjl]⟩;by_cases hxj:x=j
    .subst hxj;rw[h1];rfl
    .rwa[getD_set_ne true (fu hxj)]at hp
   omega
  .intro k ok hk hSk e he hb;by_cases hkj:k=j
   .subst hkj;rw[ho']at hk;cases hk;exact getD_set_true (hall e he hb)
   .simp only[hset2 k hkj]at hSk;exact getD_set_true (hc k ok hk hSk e he hb)
end
theorem Wj (hT:cl cx.P T) (hm:cx.P.follows .mixedOrders=true) (hQ:∀g a w,dJ cx g a w->K .normal g->Q .normal a w) {ops:Array Oper} {id:Nat} {g:G} (ho:uQ ops.toList)
  (hk:bS T cx.P ops.toList ⟨some [],[]⟩ ops.toList g.v g.r K) {a:Act} {w:World} (h:dJ cx g a w):(Code.region id ops true).wp cx.P Q a w:=by
 obtain⟨St,X,F,g1,g2,g3,g4,g5⟩:=Jo hT ops.toList 0 [] [] g.v g.r hk;have hf:Found cx ops.toList St X F:=⟨g4,λ j o hj=>by simpa using g5 j o hj,ho,by simpa using g3⟩;refine wp_region_any hm ?_;have hz:∀i,(Array.replicate ops.size false).getD i false=false:=λ i=>by simp only[D5,Array.getElem?_replicate];split<;>rfl
 obtain⟨β,h⟩:=h;have:=hf.any (Q:=Q) (λ a w hH=>hQ _ a w hH (by simpa using g2)) ops.size (Array.replicate ops.size false) a {w with drawn:=w.drawn+1} (by simp)
  (by unfold pU;exact i6 (tr _ _) (by simp)) (λ j o _ hS=>by have hS':=hz j;simp only at hS;rw[hS']at hS;cases hS)
  ⟨g.v,g.r,⟨β,h.drew⟩,by rw[g1],λ d=>by rw[zP (λ k _=>hz k),g1],λ s=>by rw[zP (λ k _=>hz k),g1]⟩
 simpa using this
end
section
variable {T:Nat->Option TI} {cx:Cx}
theorem uG (hT:cl cx.P T) (hm:cx.P.follows .mixedOrders=true):∀(c:Code) (g:G) (Qa:Ex->G->Prop) (Q:Exit->Act->World->Prop),
  (∀e g a w,dJ cx g a w->Qa e g->Q (qG e) a w)->cH T cx.P c g Qa->∀a w,dJ cx g a w->c.wp cx.P Q a w:=by
 intro c;induction c with
 |skip=>intro g Qa Q hQ hk a w h;exact wp_skip (hQ .normal g a w h hk)
 |exit id=>intro g Qa Q hQ hk a w h;exact wp_exit (hQ (.exit id) g a w h hk)
 |ret=>intro g Qa Q hQ hk a w h;exact wp_ret (hQ .ret g a w h hk)
 |region id ops d=>
  intro g Qa Q hQ hk a w h;cases d with
  |true=>exact Wj hT hm (λ g a w h hq=>hQ .normal g a w h hq) hk.1 hk.2 h
  |false=>exact VY hT (λ e g a w h hq=>hQ e g a w h hq) hk h
 |seq x y ihx ihy=>
  intro g Qa Q hQ hk a w h;refine wp_seq (ihx g _ _ (λ e g a w h hq=> ?_) hk a w h);cases e with
  |normal=>
   rcases hq with⟨g',h1,h2⟩|hq
   .exact ihy g' Qa Q hQ h2 a w (h1 _ _ _ h)
   .exact hq cx rfl Q hQ a w h
  |exit id=>exact hQ (.exit id) g a w h hq
  |ret=>exact hQ .ret g a w h hq
  |panic x=>exact hQ (.panic x) g a w h hq
 |cond c x y ihx ihy=>
  intro g Qa Q hQ hk a w h;simp only[cH]at hk;split at hk
  .rename_i b hb;obtain⟨h1,h2,h3⟩:=hk;obtain⟨β,hh⟩:=h;have he:=du (v:=g.v) (r:=g.r) hh (c:=true) rfl h1;rw[hb]at he;exact wp_cond_split (cR.1 he).1 (λ ht=>ihx g Qa Q hQ (h2 ht) a w ⟨β,hh⟩) (λ ht=>ihy g Qa Q hQ (h3 ht) a w ⟨β,hh⟩)
  .rename_i hb;obtain⟨h1,h2,h3⟩:=hk;obtain⟨β,hh⟩:=h;have he:=du (v:=g.v) (r:=g.r) hh (c:=true) rfl h1;rw[hb]at he;simp only[aE,ay]at he;obtain⟨b,hb'⟩:=he;exact wp_cond_split hb' (λ _=>ihx g Qa Q hQ h2 a w ⟨β,hh⟩) (λ _=>ihy g Qa Q hQ h3 a w ⟨β,hh⟩)
  .exact hk.elim
 |block id x ih=>
  intro g Qa Q hQ hk a w h;refine wp_block (ih g _ _ (λ e g a w h hq=> ?_) hk a w h);cases e with
  |normal=>exact hQ .normal g a w h hq
  |exit id'=>
   simp only[qG,Exit.inBlock];simp only at hq;split
   .rename_i hid;rw[aj hid]at hq;exact hQ .normal g a w h hq
   .rename_i hid;rw[aa hid]at hq;exact hQ (.exit id') g a w h hq
  |ret=>exact hQ .ret g a w h hq
  |panic x=>exact hQ (.panic x) g a w h hq
 |loop x ih=>
  intro g Qa Q hQ hk a w h;obtain⟨I,n0,⟨g0,h0,h1⟩,h2⟩:=hk;refine wp_loop_ghost (λ n a w=>∃g,I n g/\dJ cx g a w) n0 ⟨g0,h1,h0 _ _ _ h⟩ ?_
  rintro n a w ⟨g',hI,hh⟩
  refine ih g' _ _ (λ e g a w h hq=> ?_) (h2 n g' hI) a w hh;cases e with
  |normal=>
   obtain⟨n',g1,k1,k2,k3⟩:=hq;exact⟨n',k1,g1,k3,k2 _ _ _ h⟩
  |exit id=>exact hQ (.exit id) g a w h hq
  |ret=>exact hQ .ret g a w h hq
  |panic x=>exact hQ (.panic x) g a w h hq
 |label l=>intro g Qa Q hQ hk a w h;exact wp_label (hQ .normal g a w h hk)
 |scope x ih=>
  intro g Qa Q hQ hk a w h;refine wp_scope_straight (ih g _ _ (λ e g a w h hq=> ?_) hk a w h);cases e with
  |normal=>exact hQ .normal g a w h hq
  |exit id=>exact hQ (.exit id) g a w h hq
  |ret=>exact hQ .ret g a w h hq
  |panic x=>exact hQ (.panic x) g a w h hq
 |_=>intro g Qa Q hQ hk a w h;exact hk.elim
end
def gh:Nat->List Arg->List AV
 |_,[]=>[]
 |p, .f x::xs=>x::gh (p+1) xs
 |p, .obj _::xs=> .one (.ptr ⟨p,0,0⟩ 0)::gh (p+1) xs
 |p, .row _ n _::xs=> .one (.own ⟨p,1,0⟩ 0 n)::gh (p+1) xs
 |p, .fW pre post _ n _::xs=> .agg (pre++ .own ⟨p,1,0⟩ 0 n::post)::gh (p+1) xs
def kF:List RO->List (Option bV)
 |[]=>[]
 | .d _::xs=>none::kF xs
 | .own sz _ ds _::xs=>some {e:=0,var:=false,fz:=false,dR:=true,sz,cells:=ds.map C.d}::kF xs
def bR:Nat->List Arg->Rs
 |_,[]=>[]
 |p, .f _::xs=>bR (p+1) xs
 |p, .obj l::xs=>(p,{next:=1,l:=some {e:=0,var:=true,fz:=false,dR:=true,sz:=0,cells:=fT p 0 0 l}::kF l})::bR (p+1) xs
 |p, .row sz _ ds::xs=>(p,{next:=1,l:=[none,some {e:=0,var:=false,fz:=false,dR:=true,sz,cells:=ds.map C.d}]})::bR (p+1) xs
 |p, .fW _ _ sz _ ds::xs=>(p,{next:=1,l:=[none,some {e:=0,var:=false,fz:=false,dR:=true,sz,cells:=ds.map C.d}]})::bR (p+1) xs
def bF:Nat->List Arg->List Pos
 |_,[]=>[]
 |p, .f _::xs=>bF (p+1) xs
 |p, .obj _::xs=> .o p::bF (p+1) xs
 |p, .row _ n _::xs=> .r p n::bF (p+1) xs
 |p, .fW _ _ _ n _::xs=> .r p n::bF (p+1) xs
def qk:Nat->List Arg->List (Nat×Nat)
 |_,[]=>[]
 |p, .f _::xs=>qk (p+1) xs
 |p, .obj l::xs=>(List.range l.length).map (λ i=>(p,i+1))++qk (p+1) xs
 |p, .row _ _ _::xs=>(p,1)::qk (p+1) xs
 |p, .fW _ _ _ _ _::xs=>(p,1)::qk (p+1) xs
def dq (γ:Nat->Pl):Nat->Nat->List Arg->List dQ->Nat->Nat->Pl
 |p,k, .f _::xs,bs=>dq γ (p+1) k xs bs
 |p,k, .row _ _ _::xs, .val _::bs=>λ s j=>if s=p then γ k else dq γ (p+1) (k+1) xs bs s j
 |p,k, .fW _ _ _ _ _::xs, .val _::bs=>λ s j=>if s=p then γ k else dq γ (p+1) (k+1) xs bs s j
 |p,k, .obj l::xs, .dI b::bs=>λ s j=>if s=p then(if j=0 then⟨some (b,0),0⟩else γ (k+(j - 1)))else dq γ (p+1) (k+l.length) xs bs s j
 |_,_,_,_=>λ _ _=>⟨none,0⟩
section
variable {P:Program} {w:World} {A0 aS:Nat->Prop} {γ:Nat->Pl}
theorem He:∀{l:List RO} {j:Nat} {res:bV},(kF l)[j]? =some (some res)->∃sz n ds bo,l[j]? =some (RO.own sz n ds bo)/\res={e:=0,var:=false,fz:=false,dR:=true,sz,cells:=ds.map C.d}
 |[],j,_,h=>by simp[kF]at h
 | .d x::l,0,_,h=>by simp[kF]at h
 | .own sz n ds bo::l,0,res,h=>by simp only[kF,c9,bn]at h;exact⟨sz,n,ds,bo,by simp,h.symm⟩
 | .d x::l,j+1,res,h=>by simpa using He (l:=l) (j:=j) (by simpa[kF]using h)
 | .own .. ::l,j+1,res,h=>by simpa using He (l:=l) (j:=j) (by simpa[kF]using h)
theorem HG:∀{l:List RO} {j sz n:Nat} {ds:List D} {bo:Bool},l[j]? =some (RO.own sz n ds bo)->(kF l)[j]? =some (some {e:=0,var:=false,fz:=false,dR:=true,sz,cells:=ds.map C.d})
 |[],j,_,_,_,_,h=>by simp at h
 | .d x::l,0,_,_,_,_,h=>by simp at h
 | .own sz n ds bo::l,0,_,_,_,_,h=>by simp only[c9,bn,RO.own.injEq]at h;obtain⟨rfl,rfl,rfl,rfl⟩:=h;rfl
 | .d x::l,j+1,sz,n,ds,bo,h=>by simpa[kF]using HG (l:=l) (j:=j) (by simpa using h)
 | .own .. ::l,j+1,sz,n,ds,bo,h=>by simpa[kF]using HG (l:=l) (j:=j) (by simpa using h)
theorem xm:∀{args:List Arg} {p s j:Nat} {res:bV},aF (bR p args) s j=some res->ar (bR p args) s=1
 |[],_,_,_,_,h=>by simp[bR,aF,ao]at h
 | .f _::xs,p,s,j,res,h=>xm (args:=xs) (p:=p+1) (by simpa[bR]using h)
 | .obj l::xs,p,s,j,res,h=>by
  simp only[bR,aF,ao]at h;simp only[bR,ar,ao];by_cases hp:p=s
  .rw[aj hp]
  .rw[aa hp]at h⊢;exact xm (args:=xs) (p:=p+1) (s:=s) (j:=j) (res:=res) (by unfold aF;exact h)
 | .row .. ::xs,p,s,j,res,h=>by
  simp only[bR,aF,ao]at h;simp only[bR,ar,ao];by_cases hp:p=s
  .rw[aj hp]
  .rw[aa hp]at h⊢;exact xm (args:=xs) (p:=p+1) (s:=s) (j:=j) (res:=res) (by unfold aF;exact h)
 | .fW .. ::xs,p,s,j,res,h=>by
  simp only[bR,aF,ao]at h;simp only[bR,ar,ao];by_cases hp:p=s
  .rw[aj hp]
  .rw[aa hp]at h⊢;exact xm (args:=xs) (p:=p+1) (s:=s) (j:=j) (res:=res) (by unfold aF;exact h)
theorem sr:∀{args:List Arg} {p k s j:Nat} {res:bV} {bs:List dQ} {us:List Value},bP P w A0 aS γ k args bs us->aF (bR p args) s j=some res->
  p≤s/\res.e=0/\res.fz=false/\res.dR=true/\
  ((res.var=true/\j=0/\∃(i b:Nat) (l:List RO) (m:Nat) (c:Array Value) (e:Nat),(bF p args)[i]? =some (.o s)/\bs[i]? =some (.dI b)/\aS b/\dq γ p k args bs s 0=⟨some (b,0),0⟩/\w.heap[b]? =some (.cells c e (0,0))/\
    res.cells=fT s 0 0 l/\cU A0 w γ m l c.toList/\(∀u∈c.toList,flat u=true)/\
    (∀(i sz n:Nat) (ds:List D) (bo:Bool),l[i]? =some (.own sz n ds bo)->aF (bR p args) s (i+1)=some {e:=0,var:=false,fz:=false,dR:=true,sz,cells:=ds.map C.d}/\
     dq γ p k args bs s (i+1)=γ (m+i)))∨
   (res.var=false/\∃(m sz n:Nat) (ds:List D) (bo:Bool),(qk p args)[m]? =some (s,j)/\(cn args)[m]? =some (.own sz n ds bo)/\dq γ p k args bs s j=γ (k+m)/\res.sz=sz/\res.cells=ds.map C.d/\
    dm w A0 (γ (k+m)) sz ds))
 |[],_,_,_,_,_,_,_,_,h=>by simp[bR,aF,ao]at h
 | .f x::xs,p,k,s,j,res,bs,us,ha,h=>by simp only[bP]at ha;obtain⟨u,us',_,_,ha⟩:=ha;obtain⟨h1,h2⟩:=sr (p:=p+1) ha (by simpa[bR]using h);exact⟨by omega,h2⟩
 | .obj l::xs,p,k,s,j,res,bs,us,ha,h=>by
  simp only[bP]at ha;obtain⟨b,bs',us',c,e,rfl,rfl,hB,hw,hro,hfl,ha⟩:=ha;by_cases hp:p=s
  .subst hp;have hl:∀i,aF (bR p (.obj l::xs)) p i=(match (some {e:=0,var:=true,fz:=false,dR:=true,sz:=0,cells:=fT p 0 0 l}::kF l)[i]? with|some (some res)=>some res|_=>none):=λ i=>by simp only[bR,aF,ao,cS];rfl
   rw[hl]at h;cases j with
   |zero=>
    simp only[c9,bn]at h;subst h;refine⟨Nat.le_refl _,rfl,rfl,rfl, .inl ⟨rfl,rfl,0,b,l,k,c,e,by simp[bF],by simp,hB,by simp[dq],hw,rfl,hro,hfl,λ i sz n ds bo hi=>⟨?_,by simp[dq]⟩⟩⟩;rw[hl];simp[HG hi]
   |succ i=>
    simp only[lQ]at h;split at h
    .rename_i q hq;cases h;obtain⟨sz,n,ds,bo,g1,rfl⟩:=He hq;have hi:i<l.length:=(cG.1 g1).1;have hrow:=cU.row hro g1;refine⟨Nat.le_refl _,rfl,rfl,rfl, .inr ⟨rfl,i,sz,n,ds,bo, ?_, ?_,by simp[dq],rfl,rfl,hrow⟩⟩
     .simp only[qk];rw[dA (by simpa using hi)];simp[hi]
     .simp only[cn];rw[dA hi];exact g1
    .cases h
  .have hl:∀s' i,p≠s'->aF (bR p (.obj l::xs)) s' i=aF (bR (p+1) xs) s' i:=λ s' i hs'=>by simp only[bR,aF,ao,aa hs']
   rw[hl s j hp]at h;obtain⟨h1,h2,h3,h4,h5⟩:=sr (p:=p+1) ha h;have hb:∀j',dq γ p k (.obj l::xs) (.dI b::bs') s j'=dq γ (p+1) (k+l.length) xs bs' s j':=λ j'=>by simp only[dq];rw[aa (fu hp)]
   refine⟨by omega,h2,h3,h4, ?_⟩;rcases h5 with⟨g0,g1,i,b',l',m,c',e',g2,g3,g4,g5,g6,g7,g8,g9,g10⟩|⟨g0,m,sz,n,ds,bo,g1,g2,g3,g4,g5,g6⟩
   .refine .inl ⟨g0,g1,i+1,b',l',m,c',e',by simpa[bF]using g2,by simpa using g3,g4,by rw[hb];exact g5,g6,g7,g8,g9,λ i sz n ds bo hi=> ?_⟩;rw[hl _ _ hp,hb];exact g10 i sz n ds bo hi
   .refine .inr ⟨g0,l.length+m,sz,n,ds,bo, ?_, ?_, ?_,g4,g5, ?_⟩
    .simp only[qk];rw[dL (by simp)];simpa using g1
    .simp only[cn];rw[dL (by simp)];simpa using g2
    .rw[hb,g3,ey]
    .rw[←ey];exact g6
 | .row sz0 n0 ds0::xs,p,k,s,j,res,bs,us,ha,h=>by
  simp only[bP]at ha;obtain⟨u,bs',us',rfl,rfl,hro,ha⟩:=ha;by_cases hp:p=s
  .subst hp;have hl:∀i,aF (bR p (.row sz0 n0 ds0::xs)) p i=(match ([none,some {e:=0,var:=false,fz:=false,dR:=true,sz:=sz0,cells:=ds0.map C.d}]:List (Option bV))[i]? with|some (some res)=>some res|_=>none):=λ i=>by simp only[bR,aF,ao,cS];rfl
   rw[hl]at h;simp only[d9]at hro
   match j,h with
   |0,h=>simp at h
   |1,h=>
    simp only[lQ,c9,bn]at h;subst h;exact⟨Nat.le_refl _,rfl,rfl,rfl, .inr ⟨rfl,0,sz0,n0,ds0,true,by simp[qk],by simp[cn],by simp[dq],rfl,rfl,hro.2.2.1⟩⟩
   |j+2,h=>simp at h
  .have hl:∀s' i,p≠s'->aF (bR p (.row sz0 n0 ds0::xs)) s' i=aF (bR (p+1) xs) s' i:=λ s' i hs'=>by simp only[bR,aF,ao,aa hs']
   rw[hl s j hp]at h;obtain⟨h1,h2,h3,h4,h5⟩:=sr (p:=p+1) ha h;have hb:∀j',dq γ p k (.row sz0 n0 ds0::xs) (.val u::bs') s j'=dq γ (p+1) (k+1) xs bs' s j':=λ j'=>by simp only[dq];rw[aa (fu hp)]
   refine⟨by omega,h2,h3,h4, ?_⟩;rcases h5 with⟨g0,g1,i,b',l',m,c',e',g2,g3,g4,g5,g6,g7,g8,g9,g10⟩|⟨g0,m,sz,n,ds,bo,g1,g2,g3,g4,g5,g6⟩
   .refine .inl ⟨g0,g1,i+1,b',l',m,c',e',by simpa[bF]using g2,by simpa using g3,g4,by rw[hb];exact g5,g6,g7,g8,g9,λ i sz n ds bo hi=> ?_⟩;rw[hl _ _ hp,hb];exact g10 i sz n ds bo hi
   .refine .inr ⟨g0,m+1,sz,n,ds,bo,by simpa[qk]using g1,by simpa[cn]using g2, ?_,g4,g5, ?_⟩
    .rw[hb,g3];congr 1;omega
    .rw[show k+(m+1)=k+1+m from by omega];exact g6
 | .fW pre0 post0 sz0 n0 ds0::xs,p,k,s,j,res,bs,us,ha,h=>by
  simp only[bP]at ha;obtain⟨vs,u,ws,bs',us',rfl,rfl,_,_,hro,ha⟩:=ha;by_cases hp:p=s
  .subst hp;have hl:∀i,aF (bR p (.fW pre0 post0 sz0 n0 ds0::xs)) p i=(match ([none,some {e:=0,var:=false,fz:=false,dR:=true,sz:=sz0,cells:=ds0.map C.d}]:List (Option bV))[i]? with|some (some res)=>some res|_=>none):=λ i=>by simp only[bR,aF,ao,cS];rfl
   rw[hl]at h;simp only[d9]at hro
   match j,h with
   |0,h=>simp at h
   |1,h=>
    simp only[lQ,c9,bn]at h;subst h;exact⟨Nat.le_refl _,rfl,rfl,rfl, .inr ⟨rfl,0,sz0,n0,ds0,true,by simp[qk],by simp[cn],by simp[dq],rfl,rfl,hro.2.2.1⟩⟩
   |j+2,h=>simp at h
  .have hl:∀s' i,p≠s'->aF (bR p (.fW pre0 post0 sz0 n0 ds0::xs)) s' i=aF (bR (p+1) xs) s' i:=λ s' i hs'=>by simp only[bR,aF,ao,aa hs']
   rw[hl s j hp]at h;obtain⟨h1,h2,h3,h4,h5⟩:=sr (p:=p+1) ha h;have hb:∀j',dq γ p k (.fW pre0 post0 sz0 n0 ds0::xs) (.val u::bs') s j'=dq γ (p+1) (k+1) xs bs' s j':=λ j'=>by simp only[dq];rw[aa (fu hp)]
   refine⟨by omega,h2,h3,h4, ?_⟩;rcases h5 with⟨g0,g1,i,b',l',m,c',e',g2,g3,g4,g5,g6,g7,g8,g9,g10⟩|⟨g0,m,sz,n,ds,bo,g1,g2,g3,g4,g5,g6⟩
   .refine .inl ⟨g0,g1,i+1,b',l',m,c',e',by simpa[bF]using g2,by simpa using g3,g4,by rw[hb];exact g5,g6,g7,g8,g9,λ i sz n ds bo hi=> ?_⟩;rw[hl _ _ hp,hb];exact g10 i sz n ds bo hi
   .refine .inr ⟨g0,m+1,sz,n,ds,bo,by simpa[qk]using g1,by simpa[cn]using g2, ?_,g4,g5, ?_⟩
    .rw[hb,g3];congr 1;omega
    .rw[show k+(m+1)=k+1+m from by omega];exact g6
theorem Aa:∀{args:List Arg} {k:Nat} {bs:List dQ} {us:List Value},bP P w A0 aS γ k args bs us->us.length=args.length/\(∀p,(bF p args).length=bs.length)/\∀p,(gh p args).length=args.length
 |[],k,bs,us,h=>by simp only[bP]at h;obtain⟨rfl,rfl⟩:=h;exact⟨rfl,λ _=>rfl,λ _=>rfl⟩
 | .f x::xs,k,bs,us,h=>by simp only[bP]at h;obtain⟨u,us',rfl,_,h⟩:=h;obtain⟨g1,g2,g3⟩:=Aa h;exact⟨by simp[g1],λ p=>by simp only[bF];exact g2 _,λ p=>by simp[gh,g3]⟩
 | .obj l::xs,k,bs,us,h=>by simp only[bP]at h;obtain⟨b,bs',us',c,e,rfl,rfl,_,_,_,_,h⟩:=h;obtain⟨g1,g2,g3⟩:=Aa h;exact⟨by simp[g1],λ p=>by simp[bF,g2],λ p=>by simp[gh,g3]⟩
 | .row .. ::xs,k,bs,us,h=>by simp only[bP]at h;obtain⟨u,bs',us',rfl,rfl,_,h⟩:=h;obtain⟨g1,g2,g3⟩:=Aa h;exact⟨by simp[g1],λ p=>by simp[bF,g2],λ p=>by simp[gh,g3]⟩
 | .fW .. ::xs,k,bs,us,h=>by simp only[bP]at h;obtain⟨vs,u,ws,bs',us',rfl,rfl,_,_,_,h⟩:=h;obtain⟨g1,g2,g3⟩:=Aa h;exact⟨by simp[g1],λ p=>by simp[bF,g2],λ p=>by simp[gh,g3]⟩
theorem zO:∀{args:List Arg} {p k i:Nat} {bs:List dQ} {us:List Value} {x:AV},bP P w A0 aS γ k args bs us->(gh p args)[i]? =some x->
  ∃u,us[i]? =some u/\(aE (fK P w A0 aS) w [] (λ _ _=>⟨none,0⟩) x u∨
   (∃b,x= .one (.ptr ⟨p+i,0,0⟩ 0)/\u= .pointer (some ⟨b,0,none⟩)/\dq γ p k args bs (p+i) 0=⟨some (b,0),0⟩/\ar (bR p args) (p+i)=1)∨
   (∃sz n ds m,x= .one (.own ⟨p+i,1,0⟩ 0 n)/\d9 A0 w (γ m) (.own sz n ds true) u/\dq γ p k args bs (p+i) 1=γ m/\ar (bR p args) (p+i)=1/\
    ∀res,aQ (bR p args) ⟨p+i,1,0⟩=some res->res.var=false/\res.sz=sz/\res.cells=ds.map C.d)∨
   (∃pre post sz n ds m vs u0 ws,x= .agg (pre++ .own ⟨p+i,1,0⟩ 0 n::post)/\u= .agg (vs++u0::ws).toArray/\aH (fK P w A0 aS) w [] (λ _ _=>⟨none,0⟩) pre vs/\aH (fK P w A0 aS) w [] (λ _ _=>⟨none,0⟩) post ws/\
    d9 A0 w (γ m) (.own sz n ds true) u0/\dq γ p k args bs (p+i) 1=γ m/\ar (bR p args) (p+i)=1/\
    ∀res,aQ (bR p args) ⟨p+i,1,0⟩=some res->res.var=false/\res.sz=sz/\res.cells=ds.map C.d))
 |[],p,k,i,bs,us,x,h,hi=>by simp[gh]at hi
 | .f y::xs,p,k,i,bs,us,x,h,hi=>by
  simp only[bP]at h;obtain⟨u,us',rfl,h1,h⟩:=h;cases i with
  |zero=>simp only[gh,c9,bn]at hi;subst hi;exact⟨u,by simp, .inl h1⟩
  |succ i=>
   obtain⟨u',g1,g2⟩:=zO (p:=p+1) (i:=i) h (by simpa[gh]using hi);rw[show p+1+i=p+(i+1) from by omega]at g2;exact⟨u',by simpa using g1,g2⟩
 | .obj l::xs,p,k,i,bs,us,x,h,hi=>by
  simp only[bP]at h;obtain⟨b,bs',us',c,e,rfl,rfl,_,_,_,_,h⟩:=h;cases i with
  |zero=>
   simp only[gh,c9,bn]at hi;subst hi;exact⟨_,by simp, .inr (.inl ⟨b,by simp,rfl,by simp[dq],by simp[bR,ar,ao]⟩)⟩
  |succ i=>
   obtain⟨u',g1,g2⟩:=zO (p:=p+1) (i:=i) h (by simpa[gh]using hi);rw[show p+1+i=p+(i+1) from by omega]at g2;refine⟨u',by simpa using g1,g2.imp id (Or.imp ?_ (Or.imp ?_ ?_))⟩
   .rintro⟨b',q1,q2,q3,q4⟩
    refine⟨b',q1,q2, ?_, ?_⟩
    .simp only[dq];rw[aa (by omega)];exact q3
    .simp only[bR,ar,ao];rw[aa (by omega)];exact q4
   .rintro⟨sz,n,ds,m,q1,q2,q3,q4,q5⟩
    refine⟨sz,n,ds,m,q1,q2, ?_, ?_, ?_⟩
    .simp only[dq];rw[aa (by omega)];exact q3
    .simp only[bR,ar,ao];rw[aa (by omega)];exact q4
    .simp only[bR,aQ,aF,ao];rw[aa (by omega)];simpa only[aQ,aF]using q5
   .rintro⟨pre,post,sz,n,ds,m,vs1,u1,ws1,q1,q2,q21,q22,q23,q3,q4,q5⟩
    refine⟨pre,post,sz,n,ds,m,vs1,u1,ws1,q1,q2,q21,q22,q23, ?_, ?_, ?_⟩
    .simp only[dq];rw[aa (by omega)];exact q3
    .simp only[bR,ar,ao];rw[aa (by omega)];exact q4
    .simp only[bR,aQ,aF,ao];rw[aa (by omega)];simpa only[aQ,aF]using q5
 | .row sz0 n0 ds0::xs,p,k,i,bs,us,x,h,hi=>by
  simp only[bP]at h;obtain⟨u,bs',us',rfl,rfl,h0,h⟩:=h;cases i with
  |zero=>
   simp only[gh,c9,bn]at hi;subst hi;refine⟨u,by simp, .inr (.inr (.inl ⟨sz0,n0,ds0,k,by simp,h0,by simp[dq],by simp[bR,ar,ao],λ res hr=> ?_⟩))⟩;simp[bR,aQ,aF,ao]at hr;subst hr;exact⟨rfl,rfl,rfl⟩
  |succ i=>
   obtain⟨u',g1,g2⟩:=zO (p:=p+1) (i:=i) h (by simpa[gh]using hi);rw[show p+1+i=p+(i+1) from by omega]at g2;refine⟨u',by simpa using g1,g2.imp id (Or.imp ?_ (Or.imp ?_ ?_))⟩
   .rintro⟨b',q1,q2,q3,q4⟩
    refine⟨b',q1,q2, ?_, ?_⟩
    .simp only[dq];rw[aa (by omega)];exact q3
    .simp only[bR,ar,ao];rw[aa (by omega)];exact q4
   .rintro⟨sz,n,ds,m,q1,q2,q3,q4,q5⟩
    refine⟨sz,n,ds,m,q1,q2, ?_, ?_, ?_⟩
    .simp only[dq];rw[aa (by omega)];exact q3
    .simp only[bR,ar,ao];rw[aa (by omega)];exact q4
    .simp only[bR,aQ,aF,ao];rw[aa (by omega)];simpa only[aQ,aF]using q5
   .rintro⟨pre,post,sz,n,ds,m,vs1,u1,ws1,q1,q2,q21,q22,q23,q3,q4,q5⟩
    refine⟨pre,post,sz,n,ds,m,vs1,u1,ws1,q1,q2,q21,q22,q23, ?_, ?_, ?_⟩
    .simp only[dq];rw[aa (by omega)];exact q3
    .simp only[bR,ar,ao];rw[aa (by omega)];exact q4
    .simp only[bR,aQ,aF,ao];rw[aa (by omega)];simpa only[aQ,aF]using q5
 | .fW pre0 post0 sz0 n0 ds0::xs,p,k,i,bs,us,x,h,hi=>by
  simp only[bP]at h;obtain⟨vs,u,ws,bs',us',rfl,rfl,h01,h02,h0,h⟩:=h;cases i with
  |zero=>
   simp only[gh,c9,bn]at hi;subst hi;refine⟨_,by simp, .inr (.inr (.inr ⟨pre0,post0,sz0,n0,ds0,k,vs,u,ws,by simp,rfl,h01,h02,h0,by simp[dq],by simp[bR,ar,ao],λ res hr=> ?_⟩))⟩;simp[bR,aQ,aF,ao]at hr;subst hr;exact⟨rfl,rfl,rfl⟩
  |succ i=>
   obtain⟨u',g1,g2⟩:=zO (p:=p+1) (i:=i) h (by simpa[gh]using hi);rw[show p+1+i=p+(i+1) from by omega]at g2;refine⟨u',by simpa using g1,g2.imp id (Or.imp ?_ (Or.imp ?_ ?_))⟩
   .rintro⟨b',q1,q2,q3,q4⟩
    refine⟨b',q1,q2, ?_, ?_⟩
    .simp only[dq];rw[aa (by omega)];exact q3
    .simp only[bR,ar,ao];rw[aa (by omega)];exact q4
   .rintro⟨sz,n,ds,m,q1,q2,q3,q4,q5⟩
    refine⟨sz,n,ds,m,q1,q2, ?_, ?_, ?_⟩
    .simp only[dq];rw[aa (by omega)];exact q3
    .simp only[bR,ar,ao];rw[aa (by omega)];exact q4
    .simp only[bR,aQ,aF,ao];rw[aa (by omega)];simpa only[aQ,aF]using q5
   .rintro⟨pre,post,sz,n,ds,m,vs1,u1,ws1,q1,q2,q21,q22,q23,q3,q4,q5⟩
    refine⟨pre,post,sz,n,ds,m,vs1,u1,ws1,q1,q2,q21,q22,q23, ?_, ?_, ?_⟩
    .simp only[dq];rw[aa (by omega)];exact q3
    .simp only[bR,ar,ao];rw[aa (by omega)];exact q4
    .simp only[bR,aQ,aF,ao];rw[aa (by omega)];simpa only[aQ,aF]using q5
end
section
variable {P:Program} {w:World} {A0 aS:Nat->Prop} {γ:Nat->Pl} {T:Nat->Option TI}
def eg (n:Nat) (args:List Arg):G:=⟨gh 0 args++List.replicate (n - args.length) (.one .dead),bR 0 args⟩
theorem xH:∀{bs:List dQ} {i b:Nat},bs[i]? =some (.dI b)->b∈cW bs
 |[],i,b,h=>by simp at h
 | .dI b'::bs,0,b,h=>by simp only[c9,bn,dQ.dI.injEq]at h;subst h;simp[cW]
 | .val u::bs,0,b,h=>by simp at h
 | .dI b'::bs,i+1,b,h=>by simp only[cW,cF];exact .inr (xH (i:=i) (by simpa using h))
 | .val u::bs,i+1,b,h=>xH (bs:=bs) (i:=i) (by simpa using h)
theorem J8:∀{l:List dQ} {i j b:Nat},(cW l).Nodup->l[i]? =some (.dI b)->l[j]? =some (.dI b)->i=j
 |[],i,j,b,_,h,_=>by simp at h
 |x::l,0,0,b,_,_,_=>rfl
 |x::l,0,j+1,b,hn,h,h'=>by simp only[c9,bn]at h;subst h;exact absurd (xH (by simpa using h')) (uS.1 hn).1
 |x::l,i+1,0,b,hn,h,h'=>by simp only[c9,bn]at h';subst h';exact absurd (xH (by simpa using h)) (uS.1 hn).1
 |x::l,i+1,j+1,b,hn,h,h'=>by
  have hn':(cW l).Nodup:=by cases x with
   |dI _=>exact(uS.1 hn).2
   |val _=>exact hn
  rw[J8 hn' (i:=i) (j:=j) (by simpa using h) (by simpa using h')]
theorem cU.shift {A:Nat->Prop} {m:Nat}:∀{l:List RO} {k:Nat} {us:List Value},cU A w γ (m+k) l us->cU A w (λ i=>γ (m+i)) k l us
 |[],_,_,h=>h
 |x::l,k,us,h=>by simp only[cU]at h⊢;obtain⟨u,us',rfl,h1,h2⟩:=h;exact⟨u,us',rfl,h1,cU.shift (k:=k+1) h2⟩
def gC:List Pos->List dQ->List (Nat×Nat)
 | .o p::ps, .dI b::bs=>(p,b)::gC ps bs
 | .r _ _::ps,_::bs=>gC ps bs
 | .o _::ps, .val _::bs=>gC ps bs
 |_,_=>[]
def rowsOf:List Pos->List dQ->List (Nat×Nat×Value)
 | .r p n::ps, .val u::bs=>(p,n,u)::rowsOf ps bs
 | .o _::ps,_::bs=>rowsOf ps bs
 | .r _ _::ps, .dI _::bs=>rowsOf ps bs
 |_,_=>[]
theorem L2 {cx:Cx} {w:World} {r:Rs} {β:Nat->Nat->Pl}:∀{p k:Nat} {args:List Arg} {bs:List dQ} {us:List Value} {w1:World} {A0 aS:Nat->Prop},bP P w1 A0 aS γ k args bs us->
  (∀p b,(p,b)∈gC (bF p args) bs->True)->
  (∀q b,(q,b)∈gC (bF p args) bs->∀res,aQ r ⟨q,0,0⟩=some res->(β q 0).base=some (b,0))->
  (∀q n u,(q,n,u)∈rowsOf (bF p args) bs->ay cx w r β (.own ⟨q,1,0⟩ 0 n) u)->ed cx w r β (bF p args) bs:=by
 intro p k args;induction args generalizing p k with
 |nil=>intro bs us w1 A0 aS h _ _ _;simp only[bP]at h;obtain⟨_,rfl⟩:=h;simp[bF,ed]
 |cons x xs ih=>
  intro bs us w1 A0 aS h h0 h1 h2;cases x with
  |f y=>
   simp only[bP]at h;obtain⟨u,us',rfl,_,h⟩:=h;exact ih h (λ _ _ _=>trivial) h1 h2
  |obj l=>
   simp only[bP]at h;obtain⟨b',bs',us',c,e,rfl,rfl,_,_,_,_,h⟩:=h;simp only[bF,ed];refine⟨h1 p b' (by simp[bF,gC]),ih h (λ _ _ _=>trivial) (λ q b hm=>h1 q b (by simp[bF,gC,hm])) (λ q n u hm=>h2 q n u (by simpa[bF,rowsOf]using hm))⟩
  |fW pre post sz n ds=>
   simp only[bP]at h;obtain⟨vs,u,ws,bs',us',rfl,rfl,_,_,_,h⟩:=h;simp only[bF,ed];refine⟨h2 p n u (by simp[bF,rowsOf]),ih h (λ _ _ _=>trivial) (λ q b hm=>h1 q b (by simpa[bF,gC]using hm)) (λ q n u hm=>h2 q n u (by simp[bF,rowsOf,hm]))⟩
  |row sz n ds=>
   simp only[bP]at h;obtain⟨u,bs',us',rfl,rfl,_,h⟩:=h;simp only[bF,ed];refine⟨h2 p n u (by simp[bF,rowsOf]),ih h (λ _ _ _=>trivial) (λ q b hm=>h1 q b (by simpa[bF,gC]using hm)) (λ q n u hm=>h2 q n u (by simp[bF,rowsOf,hm]))⟩
theorem xp:∀{ys:List Arg} {q:Nat},(∀s b bs,(s,b)∈gC (bF q ys) bs->q≤s)/\(∀s n u bs,(s,n,u)∈rowsOf (bF q ys) bs->q≤s):=by
 intro ys;induction ys with
 |nil=>intro q;exact⟨λ s b bs h=>by simp[bF,gC]at h,λ s n u bs h=>by simp[bF,rowsOf]at h⟩
 |cons y ys ih=>
  intro q;cases y with
  |f _=>exact⟨λ s b bs h=>by have:=(ih (q:=q+1)).1 s b bs h;omega,λ s n u bs h=>by have:=(ih (q:=q+1)).2 s n u bs h;omega⟩
  |obj l=>
   refine⟨λ s b bs h=> ?_,λ s n u bs h=> ?_⟩
   .cases bs with
    |nil=>simp[bF,gC]at h
    |cons b0 bs=>
     cases b0 with
     |dI b0=>
      simp only[bF,gC,cF,pA]at h;rcases h with⟨rfl,_⟩|h
      .exact Nat.le_refl _
      .have:=(ih (q:=q+1)).1 s b bs h;omega
     |val _=>have:=(ih (q:=q+1)).1 s b bs (by simpa[bF,gC]using h);omega
   .cases bs with
    |nil=>simp[bF,rowsOf]at h
    |cons b0 bs=>have:=(ih (q:=q+1)).2 s n u bs (by simpa[bF,rowsOf]using h);omega
  |row sz n0 ds=>
   refine⟨λ s b bs h=> ?_,λ s n u bs h=> ?_⟩
   .cases bs with
    |nil=>simp[bF,gC]at h
    |cons b0 bs=>have:=(ih (q:=q+1)).1 s b bs (by simpa[bF,gC]using h);omega
   .cases bs with
    |nil=>simp[bF,rowsOf]at h
    |cons b0 bs=>
     cases b0 with
     |val u0=>
      simp only[bF,rowsOf,cF,pA]at h;rcases h with⟨rfl,_⟩|h
      .exact Nat.le_refl _
      .have:=(ih (q:=q+1)).2 s n u bs h;omega
     |dI _=>have:=(ih (q:=q+1)).2 s n u bs (by simpa[bF,rowsOf]using h);omega
  |fW _ _ sz n0 ds=>
   refine⟨λ s b bs h=> ?_,λ s n u bs h=> ?_⟩
   .cases bs with
    |nil=>simp[bF,gC]at h
    |cons b0 bs=>have:=(ih (q:=q+1)).1 s b bs (by simpa[bF,gC]using h);omega
   .cases bs with
    |nil=>simp[bF,rowsOf]at h
    |cons b0 bs=>
     cases b0 with
     |val u0=>
      simp only[bF,rowsOf,cF,pA]at h;rcases h with⟨rfl,_⟩|h
      .exact Nat.le_refl _
      .have:=(ih (q:=q+1)).2 s n u bs h;omega
     |dI _=>have:=(ih (q:=q+1)).2 s n u bs (by simpa[bF,rowsOf]using h);omega
theorem Za:∀{p k:Nat} {args:List Arg} {bs:List dQ} {us:List Value},bP P w A0 aS γ k args bs us->
  ∀(s b:Nat),(s,b)∈gC (bF p args) bs->(dq γ p k args bs s 0).base=some (b,0)/\ar (bR p args) s=1:=by
 intro p k args;induction args generalizing p k with
 |nil=>intro bs us h s b h1;simp[bF,gC]at h1
 |cons x xs ih=>
  intro bs us h s b h1;cases x with
  |f y=>
   simp only[bP]at h;obtain⟨u,us',rfl,_,h⟩:=h;exact ih (p:=p+1) h s b (by simpa[bF]using h1)
  |obj l=>
   simp only[bP]at h;obtain⟨b',bs',us',c,e,rfl,rfl,_,_,_,_,h⟩:=h;simp only[bF,gC,cF,pA]at h1;rcases h1 with⟨rfl,rfl⟩|h1
   .exact⟨by simp[dq],by simp[bR,ar,ao]⟩
   .have hs:=xp.1 s b bs' h1;have:=ih (p:=p+1) (k:=k+l.length) h s b h1;simp only[dq,bR,ar,ao];rw[aa (by omega),aa (by omega)];exact this
  |row sz n ds=>
   simp only[bP]at h;obtain⟨u,bs',us',rfl,rfl,_,h⟩:=h;have h1:(s,b)∈gC (bF (p+1) xs) bs':=by simpa[bF,gC]using h1
   have hs:=xp.1 s b bs' h1;have:=ih (p:=p+1) (k:=k+1) h s b h1;simp only[dq,bR,ar,ao];rw[aa (by omega),aa (by omega)];exact this
  |fW pre post sz n ds=>
   simp only[bP]at h;obtain⟨vs,u,ws,bs',us',rfl,rfl,_,_,_,h⟩:=h;have h1:(s,b)∈gC (bF (p+1) xs) bs':=by simpa[bF,gC]using h1
   have hs:=xp.1 s b bs' h1;have:=ih (p:=p+1) (k:=k+1) h s b h1;simp only[dq,bR,ar,ao];rw[aa (by omega),aa (by omega)];exact this
theorem aan:∀{p k:Nat} {args:List Arg} {bs:List dQ} {us:List Value},bP P w A0 aS γ k args bs us->
  ∀(s n:Nat) (u:Value),(s,n,u)∈rowsOf (bF p args) bs->∃sz ds m,d9 A0 w (γ m) (.own sz n ds true) u/\dq γ p k args bs s 1=γ m/\ar (bR p args) s=1/\
   ∀res,aQ (bR p args) ⟨s,1,0⟩=some res->res.var=false/\res.sz=sz/\res.cells=ds.map C.d:=by
 intro p k args;induction args generalizing p k with
 |nil=>intro bs us h s n u h1;simp[bF,rowsOf]at h1
 |cons x xs ih=>
  intro bs us h s n u h1;cases x with
  |f y=>
   simp only[bP]at h;obtain⟨u0,us',rfl,_,h⟩:=h;exact ih (p:=p+1) h s n u (by simpa[bF]using h1)
  |obj l=>
   simp only[bP]at h;obtain⟨b',bs',us',c,e,rfl,rfl,_,_,_,_,h⟩:=h;have h1:(s,n,u)∈rowsOf (bF (p+1) xs) bs':=by simpa[bF,rowsOf]using h1
   have hs:=xp.2 s n u bs' h1;obtain⟨sz,ds,m,q1,q2,q3,q4⟩:=ih (p:=p+1) (k:=k+l.length) h s n u h1;refine⟨sz,ds,m,q1, ?_, ?_, ?_⟩
   .simp only[dq];rw[aa (by omega)];exact q2
   .simp only[bR,ar,ao];rw[aa (by omega)];exact q3
   .simp only[bR,aQ,aF,ao];rw[aa (by omega)];simpa only[aQ,aF]using q4
  |row sz n0 ds=>
   simp only[bP]at h;obtain⟨u0,bs',us',rfl,rfl,h0,h⟩:=h;simp only[bF,rowsOf,cF,pA]at h1;rcases h1 with⟨rfl,rfl,rfl⟩|h1
   .refine⟨sz,ds,k,h0,by simp[dq],by simp[bR,ar,ao],λ res hr=> ?_⟩;simp[bR,aQ,aF,ao]at hr;subst hr;exact⟨rfl,rfl,rfl⟩
   .have hs:=xp.2 s n u bs' h1;obtain⟨sz,ds,m,q1,q2,q3,q4⟩:=ih (p:=p+1) (k:=k+1) h s n u h1;refine⟨sz,ds,m,q1, ?_, ?_, ?_⟩
    .simp only[dq];rw[aa (by omega)];exact q2
    .simp only[bR,ar,ao];rw[aa (by omega)];exact q3
    .simp only[bR,aQ,aF,ao];rw[aa (by omega)];simpa only[aQ,aF]using q4
  |fW pre post sz n0 ds=>
   simp only[bP]at h;obtain⟨vs,u0,ws,bs',us',rfl,rfl,_,_,h0,h⟩:=h;simp only[bF,rowsOf,cF,pA]at h1;rcases h1 with⟨rfl,rfl,rfl⟩|h1
   .refine⟨sz,ds,k,h0,by simp[dq],by simp[bR,ar,ao],λ res hr=> ?_⟩;simp[bR,aQ,aF,ao]at hr;subst hr;exact⟨rfl,rfl,rfl⟩
   .have hs:=xp.2 s n u bs' h1;obtain⟨sz,ds,m,q1,q2,q3,q4⟩:=ih (p:=p+1) (k:=k+1) h s n u h1;refine⟨sz,ds,m,q1, ?_, ?_, ?_⟩
    .simp only[dq];rw[aa (by omega)];exact q2
    .simp only[bR,ar,ao];rw[aa (by omega)];exact q3
    .simp only[bR,aQ,aF,ao];rw[aa (by omega)];simpa only[aQ,aF]using q4
theorem FX {cx:Cx} {w:World} {r:Rs} {β:Nat->Nat->Pl} {A:Nat->Prop} {hd:Hd} {sz n:Nat} {ds:List D} {u:Value} {pl:Pl} (h:d9 A w pl (.own sz n ds true) u) (hpl:β hd.s hd.j=pl) (hlt:hd.e<ar r hd.s)
  (hr:∀res,aQ r hd=some res->res.var=false/\res.sz=sz/\res.cells=ds.map C.d):ay cx w r β (.own hd 0 n) u:=by
 simp only[d9]at h;obtain⟨h1,h2,h3,ad,rfl,h5⟩:=h;simp only[ay];refine⟨rfl,hlt,λ res hres=> ?_⟩;obtain⟨g1,g2,g3⟩:=hr res hres;refine⟨g1,by rw[g2,g3];simpa using h1,by rw[hpl];omega,ad,by rw[hpl];simp, ?_⟩;rw[hpl];rcases h5 with h5|⟨b,o,h5,h6⟩
 .exact .inl (by omega)
 .exact .inr ⟨b,o,h5,by simpa using h6⟩
abbrev iX (P:Program) (w:World) (A0 aS:Nat->Prop) (args:List Arg) (bs:List dQ):Cx:={P,w0:=w,A0,aS,Obj:=gC (bF 0 args) bs,Row:=rowsOf (bF 0 args) bs}
section
variable {cx:Cx} {r:Rs} {β:Nat->Nat->Pl} {ob:List (Nat×Nat)} {rw':List (Nat×Nat×Value)}
mutual
theorem ay.obj:∀{c:C} {u:Value},ay cx w r β c u->ay {cx with Obj:=ob,Row:=rw'} w r β c u
 | .d _,_,h=>by simp only[ay]at h⊢;exact h
 | .aC n ds,_,h=>by simp only[ay]at h⊢;exact h
 | .own hd lo n,u,h=>by simp only[ay]at h⊢;exact h
 | .ptr hd off,u,h=>by simp only[ay]at h⊢;exact h
 | .fJ ds,_,h=>by simp only[ay]at h⊢;exact h
 | .fx f caps,_,h=>by simp only[ay]at h⊢;obtain⟨us,h1,h2⟩:=h;exact⟨us,h1,aH.obj h2⟩
 | .ab,_,h=>by simpa only[ay]using h
 | .dead,_,_=>by simp[ay]
 | .ib cs,u,h=>by simp only[ay]at h⊢;obtain⟨b,o,us,h1,h2,h3,h4,h5⟩:=h;exact⟨b,o,us,h1,h2,h3,h4,aH.obj h5⟩
 | .eX hd lo n k,u,h=>by simp only[ay]at h⊢;exact h
 | .lk hd n x,u,h=>by simp only[ay]at h⊢;exact h
theorem aH.obj:∀{c:List C} {u:List Value},aH cx w r β c u->aH {cx with Obj:=ob,Row:=rw'} w r β c u
 |[],_,h=>by simpa[aH]using h
 |c::cs,_,h=>by simp only[aH]at h⊢;obtain⟨u,us,h1,h2,h3⟩:=h;exact⟨u,us,h1,ay.obj h2,aH.obj h3⟩
end
mutual
theorem aE.obj:∀{c:AV} {u:Value},aE cx w r β c u->aE {cx with Obj:=ob,Row:=rw'} w r β c u
 | .one _,_,h=>by simp only[aE]at h⊢;exact h.obj
 | .agg l,_,h=>by simp only[aE]at h⊢;obtain⟨us,h1,h2⟩:=h;exact⟨us,h1,h2.obj⟩
 | .ig l,_,h=>by simp only[aE]at h⊢;obtain⟨us,h1,h2⟩:=h;exact⟨us,h1,bU.obj h2⟩
 | .gd c y,_,h=>by simp only[aE]at h⊢;exact⟨λ hc=>aE.obj (h.1 hc),h.2⟩
theorem bU.obj:∀{c:List AV} {u:List Value},bU cx w r β c u->bU {cx with Obj:=ob,Row:=rw'} w r β c u
 |[],_,h=>by simpa[bU]using h
 |c::cs,_,h=>by simp only[bU]at h⊢;obtain⟨u,us,h1,h2,h3⟩:=h;exact⟨u,us,h1,aE.obj h2,bU.obj h3⟩
end
end
theorem zr {args:List Arg} {bs:List dQ} {us:List Value} {n:Nat} (h:bP P w A0 aS γ 0 args bs us) (hA:∀b,A0 b->b<w.heap.size) (hB:∀b,aS b->A0 b)
  (hnb:∀b,NB γ 0 (cn args) b->aS b/\b ∉ cW bs) (hnd:(cW bs).Nodup) (hap:uZ γ (cn args)):
  aL (iX P w A0 aS args bs) (eg n args) {tmps:=us.toArray++Array.replicate (n - us.length) undef,defers:=[]} w (dq γ 0 0 args bs):=by
 obtain⟨l1,l2,l3⟩:=Aa h;have hbase:∀s j res b o,aF (bR 0 args) s j=some res->(dq γ 0 0 args bs s j).base=some (b,o)->aS b:=λ s j res b o hl hb=>by
  obtain⟨_,_,_,_,h5⟩:=sr h hl;rcases h5 with⟨_,rfl,i,b',l',m,c,e,_,_,g4,g5,_⟩|⟨_,m,sz,n,ds,bo,_,g2,g3,_⟩
  .rw[g5]at hb;cases hb;exact g4
  .rw[g3]at hb;exact(hnb b (lL (k:=0) g2 hb)).1
 have hAv:∀b,Av (iX P w A0 aS args bs) (bR 0 args) (dq γ 0 0 args bs) b->A0 b:=λ b hb=>by
  rcases hb with hb|⟨s,j,res,o,hl,_,hb⟩
  .exact hb
  .exact hB b (hbase s j res b o hl hb)
 have hx:Ext (iX P w A0 aS args bs) w [] (λ _ _=>⟨none,0⟩) w (bR 0 args) (dq γ 0 0 args bs):=
  ⟨λ s=>by simp[ar,ao],λ hd res' hlt _=>by simp[ar,ao]at hlt,⟨λ _ _ _=>rfl,λ b _ hb=> .inl (hAv b hb)⟩,λ _ _ _=>rfl,rfl,rfl⟩
 refine⟨by simp[eg,l1,l3],rfl,λ i x hi=> ?_,λ s j res hl=> ?_,λ s j res s' j' res' b o o' hl _ hl' _ hb hb'=> ?_,λ s j res b o hl _ hb=> ?_,Nat.le_refl _,λ _ _ _=>rfl,hA,hB,λ p b hm=> ?_,λ p n u hm=> ?_,rfl,rfl⟩
 .simp only[eg]at hi;rcases iw i args.length with hlt|hge
  .rw[dA (by rw[l3];exact hlt)]at hi;obtain⟨u,g1,g2⟩:=zO h hi;refine⟨u,by rw[Array.getElem?_append_left (by simp[l1];exact hlt)];simpa using g1, ?_⟩;rcases g2 with g2|⟨b,rfl,rfl,g3,g4⟩|⟨sz,n',ds,m,rfl,g2,g3,g4,g5⟩|⟨pre,post,sz,n',ds,m,vs1,u1,ws1,rfl,rfl,q1,q2,g2,g3,g4,g5⟩
   .exact(aE.obj (ob:=gC (bF 0 args) bs) (rw':=rowsOf (bF 0 args) bs) g2).ext hx
   .simp only[cc]at g3 g4⊢;simp only[aE,ay];exact⟨rfl,by simp only[eg];rw[g4];exact Nat.one_pos,λ res hres=>⟨b,0,by rw[g3],rfl⟩⟩
   .simp only[cc]at g3 g4 g5⊢;exact fa.2 (FX g2 g3 (by simp only[eg];rw[g4];exact Nat.one_pos) g5)
   .simp only[cc]at g3 g4 g5⊢;refine jX.2 ⟨_,rfl, ?_⟩;have hown:=FX (cx:=iX P w A0 aS args bs) (w:=w) (r:=bR 0 args) (β:=dq γ 0 0 args bs) (hd:=⟨i,1,0⟩) g2 g3 (by rw[g4];exact Nat.one_pos) g5;have h1:=(aH.obj (ob:=gC (bF 0 args) bs) (rw':=rowsOf (bF 0 args) bs) q1).ext hx;have h2:=(aH.obj (ob:=gC (bF 0 args) bs) (rw':=rowsOf (bF 0 args) bs) q2).ext hx;exact Fk h1 (by simp only[aH];exact⟨_,_,rfl,hown,h2⟩)
  .rw[dL (by rw[l3];exact hge)]at hi;rw[Ek]at hi;split at hi
   .rename_i hlt;cases hi;refine⟨undef, ?_,by simp[aE,ay]⟩;rw[l3]at hlt;rw[Array.getElem?_append_right (by simp[l1];exact hge)];simp[l1,hlt]
   .cases hi
 .simp only[eg]at hl⊢;obtain⟨_,h2,h3,h4,h5⟩:=sr h hl;refine⟨?_,by rw[h2,xm hl];exact Nat.one_pos⟩;rcases h5 with⟨g0,rfl,i,b,l',m,c,e,g2,g3,g4,g5,g6,g7,g8,g9,g10⟩|⟨g0,m,sz,n,ds,bo,g1,g2,g3,g4,g5,g6⟩
  .unfold cJ;rw[aj g0];refine⟨h3,b,c,e,by rw[g5],g6, ?_,g9⟩;rw[g7];refine vB (γ:=λ k=>γ (m+k)) hAv (λ i sz n ds bo hi=> ?_) ?_
   .obtain⟨q1,q2⟩:=g10 i sz n ds bo hi;rw[cc];exact⟨⟨true,gu q1 rfl⟩,q2,by rw[xm hl];exact Nat.one_pos⟩
   .exact cU.shift (m:=m) (k:=0) g8
  .unfold cJ;rw[aa (by simp[g0])];refine⟨ds,g5, ?_,λ hf=>by rw[h3]at hf;cases hf⟩;rw[g3,g4,cc];rw[cc]at g6;exact g6.dy ⟨λ _ _ _=>rfl,λ b _ hb=>hAv b hb⟩ (λ _ _ _=>rfl)
 .simp only[eg]at hl hl';obtain⟨_,_,_,_,h5⟩:=sr h hl;obtain⟨_,_,_,_,h5'⟩:=sr h hl';rcases h5 with⟨g0,rfl,i,b1,l',m,c,e,g2,g3,g4,g5,g6⟩|⟨g0,m,sz,n,ds,bo,g1,g2,g3,g4⟩<;>
   rcases h5' with⟨k0,rfl,i',b1',l'',m',c',e',k2,k3,k4,k5,k6⟩|⟨k0,m',sz',n',ds',bo',k1,k2,k3,k4⟩
  .rw[g5]at hb;rw[k5]at hb';cases hb;cases hb';have hi:i=i':=J8 hnd g3 k3;subst hi;rw[g2]at k2;cases k2;exact⟨rfl,rfl⟩
  .rw[g5]at hb;rw[k3]at hb';cases hb;exact absurd (xH g3) (hnb _ (lL (k:=0) k2 hb')).2
  .rw[g3]at hb;rw[k5]at hb';cases hb';exact absurd (xH k3) (hnb _ (lL (k:=0) g2 hb)).2
  .rw[g3,cc]at hb;rw[k3,cc]at hb';have:=hap m m' b o o' sz n ds bo sz' n' ds' bo' g2 k2 hb hb';subst this;rw[g1]at k1;cases k1;exact⟨rfl,rfl⟩
 .exact⟨.inr (hbase s j res b o hl hb),λ hbor=>by obtain⟨_,_,_,h4,_⟩:=sr h (by simpa[eg]using hl);rw[h4]at hbor;cases hbor⟩
 .obtain⟨e1,e2⟩:=Za h p b hm;simp only[eg];exact⟨by rw[e2];exact Nat.one_pos,λ _ _=>e1⟩
 .obtain⟨sz,ds,m,q1,q2,q3,q4⟩:=aan h p n u hm;exact FX q1 q2 (by simp only[eg];rw[q3];exact Nat.one_pos) q4
end
section
variable {P:Program} {cx:Cx} {T:Nat->Option TI} {v:List AV} {r:Rs} {a:Act} {w:World} {β:Nat->Nat->Pl}
def iC (tmps:Array Value):ResultVar->Sem Value
 | .tmp t=>pure (tmps.getD t undef)
 | .cell a t=>do loadVar t (←asAddr (tmps.getD a undef))
theorem WW (fn:Func) (tmps:Array Value):results fn tmps=(do
  let vs←fn.results.mapM (iC tmps)
  pure (if h:vs.size=1 then vs[0]else .tuple vs)):=by
 unfold results iC;rfl
theorem abJ (hT:cl cx.P T) (h:aL cx ⟨v,r⟩ a w β) {x:ResultVar} (hs:(wF T v r x).1):
  ∃u,(iC a.tmps x).run cx.P w= .ok u w/\aE cx w r β (wF T v r x).2 u:=by
 cases x with
 |tmp t=>exact⟨a.eval (.tmp t),by simp[iC,Act.eval],AJ h (.tmp t)⟩
 |cell p t=>
  simp only[wF]at hs⊢;have hg:=AJ h (.tmp p);split at hs
  .rename_i hd off h1
   try simp only[h1]
   rw[h1]at hg;split at hs
   .rename_i res h2
    try simp only[h2]
    simp only[aE,ay]at hg;obtain⟨b,o',g1,g2⟩:=hg.2.2 res h2;obtain⟨hl,_⟩:=cp h2;have hcs:=((h.rs _ _ _ hl).1.cells g1).drop (k:=off);obtain⟨u,f1,f2⟩:=Du hT hcs hs;refine⟨u, ?_,f2⟩;have g2':a.tmps[p]?.getD undef= .pointer (some ⟨b,o'+off,none⟩):=by simpa[Act.eval]using g2
    simp[iC,g2',asAddr,f1]
   .exact hs.elim
  .exact hs.elim
theorem Ag (hT:cl cx.P T) (h:aL cx ⟨v,r⟩ a w β):∀{xs:List ResultVar},(kX T v r xs).1->
  ∃us,(xs.mapM (iC a.tmps)).run cx.P w= .ok us w/\bU cx w r β (kX T v r xs).2 us
 |[],_=>⟨[],by simp,by simp[kX,bU]⟩
 |x::xs,hs=>by simp only[kX]at hs⊢;obtain⟨u,h1,h2⟩:=abJ hT h hs.1;obtain⟨us,h3,h4⟩:=Ag hT h hs.2;refine⟨u::us, ?_,by simp only[bU];exact⟨u,us,rfl,h2,h4⟩⟩;rw[List.mapM_cons];simp[h1,h3]
theorem B1 {fn:Func} {rvs:List ResultVar} {tmps:Array Value} {us:List Value} (hr:fn.results=rvs.toArray) (h:(rvs.mapM (iC tmps)).run P w= .ok us w):
  (results fn tmps).run P w= .ok (qP us) w:=by
 rw[WW,hr,List.mapM_toArray];simp only[lK,map_eq_pure_bind,h,jH];simp only[qv,jH];congr 1;cases us with
 |nil=>rfl
 |cons x xs=>
  cases xs with
  |nil=>rfl
  |cons y ys=>simp[qP]
def ja (T:Nat->Option TI) (rvs:List ResultVar) (ps:List Pos) (post:List RF->List (List RO)->Prop) (e:Ex) (g:G):Prop:=
 match e with
 | .normal=>km T rvs ps post g
 | .ret=>km T rvs ps post g
 | .exit _=>False
 | .panic _=>False
theorem IW {rvs:List ResultVar} {ps:List Pos} {post:List RF->List (List RO)->Prop} {g:G}:ja T rvs ps post .normal g=km T rvs ps post g:=rfl
theorem LA {rvs:List ResultVar} {ps:List Pos} {post:List RF->List (List RO)->Prop} {g:G}:ja T rvs ps post .ret g=km T rvs ps post g:=rfl
theorem K4 {rvs:List ResultVar} {ps:List Pos} {post:List RF->List (List RO)->Prop} {g:G} {id:Nat}:ja T rvs ps post (.exit id) g=False:=rfl
theorem zQ:∀{ps:List Pos} {cs:List (List C)} {bs:List dQ} {b:Nat},fZ r ps cs->ed cx w r β ps bs->b∈cW bs->∃hd res,aQ r hd=some res/\res.var=true/\(β hd.s hd.j).base=some (b,0)
 |[],_,[],_,_,_,h=>by simp[cW]at h
 |[],_,_::_,_,_,hp,_=>by simp[ed]at hp
 | .o p::ps,[],_,_,h1,_,_=>by simp[fZ]at h1
 | .o p::ps,_::_,[],_,_,hp,_=>by simp[ed]at hp
 | .o p::ps,_::_, .val _::_,_,_,hp,_=>by simp[ed]at hp
 | .o p::ps,c::cs, .dI b0::bs,b,h1,hp,hm=>by
  simp only[fZ]at h1;simp only[ed]at hp;obtain⟨⟨res,g1,g2,_⟩,g3⟩:=h1;simp only[cW,cF]at hm;rcases hm with rfl|hm
  .exact⟨⟨p,0,0⟩,res,g1,g2,hp.1 res g1⟩
  .exact zQ g3 hp.2 hm
 | .h hd::ps,[],_,_,h1,_,_=>by simp[fZ]at h1
 | .h hd::ps,_::_,[],_,_,hp,_=>by simp[ed]at hp
 | .h hd::ps,_::_, .val _::_,_,_,hp,_=>by simp[ed]at hp
 | .h hd::ps,c::cs, .dI b0::bs,b,h1,hp,hm=>by
  simp only[fZ]at h1;simp only[ed]at hp;obtain⟨⟨res,g1,g2,_⟩,g3⟩:=h1;simp only[cW,cF]at hm;rcases hm with rfl|hm
  .exact⟨hd,res,g1,g2,hp.1 res g1⟩
  .exact zQ g3 hp.2 hm
 | .r p n::ps,[],_,_,h1,_,_=>by simp[fZ]at h1
 | .r p n::ps,_::_,[],_,_,hp,_=>by simp[ed]at hp
 | .r p n::ps,_::_, .dI _::_,_,_,hp,_=>by simp[ed]at hp
 | .r p n::ps,c::cs, .val u::bs,b,h1,hp,hm=>by simp only[fZ]at h1;simp only[ed]at hp;exact zQ h1.2 hp.2 (by simpa[cW]using hm)
theorem Je (hT:cl P T) (hm:P.follows .mixedOrders=true) {f:FuncId} {fn:Func} {c:Code} {rvs:List ResultVar} {n:Nat} (hf:P.funcs[f]? =some fn) (hb:fn.body=some c)
  (hres:fn.results=rvs.toArray) (hn:fn.ntmps=n) (hcall:∀(us:Array Value) (w:World),(callFunc f us).run P w= .ok (.enter f us) w) {args:List Arg} {post:List RF->List (List RO)->Prop}
  (F:Nat->G) (Cd:Nat->Prop) (hF:∀cx a w,dJ cx (eg n args) a w->∃k,Cd k/\dJ cx (F k) a w)
  (h:∀k,Cd k->cH T P c (F k) (ja T rvs (bF 0 args) post)):ah P f args post:=by
 refine⟨hcall,λ w A0 aS γ bs us hA hB ha hnb hnd hap=> ?_⟩;refine calls_of_wp hf hb ?_;have h0:=zr (n:=n) ha hA hB hnb hnd hap;have hend:∀g a w',dJ (iX P w A0 aS args bs) g a w'->km T rvs (bF 0 args) post g->
   a.defers=[]/\∃v,(results fn a.tmps).run P w'= .ok v w'/\∃rfs objs u,post rfs objs/\Ending.returned v= .returned u/\fl w A0 aS w' bs rfs objs u:=by
  rintro⟨v,r⟩ a w' ⟨β,hh⟩ ⟨g1,g2⟩
  obtain⟨vs,k1,k2⟩:=Ag (cx:=iX P w A0 aS args bs) hT hh g1;refine⟨hh.df,qP vs,B1 hres k1, ?_⟩;unfold xM at g2;split at g2
  .rename_i rfs cs q1 q2;split at g2
   .rename_i objs q3;refine⟨rfs,objs,qP vs,g2.2,rfl, ?_⟩;have hpos:ed (iX P w A0 aS args bs) w' r β (bF 0 args) bs:=L2 ha (λ _ _ _=>trivial) (λ q b hm res hg=>(hh.ob q b hm).2 res hg) (λ q n u hm=>hh.rw q n u hm);refine D2 (cx:=iX P w A0 aS args bs) hh (A1:=A0) (λ b hb=> .inl hb) k2 rfl q1 (z8 q2) q3 g2.1 hpos (λ s j res b o hl hfz hv hbase hmem=> ?_);obtain⟨p,res',e1,e2,hbase'⟩:=zQ (z8 q2) hpos hmem;have hlk:=(cp e1).1;have hf':res'.fz=false:=by
     cases hq:res'.fz with
     |false=>rfl
     |true=>have:=hh.vz _ _ _ hlk hq;rw[e2]at this;cases this
    obtain⟨p1,p2⟩:=hh.inj _ _ _ _ _ _ _ _ _ hl hfz hlk hf' hbase hbase';subst p1 p2;rw[hl]at hlk;cases hlk;rw[hv]at e2;cases e2
   .exact g2.elim
  .exact g2.elim
 have hact:({tmps:=us.toArray++Array.replicate (fn.ntmps - us.toArray.size) undef,defers:=[]}:Act)={tmps:=us.toArray++Array.replicate (n - us.length) undef,defers:=[]}:=by rw[hn];simp
 rw[hact];obtain⟨k,hk,hFk⟩:=hF _ _ _ ⟨_,h0⟩;refine uG (cx:=iX P w A0 aS args bs) hT hm c (F k) _ _ (λ e g a w' hh hq=> ?_) (h k hk) _ _ hFk;cases e with
 |normal=>exact hend g a w' hh hq
 |ret=>exact hend g a w' hh hq
 |exit id=>exact hq.elim
 |panic x=>exact hq.elim
theorem vD (hT:cl P T) (hm:P.follows .mixedOrders=true) {f:FuncId} {fn:Func} {c:Code} {rvs:List ResultVar} {n:Nat} (hf:P.funcs[f]? =some fn) (hb:fn.body=some c)
  (hres:fn.results=rvs.toArray) (hn:fn.ntmps=n) (hcall:∀(us:Array Value) (w:World),(callFunc f us).run P w= .ok (.enter f us) w) {args:List Arg} {post:List RF->List (List RO)->Prop}
  (h:cH T P c (eg n args) (ja T rvs (bF 0 args) post)):ah P f args post:=
 Je hT hm hf hb hres hn hcall (λ _=>eg n args) (λ _=>True) (λ _ _ _ hh=>⟨0,trivial,hh⟩) λ _ _=>h
end
section
variable {P:Program} {cx:Cx} {T:Nat->Option TI} {v:List AV} {r:Rs} {a:Act} {w:World} {β:Nat->Nat->Pl}
section
variable {cx:Cx} {r:Rs} {β:Nat->Nat->Pl} {ob:List (Nat×Nat)} {rw':List (Nat×Nat×Value)} {dd:List Deferred}
mutual
theorem ay.mh:∀{c:C} {u:Value},ay cx w r β c u->ay {cx with Obj:=ob,Row:=rw',ds:=dd} w r β c u
 | .d _,_,h=>by simp only[ay]at h⊢;exact h
 | .aC n ds,_,h=>by simp only[ay]at h⊢;exact h
 | .own hd lo n,u,h=>by simp only[ay]at h⊢;exact h
 | .ptr hd off,u,h=>by simp only[ay]at h⊢;exact h
 | .fJ ds,_,h=>by simp only[ay]at h⊢;exact h
 | .fx f caps,_,h=>by simp only[ay]at h⊢;obtain⟨us,h1,h2⟩:=h;exact⟨us,h1,aH.mh h2⟩
 | .ab,_,h=>by simpa only[ay]using h
 | .dead,_,_=>by simp[ay]
 | .ib cs,u,h=>by simp only[ay]at h⊢;obtain⟨b,o,us,h1,h2,h3,h4,h5⟩:=h;exact⟨b,o,us,h1,h2,h3,h4,aH.mh h5⟩
 | .eX hd lo n k,u,h=>by simp only[ay]at h⊢;exact h
 | .lk hd n x,u,h=>by simp only[ay]at h⊢;exact h
theorem aH.mh:∀{c:List C} {u:List Value},aH cx w r β c u->aH {cx with Obj:=ob,Row:=rw',ds:=dd} w r β c u
 |[],_,h=>by simpa[aH]using h
 |c::cs,_,h=>by simp only[aH]at h⊢;obtain⟨u,us,h1,h2,h3⟩:=h;exact⟨u,us,h1,ay.mh h2,aH.mh h3⟩
end
mutual
theorem aE.mh:∀{c:AV} {u:Value},aE cx w r β c u->aE {cx with Obj:=ob,Row:=rw',ds:=dd} w r β c u
 | .one _,_,h=>by simp only[aE]at h⊢;exact h.mh
 | .agg l,_,h=>by simp only[aE]at h⊢;obtain⟨us,h1,h2⟩:=h;exact⟨us,h1,h2.mh⟩
 | .ig l,_,h=>by simp only[aE]at h⊢;obtain⟨us,h1,h2⟩:=h;exact⟨us,h1,bU.mh h2⟩
 | .gd c y,_,h=>by simp only[aE]at h⊢;exact⟨λ hc=>aE.mh (h.1 hc),h.2⟩
theorem bU.mh:∀{c:List AV} {u:List Value},bU cx w r β c u->bU {cx with Obj:=ob,Row:=rw',ds:=dd} w r β c u
 |[],_,h=>by simpa[bU]using h
 |c::cs,_,h=>by simp only[bU]at h⊢;obtain⟨u,us,h1,h2,h3⟩:=h;exact⟨u,us,h1,aE.mh h2,bU.mh h3⟩
end
theorem cJ.mh {pl:Pl} {res:bV} (h:cJ cx w r β pl res):cJ {cx with Obj:=ob,Row:=rw',ds:=dd} w r β pl res:=by
 unfold cJ at h⊢;split
 .rename_i hv;rw[aj hv]at h;obtain⟨h0,b,c,e,h1,h2,h3,h4⟩:=h;exact⟨h0,b,c,e,h1,h2,h3.mh,h4⟩
 .rename_i hv;rw[aa hv]at h;exact h
end
def BE (x:Value) (e:Ex) (g:G):Prop:=
 match e with
 | .panic y=>y=x
 |_=>False
theorem bx {x y:Value} {g:G}:BE x (.panic y) g=(y=x):=rfl
theorem JU (hT:cl P T) (hm:P.follows .mixedOrders=true) {f:FuncId} {fn:Func} {c:Code} {n:Nat} (hf:P.funcs[f]? =some fn) (hb:fn.body=some c)
  (hn:fn.ntmps=n) (hcall:∀(us:Array Value) (w:World),(callFunc f us).run P w= .ok (.enter f us) w) {args:List Arg} {x:Value}
  (h:cH T P c (eg n args) (BE x)):gF P f args x:=by
 refine⟨hcall,λ w A0 aS γ bs us hA hB ha hnb hnd hap=> ?_⟩;refine calls_of_wp hf hb ?_;have h0:=zr (n:=n) ha hA hB hnb hnd hap;have hact:({tmps:=us.toArray++Array.replicate (fn.ntmps - us.toArray.size) undef,defers:=[]}:Act)={tmps:=us.toArray++Array.replicate (n - us.length) undef,defers:=[]}:=by rw[hn];simp
 rw[hact];refine uG (cx:=iX P w A0 aS args bs) hT hm c _ _ _ (λ e g a w' hh hq=> ?_) h _ _ ⟨_,h0⟩;cases e with
 |panic y=>
  obtain⟨β,hh⟩:=hh;cases(show y=x from hq);exact⟨hh.df,rfl,hh.n0,hh.bZ,hh.os,hh.out⟩
 |normal=>exact hq.elim
 |ret=>exact hq.elim
 |exit id=>exact hq.elim
theorem NY (hT:cl cx.P T) {fn:Func} {rvs:List ResultVar} {post:List RF->List (List RO)->Prop} (hres:fn.results=rvs.toArray) {g:G} (hh:dJ cx g a w) (hc:km T rvs [] post g):
  ∃v,(results fn a.tmps).run cx.P w= .ok v w/\∃rfs objs u,post rfs objs/\Ending.returned v= .returned u/\fl cx.w0 cx.A0 cx.aS w [] rfs objs u:=by
 obtain⟨v,r⟩:=g;obtain⟨β,hh⟩:=hh;obtain⟨g1,g2⟩:=hc;obtain⟨vs,k1,k2⟩:=Ag hT hh g1;refine⟨qP vs,B1 hres k1, ?_⟩;unfold xM at g2;split at g2
 .rename_i rfs cs q1 q2;split at g2
  .rename_i objs q3;refine⟨rfs,objs,qP vs,g2.2,rfl, ?_⟩;exact D2 hh (A1:=cx.A0) (λ b hb=> .inl hb) k2 rfl q1 (z8 q2) q3 g2.1 (by simp[ed]) (λ s j res b o _ _ _ _ hm=>by simp[cW]at hm)
  .exact g2.elim
 .exact g2.elim
def En (n:Nat) (ks:List Nat):List AV:=(List.range n).map λ i=>if ks.contains i then .one (.ptr ⟨i,0,0⟩ 0)else .one .dead
def rR (nw:Nat->List Value):List Nat->Rs
 |[]=>[]
 |k::ks=>(k,{next:=1,l:=[some {e:=0,var:=true,fz:=false,sz:=0,cells:=(nw k).map λ x=> .d (.v x)}]})::rR nw ks
def mG (n:Nat) (ks:List Nat) (nw:Nat->List Value):G:=⟨En n ks,rR nw ks⟩
def vY (sz:Nat->Nat) (g:G):List Nat->Prop
 |[]=>True
 |k::ks=>(∃res,g.v[k]? =some (.one (.ptr ⟨k,0,0⟩ 0))/\aQ g.r ⟨k,0,0⟩=some res/\res.var=true/\res.dR=false/\res.cells.length=sz k)/\vY sz g ks
theorem ze {sz:Nat->Nat} {g:G}:∀{ks:List Nat},vY sz g ks->∀k∈ks,∃res,g.v[k]? =some (.one (.ptr ⟨k,0,0⟩ 0))/\aQ g.r ⟨k,0,0⟩=some res/\res.var=true/\res.dR=false/\res.cells.length=sz k
 |[],_,k,hk=>by simp at hk
 |k'::ks,h,k,hk=>by
  rcases cF.1 hk with rfl|hk
  .exact h.1
  .exact ze h.2 k hk
def HT (T:Nat->Option TI) (rvs:List ResultVar) (n:Nat) (ks:List Nat) (sz:Nat->Nat) (nw:Value->Nat->List Value) (Px:Value->Prop) (post:List RF->List (List RO)->Prop) (e:Ex) (g:G):Prop:=
 match e with
 | .normal=>km T rvs [] post g
 | .ret=>km T rvs [] post g
 | .exit _=>False
 | .panic x=>Px x/\g.v.length=n/\vY sz g ks/\km T rvs [] post (mG n ks (nw x))
theorem xG {rvs:List ResultVar} {n:Nat} {ks:List Nat} {sz:Nat->Nat} {nw:Value->Nat->List Value} {Px:Value->Prop} {post:List RF->List (List RO)->Prop} {g:G}:HT T rvs n ks sz nw Px post .ret g=km T rvs [] post g:=rfl
theorem lz {rvs:List ResultVar} {n:Nat} {ks:List Nat} {sz:Nat->Nat} {nw:Value->Nat->List Value} {Px:Value->Prop} {post:List RF->List (List RO)->Prop} {g:G} {x:Value}:
  HT T rvs n ks sz nw Px post (.panic x) g=(Px x/\g.v.length=n/\vY sz g ks/\km T rvs [] post (mG n ks (nw x))):=rfl
def v5 (P:Program) (fc:FuncId) (k:Nat):Prop:=
 ∀(us:Array Value) (w:World),us.size=k->CallsD P fc us .returning w λ e u' w'=>e= .returned (.tuple #[])/\u'= .returning/\vh w jP w'
def vZ (P:Program) (fc:FuncId) (ks:List Nat) (sz:Nat->Nat) (nw:Value->Nat->List Value) (Px:Value->Prop):Prop:=
 ∀(x:Value) (bl:Nat->Nat) (w:World),Px x->(∀k∈ks,∃c e,w.heap[bl k]? =some (.cells c e (0,0))/\c.size=sz k/\∀u∈c.toList,flat u=true)->(∀k∈ks,∀k'∈ks,bl k=bl k'->k=k')->
  CallsD P fc (ks.map λ k=>gY (bl k)).toArray (.panicking [{v:=x,recovered:=false}]) w λ e u' w'=>e= .returned (.tuple #[])/\u'= .panicking [{v:=x,recovered:=true}]/\
   w.heap.size≤w'.heap.size/\(∀b,b<w.heap.size->(∀k∈ks,bl k≠b)->w'.heap[b]? =w.heap[b]?)/\
   (∀k∈ks,∃e,w'.heap[bl k]? =some (.cells (nw x k).toArray e (0,0))/\∀u∈nw x k,flat u=true)/\w'.os=w.os/\w'.output=w.output
theorem Jv {nw:Nat->List Value} {s:Nat}:∀{ks:List Nat} {rs:RS},ao s (rR nw ks)=some rs->s∈ks/\rs={next:=1,l:=[some {e:=0,var:=true,fz:=false,sz:=0,cells:=(nw s).map λ x=> .d (.v x)}]}
 |[],rs,h=>by simp[rR,ao]at h
 |k::ks,rs,h=>by
  simp only[rR,ao]at h;split at h
  .rename_i hk;subst hk;cases h;exact⟨by simp,rfl⟩
  .obtain⟨h1,h2⟩:=Jv h;exact⟨by simp[h1],h2⟩
theorem CH {nw:Nat->List Value} {s:Nat}:∀{ks:List Nat},s∈ks->ao s (rR nw ks)=some {next:=1,l:=[some {e:=0,var:=true,fz:=false,sz:=0,cells:=(nw s).map λ x=> .d (.v x)}]}
 |[],h=>by simp at h
 |k::ks,h=>by
  simp only[rR,ao];split
  .rename_i hk;subst hk;rfl
  .rename_i hk;rcases cF.1 h with rfl|h
   .exact absurd rfl hk
   .exact CH h
theorem Cl {nw:Nat->List Value} {ks:List Nat} {s j:Nat} {res:bV} (h:aF (rR nw ks) s j=some res):s∈ks/\j=0/\res={e:=0,var:=true,fz:=false,sz:=0,cells:=(nw s).map λ x=> .d (.v x)}:=by
 unfold aF at h;cases hf:ao s (rR nw ks)with
 |none=>rw[hf]at h;cases h
 |some rs=>
  rw[hf]at h;obtain⟨h1,rfl⟩:=Jv hf;cases j with
  |zero=>simp at h;exact⟨h1,rfl,h.symm⟩
  |succ j=>simp at h
theorem Ju {r:Rs}:∀{us:List Value},(∀u∈us,flat u=true)->aH cx w r β (us.map λ x=> .d (.v x)) us
 |[],_=>by simp[aH]
 |u::us,h=>by simp only[b7,aH];exact⟨u,us,rfl,iG.2 ⟨rfl,h u (by simp)⟩,Ju λ x hx=>h x (by simp[hx])⟩
theorem aca (h:aL cx ⟨v,r⟩ a w β) {ks:List Nat} {sz:Nat->Nat} {nw:Nat->List Value} {bl:Nat->Nat} {w':World} (hob:∀k∈ks,(k,bl k)∈cx.Obj)
  (hkp:vY sz ⟨v,r⟩ ks) (hobj:∀p b,(p,b)∈cx.Obj->p∈ks/\b=bl p) (hrow:cx.Row=[]) (hsz:w.heap.size≤w'.heap.size)
  (hold:∀b,b<w.heap.size->(∀k∈ks,bl k≠b)->w'.heap[b]? =w.heap[b]?)
  (hnw:∀k∈ks,∃e,w'.heap[bl k]? =some (.cells (nw k).toArray e (0,0))/\∀u∈nw k,flat u=true) (hos:w'.os=w.os) (hout:w'.output=w.output):
  dJ cx (mG v.length ks nw) a w':=by
 have hbase:∀k∈ks,(β k 0).base=some (bl k,0)/\∃res,aF r k 0=some res/\res.fz=false/\res.dR=false:=λ k hk=>by obtain⟨res,g1,g2,g3,g4,_⟩:=ze hkp k hk;refine⟨(h.ob k (bl k) (hob k hk)).2 res g2,res,(cp g2).1, ?_,g4⟩;have:=(h.rs _ _ _ (cp g2).1).1;unfold cJ at this;rw[aj g3]at this;exact this.1
 refine⟨β,⟨?_,h.df,λ i x hi=> ?_,λ s j res hl=> ?_,λ s j res s' j' res' b o o' hl hf hl' hf' hb hb'=> ?_,λ s j res b o hl hf hb=> ?_,i6 h.n0 hsz,λ b hb hn=> ?_,h.a0,h.dR,λ p b hm=> ?_,λ p n u hm=> ?_,hos.trans h.os,hout.trans h.out⟩⟩
 .rw[h.sz];simp[mG,En]
 .have hi2:=hi;simp only[mG,En,ji]at hi;cases hr:(List.range v.length)[i]? with
  |none=>rw[hr]at hi;cases hi
  |some i'=>
   rw[hr]at hi;obtain⟨hlt,rfl⟩:=cG.1 hr;simp only[Bk]at hlt;simp only[List.getElem_range,im,bn]at hi;by_cases hc:ks.contains i=true
   .rw[aj hc]at hi;subst hi;have hk:i∈ks:=by simpa using hc
    obtain⟨res,g1,g2,_⟩:=ze hkp i hk;obtain⟨u,e1,e2⟩:=h.sl i _ g1;refine⟨u,e1, ?_⟩;simp only[aE,ay]at e2⊢;refine⟨e2.1, ?_,λ res' hg=> ?_⟩
    .unfold ar;simp only[mG];rw[CH hk];simp
    .exact e2.2.2 res g2
   .rw[aa hc]at hi;subst hi;obtain⟨u,hu⟩:∃u,a.tmps[i]? =some u:=⟨a.tmps[i]'(by have:=h.sz;simp only at this;omega),D3 _⟩;exact⟨u,hu,by simp[aE,ay]⟩
 .obtain⟨hk,rfl,rfl⟩:=Cl hl;obtain⟨e,g1,g2⟩:=hnw s hk;refine⟨?_,by unfold ar;simp only[mG];rw[CH hk];simp⟩;unfold cJ;rw[aj rfl];exact⟨rfl,bl s,_,e,(hbase s hk).1,g1,Ju g2,λ u hu=>g2 u (by simpa using hu)⟩
 .obtain⟨hk,rfl,rfl⟩:=Cl hl;obtain⟨hk',rfl,rfl⟩:=Cl hl';obtain⟨iC,p1,p2,_⟩:=(hbase s hk).2;obtain⟨res2,p3,p4,_⟩:=(hbase s' hk').2;exact h.inj _ _ _ _ _ _ _ _ _ p1 p2 p3 p4 hb hb'
 .obtain⟨hk,rfl,rfl⟩:=Cl hl;obtain⟨iC,p1,p2,p3⟩:=(hbase s hk).2;have:=h.fr _ _ _ _ _ p1 p2 hb;exact⟨this.1,λ _=>this.2 p3⟩
 .rw[hold b (gI hb h.n0) λ k hk hkb=> ?_]
  .exact h.bZ b hb hn
  .obtain⟨hb1,iC,p1,p2,_⟩:=hbase k hk;rcases(h.fr _ _ _ _ _ p1 p2 hb1).1 with h1|h1
   .omega
   .rw[hkb]at h1;exact hn h1
 .obtain⟨hk,rfl⟩:=hobj p b hm;refine⟨by unfold ar;simp only[mG];rw[CH hk];simp,λ _ _=>(hbase p hk).1⟩
 .rw[hrow]at hm;simp at hm
theorem HF {k:Nat} {A0 aS:Nat->Prop} {γ:Nat->Pl}:∀{xs:List AV} {bs:List dQ} {us:List Value} {p:Nat},bP P w A0 aS γ k (xs.map Arg.f) bs us->bs=[]/\bF p (xs.map Arg.f)=[]
 |[],bs,us,p,h=>by simp only[fY,bP]at h;exact⟨h.2,rfl⟩
 |x::xs,bs,us,p,h=>by simp only[b7,bP]at h;obtain⟨u,us',_,_,h3⟩:=h;obtain⟨h4,_⟩:=HF (p:=p) h3;refine⟨h4, ?_⟩;simp only[b7,bF];exact(HF (p:=p+1) h3).2
theorem qX (hT:cl P T) (hm:P.follows .mixedOrders=true) {f fc:FuncId} {fn:Func} {i0 i1 tq n:Nat} {ops0:Array Oper} {mf df:Oper} {ts:Array TypeId} {rest:Code} {rvs:List ResultVar} {ks:List Nat}
  (hf:P.funcs[f]? =some fn) (hb:fn.body=some (.seq (.region i0 ops0 false) (.seq (.region i1 #[mf,df] false) rest)))
  (hres:fn.results=rvs.toArray) (hn:fn.ntmps=n) (hcall:∀(us:Array Value) (w:World),(callFunc f us).run P w= .ok (.enter f us) w)
  (hcallc:∀(us:Array Value) (w:World),(callFunc fc us).run P w= .ok (.enter fc us) w)
  (hmf:mf.op= .makeFunc (.func fc) #[] (ks.map Operand.tmp).toArray) (hmd:mf.dst=some tq) (hmg:mf.guard=none)
  (hdf:df.op= .defer ⟨.value (.tmp tq), #[],ts⟩) (hdd:df.dst=none) (hdg:df.guard=none) (hks:tq ∉ ks) (htq:tq<n)
  {xs:List AV} {post:List RF->List (List RO)->Prop} {sz:Nat->Nat} {nw:Value->Nat->List Value} {Px:Value->Prop} (hidle:v5 P fc ks.length) (hcatch:vZ P fc ks sz nw Px)
  (G0:G) (h0:cH T P (.region i0 ops0 false) (eg n (xs.map Arg.f)) (tM (λ g=>Gh g G0) λ _ _=>False)) (hG0:vY sz G0 ks) (hl0:G0.v.length=n)
  (h1:cH T P rest ⟨G0.v.set tq (.one .dead),G0.r⟩ (HT T rvs n ks sz nw Px post)):ah P f (xs.map Arg.f) post:=by
 refine⟨hcall,λ w A0 aS γ bs us hA hB ha hnb hnd hap=> ?_⟩;obtain⟨rfl,hpos⟩:=HF (p:=0) ha;refine calls_of_wp_defers hf hb ?_;have hop:=zr (n:=n) ha hA hB hnb hnd hap;have hact:({tmps:=us.toArray++Array.replicate (fn.ntmps - us.toArray.size) undef,defers:=[]}:Act)={tmps:=us.toArray++Array.replicate (n - us.length) undef,defers:=[]}:=by rw[hn];simp
 rw[hact];refine wp_seq (uG (cx:=iX P w A0 aS (xs.map Arg.f) []) hT hm _ _ _ _ (λ e g a w1 hh hq=> ?_) h0 _ _ ⟨_,hop⟩);cases e with
 |exit id=>exact hq.elim
 |ret=>exact hq.elim
 |panic x=>exact hq.elim
 |normal=>
  obtain⟨β1,hh1⟩:=(show Gh g G0 from hq) _ _ _ hh;obtain⟨v0,r0⟩:=G0;simp only at hl0 h1
  -- where the results' cells lie
  let bl:Nat->Nat:=λ k=>match (β1 k 0).base with|some (b,_)=>b|none=>0
  have hbl:∀k∈ks,(β1 k 0).base=some (bl k,0)/\a.tmps[k]? =some (gY (bl k))/\0<ar r0 k/\∃res,aF r0 k 0=some res/\res.e=0:=λ k hk=>by obtain⟨res,g1,g2,g3,g4,g5⟩:=ze hG0 k hk;obtain⟨hl,he⟩:=cp g2;have hok:=(hh1.rs _ _ _ hl).1;unfold cJ at hok;rw[aj g3]at hok;obtain⟨_,b,c,e,k1,_⟩:=hok;simp only at k1;obtain⟨u,e1,e2⟩:=hh1.sl k _ g1;simp only[aE,ay]at e2;obtain⟨_,e3,e4⟩:=e2;obtain⟨b',o',e5,e6⟩:=e4 res g2;rw[k1]at e5;cases e5;refine⟨by simp only[bl];rw[k1], ?_,e3,res,hl,he⟩;rw[e1,e6];simp only[bl,k1]
  let d:Deferred:={target:= .fn (.func fc) (ks.map λ k=>gY (bl k)).toArray,args:= #[]}
  let cx1:Cx:={P,w0:=w,A0,aS,Obj:=ks.map λ k=>(k,bl k),ds:=[d]}
  have hcaps:((ks.map Operand.tmp).toArray).map a.eval=(ks.map λ k=>gY (bl k)).toArray:=by
   simp only[List.map_toArray,rT];congr 1;refine Bj λ k hk=> ?_
   simp only[Function.comp_apply,Act.eval];have:=(hbl k hk).2.1;simp[D5,this]
  have hdf0:a.defers=[]:=hh1.df
  -- the closure is made,and deferred
  refine wp_seq (wp_region ?_);have hrg:List.range (#[mf,df]:Array Oper).size=[0,1]:=rfl;rw[hrg,wpOps_cons];have hi0:([mf,df]:List Oper).toArray[0]? =some mf:=rfl;have hi1:([mf,df]:List Oper).toArray[1]? =some df:=rfl;refine n8 (cx:=cx1) (all:=[mf,df]) hi0 (uh hmg) ?_;unfold Oper.wp;have hr0:(execOp a.eval mf).run P w1= .ok (.value (.func (.func fc) #[] (ks.map λ k=>gY (bl k)).toArray)) w1:=by simp[execOp,hmf,hcaps,Instr.makeFunc]
  rw[hr0,Oper.upon_value,hmd,wpOps_cons];refine n8 (cx:=cx1) (all:=[mf,df]) hi1 (uh hdg) ?_;unfold Oper.wp;have hsz:a.tmps.size=n:=by rw[hh1.sz];exact hl0
  have hev:(a.put (some tq) (.func (.func fc) #[] (ks.map λ k=>gY (bl k)).toArray)).eval (.tmp tq)= .func (.func fc) #[] (ks.map λ k=>gY (bl k)).toArray:=by simp[Act.eval,Act.put,hsz,htq]
  have hr1:(execOp (a.put (some tq) (.func (.func fc) #[] (ks.map λ k=>gY (bl k)).toArray)).eval df).run P w1= .ok (.defer d) w1:=by simp only[execOp,hdf,resolve,hev];simp[Deferred.ofValue,d]
  rw[hr1,Oper.upon_defer,hdd];simp only[wpOps];show rest.wp P _ _ w1;have hh2:aL cx1 ⟨v0.set tq (.one .dead),r0⟩ ({(a.put (some tq) (.func (.func fc) #[] (ks.map λ k=>gY (bl k)).toArray))with defers:=d::(a.put (some tq) (.func (.func fc) #[] (ks.map λ k=>gY (bl k)).toArray)).defers}.put none undef) w1 β1:=by
   refine⟨?_, ?_,λ i x hi=> ?_,λ s j res hl=>⟨(hh1.rs s j res hl).1.mh,(hh1.rs s j res hl).2⟩,hh1.inj,hh1.fr,hh1.n0,hh1.bZ,hh1.a0,hh1.dR,λ p b hm=> ?_,λ p q u hm=>by simp[cx1]at hm,hh1.os,hh1.out⟩
   .simp[Act.put,hsz,hl0]
   .simp[Act.put,hdf0,cx1]
   .simp only[nr]at hi;by_cases hi':tq=i
    .subst hi';rw[aj rfl,aj (by rw[hl0];exact htq)]at hi;cases hi;exact⟨_,by simp only[Act.put];rw[Array.getElem?_setIfInBounds_self];rw[aj (by rw[hsz];exact htq)],by simp[aE,ay]⟩
    .rw[aa hi']at hi;obtain⟨u,e1,e2⟩:=hh1.sl i x hi;refine⟨u, ?_,e2.mh⟩;simp only[Act.put];rw[Array.getElem?_setIfInBounds_ne hi'];exact e1
   .simp only[cx1,kx]at hm;obtain⟨k,hk,hm⟩:=hm;injection hm with e1 e2
    subst e1 e2;obtain⟨q1,_,q3,_⟩:=hbl k hk;exact⟨q3,λ _ _=>q1⟩
  refine uG (cx:=cx1) hT hm rest _ _ _ (λ e g a' w' hh hq=> ?_) h1 _ _ ⟨β1,hh2⟩;have hobk:∀k∈ks,(k,bl k)∈cx1.Obj:=λ k hk=>kx.2 ⟨k,hk,rfl⟩
  have hdf1:a'.defers=[d]:=by obtain⟨β',hh⟩:=hh;exact hh.df
  have hsize1:w.heap.size≤w'.heap.size:=by obtain⟨β',hh⟩:=hh;exact hh.n0
  have hinv:(invoke d.target d.args).run P w'= .ok (.enter fc (ks.map λ k=>gY (bl k)).toArray) w':=by simp only[d,invoke];have:=hcallc (ks.map λ k=>gY (bl k)).toArray w';simpa using this
  have hend:∀{g:G},dJ cx1 g a' w'->km T rvs [] post g->Leaves P fn a'.tmps (λ e w'=>∃rfs objs u,post rfs objs/\e= .returned u/\fl w A0 aS w' [] rfs objs u) [d] .returning w':=λ {g} hg hq=>by
   refine leaves_cons (by simp) hinv ((hidle _ w' (by simp)).mono ?_)
   rintro e u' w'' ⟨rfl,rfl,hp⟩
   obtain⟨v1,r1⟩:=g;obtain⟨β',hg⟩:=hg;obtain⟨val,q1,q2⟩:=NY (cx:=cx1) hT hres ⟨β',J1 hg hp⟩ hq;exact⟨val,q1,q2⟩
  cases e with
  |exit id=>exact hq.elim
  |normal=>
   show Leaves P fn a'.tmps _ a'.defers .returning w';rw[hdf1];exact hend hh hq
  |ret=>
   show Leaves P fn a'.tmps _ a'.defers .returning w';rw[hdf1];exact hend hh hq
  |panic x=>
   obtain⟨hx,hlen,hkp,hq⟩:=hq;show Leaves P fn a'.tmps _ a'.defers (.panicking [{v:=x,recovered:=false}]) w';rw[hdf1];obtain⟨v1,r1⟩:=g;obtain⟨β',hg⟩:=hh;have hblk:∀k∈ks,(β' k 0).base=some (bl k,0)/\∃res,aF r1 k 0=some res/\res.fz=false/\∃c e,w'.heap[bl k]? =some (.cells c e (0,0))/\c.size=sz k/\∀u∈c.toList,flat u=true:=λ k hk=>by obtain⟨res,g1,g2,g3,g4,g5⟩:=ze hkp k hk;obtain⟨hl,he⟩:=cp g2;have hok:=(hg.rs _ _ _ hl).1;unfold cJ at hok;rw[aj g3]at hok;obtain⟨q0,b,c,e,k1,k2,k3,k4⟩:=hok;have hb1:=(hg.ob k (bl k) (hobk k hk)).2 res g2;simp only at k1;rw[hb1]at k1;cases k1;refine⟨hb1,res,hl,q0,c,e,k2, ?_,k4⟩;rw[←g5,←mC];exact ot k3
   refine leaves_cons (by simp) hinv ((hcatch x bl w' hx (λ k hk=>(hblk k hk).2.choose_spec.2.2) (λ k hk k' hk' hb=> ?_)).mono ?_)
   .obtain⟨p1,res,p2,p3,_⟩:=hblk k hk;obtain⟨p4,res',p5,p6,_⟩:=hblk k' hk';rw[hb]at p1;exact(hg.inj _ _ _ _ _ _ _ _ _ p2 p3 p5 p6 p1 p4).1
   .rintro e u' w'' ⟨rfl,rfl,s1,s2,s3,s4,s5⟩
    show Leaves P fn a'.tmps _ [] (settle (.panicking [{v:=x,recovered:=true}])) w''
    have hc:=aca (cx:=cx1) hg (nw:=nw x) (bl:=bl) hobk hkp (λ p b hm=>by simp only[cx1,kx]at hm;obtain⟨k,hk,hm⟩:=hm;cases hm;exact⟨hk,rfl⟩) rfl s1 s2 s3 s4 s5
    simp only at hc hlen;rw[hlen]at hc;obtain⟨val,q1,q2⟩:=NY (cx:=cx1) hT hres hc hq;exact⟨val,q1,q2⟩
end
set_option maxRecDepth 100000
theorem Mo:oN []=true:=rfl
theorem Mu {x:Nat×Nat}:oN [x]=true:=rfl
theorem Us:type_of% (I (I (I (I (@Go.Pk.IW) (I (@Go.Pk.LA) (@Go.Pk.K4))) (I (I (@Go.Pk.Mo) (@Go.Pk.Mu)) (I (@Go.Pk.km.eq_def) (@Go.Pk.xM.eq_def)))) (I (I (I (@Go.Pk.AQ.eq_def) (@Go.Pk.EN.eq_def)) (I (@Go.Pk.Bs.eq_def) (@Go.Pk.sO.eq_def))) (I (I (@Go.Pk.wF.eq_def) (@Go.Pk.eg.eq_def)) (I (@Go.Pk.my.eq_1) (@Go.Pk.my.eq_2))))) (I (I (I (@Go.Pk.pt.eq_1) (I (@Go.Pk.pt.eq_2) (@Go.Pk.iE.eq_1))) (I (I (@Go.Pk.iE.eq_2) (@Go.Pk.i4.eq_1)) (I (@Go.Pk.i4.eq_2) (@Go.Pk.kX.eq_1)))) (I (I (I (@Go.Pk.kX.eq_2) (@Go.Pk.mz.eq_1)) (I (@Go.Pk.mz.eq_2) (@Go.Pk.mz.eq_3))) (I (I (@Go.Pk.mz.eq_4) (@Go.Pk.kO.eq_1)) (I (@Go.Pk.kO.eq_2) (@Go.Pk.kO.eq_3)))))):=I (I (I (I (@Go.Pk.IW) (I (@Go.Pk.LA) (@Go.Pk.K4))) (I (I (@Go.Pk.Mo) (@Go.Pk.Mu)) (I (@Go.Pk.km.eq_def) (@Go.Pk.xM.eq_def)))) (I (I (I (@Go.Pk.AQ.eq_def) (@Go.Pk.EN.eq_def)) (I (@Go.Pk.Bs.eq_def) (@Go.Pk.sO.eq_def))) (I (I (@Go.Pk.wF.eq_def) (@Go.Pk.eg.eq_def)) (I (@Go.Pk.my.eq_1) (@Go.Pk.my.eq_2))))) (I (I (I (@Go.Pk.pt.eq_1) (I (@Go.Pk.pt.eq_2) (@Go.Pk.iE.eq_1))) (I (I (@Go.Pk.iE.eq_2) (@Go.Pk.i4.eq_1)) (I (@Go.Pk.i4.eq_2) (@Go.Pk.kX.eq_1)))) (I (I (I (@Go.Pk.kX.eq_2) (@Go.Pk.mz.eq_1)) (I (@Go.Pk.mz.eq_2) (@Go.Pk.mz.eq_3))) (I (I (@Go.Pk.mz.eq_4) (@Go.Pk.kO.eq_1)) (I (@Go.Pk.kO.eq_2) (@Go.Pk.kO.eq_3)))))
theorem Tn:type_of% (I (I (I (I (@Go.Pk.kO.eq_4) (@Go.Pk.kO.eq_5)) (I (@Go.Pk.gh.eq_1) (I (@Go.Pk.gh.eq_2) (@Go.Pk.gh.eq_3)))) (I (I (@Go.Pk.gh.eq_4) (@Go.Pk.gh.eq_5)) (I (@Go.Pk.kF.eq_1) (I (@Go.Pk.kF.eq_2) (@Go.Pk.kF.eq_3))))) (I (I (I (@Go.Pk.bR.eq_1) (@Go.Pk.bR.eq_2)) (I (@Go.Pk.bR.eq_3) (I (@Go.Pk.bR.eq_4) (@Go.Pk.bR.eq_5)))) (I (I (@Go.Pk.bF.eq_1) (@Go.Pk.bF.eq_2)) (I (@Go.Pk.bF.eq_3) (I (@Go.Pk.bF.eq_4) (@Go.Pk.bF.eq_5)))))):=I (I (I (I (@Go.Pk.kO.eq_4) (@Go.Pk.kO.eq_5)) (I (@Go.Pk.gh.eq_1) (I (@Go.Pk.gh.eq_2) (@Go.Pk.gh.eq_3)))) (I (I (@Go.Pk.gh.eq_4) (@Go.Pk.gh.eq_5)) (I (@Go.Pk.kF.eq_1) (I (@Go.Pk.kF.eq_2) (@Go.Pk.kF.eq_3))))) (I (I (I (@Go.Pk.bR.eq_1) (@Go.Pk.bR.eq_2)) (I (@Go.Pk.bR.eq_3) (I (@Go.Pk.bR.eq_4) (@Go.Pk.bR.eq_5)))) (I (I (@Go.Pk.bF.eq_1) (@Go.Pk.bF.eq_2)) (I (@Go.Pk.bF.eq_3) (I (@Go.Pk.bF.eq_4) (@Go.Pk.bF.eq_5)))))
set_option maxRecDepth 100000
theorem SH:type_of% (I (I (I (I (I (aR) (I (Uu) (TC))) (I (TN) (I (SD) (Uf)))) (I (I (Sd) (I (SG) (TU))) (I (I (Tk) (R4)) (I (Us) (Tn))))) (I (I (I (@IL) (I (@Kv) (@L7))) (I (@kd) (I (@KT) (@Mf)))) (I (I (@kf) (I (@IQ) (@KX))) (I (I (@K7) (@ke)) (I (@List.append_eq.{0}) (@cL.{0})))))) (I (I (I (I (@fN.{0}) (I (cc) (iy))) (I (jo) (I (jj) (ec)))) (I (I (Bool.and_true) (I (lU) (nR))) (I (I (lR) (Bool.true_or)) (I (Bool.or_true) (gV))))) (I (I (I (pE) (I (@Nat.zero_lt_succ) (@List.zip_nil_left.{0,0}))) (I (I (@List.zip_nil_right.{0,0}) (gW)) (I (pK.eq_1) (@cS.{1})))) (I (I (@cE.{1}) (I (@wo.{0}) (@imp_self))) (I (I (@kt.{1}) (@not_false_eq_true)) (I (@iz.{0}) (true_implies))))))):=I (I (I (I (I (aR) (I (Uu) (TC))) (I (TN) (I (SD) (Uf)))) (I (I (Sd) (I (SG) (TU))) (I (I (Tk) (R4)) (I (Us) (Tn))))) (I (I (I (@IL) (I (@Kv) (@L7))) (I (@kd) (I (@KT) (@Mf)))) (I (I (@kf) (I (@IQ) (@KX))) (I (I (@K7) (@ke)) (I (@List.append_eq.{0}) (@cL.{0})))))) (I (I (I (I (@fN.{0}) (I (cc) (iy))) (I (jo) (I (jj) (ec)))) (I (I (Bool.and_true) (I (lU) (nR))) (I (I (lR) (Bool.true_or)) (I (Bool.or_true) (gV))))) (I (I (I (pE) (I (@Nat.zero_lt_succ) (@List.zip_nil_left.{0,0}))) (I (I (@List.zip_nil_right.{0,0}) (gW)) (I (pK.eq_1) (@cS.{1})))) (I (I (@cE.{1}) (I (@wo.{0}) (@imp_self))) (I (I (@kt.{1}) (@not_false_eq_true)) (I (@iz.{0}) (true_implies))))))
theorem Gh.refl {g:G}:Gh g g:=λ _ _ _ h=>h
theorem Gh.trans {g g' g'':G} (h:Gh g g') (h':Gh g' g''):Gh g g'':=λ cx a w hh=>h' cx a w (h cx a w hh)
def fB:List AV->List AV->Prop
 |[],[]=>True
 |x::xs,y::ys=>(y= .one .dead∨x=y)/\fB xs ys
 |_,_=>False
theorem gQ:fB [] []=True:=rfl
theorem gO {x:AV} {xs ys:List AV}:fB (x::xs) (.one .dead::ys)=fB xs ys:=by simp[fB]
theorem gN {x:AV} {xs ys:List AV}:fB (x::xs) (x::ys)=fB xs ys:=by simp[fB]
theorem MT:∀{v v':List AV},fB v v'->v'.length=v.length/\∀(i:Nat) (y:AV),v'[i]? =some y->y= .one .dead∨v[i]? =some y
 |[],[],_=>⟨rfl,λ i y h=>by simp at h⟩
 |x::xs,y::ys,h=>by
  obtain⟨h1,h2⟩:=h;obtain⟨g1,g2⟩:=MT h2;refine⟨by simp[g1],λ i z hz=> ?_⟩;cases i with
  |zero=>
   simp only[c9,bn]at hz;subst hz;exact h1.imp id λ e=>by simp[e]
  |succ i=>simpa using g2 i z (by simpa using hz)
 |[],_::_,h=>h.elim
 |_::_,[],h=>h.elim
theorem Gh.fB {v v':List AV} {r:Rs} (h:fB v v'):Gh ⟨v,r⟩ ⟨v',r⟩:=λ cx a w ⟨β,hh⟩=>by
 obtain⟨h1,h2⟩:=MT h;refine⟨β,{hh with sz:=by rw[hh.sz];exact h1.symm,sl:=λ i x hi=> ?_}⟩;rcases h2 i x hi with rfl|h3
 .have hlt:i<a.tmps.size:=by rw[hh.sz];simp only;rw[←h1];exact(cG.1 hi).1
  exact⟨a.tmps[i],D3 hlt,by simp[aE,ay]⟩
 .exact hh.sl i x h3
section
variable {T:Nat->Option TI} {P:Program}
theorem aq {b:Bool} {x y:Code} {g:G} {Q:Ex->G->Prop} (h1:b=true->cH T P x g Q) (h2:b=false->cH T P y g Q):A8 T P (.one (.d (.v (.bool b)))) True x y g Q:=
 ⟨trivial,h1,h2⟩
theorem eb {all:List Oper} {m:M} {rest:List Oper} {dst:Option Nat} {v:List AV} {r:Rs} {K:Ex->G->Prop} {n:FuncId} {as:List Arg} {rfs:List RF}
  (h:ah P n as (λ r o=>r=rfs/\o=[])) (hk:bS T P all m rest (cq v dst (eT r dst rfs).1) (eT r dst rfs).2 K) {f:Operand} {args:Array Operand}:pC T P all m rest dst v r K f args (some (n,as)):=
 .inl ⟨rfs,λ _=>h,hk⟩
theorem ZO (i:Nat) {all:List Oper} {m:M} {rest:List Oper} {dst:Option Nat} {v:List AV} {r:Rs} {K:Ex->G->Prop} {n:FuncId} {ars:List Arg} {mv:Mv} {aC:List Nat} {rfs:List RF} {l':List RO}
  {f:Operand} {args:Array Operand} {a:Option (FuncId×List Arg)} (hc:fF i v r f args=some (n,ars,mv,aC)) (h:ah P n ars (λ r o=>r=rfs/\o=[l'])) (hs:fA r dst mv aC l')
  (hk:bS T P all (jO dst mv.s m) rest (cq v dst (bindM r dst mv rfs l').1) (bindM r dst mv rfs l').2 K):pC T P all m rest dst v r K f args a:=
 .inr (.inl ⟨i,by rw[hc];exact⟨rfs,l',h,hs,hk⟩⟩)
theorem rl {all:List Oper} {m:M} {rest:List Oper} {dst:Option Nat} {v:List AV} {r:Rs} {K:Ex->G->Prop} {n:FuncId} {as:List Arg} {x:Value} {f:Operand} {args:Array Operand}
  (h:gF P n as x) (hm:m.fp=none) (hk:K (.panic x) ⟨v,r⟩):pC T P all m rest dst v r K f args (some (n,as)):=
 .inr (.inr (.inr (.inr (.inl ⟨hm,n,as,x,h, .inl ⟨rfl,hk⟩⟩))))
theorem YN (i:Nat) {all:List Oper} {m:M} {rest:List Oper} {dst:Option Nat} {v:List AV} {r:Rs} {K:Ex->G->Prop} {n:FuncId} {ars:List Arg} {mv:Mv} {aC:List Nat} {l':List RO} {x:Value}
  {f:Operand} {args:Array Operand} {a:Option (FuncId×List Arg)} (hc:fF i v r f args=some (n,ars,mv,aC)) (h:gF P n ars x) (hs:fA r none mv aC l') (hm:m.fp=none)
  (hk:K (.panic x) ⟨v,rO r mv⟩):pC T P all m rest dst v r K f args a:=
 .inr (.inr (.inr (.inr (.inl ⟨hm,n,ars,x,h, .inr ⟨i,mv,aC,l',hc,hs,hk⟩⟩))))
theorem fm {f:Operand} {args:Array Operand} {j:Nat} {want:Bool} {all:List Oper} {m:M} {rest:List Oper} {c:Bool} {dst:Option Nat} {v:List AV} {r:Rs} {K:Ex->G->Prop} {n:FuncId} {as:List Arg} {rfs:List RF}
  (h:c=true->ah P n as (λ r o=>r=rfs/\o=[])) (hn:jF (rfs.flatMap RF.cells)=true) (hk:bS T P all m rest (cq v dst (.gd c (kZ (jf 0 0 0 rfs)))) r K):
  AH T P all m rest c dst v r K f args j want (some (n,as)):=
 .inl ⟨rfs,h,hn,hk⟩
theorem eA {f:Operand} {args:Array Operand} {j:Nat} {want:Bool} {all:List Oper} {m:M} {rest:List Oper} {dst:Option Nat} {v:List AV} {r:Rs} {K:Ex->G->Prop} {a:Option (FuncId×List Arg)} (hk:bS T P all m rest (cq v dst rN) r K):
  AH T P all m rest false dst v r K f args j want a:= .inr (.inl ⟨rfl,hk⟩)
theorem eH {f:Operand} {args:Array Operand} {j:Nat} {want:Bool} {all:List Oper} {m:M} {rest:List Oper} {dst:Option Nat} {v:List AV} {r:Rs} {K:Ex->G->Prop} {a:Option (FuncId×List Arg)} (h:pC T P all m rest dst v r K f args a):
  AH T P all m rest true dst v r K f args j want a:= .inr (.inr ⟨λ _=>h,λ h=>(by cases h)⟩)
end
theorem wrap64 {n:Int} (h1: -9223372036854775808≤n) (h2:n<9223372036854775808):IntKind.i64.wrap n=n:=by unfold IntKind.wrap;simp[IntKind.bits,IntKind.signed];omega
theorem Db {l:List Oper} (h:yF l=true):uQ l:=h
theorem HD {a:List Oper} {b:List FP} (h:tm a b=true):tm a b=true:=h
theorem NN {l:List Nat} {n:Nat} (h:l=List.range n):l=List.range n:=h
def uV:IntKind->Nat
 | .i8=>1| .i16=>2| .i32=>3| .i64=>4| .u8=>5| .u16=>6| .u32=>7| .u64=>8
mutual
def tN (P:Program):Nat->Nat->Option (List Nat)
 |0,_=>none
 |d+1,t=>match P.underlying t with
  |some .bool=>some [9]
  |some .string=>some [10]
  |some (.int k)=>if uV k=0 then none else some [uV k]
  |some (.struct fs)=>if P.stoodInHeld t then none else match (P.info? t).map (·.size),yA P d fs.toList 0 with
   |some n,some ks=>if ks.length=n then some ks else none
   |_,_=>none
  |_=>none
def yA (P:Program):Nat->List Field->Nat->Option (List Nat)
 |_,[],_=>some []
 |0,_::_,_=>none
 |d+1,f::fs,off=>if f.name= "_" ∨f.offset≠off then none else match tN P d f.type with
  |some ks=>match yA P d fs (off+ks.length)with
   |some l=>some (ks++l)
   |none=>none
  |none=>none
end
theorem Lw {v:Value} {k:IntKind} (h0:uV k≠0) (h:eE v=uV k):∃n,v= .int k n:=by
 cases v with
 |int k' n=>cases k<;>cases k'<;>first|(exact⟨n,rfl⟩)|(simp[eE,uV]at h h0)
 |bool b=>cases k<;>simp[eE,uV]at h h0
 |string b=>cases k<;>simp[eE,uV]at h h0
 |_=>cases k<;>simp[eE,uV]at h h0
theorem Ks {v:Value} (h:eE v=9):∃n,v= .bool n:=by
 cases v with
 |bool b=>exact⟨b,rfl⟩
 |int k n=>cases k<;>simp[eE]at h
 |_=>simp[eE]at h
theorem IY {v:Value} (h:eE v=10):∃n,v= .string n:=by
 cases v with
 |string b=>exact⟨b,rfl⟩
 |int k n=>cases k<;>simp[eE]at h
 |_=>simp[eE]at h
theorem IH:∀{a b c d:List Value},a.length=b.length->hG (a++c) (b++d)=(hG a b&&hG c d)
 |[],[],_,_,_=>by simp[hG]
 |x::a,y::b,c,d,h=>by simp[hG,IH (a:=a) (b:=b) (c:=c) (d:=d) (by simpa using h),eJ]
def n7 (P:Program) (t:Nat) (l:List Value):Value:=
 match P.underlying t with
 |some (.struct _)=> .agg l.toArray
 |_=>l.headD undef
variable {P:Program}
theorem My {d t off:Nat} {ks:List Nat} {xs:List Value} {w:World} (h:tN P d t=some ks) (hx:(xs.drop off).length≥ks.length):
  (part t xs.toArray off).run P w= .ok (n7 P t ((xs.drop off).take ks.length)) w:=by
 cases d with
 |zero=>simp[tN]at h
 |succ d=>
  have basic:∀{td:TypeDesc},P.underlying t=some td->ks.length=1->(∀fs,td≠ .struct fs)->(∀n e,td≠ .array n e)->(part t xs.toArray off).run P w= .ok (n7 P t ((xs.drop off).take ks.length)) w:=λ {td} hu hl h1 h2=>by
   have hlt:off<xs.length:=by rw[hl]at hx;simp at hx;omega
   have hag:(isAgg t).run P w= .ok false w:=by unfold isAgg;rw[lK,A5 hu,jH];cases td<;>first|rfl|exact absurd rfl (h1 _)|exact absurd rfl (h2 _ _)
   unfold part;rw[lK,hag,jH];have e1:xs.toArray[off]? =some xs[off]:=by simp[hlt]
   have e2:n7 P t ((xs.drop off).take ks.length)=xs[off]:=by
    unfold n7;rw[hu,hl];have:(xs.drop off).take 1=[xs[off]]:=by rw[cB hlt];rfl
    rw[this];cases td<;>first|rfl|exact absurd rfl (h1 _)
   simp[e1,e2]
  simp only[tN]at h;split at h
  .rename_i hu;cases h;exact basic hu rfl (by simp) (by simp)
  .rename_i hu;cases h;exact basic hu rfl (by simp) (by simp)
  .rename_i k hu;split at h
   .cases h
   .cases h;exact basic hu rfl (by simp) (by simp)
  .rename_i fs hu;split at h
   .cases h
   .split at h
    .rename_i n ks' h1 h2;split at h
     .rename_i hn;cases h;have hag:(isAgg t).run P w= .ok true w:=by unfold isAgg;rw[lK,A5 hu,jH];rfl
      obtain⟨i,hi,hi2⟩:=mB.1 h1;have hsz:(sizeOf t).run P w= .ok n w:=by simp[sizeOf,typeInfo,hi,hi2]
      unfold part;rw[lK,hag,jH];simp only[cS,lK,hsz,jH,qv];unfold n7;rw[hu,hn];congr 2;apply lb;simp[List.extract_eq_take_drop]
     .cases h
    .cases h
  .cases h
mutual
theorem Ms:∀{d t:Nat} {ks:List Nat} {xs ys:List Value} {w:World} {D:Nat},d≤D->tN P d t=some ks->xs.map eE=ks->ys.map eE=ks->
  (Op.equalIn D t (n7 P t xs) (n7 P t ys)).run P w= .ok (hG xs ys) w
 |0,t,ks,xs,ys,w,D,_,h,_,_=>by simp[tN]at h
 |d+1,t,ks,xs,ys,w,0,hD,h,hx,hy=>by omega
 |d+1,t,ks,xs,ys,w,D+1,hD,h,hx,hy=>by
  have one:∀{k:Nat} {zs:List Value},zs.map eE=[k]->∃z,zs=[z]/\eE z=k:=λ {k zs} hz=>by
   cases zs with
   |nil=>simp at hz
   |cons z zs=>
    cases zs with
    |nil=>exact⟨z,rfl,by simpa using hz⟩
    |cons _ _=>simp at hz
  simp only[tN]at h;split at h
  .rename_i hu;cases h;obtain⟨x,rfl,hx'⟩:=one hx;obtain⟨y,rfl,hy'⟩:=one hy;obtain⟨a,rfl⟩:=Ks hx';obtain⟨b,rfl⟩:=Ks hy';simp only[n7,hu,List.headD_cons];rw[run_equalIn_bool' w D t a b hu];simp[hG,yO]
  .rename_i hu;cases h;obtain⟨x,rfl,hx'⟩:=one hx;obtain⟨y,rfl,hy'⟩:=one hy;obtain⟨a,rfl⟩:=IY hx';obtain⟨b,rfl⟩:=IY hy';simp only[n7,hu,List.headD_cons];rw[run_equalIn_string w D t a b hu];simp[hG,yO]
  .rename_i k hu;split at h
   .cases h
   .rename_i h0;cases h;obtain⟨x,rfl,hx'⟩:=one hx;obtain⟨y,rfl,hy'⟩:=one hy;obtain⟨a,rfl⟩:=Lw h0 hx';obtain⟨b,rfl⟩:=Lw h0 hy';simp only[n7,hu,List.headD_cons];rw[run_equalIn_int w D t k k a b hu];simp[hG,yO]
  .rename_i fs hu;split at h
   .cases h
   .rename_i hst;split at h
    .rename_i n ks' h1 h2;split at h
     .cases h;have hf:P.fieldsOf t=fs:=by unfold Program.fieldsOf;rw[hu]
      simp only[n7,hu];rw[run_equalIn_struct w D t _ _ (by rw[hf];exact hu) (by simpa using hst),hf];have:=Ng (d:=d) (D:=D) (w:=w) (pre:=[]) (pre':=[]) (by omega) h2 rfl rfl hx hy;simpa using this
     .cases h
    .cases h
  .cases h
theorem Ng:∀{d:Nat} {fs:List Field} {off:Nat} {ks:List Nat} {pre pre' xs ys:List Value} {w:World} {D:Nat},d≤D->yA P d fs off=some ks->pre.length=off->pre'.length=off->
  xs.map eE=ks->ys.map eE=ks->(Op.eqFields D (pre++xs).toArray (pre'++ys).toArray fs).run P w= .ok (hG xs ys) w
 |d,[],off,ks,pre,pre',xs,ys,w,D,_,h,_,_,hx,hy=>by simp only[yA,bn]at h;subst h;simp only[List.map_eq_nil_iff]at hx hy;subst hx hy;simp[Op.eqFields,hG]
 |0,f::fs,off,ks,pre,pre',xs,ys,w,D,_,h,_,_,hx,hy=>by simp[yA]at h
 |d+1,f::fs,off,ks,pre,pre',xs,ys,w,D,hD,h,hp,hp',hx,hy=>by
  simp only[yA]at h;split at h
  .cases h
  .rename_i hno;simp only[kY,Decidable.not_not]at hno;split at h
   .rename_i k1 h1;split at h
    .rename_i k2 h2;cases h;have hxl:xs.length=k1.length+k2.length:=by have:=congrArg List.length hx;simpa using this
     have hyl:ys.length=k1.length+k2.length:=by have:=congrArg List.length hy;simpa using this
     have hx1:(xs.take k1.length).map eE=k1:=by rw[tj,hx];simp
     have hy1:(ys.take k1.length).map eE=k1:=by rw[tj,hy];simp
     have hx2:(xs.drop k1.length).map eE=k2:=by rw[la,hx];simp
     have hy2:(ys.drop k1.length).map eE=k2:=by rw[la,hy];simp
     have e1:(part f.type (pre++xs).toArray f.offset).run P w= .ok (n7 P f.type (xs.take k1.length)) w:=by rw[hno.2,←hp];have:=My (w:=w) (xs:=pre++xs) (off:=pre.length) h1 (by simp;omega);simpa using this
     have e2:(part f.type (pre'++ys).toArray f.offset).run P w= .ok (n7 P f.type (ys.take k1.length)) w:=by rw[hno.2,←hp'];have:=My (w:=w) (xs:=pre'++ys) (off:=pre'.length) h1 (by simp;omega);simpa using this
     have e3:=Ms (w:=w) (D:=D) (by omega) h1 hx1 hy1;have e4:=Ng (w:=w) (D:=D) (pre:=pre++xs.take k1.length) (pre':=pre'++ys.take k1.length) (xs:=xs.drop k1.length) (ys:=ys.drop k1.length) (by omega) h2
      (by simp[hp];omega) (by simp[hp'];omega) hx2 hy2
     rw[fH,fH,lN,lN]at e4;have hsplit:hG xs ys=(hG (xs.take k1.length) (ys.take k1.length)&&hG (xs.drop k1.length) (ys.drop k1.length)):=by rw[←IH (by simp;omega),lN,lN]
     rw[hsplit];unfold Op.eqFields;rw[aj hno.1];simp only[lK,e1,e2,e3,jH];cases hG (xs.take k1.length) (ys.take k1.length)with
     |true=>simpa using e4
     |false=>simp
    .cases h
   .cases h
end
def H7 (P:Program) (t:Nat):Bool:=
 match tN P 64 t,wE P [] t with
 |some ks,some ti=>decide (ti.zero.map eE=ks)&& !P.eqGuardType P.depth t&&yw ti.desc
 |_,_=>false
theorem acC {eqs:List Nat} (h:∀t∈eqs,H7 P t=true):cl P (wE P eqs):=by
 intro t ti ht;refine⟨aaK ht,λ he xs ys w hx hy=> ?_⟩;have ht':=ht;unfold wE at ht';split at ht'
 .rename_i i d hi hd;split at ht'
  .rename_i z hz;split at ht'
   .rename_i hfl;cases ht';simp only[A2,dX]at he;have hb:=h t he;unfold H7 at hb;split at hb
    .rename_i ks ti' h1 h2;unfold wE at h2;rw[hi,hd]at h2;simp only[hz]at h2;rw[aj hfl]at h2;cases h2;simp only[bM,dX,ir]at hb;obtain⟨⟨g1,g2⟩,g3⟩:=hb;have hst:∃fs,d= .struct fs:=by
      unfold tN at h1;rw[hd]at h1;cases d with
      |struct fs=>exact⟨fs,rfl⟩
      |array n e=>simp at h1
      |_=>simp[fh,yw]at g3
     obtain⟨fs,rfl⟩:=hst;refine⟨λ o x y _=>run_eqGuard_agg w o t x y _ _ g2, ?_⟩;have:=Ms (w:=w) (D:=10000) (by omega) h1 (hx.trans g1) (hy.trans g1);simp only[n7,hd]at this;exact this
    .cases hb
   .cases ht'
  .cases ht'
 .cases ht'
inductive Sh where
 |bool
 |int (k:IntKind)
 |str
 |slice (by_:Nat) (s:Sh)
 |struct (l:List Sh)
mutual
def Sh.size:Sh->Nat
 | .struct l=>Sh.tK l
 | .bool=>1
 | .int _=>1
 | .str=>1
 | .slice _ _=>1
def Sh.tK:List Sh->Nat
 |[]=>0
 |s::l=>s.size+Sh.tK l
end
mutual
def eY:Sh->List D->Prop
 | .bool,ds=>∃b,ds=[.v (.bool b)]
 | .int k,ds=>∃n,ds=[.v (.int k n)]/\(Lit.int k n).wf=true
 | .str,ds=>∃s:ByteArray,ds=[.v (.string s)]/\s.size≤reachBytes
 | .slice b s,ds=>∃xs:List (List D),ds=[.sl xs.length xs.flatten]/\xs.length*b≤reachBytes/\∀x∈xs,eY s x
 | .struct l,ds=>pJ l ds
def pJ:List Sh->List D->Prop
 |[],ds=>ds=[]
 |s::l,ds=>∃a b,ds=a++b/\eY s a/\pJ l b
end
mutual
theorem eY.len:∀{s:Sh} {ds:List D},eY s ds->ds.length=s.size
 | .bool,_,h=>by simp only[eY]at h;obtain⟨b,rfl⟩:=h;rfl
 | .int k,_,h=>by simp only[eY]at h;obtain⟨n,rfl,_⟩:=h;rfl
 | .str,_,h=>by simp only[eY]at h;obtain⟨n,rfl,_⟩:=h;rfl
 | .slice b s,_,h=>by simp only[eY]at h;obtain⟨xs,rfl,_⟩:=h;rfl
 | .struct l,_,h=>by simp only[eY]at h;simp only[Sh.size];exact pJ.len h
theorem pJ.len:∀{l:List Sh} {ds:List D},pJ l ds->ds.length=Sh.tK l
 |[],_,h=>by simp only[pJ]at h;subst h;rfl
 |s::l,_,h=>by simp only[pJ]at h;obtain⟨a,b,rfl,h1,h2⟩:=h;simp only[aG,Sh.tK,h1.len,h2.len]
end
mutual
def tS (P:Program):Nat->TypeId->Option Sh
 |0,_=>none
 |n+1,t=>match P.underlying t with
  |some .bool=>some .bool
  |some (.int k)=>some (.int k)
  |some .string=>some .str
  |some (.slice e)=>match tS P n e with
   |some s=>if P.cellsOf e=s.size/\s.size≠0 then some (.slice (P.bytesOf e) s)else none
   |none=>none
  |some (.struct fs)=>match wP P n fs.toList 0 with
   |some l=>if P.cellsOf t=Sh.tK l then some (.struct l)else none
   |none=>none
  |_=>none
def wP (P:Program):Nat->List Field->Nat->Option (List Sh)
 |_,[],_=>some []
 |0,_::_,_=>none
 |n+1,f::fs,off=>match tS P n f.type with
  |some s=>if f.offset=off/\P.cellsOf f.type=s.size then match wP P n fs (off+s.size)with
    |some l=>some (s::l)
    |none=>none
   else none
  |none=>none
end
def pV (w:World) (ds:List D) (cs:List Value):Prop:=
 ds.length=cs.length/\∀(k:Nat) (d:D),ds[k]? =some d->∃u,cs[k]? =some u/\Rd w (λ _=>False) d u
theorem pV.append {w:World} {a b:List D} {cs ds:List Value} (h:pV w a cs) (h':pV w b ds):pV w (a++b) (cs++ds):=by
 refine⟨by simp[h.1,h'.1],λ k d hk=> ?_⟩;by_cases hlt:k<a.length
 .rw[dA hlt]at hk;rw[dA (by rw[←h.1];exact hlt)];exact h.2 k d hk
 .rw[dL (by omega)]at hk;rw[dL (by rw[←h.1];omega),←h.1];exact h'.2 _ d hk
theorem pV.one {w:World} {d:D} {u:Value} (h:Rd w (λ _=>False) d u):pV w [d] [u]:=
 ⟨rfl,λ k d' hk=>by cases k with
  |zero=>simp only[c9,bn]at hk;subst hk;exact⟨u,rfl,h⟩
  |succ k=>simp at hk⟩
theorem acQ {w:World} {a:Addr} {u:Value} (h:w.cell? a=some u):a.spot=none:=by
 unfold World.cell? at h;split at h
 .cases hs:a.spot with
  |none=>rfl
  |some _=>simp[hs]at h
 .cases h
theorem aaF (a:Addr) (i j:Nat):(a.add i).add j=a.add (i+j):=by unfold Addr.add;by_cases hi:i=0<;>by_cases hj:j=0<;>simp[hi,hj];omega
theorem Nr {w:World}:∀{ds:List D} {a:Addr} {cs:List Value},pV w ds cs->(∀(i:Nat) u,cs[i]? =some u->w.cell? (a.add i)=some u)->lv w (λ _=>False) ds (some a)
 |[],_,_,_,_=>trivial
 |d::ds,a,cs,h,hc=>by
  obtain⟨u,h1,h2⟩:=h.2 0 d rfl;have hc0:=hc 0 u h1;simp only[Addr.add,cS]at hc0;have hs:=acQ hc0;obtain⟨b,o,sp⟩:=a;simp only at hs;subst hs;simp only[lv];refine⟨b,o,u,rfl,λ h=>h,hc0,h2, ?_⟩;cases cs with
  |nil=>simp at h1
  |cons c cs=>
   refine Nr (cs:=cs) ⟨by simpa using h.1,λ k d' hk=> ?_⟩ (λ i u' hi=> ?_)
   .have:=h.2 (k+1) d' (by simpa using hk);simpa using this
   .have:=hc (i+1) u' (by simpa using hi);unfold Addr.add at this⊢;simp only[Nat.succ_ne_zero,Nat.add_one_ne_zero,cE]at this;by_cases hi0:i=0
    .subst hi0;simpa using this
    .simp only[hi0,cE];rw[show o+1+i=o+(i+1) by omega];exact this
variable {H:Type} {enc:TypeId×Value->H} {P:Program} {w:World} {base:Nat} {sp:Nat->Bool} {held:Bool}
theorem IZ {e:TypeId}:∀{ds:List (DataW H)} {d:DataW H},d∈ds->∀x∈DataW.weights P e d,x∈DataW.weightsAll P e ds
 |[],d,h=>by simp at h
 |d'::ds,d,h=>λ x hx=>by
  simp only[DataW.weightsAll,dN];rcases cF.1 h with rfl|h
  .exact .inl hx
  .exact .inr (IZ h x hx)
theorem UT {α:Type} {l:List α} {o n:Nat} (h:o+n≤l.length):(l.drop o).take n++l.drop (o+n)=l.drop o:=by rw[←jD];exact lN n (l.drop o)
theorem Wx:∀(n:Nat),
  (∀(t:TypeId) (s:Sh),tS P n t=some s->∀(fuel:Nat) (cs:List Value) (d:DataW H) (ps:List MemPlace),DataW.trod enc P w base sp held fuel t cs=some (d,ps)->
   (∀x∈DataW.weights P t d,x≤reachBytes)->∃ds,eY s ds/\pV w ds cs)/\
  (∀(fs:List Field) (off:Nat) (l:List Sh),wP P n fs off=some l->∀(fuel:Nat) (cs:List Value) (xs:List (DataW H×List MemPlace)),xs.length=fs.length->off+Sh.tK l=cs.length->
   (∀(i:Nat) (f:Field),fs[i]? =some f->DataW.trod enc P w base sp held fuel f.type ((cs.drop f.offset).take (P.cellsOf f.type))=xs[i]?)->
   (∀x∈DataW.weightsEach P (fs.map (·.type)) (xs.map (·.1)),x≤reachBytes)->∃ds,pJ l ds/\pV w ds (cs.drop off)):=by
 intro n;induction n with
 |zero=>
  refine⟨λ t s h=>by simp[tS]at h,λ fs off l h fuel cs xs hx hl hf hw=> ?_⟩;cases fs with
  |nil=>
   simp only[wP,bn]at h;subst h;simp only[Sh.tK,iy]at hl;refine⟨[],rfl, ?_⟩;rw[hl,eL];exact⟨rfl,λ k d hk=>by simp at hk⟩
  |cons f fs=>simp[wP]at h
 |succ n ih=>
  refine⟨λ t s h fuel cs d ps ht hw=> ?_,λ fs off l h fuel cs xs hx hl hf hw=> ?_⟩
  .unfold tS at h;split at h
   .rename_i hu;cases h;obtain⟨b,rfl,e⟩:=DataW.trod_bool hu ht;exact⟨[.v (.bool b)],⟨b,rfl⟩, .one (by simp only[Rd];exact⟨trivial,rfl⟩)⟩
   .rename_i k hu;cases h;obtain⟨m,rfl,e,hwf⟩:=DataW.trod_int hu ht;exact⟨[.v (.int k m)],⟨m,rfl,hwf⟩, .one (by simp only[Rd];exact⟨trivial,rfl⟩)⟩
   .rename_i hu;cases h;obtain⟨b,rfl,e,hb⟩:=DataW.trod_string hu ht;cases e;refine⟨[.v (.string b)],⟨b,rfl, ?_⟩, .one (by simp only[Rd];exact⟨trivial,rfl⟩)⟩;have:=hw b.data.toList.length (by simp[DataW.weights]);simpa using this
   .rename_i e hu;split at h
    .rename_i s' hs;split at h
     .rename_i hcond;cases h;rcases DataW.trod_slice hu ht with⟨rfl,_⟩|⟨a,len,cap,elems,rest,m,rfl,rfl,e1,hb,hlc,hcm,hel,hget,_,_⟩
      .exact⟨[.sl 0 []],⟨[],rfl,by simp,λ x hx=>by simp at hx⟩, .one (by simp only[Rd,lv];exact⟨none,0,rfl,Nat.le_refl _,trivial⟩)⟩
      .cases e1;simp only[DataW.weights,hu]at hw;have hsz:=hw _ (nQ)
       -- each element
       have each:∀(k:Nat),k≤len->∃xs:List (List D),xs.length=k/\(∀x∈xs,eY s' x)/\∃cs:List Value,pV w xs.flatten cs/\∀(i:Nat) u,cs[i]? =some u->w.cell? (a.add i)=some u:=by
        intro k;induction k with
        |zero=>intro _;exact⟨[],rfl,λ x hx=>by simp at hx,[],⟨rfl,λ k d hk=>by simp at hk⟩,λ i u hi=>by simp at hi⟩
        |succ k ihk=>
         intro hk;obtain⟨xs,g1,g2,cs,g3,g4⟩:=ihk (by omega);have hg:=hget k (by omega);have hkl:k<elems.length:=by omega
         rw[dG hkl]at hg;obtain⟨cs',h1,h2⟩:=wh.1 hg;obtain⟨_,c1,c2⟩:=World.cells?_some h1;obtain⟨ds,k1,k2⟩:=ih.1 e s' hs m cs' elems[k].1 elems[k].2 h2 (λ x hx=>hw x (jI _ (tg _ (IZ (kx.2 ⟨elems[k],cb hkl,rfl⟩) x hx))));refine⟨xs++[ds],by simp[g1],λ x hx=> ?_,cs++cs', ?_,λ i u hi=> ?_⟩
         .rcases dN.1 hx with hx|hx
          .exact g2 x hx
          .simp only[jE]at hx;subst hx;exact k1
         .rw[List.flatten_append];simpa using g3.append k2
         .have hlen:∀(ys:List (List D)),(∀x∈ys,eY s' x)->ys.flatten.length=ys.length*s'.size:=by
           intro ys;induction ys with
           |nil=>intro _;simp
           |cons y ys ihy=>
            intro hy;rw[jK,aG,ihy (λ x hx=>hy x (by simp[hx])),(hy y (by simp)).len,cL,eQ];omega
          have hcl:cs.length=k*s'.size:=by rw[←g3.1,hlen xs g2,g1]
          by_cases hi2:i<cs.length
          .rw[dA hi2]at hi;exact g4 i u hi
          .rw[dL (by omega)]at hi;have hi3:i - cs.length<P.cellsOf e:=by rw[←c1];exact(cG.1 hi).1
           have:=c2 (i - cs.length) hi3;rw[hi,aaF,hcond.1]at this;rw[show i=k*s'.size+(i - cs.length) by omega];exact this
       obtain⟨xs,g1,g2,cs,g3,g4⟩:=each len (Nat.le_refl _);refine⟨[.sl xs.length xs.flatten],⟨xs,rfl, ?_,g2⟩, .one ?_⟩
       .refine i6 (gU _ ?_) hsz;simp only[bE];omega
       .simp only[Rd];exact⟨some a,cap,by rw[g1],by omega,Nr g3 g4⟩
     .cases h
    .cases h
   .rename_i fs hu;split at h
    .rename_i l hs;split at h
     .rename_i hcell;cases h;obtain⟨xs,m,rfl,e1,hcl,hxl,hget⟩:=DataW.trod_struct hu ht;cases e1;simp only[DataW.weights,hu]at hw;obtain⟨ds,g1,g2⟩:=ih.2 fs.toList 0 l hs m cs xs (by simpa using hxl) (by rw[cc,hcl,hcell]) (λ i f hf=>hget i f (by simpa using hf)) (by simpa using hw);exact⟨ds,by simp only[eY];exact g1,by simpa using g2⟩
     .cases h
    .cases h
   .cases h
  .cases fs with
   |nil=>
    simp only[wP,bn]at h;subst h;simp only[Sh.tK,iy]at hl;refine⟨[],rfl, ?_⟩;rw[hl,eL];exact⟨rfl,λ k d hk=>by simp at hk⟩
   |cons f fs=>
    simp only[wP]at h;split at h
    .rename_i s hs;split at h
     .rename_i hcond;split at h
      .rename_i l' hl';cases h;cases xs with
       |nil=>simp at hx
       |cons x xs=>
        simp only[Sh.tK]at hl;simp only[b7,DataW.weightsEach]at hw;have h0:=hf 0 f rfl;simp only[c9]at h0;obtain⟨da,k1,k2⟩:=ih.1 f.type s hs fuel _ x.1 x.2 h0 (λ y hy=>hw y (tg _ hy));obtain⟨db,k3,k4⟩:=ih.2 fs (off+s.size) l' hl' fuel cs xs (by simpa using hx) (by omega) (λ i f' hf'=>by have:=hf (i+1) f' (by simpa using hf');simpa using this) (λ y hy=>hw y (wu _ hy));refine⟨da++db,by simp only[pJ];exact⟨da,db,rfl,k1,k3⟩, ?_⟩;have:=k2.append k4
        rwa[hcond.1,hcond.2,UT (by omega)]at this
      .cases h
     .cases h
    .cases h
open Go.ChangeShapes Go.WideShapes Go.RowKit
def D':Sh->List D->AV
 | .struct _,ds=> .agg (ds.map C.d)
 |_,[d]=> .one (.d d)
 |_,_=> .one .dead
def qm:List Sh->List (List D)->List Arg
 |s::shs,ds::dss=> .f (D' s ds)::qm shs dss
 |_,_=>[]
def wa:List Sh->List (List D)->Prop
 |[],[]=>True
 |s::shs,ds::dss=>eY s ds/\wa shs dss
 |_,_=>False
abbrev oK:Nat->Prop:=λ _=>False
section
variable {H:Type} {enc:TypeId×Value->H} {P:Program} {w:World} {base:Nat} {sp:Nat->Bool} {held:Bool}
theorem Oe {d:D} {u:Value} (h:Rd w oK d u):Rd w (Av (fK P w oK oK) [] β0) d u:=h.dy ⟨λ _ _ _=>rfl,λ b _ hb=>kH.1 hb⟩
theorem Mj:∀{ds:List D} {us:List Value},pV w ds us->aH (fK P w oK oK) w [] β0 (ds.map C.d) us
 |[],us,h=>by have:=h.1;simp only[fY,aH];exact nu this.symm
 |d::ds,us,h=>by
  cases us with
  |nil=>have:=h.1;simp at this
  |cons u us=>
   simp only[b7,aH];obtain⟨u',h1,h2⟩:=h.2 0 d rfl;simp only[c9,bn]at h1;subst h1;exact⟨u,us,rfl,by simp only[ay];exact Oe h2,Mj ⟨by simpa using h.1,λ k d' hk=>by simpa using h.2 (k+1) d' (by simpa using hk)⟩⟩
theorem Cj {d:D} {ds:List D} {u:Value} (h:pV w [d] [u]):aE (fK P w oK oK) w [] β0 (.one (.d d)) u:=by obtain⟨u',h1,h2⟩:=h.2 0 d rfl;simp only[c9,bn]at h1;subst h1;simp only[aE,ay];exact Oe h2
theorem aci {n:Nat} {t:TypeId} {s:Sh} (hs:tS P n t=some s) {v:Value} {d:DataW H} {ps:List MemPlace} (hv:Value.okWide P w .any base t v) (ht:DataW.Trod enc P w 0 sp held t v d ps)
  (hw:∀x∈DataW.weights P t d,x≤reachBytes):∃ds,eY s ds/\aE (fK P w oK oK) w [] β0 (D' s ds) v:=by
 obtain⟨fuel,ht⟩:=ht;obtain⟨ds,h1,h2⟩:=(Wx n).1 t s hs fuel _ d ps ht hw;refine⟨ds,h1, ?_⟩;cases n with
 |zero=>simp[tS]at hs
 |succ n=>
  unfold tS at hs;split at hs
  .rename_i hu;cases hs;obtain⟨b,rfl⟩:=okWide_bool hu hv;have h3:=h1;simp only[eY]at h3;obtain⟨b',rfl⟩:=h3;exact Cj (ds:=[]) h2
  .rename_i k hu;cases hs;obtain⟨b,rfl⟩:=okWide_int hu hv;have h3:=h1;simp only[eY]at h3;obtain⟨b',rfl,_⟩:=h3;exact Cj (ds:=[]) h2
  .rename_i hu;cases hs;obtain⟨b,rfl⟩:=okWide_string hu hv;have h3:=h1;simp only[eY]at h3;obtain⟨b',rfl,_⟩:=h3;exact Cj (ds:=[]) h2
  .rename_i e hu;obtain⟨a,len,cap,rfl⟩:=okWide_slice hu hv;split at hs
   .split at hs
    .cases hs;have h3:=h1;simp only[eY]at h3;obtain⟨xs,rfl,_⟩:=h3;exact Cj (ds:=[]) h2
    .cases hs
   .cases hs
  .rename_i fs hu;obtain⟨cs,rfl,_⟩:=okWide_struct hu hv;split at hs
   .split at hs
    .cases hs;simp only[D',aE];exact⟨cs,rfl,Mj h2⟩
    .cases hs
   .cases hs
  .cases hs
def yu (P:Program) (n:Nat):List TypeId->Option (List Sh)
 |[]=>some []
 |t::ts=>match tS P n t,yu P n ts with
  |some s,some l=>some (s::l)
  |_,_=>none
theorem Mx {n:Nat} {γ:Nat->Pl}:∀{ts:List TypeId} {shs:List Sh} {vs:List Value} {ds:List (DataW H)} {ps:List MemPlace},yu P n ts=some shs->DataW.TrodAll enc P w 0 sp held ts vs ds ps->
  (∀(j:Nat) t v,ts[j]? =some t->vs[j]? =some v->Value.okWide P w .any base t v)->(∀x∈DataW.weightsEach P ts ds,x≤reachBytes)->
  ∃dss,wa shs dss/\bP P w oK oK γ 0 (qm shs dss) [] vs
 |[],shs,vs,ds,ps,hs,ht,_,_=>by simp only[yu,bn]at hs;subst hs;obtain⟨rfl,rfl,rfl⟩:=trodAll_nil ht;exact⟨[],trivial,by simp[qm,bP]⟩
 |t::ts,shs,vs,ds,ps,hs,ht,hv,hw=>by
  simp only[yu]at hs;split at hs
  .rename_i s l g1 g2;cases hs;obtain⟨v,vs',d,ds',p,q,rfl,rfl,rfl,h1,h2⟩:=trodAll_cons ht;simp only[DataW.weightsEach]at hw;obtain⟨x,k1,k2⟩:=aci g1 (hv 0 t v rfl rfl) h1 (λ y hy=>hw y (tg _ hy));obtain⟨xs,k3,k4⟩:=Mx (γ:=γ) g2 h2 (λ j t' v' hj hj'=>hv (j+1) t' v' (by simpa using hj) (by simpa using hj')) (λ y hy=>hw y (wu _ hy));refine⟨x::xs,⟨k1,k3⟩, ?_⟩;simp only[qm,bP];exact⟨v,vs',rfl,k2,k4⟩
  .cases hs
theorem Fe:∀{shs:List Sh} {dss:List (List D)},cn (qm shs dss)=[]
 |[],_=>by simp[qm,cn]
 |_::_,[]=>by simp[qm,cn]
 |_::shs,_::dss=>by simp[qm,cn,Fe (shs:=shs)]
theorem Io (hl:laidOutB P=true):∀{ts:List TypeId} {vs:List Value} {ds:List (DataW H)} {ps:List MemPlace},(∀t∈ts,P.readableRec t=true/\t<P.types.size)->∀{W W':World},DataW.TrodAll enc P W 0 (λ _=>true) true ts vs ds ps->
  (∀p∈ps,W.sameAt W' p)->∀{sp':Nat->Bool},(∀p∈ps,sp' p.block=true)->DataW.TrodAll enc P W' 0 sp' true ts vs ds ps
 |[],vs,ds,ps,_,W,W',h,_,sp',_=>by obtain⟨rfl,rfl,rfl⟩:=trodAll_nil h;rfl
 |t::ts,vs,ds,ps,hr,W,W',h,hsame,sp',hsp=>by
  obtain⟨v,vs',d,ds',p,q,rfl,rfl,rfl,h1,h2⟩:=trodAll_cons h;obtain⟨r1,r2⟩:=hr t (by simp)
  exact⟨p,q,WideElems.Trod_stays hl r1 r2 h1 (λ x hx=>hsame x (tg _ hx)) (λ x hx=>hsp x (tg _ hx)),
   Io hl (λ t' ht'=>hr t' (by simp[ht'])) h2 (λ x hx=>hsame x (wu _ hx)) (λ x hx=>hsp x (wu _ hx)),rfl⟩
theorem VC {f:FuncId} {fn:Func} {s:ChangeSpec} {shs:List Sh} {tb:TypeId} {n:Nat} (hsh:yu P n fn.params.toList=some shs) (hvars:s.vars=[])
  (hfn:∀(ds:List (DataW H)),ds.length=fn.params.size->(s.fn H ds).results=[.lit (.bool true)]/\(s.fn H ds).args=ds/\(s.fn H ds).vars=[]) (hres:fn.resultTypes= #[tb]) (htb:P.underlying tb=some .bool) (hl:laidOutB P=true)
  (hread:∀t∈fn.params.toList,P.readableRec t=true/\t<P.types.size)
  (hok:∀dss,wa shs dss->ah P f (qm shs dss) (λ r o=>r=[.one (.d (.v (.bool true)))]/\o=[]))
  (W:World) (base:Nat) (args:Array Value) (ds gs:List (DataW H)) (before:List MemPlace)
  (hval:∀(j:Nat) t v,fn.params[j]? =some t->args[j]? =some v->Value.okWide P W .any base t v)
  (hW:DataW.Whole enc P fn.params.toList s.vars false W args.toList ds gs before)
  (hsz:(DataW.weightsEach P (fn.params.toList++s.plain.varTypes P) (ds++gs)).all (·≤reachBytes)=true):
  Calls P f args W λ e W'=>∃v,e= .returned v/\s.post enc P fn false true false false W args v W':=by
 have hW':=hW;obtain⟨p,q,hA,hV,rfl,hfz,hnd⟩:=hW;rw[hvars]at hV;obtain⟨rfl,rfl⟩:=trodVars_none hV;have hvt:s.plain.varTypes P=[]:=by have:s.plain.vars=[]:=hvars;simp[DataSpec.varTypes,this]
 rw[hvt,fe,fe]at hsz;have hlen:∀{ts:List TypeId} {vs:List Value} {ds:List (DataW H)} {ps:List MemPlace},DataW.TrodAll enc P W 0 (λ _=>true) true ts vs ds ps->ds.length=ts.length:=by
  intro ts;induction ts with
  |nil=>intro vs ds ps h;obtain⟨_,rfl,_⟩:=trodAll_nil h;rfl
  |cons t ts ih=>intro vs ds ps h;obtain⟨v,vs',d,ds',p,q,rfl,rfl,rfl,h1,h2⟩:=trodAll_cons h;simp[ih h2]
 obtain⟨f1,f2,f3⟩:=hfn ds (by rw[hlen hA];simp)
 obtain⟨dss,g1,g2⟩:=Mx (n:=n) (γ:=λ _=>⟨none,0⟩) hsh hA (λ j t v hj hj'=>hval j t v (by simpa using hj) (by simpa using hj')) (λ x hx=>by have:=jh.1 hsz x hx;simpa using this)
 have hc:=(hok dss g1).2 W oK oK (λ _=>⟨none,0⟩) [] args.toList (λ b hb=>hb.elim) (λ b hb=>hb) g2 (by rw[Fe];intro b hb;exact hb.elim) Bh (by rw[Fe];intro i j b o o' sz n ds bo sz' n' ds' bo' h1;simp at h1);simp only[wA]at hc;refine hc.mono λ e W' ⟨rfs,objs,u,⟨e1,e2⟩,e3,e4⟩=>⟨u,e3, ?_⟩
 subst e1 e2;obtain⟨⟨γ,us,m1,m2,_⟩,hsize,hold,hos,hout⟩:=e4;have hu:u= .bool true:=by simp only[eW,lp,d9,Rd]at m2;obtain⟨u1,us1,rfl,⟨rfl,_⟩,rfl⟩:=m2;simpa using m1
 subst hu;have hheap:∀b,b<W.heap.size->W'.heap[b]? =W.heap[b]? :=λ b hb=>hold b hb (λ h=>h)
 have hplace:∀x∈p,x.block<W.heap.size:=λ x hx=>by have:=hW'.lt x (by simpa using hx);simpa using this
 have hsame:∀x∈p,W.sameAt W' x:=λ x hx=>by
  have hb:=hheap x.block (hplace x hx);cases x with
  |cell b o=>exact World.cell?_of_block (w:=W) hb
  |map b=>exact hb
 refine⟨ds,[],p++[],[],p,[],by simpa using hW', ?_, ?_, ?_, ?_,λ h=>by cases h⟩
 .rw[fe,f1,hres];exact trodAll_mk1 (shut_bool htb _)
 .rw[fe,f2];exact Io hl hread hA hsame (λ x hx=>by simpa using hplace x hx)
 .rw[fe,f3,hvars];rfl
 .refine⟨hos,hout,λ i hi=> ?_⟩;rw[hheap i hi];split<;>simp_all
end
end Go.Pk
