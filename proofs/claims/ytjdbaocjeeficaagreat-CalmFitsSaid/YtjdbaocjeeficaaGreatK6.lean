import Derived.Test.YtjdbaocjeeficaaGreatK5
import Derived.Deep.LoopGhost
import Derived.Scope
import Derived.Defers
import Derived.Laws.StructEq
import Derived.ChangeArms
import Derived.ChangeShapes
import Derived.SizedLaws
import Derived.WideKeyArgs
import Derived.ChangeSame
import Derived.RowKit
import Derived.Carry
set_option linter.unusedVariables false
set_option linter.unusedSimpArgs false
set_option linter.unusedSectionVars false
namespace Go.Pk
section
variable {v v':List AV} {r r':Rs} {T:Nat->Option TI} {c:Bool} {cx:Cx} {a:Act} {w:World} {β:Nat->Nat->Pl} {all:List Oper} {Q:Exit->Act->World->Prop} {K:Ex->G->Prop}
theorem cU.congr (h:cU cx ⟨v,r⟩ a w) (hf:∀s,aa s r=aa s r'):cU cx ⟨v,r'⟩ a w:=
 let ⟨β,h⟩:=h
 ⟨β,h.congr hf⟩
theorem pP (hT:bx cx.P T) (hQ:∀e g a w,cU cx g a w->K e g->Q (lR e) a w):∀(rest:List Oper) (k:Nat) (m:M) (v:List AV) (r:Rs) (a:Act) (w:World),
  (∀j,rest[j]? =all[k+j]?)->aZ T cx.P all m rest v r K->cU cx ⟨v,r⟩ a w->wpOps cx.P all.toArray Q (List.range' k rest.length) a w
 |[],k,m,v,r,a,w,_,hk,h=>hQ .normal _ _ _ h hk.2
 |o::rest,k,m,v,r,a,w,hall,hk,h=>by
  have ho:all.toArray[k]? =some o:=by simpa using(hall 0).symm
  obtain⟨β,h⟩:=h;rw[dK,List.range'_succ,wpOps_cons];rcases vv hT hk with⟨fp,x,r1,⟨h1,h2⟩,_,_,h3⟩|⟨_,hp|⟨v',r',fp,x,r1,off',himp,⟨h1,h2⟩,h3⟩⟩
  case inr.inl=>exact hp a w β h k Q _ ho (λ x g a w hg hk=>hQ (.panic x) g a w hg hk)
  case inr.inr=>
   obtain⟨β',h'⟩:=himp _ _ _ ⟨β,h⟩;refine wpOp_mono (λ a' w' hd=> ?_) (h2 v' r' (λ _ _=>rfl) (λ _ _ _=>rfl) (λ _ _=>rfl) a w β' h' k Q ho);obtain⟨r1',g1,g2,g3⟩:=hd;refine pP hT hQ rest (k+1) _ _ _ a' w' (λ j=> ?_) h3 (g1.congr λ s=> ?_)
   .have:=hall (j+1);simpa[cq,gW 1 j]using this
   .by_cases hs:s∈fp.w
    .exact g2 s hs
    .rw[g3 s hs,h1 s hs]
  refine wpOp_mono (λ a' w' hd=> ?_) (h2 v r (λ _ _=>rfl) (λ _ _ _=>rfl) (λ _ _=>rfl) a w β h k Q ho);obtain⟨r1',g1,g2,g3⟩:=hd;refine pP hT hQ rest (k+1) _ _ _ a' w' (λ j=> ?_) h3 (g1.congr λ s=> ?_)
  .have:=hall (j+1);simpa[cq,gW 1 j]using this
  .by_cases hs:s∈fp.w
   .exact g2 s hs
   .rw[g3 s hs,h1 s hs]
theorem Bn (hT:bx cx.P T) (hQ:∀e g a w,cU cx g a w->K e g->Q (lR e) a w) {ops:Array Oper} {id:Nat} {m:M} {g:G} (hk:aZ T cx.P ops.toList m ops.toList g.v g.r K)
  (h:cU cx g a w):(Code.region id ops false).wp cx.P Q a w:=by
 refine wp_region ?_;have:=pP hT hQ ops.toList 0 m g.v g.r a w (λ j=>by simp) hk h;simpa[List.range_eq_range']using this
section
variable {L α:Type} (b0:L->α) (Wr:Nat->L->Option α)
def dc (S:Nat->Bool):Nat->L->α
 |0,l=>b0 l
 |k+1,l=>if S k then(Wr k l).getD (dc S k l)else dc S k l
variable {b0 Wr} {S S':Nat->Bool} {j n:Nat} {l:L}
theorem sA (hj:S j=false) (hjn:j≤n) (h1:∀k,k<j->Wr k l≠none->S k=true) (h2:∀k,j<k->Wr k l≠none->S k=false):
  dc b0 Wr S n l=dc b0 Wr (λ _=>true) j l:=by
 have p1:∀k,k≤j->dc b0 Wr S k l=dc b0 Wr (λ _=>true) k l:=by
  intro k;induction k with
  |zero=>intro _;rfl
  |succ k ih=>
   intro hk;simp only[dc,eP];rw[ih (by omega)];cases hw:Wr k l with
   |none=>simp
   |some y=>rw[h1 k (by omega) (by rw[hw];simp)];simp
 have p2:∀d,dc b0 Wr S (j+d) l=dc b0 Wr S j l:=by
  intro d;induction d with
  |zero=>rfl
  |succ d ih=>
   rw[←cq];simp only[dc];rw[ih];cases d with
   |zero=>simp[hj]
   |succ d=>
    cases hw:Wr (j+(d+1)) l with
    |none=>simp
    |some y=>rw[h2 (j+(d+1)) (by omega) (by rw[hw];simp)];simp
 have:=p2 (n - j);rw[show j+(n - j)=n from by omega]at this;rw[this,p1 j (Nat.le_refl _)]
theorem tL (hS:∀k,k≠j->S' k=S k) (hw:Wr j l=none):dc b0 Wr S' n l=dc b0 Wr S n l:=by
 induction n with
 |zero=>rfl
 |succ n ih=>
  simp only[dc];rw[ih];by_cases hn:n=j
  .subst hn;rw[hw];simp
  .rw[hS n hn]
theorem uE (hS:∀k,k≠j->S' k=S k) (hj:S' j=true) {y:α} (hw:Wr j l=some y) (hjn:j<n) (h2:∀k,j<k->Wr k l≠none->S k=false):
  dc b0 Wr S' n l=y:=by
 have p:∀d,dc b0 Wr S' (j+1+d) l=y:=by
  intro d;induction d with
  |zero=>simp only[eo,dc];rw[hj,hw];rfl
  |succ d ih=>
   rw[←cq];simp only[dc];rw[ih];cases hw':Wr (j+1+d) l with
   |none=>simp
   |some y'=>
    rw[hS _ (by omega),h2 (j+1+d) (by omega) (by rw[hw'];simp)];simp
 have:=p (n - (j+1))
 rwa[show j+1+(n - (j+1))=n from by omega]at this
theorem uw (h:∀k,k<n->S k=true):dc b0 Wr S n l=dc b0 Wr (λ _=>true) n l:=by
 induction n with
 |zero=>rfl
 |succ n ih=>
  simp only[dc,eP];rw[ih λ k hk=>h k (by omega),h n (by omega),ao rfl]
theorem tZ (h:∀k,k<n->S k=false):dc b0 Wr S n l=b0 l:=by
 induction n with
 |zero=>rfl
 |succ n ih=>
  simp only[dc];rw[ih λ k hk=>h k (by omega),h n (by omega)];rfl
end
end
section
variable {T:Nat->Option TI} {cx:Cx} {all:List Oper} {K:Ex->G->Prop}
theorem sZ (hT:bx cx.P T):∀(rest:List Oper) (k:Nat) (m:List FP) (off:List (Nat×Bool)) (v:List AV) (r:Rs),aZ T cx.P all ⟨some m,off⟩ rest v r K->
  ∃(St:Nat->G) (X:Nat->AV) (F:List FP),St k=⟨v,r⟩/\K .normal (St (k+rest.length))/\kv all (m.reverse++F)=true/\F.length=rest.length/\
   ∀j o,rest[j]? =some o->∃fp,fA cx all o (St (k+j)).v (St (k+j)).r fp (X (k+j)) (St (k+j+1)).r/\(St (k+j+1)).v=bf (St (k+j)).v o.dst (X (k+j))/\
    F[j]? =some fp/\∀s∈fp.w,s∈fp.t
 |[],k,m,off,v,r,hk=>⟨λ _=>⟨v,r⟩,λ _=> .one .dead,[],rfl,hk.2,by have:=hk.1;simpa[na]using this,rfl,λ j o h=>by simp at h⟩
 |o::rest,k,m,off,v,r,hk=>by
  obtain⟨fp,x,r1,h1,h0,off',h2⟩:=(vv hT hk).resolve_right (λ h=>by cases h.1);obtain⟨St,X,F,g1,g2,g3,g4,g5⟩:=sZ hT rest (k+1) _ _ _ _ h2;refine⟨λ i=>if i=k then⟨v,r⟩else St i,λ i=>if i=k then x else X i,fp::F,by simp, ?_,by simpa using g3,by simp[g4],λ j o' hj=> ?_⟩
  .simp only[dK];rw[aj (by omega),show k+(rest.length+1)=k+1+rest.length from by omega];exact g2
  .cases j with
   |zero=>
    simp only[bG,aF]at hj;subst hj;simp only[eo,eP];rw[aj (by omega),g1];exact⟨fp,h1,rfl,by simp,h0⟩
   |succ j=>
    have:=g5 j o' (by simpa using hj);simp only[aj (show k+(j+1)≠k from by omega),aj (show k+(j+1)+1≠k from by omega)];rw[show k+(j+1)=k+1+j from by omega];simpa using this
theorem qh {a b:List Nat} (h:nk a b=true) {s:Nat} (ha:s∈a):s ∉ b:=by unfold nk at h;have:=gT.1 h s ha;simpa using this
theorem pE {F:List FP} (h:kv all F=true) {i j:Nat} {x y:FP} (hx:F[i]? =some x) (hy:F[j]? =some y) (hij:i<j):
  ((jg all).getD j 0).testBit i=true∨FP.apart x y=true:=by
 unfold kv at h;have h1:=gT.1 h (y,j) (mF.2 hy);have h2:=gT.1 h1 (x,i) (mF.2 hx);simp only[jl,mG,iK]at h2;rcases h2 with(h2|h2)|h2
 .exact absurd hij h2
 .exact .inl h2
 .exact .inr h2
theorem nI (h:mY all=true):Region.noSelect all.toArray=true/\(∀(j:Nat) (y:Oper),all[j]? =some y->∀e∈y.after,Region.binds .any e=true->e.on<j)/\
  ∀(i j:Nat) (x y:Oper),all[i]? =some x->all[j]? =some y->i<j->((jg all).getD j 0).testBit i=true∨x.apart all.toArray y=true:=by
 unfold mY at h;simp only[cg]at h;refine⟨h.1,λ j y hy e he hb=> ?_,λ i j x y hx hy hij=> ?_⟩
 .have h1:=gT.1 h.2 (y,j) (mF.2 hy);simp only[cg]at h1;have h2:=Array.all_eq_true_iff_forall_mem.1 h1.1 e he;simp only[hb,lF,Bool.false_or,dQ]at h2;exact h2
 .have h1:=gT.1 h.2 (y,j) (mF.2 hy);simp only[cg]at h1;have h2:=gT.1 h1.2 (x,i) (mF.2 hx);simp only[jl,mG,iK]at h2;rcases h2 with(h2|h2)|h2
  .exact absurd hij h2
  .exact .inl h2
  .exact .inr h2
def jv (acc:List Nat) (o:Oper):Nat:=o.after.foldl (λ s e=>if Region.binds .any e then s|||2^e.on|||acc.getD e.on 0 else s) 0
theorem Bj (ops:List Oper):jg ops=ops.foldl (λ acc o=>acc++[jv acc o]) []:=rfl
theorem th (acc:List Nat):∀(l:List Edge) (s:Nat) (i:Nat),(l.foldl (λ s e=>if Region.binds .any e then s|||2^e.on|||acc.getD e.on 0 else s) s).testBit i=true->
  s.testBit i=true∨∃e∈l,Region.binds .any e=true/\(i=e.on∨(acc.getD e.on 0).testBit i=true)
 |[],s,i,h=> .inl h
 |e::l,s,i,h=>by
  simp only[lE]at h;rcases th acc l _ i h with h1|⟨e',h1,h2⟩
  .by_cases hb:Region.binds .any e=true
   .rw[ao hb]at h1;simp only[Nat.testBit_or,jl,Nat.testBit_two_pow,dQ]at h1;rcases h1 with(h1|h1)|h1
    .exact .inl h1
    .exact .inr ⟨e,by simp,hb, .inl h1.symm⟩
    .exact .inr ⟨e,by simp,hb, .inr h1⟩
   .rw[aj hb]at h1;exact .inl h1
  .exact .inr ⟨e',by simp[h1],h2⟩
theorem Cs {acc:List Nat} {o:Oper} {i:Nat} (h:(jv acc o).testBit i=true):∃e∈o.after,Region.binds .any e=true/\(i=e.on∨(acc.getD e.on 0).testBit i=true):=by
 unfold jv at h;rw[←Array.foldl_toList]at h;rcases th acc _ _ _ h with h1|⟨e,h1,h2⟩
 .simp at h1
 .exact⟨e,Array.mem_toList_iff.1 h1,h2⟩
theorem uU:∀(ops:List Oper) (acc:List Nat),(ops.foldl (λ acc o=>acc++[jv acc o]) acc).length=acc.length+ops.length/\
  (∀k,k<acc.length->(ops.foldl (λ acc o=>acc++[jv acc o]) acc)[k]? =acc[k]?)/\
  ∀j o,ops[j]? =some o->(ops.foldl (λ acc o=>acc++[jv acc o]) acc)[acc.length+j]? =some (jv ((ops.foldl (λ acc o=>acc++[jv acc o]) acc).take (acc.length+j)) o)
 |[],acc=>⟨by simp,λ _ _=>rfl,λ j o h=>by simp at h⟩
 |o::ops,acc=>by
  obtain⟨h1,h2,h3⟩:=uU ops (acc++[jv acc o]);simp only[lE];simp only[eh,dK,jq,bu]at h1 h2 h3;refine⟨by rw[h1];simp;omega,λ k hk=> ?_,λ j o' hj=> ?_⟩
  .rw[h2 k (by omega),bJ hk]
  .cases j with
   |zero=>
    simp only[bG,aF]at hj;subst hj;rw[eo,h2 acc.length (by omega)];simp only[bT (Nat.le_refl _),Nat.sub_self,bG,aF];congr 1;apply lD;intro k;rw[List.getElem?_take];split
    .rename_i hk;rw[h2 k (by omega),bJ hk]
    .rename_i hk;rw[mO (by omega)]
   |succ j=>
    have:=h3 j o' (by simpa using hj);rw[show acc.length+(j+1)=acc.length+1+j from by omega];exact this
theorem AS {i j:Nat} {o:Oper} (hj:all[j]? =some o) (h:((jg all).getD j 0).testBit i=true):
  ∃e∈o.after,Region.binds .any e=true/\(i=e.on∨((jg all).getD e.on 0).testBit i=true):=by
 obtain⟨_,_,h3⟩:=uU all [];have h4:=h3 j o hj;rw[←Bj]at h4;simp only[jq,bu]at h4;rw[fe,h4]at h;simp only[Option.getD_some]at h;obtain⟨e,h5,h6,h7⟩:=Cs h;refine⟨e,h5,h6,h7.imp id λ h8=> ?_⟩;rw[fe,List.getElem?_take]at h8;split at h8
 .rw[fe];exact h8
 .simp at h8
def ly (all:List Oper) (S:Nat->Bool):Prop:=∀(j:Nat) (o:Oper),all[j]? =some o->S j=true->∀e∈o.after,Region.binds .any e=true->S e.on=true
theorem ly.kU {S:Nat->Bool} (h:ly all S) (hb:∀(j:Nat) (y:Oper),all[j]? =some y->∀e∈y.after,Region.binds .any e=true->e.on<j):
  ∀(n j:Nat),j<n->∀(o:Oper),all[j]? =some o->(∀e∈o.after,Region.binds .any e=true->S e.on=true)->∀i,((jg all).getD j 0).testBit i=true->S i=true
 |0,_,h0,_,_,_,_,_=>absurd h0 (Nat.not_lt_zero _)
 |n+1,j,hjn,o,ho,hr,i,hbit=>by
  obtain⟨e,h1,h2,h3⟩:=AS ho hbit;have hs:=hr e h1 h2;rcases h3 with rfl|h3
  .exact hs
  .have hlt:=hb j o ho e h1 h2;have hjl:j<all.length:=(bq.1 ho).1;have ho':all[e.on]? =some all[e.on]:=gy (by omega);exact h.kU hb n e.on (by omega) _ ho' (h e.on _ ho' hs) i h3
end
section
variable {T:Nat->Option TI} {cx:Cx} {all:List Oper} {K:Ex->G->Prop} {Q:Exit->Act->World->Prop}
structure Found (cx:Cx) (all:List Oper) (St:Nat->G) (X:Nat->AV) (F:List FP):Prop where
 len:F.length=all.length
 step:∀j o,all[j]? =some o->∃fp,fA cx all o (St j).v (St j).r fp (X j) (St (j+1)).r/\(St (j+1)).v=bf (St j).v o.dst (X j)/\F[j]? =some fp/\∀s∈fp.w,s∈fp.t
 ord:mY all=true
 rI:kv all F=true
section
variable {St:Nat->G} {X:Nat->AV} {F:List FP} (hf:Found cx all St X F)
def j9 (all:List Oper) (N:Nat) (X:Nat->AV) (k d:Nat):Option (Option AV):=
 match all[k]? with
 |some o=>if o.dst=some d/\d<N then some (some (X k))else none
 |none=>none
def j6 (F:List FP) (St:Nat->G) (k s:Nat):Option (Option RS):=
 match F[k]? with
 |some f=>if s∈f.w then some (aa s (St (k+1)).r)else none
 |none=>none
theorem vb {v:List AV} {dst:Option Nat} {x:AV}:(bf v dst x).length=v.length:=by cases dst<;>simp[bf]
theorem qB {N k d:Nat} (h:j9 all N X k d≠none):∃o,all[k]? =some o/\o.dst=some d/\d<N:=by
 unfold j9 at h;split at h
 .rename_i o ho;split at h
  .rename_i hd;exact⟨o,ho,hd⟩
  .exact absurd rfl h
 .exact absurd rfl h
theorem qI {k s:Nat} (h:j6 F St k s≠none):∃f,F[k]? =some f/\s∈f.w:=by
 unfold j6 at h;split at h
 .rename_i f hf;split at h
  .rename_i hd;exact⟨f,hf,hd⟩
  .exact absurd rfl h
 .exact absurd rfl h
include hf in
theorem Found.wU:∀k,k≤all.length->(St k).v.length=(St 0).v.length
 |0,_=>rfl
 |k+1,h=>by obtain⟨_,_,h2,_⟩:=hf.step k all[k] (gy (by omega));rw[h2,vb];exact Found.wU k (by omega)
theorem uY {v:List AV} {dst:Option Nat} {x:AV} {d:Nat}:(bf v dst x)[d]? =if dst=some d/\d<v.length then some x else v[d]? :=by
 cases dst with
 |none=>simp[bf]
 |some e=>
  simp only[bf,aF,kJ];by_cases h:e=d
  .subst h;simp only[ca,eP];split
   .rfl
   .rename_i h;rw[mO (by omega)]
  .simp[h]
include hf in
theorem Found.rv (d:Nat):∀k,k≤all.length->dc (λ d=>(St 0).v[d]?) (j9 all (St 0).v.length X) (λ _=>true) k d=(St k).v[d]?
 |0,_=>rfl
 |k+1,h=>by have ho:all[k]? =some all[k]:=gy (by omega);obtain⟨_,_,h2,_⟩:=hf.step k _ ho;simp only[dc,eP];rw[Found.rv d k (by omega),h2,uY];simp only[j9,ho,hf.wU k (by omega)];split<;>simp
include hf in
theorem Found.qY (s:Nat):∀k,k≤all.length->dc (λ s=>aa s (St 0).r) (j6 F St) (λ _=>true) k s=aa s (St k).r
 |0,_=>rfl
 |k+1,h=>by
  have ho:all[k]? =some all[k]:=gy (by omega);obtain⟨fp,h1,_,h3,_⟩:=hf.step k _ ho;simp only[dc,eP];rw[Found.qY s k (by omega)];simp only[j6,h3];split
  .simp
  .rename_i hs;simp only[Option.getD_none];exact(h1.1 s hs).symm
def Inv (cx:Cx) (all:List Oper) (St:Nat->G) (X:Nat->AV) (F:List FP) (S:Nat->Bool) (a:Act) (w:World):Prop:=
 ∃v r,cU cx ⟨v,r⟩ a w/\v.length=(St 0).v.length/\(∀d,v[d]? =dc (λ d=>(St 0).v[d]?) (j9 all (St 0).v.length X) S all.length d)/\
  ∀s,aa s r=dc (λ s=>aa s (St 0).r) (j6 F St) S all.length s
include hf in
theorem Found.Dk {S:Nat->Bool} (hc:ly all S) {j:Nat} {o:Oper} (hj:all[j]? =some o) (hS:S j=false) (hr:∀e∈o.after,Region.binds .any e=true->S e.on=true)
  {d:Nat} (hd:d∈o.looksAt all.toArray):dc (λ d=>(St 0).v[d]?) (j9 all (St 0).v.length X) S all.length d=(St j).v[d]? :=by
 obtain⟨_,o2,o3⟩:=nI hf.ord;have hjl:j<all.length:=(bq.1 hj).1;rw[←hf.rv d j (by omega)];refine sA hS (by omega) (λ k hk hw=> ?_) (λ k hk hw=> ?_)
 .obtain⟨x,hx,hxd,_⟩:=qB hw;rcases o3 k j x o hx hj hk with h|h
  .exact hc.kU o2 (j+1) j (by omega) o hj hr k h
  .exact absurd hd ((Oper.apart_spec h).1 d hxd)
 .obtain⟨x,hx,hxd,_⟩:=qB hw;rcases o3 j k o x hj hx hk with h|h
  .cases hSk:S k with
   |false=>rfl
   |true=>rw[hc.kU o2 (k+1) k (by omega) x hx (hc k x hx hSk) j h]at hS;cases hS
  .exact absurd hd ((Oper.apart_spec h).2.2 d hxd)
include hf in
theorem Found.DO {S:Nat->Bool} (hc:ly all S) {j:Nat} {o:Oper} {f:FP} (hj:all[j]? =some o) (hfj:F[j]? =some f) (hS:S j=false) (hr:∀e∈o.after,Region.binds .any e=true->S e.on=true)
  {s:Nat} (hs:s∈f.t):dc (λ s=>aa s (St 0).r) (j6 F St) S all.length s=aa s (St j).r:=by
 obtain⟨_,o2,_⟩:=nI hf.ord;have hjl:j<all.length:=(bq.1 hj).1;rw[←hf.qY s j (by omega)];refine sA hS (by omega) (λ k hk hw=> ?_) (λ k hk hw=> ?_)
 .obtain⟨x,hx,hxd⟩:=qI hw;rcases pE hf.rI hx hfj hk with h|h
  .exact hc.kU o2 (j+1) j (by omega) o hj hr k h
  .simp only[FP.apart,cg]at h;exact absurd hs (qh h.1.1 hxd)
 .obtain⟨x,hx,hxd⟩:=qI hw;have hk':k<all.length:=by rw[←hf.len];exact(bq.1 hx).1
  rcases pE hf.rI hfj hx hk with h|h
  .cases hSk:S k with
   |false=>rfl
   |true=>
    have hok:all[k]? =some all[k]:=gy hk';rw[hc.kU o2 (k+1) k (by omega) _ hok (hc k _ hok hSk) j h]at hS;cases hS
  .simp only[FP.apart,cg]at h;exact absurd hxd (qh h.1.2 hs)
theorem ED {v v':List AV} {x:Operand} (h:∀t,x= .tmp t->v'[t]? =v[t]?):aW v' x=aW v x:=by
 cases x with
 |tmp t=>simp only[aW,fe,h t rfl]
 |_=>rfl
theorem DE {v v':List AV} {j:Nat} (h:∀t,(all[j]?.bind (·.dst))=some t->v'[t]? =v[t]?):de all v' j=de all v j:=by
 unfold de;split
 .rename_i o ho;split
  .rename_i d hd;simp only[fe,h d (by rw[ho];exact hd)]
  .rfl
 .rfl
include hf in
theorem Found.Cz {S S':Nat->Bool} {a:Act} {w:World} (hI:Inv cx all St X F S a w) (hc:ly all S) {j:Nat} {o:Oper} (hj:all[j]? =some o) (hS:S j=false)
  (hr:∀e∈o.after,Region.binds .any e=true->S e.on=true) (hS1:S' j=true) (hS2:∀k,k≠j->S' k=S k):
  wpOp cx.P all.toArray Q j (Inv cx all St X F S') a w:=by
 obtain⟨v,r,⟨β,hH⟩,hl,hv,hrr⟩:=hI;obtain⟨fp,⟨h1,h2⟩,h3,h4,h5⟩:=hf.step j o hj;obtain⟨_,o2,o3⟩:=nI hf.ord;have hjl:j<all.length:=(bq.1 hj).1;have hlook:∀d∈o.looksAt all.toArray,v[d]? =(St j).v[d]? :=λ d hd=>by rw[hv d,hf.Dk hc hj hS hr hd]
 have hlk:∀s∈fp.t,aa s r=aa s (St j).r:=λ s hs=>by rw[hrr s,hf.DO hc hj h4 hS hr hs]
 refine wpOp_mono (λ a' w' hd=> ?_) (h2 v r (λ x hx=>ED λ t ht=>hlook t ?_) (λ i b hg=>DE λ t ht=>hlook t ?_) hlk a w β hH j Q (by simpa using hj))
 .obtain⟨r1',g1,g2,g3⟩:=hd;refine⟨_,r1',g1,by rw[vb,hl],λ d=> ?_,λ s=> ?_⟩
  .rw[uY,hl];by_cases hd:o.dst=some d/\d<(St 0).v.length
   .rw[ao hd];refine(uE hS2 hS1 (y:=some (X j)) (by unfold j9;simp only[hj];rw[ao hd]) hjl (λ k hk hw=> ?_)).symm;obtain⟨x,hx,hxd,_⟩:=qB hw;rcases o3 j k o x hj hx hk with h|h
    .cases hSk:S k with
     |false=>rfl
     |true=>rw[hc.kU o2 (k+1) k (by omega) x hx (hc k x hx hSk) j h]at hS;cases hS
    .exact absurd hxd ((Oper.apart_spec h).2.1 d hd.1)
   .rw[aj hd,hv d];exact(tL hS2 (by unfold j9;simp only[hj];rw[aj hd])).symm
  .by_cases hs:s∈fp.w
   .rw[g2 s hs];refine(uE hS2 hS1 (y:=aa s (St (j+1)).r) (by unfold j6;simp only[h4];rw[ao hs]) hjl (λ k hk hw=> ?_)).symm;obtain⟨x,hx,hxd⟩:=qI hw;have hk':k<all.length:=by rw[←hf.len];exact(bq.1 hx).1
    rcases pE hf.rI h4 hx hk with h|h
    .cases hSk:S k with
     |false=>rfl
     |true=>
      have hok:all[k]? =some all[k]:=gy hk';rw[hc.kU o2 (k+1) k (by omega) _ hok (hc k _ hok hSk) j h]at hS;cases hS
    .simp only[FP.apart,cg]at h;exact absurd hxd (qh h.2 hs)
   .rw[g3 s hs,hrr s];exact(tL hS2 (by unfold j6;simp only[h4];rw[aj hs])).symm
 .subst ht;exact jV _ (List.mem_filterMap.2 ⟨.tmp t,hx,rfl⟩)
 .unfold Oper.looksAt;refine kE _ ?_;rw[hg];simp only[jR];rw[ht];simp
end
theorem filter_lt {α:Type} {p q:α->Bool}:∀{l:List α},(∀x∈l,p x=true->q x=true)->(∃x∈l,q x=true/\p x=false)->(l.filter p).length<(l.filter q).length
 |[],_,⟨x,h,_⟩=>by simp at h
 |y::l,h,⟨x,hx,h1,h2⟩=>by
  have hle:(l.filter p).length≤(l.filter q).length:=by
   clear hx h1 h2;induction l with
   |nil=>simp
   |cons z l ih=>
    have:=ih λ x hx=>h x (by simp only[dw]at hx⊢;rcases hx with h|h<;>simp[h])
    have hz:=h z (by simp);simp only[List.filter_cons];cases hp:p z with
    |true=>rw[hz hp];simpa using this
    |false=>cases hq:q z<;>simp<;>omega
  simp only[List.filter_cons];by_cases hxy:x=y
  .subst hxy;rw[h1,h2];simp only[lP,jm,eP,dK];omega
  .have hx':x∈l:=by simp only[dw]at hx;exact hx.resolve_left hxy
   have ih:=filter_lt (p:=p) (q:=q) (l:=l) (λ x hx=>h x (by simp[hx])) ⟨x,hx',h1,h2⟩;have hy:=h y (by simp);cases hp:p y with
   |true=>rw[hy hp];simpa using ih
   |false=>cases hq:q y<;>simp<;>omega
def l7 (n:Nat) (listed:Array Bool):Nat:=((List.range n).filter λ i=> !listed.getD i true).length
section
variable {St:Nat->G} {X:Nat->AV} {F:List FP} (hf:Found cx all St X F)
include hf in
theorem Found.te {listed:Array Bool} (hr:Region.ready .any all.toArray listed=[]) (hsz:listed.size=all.length):∀n j,j<n->j<all.length->listed.getD j false=true
 |0,_,h,_=>absurd h (Nat.not_lt_zero _)
 |n+1,j,hj,hjl=>by
  obtain⟨_,o2,_⟩:=nI hf.ord;have ho:all[j]? =some all[j]:=gy hjl;cases hl:listed.getD j true with
  |true=>simpa[hsz,hjl]using hl
  |false=>
   have:j∈Region.ready .any all.toArray listed:=by rw[mem_ready];refine⟨hl,all[j],by simp,λ e he hb=> ?_⟩;have hlt:=o2 j _ ho e he hb;exact Found.te hr hsz n e.on (by omega) (by omega)
   rw[hr]at this;cases this
include hf in
theorem Found.any (hQ:∀a w,cU cx (St all.length) a w->Q .normal a w):∀(fuel:Nat) (listed:Array Bool) (a:Act) (w:World),listed.size=all.length->l7 all.length listed≤fuel->
  ly all (λ i=>listed.getD i false)->Inv cx all St X F (λ i=>listed.getD i false) a w->wpAny cx.P .any all.toArray Q fuel listed a w:=by
 have hend:∀(listed:Array Bool) (a:Act) (w:World),(∀j,j<all.length->listed.getD j false=true)->Inv cx all St X F (λ i=>listed.getD i false) a w->Q .normal a w:=λ listed a w hl hI=>by
  obtain⟨v,r,hH,hlen,hv,hrr⟩:=hI;refine hQ a w ?_;have e1:v=(St all.length).v:=by apply lD;intro d;rw[hv d,uw (λ k hk=>hl k hk),hf.rv d _ (Nat.le_refl _)]
  have:=hH.congr (r':=(St all.length).r) λ s=>by rw[hrr s,uw (λ k hk=>hl k hk),hf.qY s _ (Nat.le_refl _)]
  rw[e1]at this;exact this
 intro fuel;induction fuel with
 |zero=>
  intro listed a w hsz hu hc hI;have hall:∀j,j<all.length->listed.getD j false=true:=λ j hj=>by
   cases hl:listed.getD j true with
   |true=>simpa[hsz,hj]using hl
   |false=>
    have:j∈(List.range all.length).filter λ i=> !listed.getD i true:=by simp only[List.mem_filter,List.mem_range,hl,hj,mJ,and_self]
    have:=List.length_pos_of_mem this;unfold l7 at hu;omega
  refine⟨?_,hend listed a w hall hI⟩;rw[List.eq_nil_iff_forall_not_mem];intro j hj;obtain⟨h1,o,ho,_⟩:=mem_ready.1 hj;have hjl:j<all.length:=by simpa using(Array.getElem?_eq_some_iff.1 ho).1
  have:=hall j hjl;simp[hsz,hjl]at h1 this;rw[h1]at this;cases this
 |succ fuel ih=>
  intro listed a w hsz hu hc hI;refine⟨λ hr=>hend listed a w (λ j hj=>hf.te hr hsz (j+1) j (by omega) hj) hI,λ j hj=> ?_⟩;obtain⟨h1,o,ho,hall⟩:=mem_ready.1 hj;have ho':all[j]? =some o:=by simpa using ho
  have hjl:j<all.length:=(bq.1 ho').1;have hjf:listed.getD j false=false:=by simp[hsz,hjl]at h1⊢;exact h1
  have hset:(listed.setIfInBounds j true).getD j false=true:=by simp[hsz,hjl]
  have hset2:∀k,k≠j->(listed.setIfInBounds j true).getD k false=listed.getD k false:=λ k hk=>getD_set_ne false (du hk)
  refine wpOp_mono (λ a' w' hI'=>ih (listed.setIfInBounds j true) a' w' (by simp[hsz]) ?_ ?_ hI') (hf.Cz (S':=λ i=>(listed.setIfInBounds j true).getD i false) hI hc ho' hjf hall hset hset2)
  .have:l7 all.length (listed.setIfInBounds j true)<l7 all.length listed:=by
    unfold l7;refine filter_lt (λ x hx hp=> ?_) ⟨j,by simp[hjl],by rw[h1];rfl,by simp[hsz,hjl]⟩;by_cases hxj:x=j
    .subst hxj;rw[h1];rfl
    .rwa[getD_set_ne true (du hxj)]at hp
   omega
  .intro k ok hk hSk e he hb;by_cases hkj:k=j
   .subst hkj;rw[ho']at hk;cases hk;exact getD_set_true (hall e he hb)
   .simp only[hset2 k hkj]at hSk;exact getD_set_true (hc k ok hk hSk e he hb)
end
theorem Bh (hT:bx cx.P T) (hm:cx.P.follows .mixedOrders=true) (hQ:∀g a w,cU cx g a w->K .normal g->Q .normal a w) {ops:Array Oper} {id:Nat} {g:G} (ho:oL ops.toList)
  (hk:aZ T cx.P ops.toList ⟨some [],[]⟩ ops.toList g.v g.r K) {a:Act} {w:World} (h:cU cx g a w):(Code.region id ops true).wp cx.P Q a w:=by
 obtain⟨St,X,F,g1,g2,g3,g4,g5⟩:=sZ hT ops.toList 0 [] [] g.v g.r hk;have hf:Found cx ops.toList St X F:=⟨g4,λ j o hj=>by simpa using g5 j o hj,ho,by simpa using g3⟩;refine wp_region_any hm ?_;have hz:∀i,(Array.replicate ops.size false).getD i false=false:=λ i=>by simp only[Array.getD_eq_getD_getElem?,Array.getElem?_replicate];split<;>rfl
 obtain⟨β,h⟩:=h;have:=hf.any (Q:=Q) (λ a w hH=>hQ _ a w hH (by simpa using g2)) ops.size (Array.replicate ops.size false) a {w with drawn:=w.drawn+1} (by simp)
  (by unfold l7;exact eR (List.length_filter_le _ _) (by simp)) (λ j o _ hS=>by have hS':=hz j;simp only at hS;rw[hS']at hS;cases hS)
  ⟨g.v,g.r,⟨β,h.drew⟩,by rw[g1],λ d=>by rw[tZ (λ k _=>hz k),g1],λ s=>by rw[tZ (λ k _=>hz k),g1]⟩
 simpa using this
end
section
variable {T:Nat->Option TI} {cx:Cx}
theorem wC (hT:bx cx.P T) (hm:cx.P.follows .mixedOrders=true):∀(c:Code) (g:G) (Qa:Ex->G->Prop) (Q:Exit->Act->World->Prop),
  (∀e g a w,cU cx g a w->Qa e g->Q (lR e) a w)->bZ T cx.P c g Qa->∀a w,cU cx g a w->c.wp cx.P Q a w:=by
 intro c;induction c with
 |skip=>intro g Qa Q hQ hk a w h;exact wp_skip (hQ .normal g a w h hk)
 |exit id=>intro g Qa Q hQ hk a w h;exact wp_exit (hQ (.exit id) g a w h hk)
 |ret=>intro g Qa Q hQ hk a w h;exact wp_ret (hQ .ret g a w h hk)
 |region id ops d=>
  intro g Qa Q hQ hk a w h;cases d with
  |true=>exact Bh hT hm (λ g a w h hq=>hQ .normal g a w h hq) hk.1 hk.2 h
  |false=>exact Bn hT (λ e g a w h hq=>hQ e g a w h hq) hk h
 |seq x y ihx ihy=>
  intro g Qa Q hQ hk a w h;refine wp_seq (ihx g _ _ (λ e g a w h hq=> ?_) hk a w h);cases e with
  |normal=>
   rcases hq with⟨g',h1,h2⟩|hq
   .exact ihy g' Qa Q hQ h2 a w (h1 _ _ _ h)
   .exact hq cx rfl Q hQ a w h
  |exit id=>exact hQ (.exit id) g a w h hq
  |ret=>exact hQ .ret g a w h hq
  |panic x=>exact hQ (.panic x) g a w h hq
 |cond c x y ihx ihy=>
  intro g Qa Q hQ hk a w h;simp only[bZ]at hk;split at hk
  .rename_i b hb;obtain⟨h1,h2,h3⟩:=hk;obtain⟨β,hh⟩:=h;have he:=bH (v:=g.v) (r:=g.r) hh (c:=true) rfl h1;rw[hb]at he;exact wp_cond_split (bj.1 he).1 (λ ht=>ihx g Qa Q hQ (h2 ht) a w ⟨β,hh⟩) (λ ht=>ihy g Qa Q hQ (h3 ht) a w ⟨β,hh⟩)
  .rename_i hb;obtain⟨h1,h2,h3⟩:=hk;obtain⟨β,hh⟩:=h;have he:=bH (v:=g.v) (r:=g.r) hh (c:=true) rfl h1;rw[hb]at he;simp only[ak,ae]at he;obtain⟨b,hb'⟩:=he;exact wp_cond_split hb' (λ _=>ihx g Qa Q hQ h2 a w ⟨β,hh⟩) (λ _=>ihy g Qa Q hQ h3 a w ⟨β,hh⟩)
  .exact hk.elim
 |block id x ih=>
  intro g Qa Q hQ hk a w h;refine wp_block (ih g _ _ (λ e g a w h hq=> ?_) hk a w h);cases e with
  |normal=>exact hQ .normal g a w h hq
  |exit id'=>
   simp only[lR,Exit.inBlock];simp only at hq;split
   .rename_i hid;rw[ao hid]at hq;exact hQ .normal g a w h hq
   .rename_i hid;rw[aj hid]at hq;exact hQ (.exit id') g a w h hq
  |ret=>exact hQ .ret g a w h hq
  |panic x=>exact hQ (.panic x) g a w h hq
 |loop x ih=>
  intro g Qa Q hQ hk a w h;obtain⟨I,n0,⟨g0,h0,h1⟩,h2⟩:=hk;refine wp_loop_ghost (λ n a w=>∃g,I n g/\cU cx g a w) n0 ⟨g0,h1,h0 _ _ _ h⟩ ?_
  rintro n a w ⟨g',hI,hh⟩
  refine ih g' _ _ (λ e g a w h hq=> ?_) (h2 n g' hI) a w hh;cases e with
  |normal=>
   obtain⟨n',g1,k1,k2,k3⟩:=hq;exact⟨n',k1,g1,k3,k2 _ _ _ h⟩
  |exit id=>exact hQ (.exit id) g a w h hq
  |ret=>exact hQ .ret g a w h hq
  |panic x=>exact hQ (.panic x) g a w h hq
 |label l=>intro g Qa Q hQ hk a w h;exact wp_label (hQ .normal g a w h hk)
 |scope x ih=>
  intro g Qa Q hQ hk a w h;refine wp_scope_straight (ih g _ _ (λ e g a w h hq=> ?_) hk a w h);cases e with
  |normal=>exact hQ .normal g a w h hq
  |exit id=>exact hQ (.exit id) g a w h hq
  |ret=>exact hQ .ret g a w h hq
  |panic x=>exact hQ (.panic x) g a w h hq
 |_=>intro g Qa Q hQ hk a w h;exact hk.elim
end
def c7:Nat->List Arg->List AV
 |_,[]=>[]
 |p, .f x::xs=>x::c7 (p+1) xs
 |p, .ob o _::xs=> .one (j5 o (.ptr ⟨p,0,0⟩ 0))::c7 (p+1) xs
 |p, .row _ n _::xs=> .one (.own ⟨p,1,0⟩ 0 n)::c7 (p+1) xs
 |p, .cW pre post _ n _::xs=> .agg (pre++ .own ⟨p,1,0⟩ 0 n::post)::c7 (p+1) xs
def eB:List RO->List (Option aM)
 |[]=>[]
 | .d _::xs=>none::eB xs
 | .own sz _ ds _::xs=>some {e:=0,var:=false,fz:=false,cf:=true,sz,cells:=ds.map C.d}::eB xs
def aJ:Nat->List Arg->Rs
 |_,[]=>[]
 |p, .f _::xs=>aJ (p+1) xs
 |p, .ob _ l::xs=>(p,{next:=1,l:=some {e:=0,var:=true,fz:=false,cf:=true,sz:=0,cells:=cX p 0 0 l}::eB l})::aJ (p+1) xs
 |p, .row sz _ ds::xs=>(p,{next:=1,l:=[none,some {e:=0,var:=false,fz:=false,cf:=true,sz,cells:=ds.map C.d}]})::aJ (p+1) xs
 |p, .cW _ _ sz _ ds::xs=>(p,{next:=1,l:=[none,some {e:=0,var:=false,fz:=false,cf:=true,sz,cells:=ds.map C.d}]})::aJ (p+1) xs
def aK:Nat->List Arg->List Pos
 |_,[]=>[]
 |p, .f _::xs=>aK (p+1) xs
 |p, .ob _ _::xs=> .o p::aK (p+1) xs
 |p, .row _ n _::xs=> .r p n::aK (p+1) xs
 |p, .cW _ _ _ n _::xs=> .r p n::aK (p+1) xs
def iu:Nat->List Arg->List (Nat×Nat)
 |_,[]=>[]
 |p, .f _::xs=>iu (p+1) xs
 |p, .ob _ l::xs=>(List.range l.length).map (λ i=>(p,i+1))++iu (p+1) xs
 |p, .row _ _ _::xs=>(p,1)::iu (p+1) xs
 |p, .cW _ _ _ _ _::xs=>(p,1)::iu (p+1) xs
def bE (γ:Nat->Pl):Nat->Nat->List Arg->List ct->Nat->Nat->Pl
 |p,k, .f _::xs,bs=>bE γ (p+1) k xs bs
 |p,k, .row _ _ _::xs, .val _::bs=>λ s j=>if s=p then γ k else bE γ (p+1) (k+1) xs bs s j
 |p,k, .cW _ _ _ _ _::xs, .val _::bs=>λ s j=>if s=p then γ k else bE γ (p+1) (k+1) xs bs s j
 |p,k, .ob _ l::xs, .bP b::bs=>λ s j=>if s=p then(if j=0 then⟨some (b,0),0⟩else γ (k+(j - 1)))else bE γ (p+1) (k+l.length) xs bs s j
 |_,_,_,_=>λ _ _=>⟨none,0⟩
section
variable {P:Program} {w:World} {A0 aH:Nat->Prop} {γ:Nat->Pl}
theorem qt:∀{l:List RO} {j:Nat} {res:aM},(eB l)[j]? =some (some res)->∃sz n ds bo,l[j]? =some (RO.own sz n ds bo)/\res={e:=0,var:=false,fz:=false,cf:=true,sz,cells:=ds.map C.d}
 |[],j,_,h=>by simp[eB]at h
 | .d x::l,0,_,h=>by simp[eB]at h
 | .own sz n ds bo::l,0,res,h=>by simp only[eB,bG,aF]at h;exact⟨sz,n,ds,bo,by simp,h.symm⟩
 | .d x::l,j+1,res,h=>by simpa using qt (l:=l) (j:=j) (by simpa[eB]using h)
 | .own .. ::l,j+1,res,h=>by simpa using qt (l:=l) (j:=j) (by simpa[eB]using h)
theorem qH:∀{l:List RO} {j sz n:Nat} {ds:List D} {bo:Bool},l[j]? =some (RO.own sz n ds bo)->(eB l)[j]? =some (some {e:=0,var:=false,fz:=false,cf:=true,sz,cells:=ds.map C.d})
 |[],j,_,_,_,_,h=>by simp at h
 | .d x::l,0,_,_,_,_,h=>by simp at h
 | .own sz n ds bo::l,0,_,_,_,_,h=>by simp only[bG,aF,RO.own.injEq]at h;obtain⟨rfl,rfl,rfl,rfl⟩:=h;rfl
 | .d x::l,j+1,sz,n,ds,bo,h=>by simpa[eB]using qH (l:=l) (j:=j) (by simpa using h)
 | .own .. ::l,j+1,sz,n,ds,bo,h=>by simpa[eB]using qH (l:=l) (j:=j) (by simpa using h)
theorem lf:∀{args:List Arg} {p s j:Nat} {res:aM},aq (aJ p args) s j=some res->af (aJ p args) s=1
 |[],_,_,_,_,h=>by simp[aJ,aq,aa]at h
 | .f _::xs,p,s,j,res,h=>lf (args:=xs) (p:=p+1) (by simpa[aJ]using h)
 | .ob o0 l::xs,p,s,j,res,h=>by
  simp only[aJ,aq,aa]at h;simp only[aJ,af,aa];by_cases hp:p=s
  .rw[ao hp]
  .rw[aj hp]at h⊢;exact lf (args:=xs) (p:=p+1) (s:=s) (j:=j) (res:=res) (by unfold aq;exact h)
 | .row .. ::xs,p,s,j,res,h=>by
  simp only[aJ,aq,aa]at h;simp only[aJ,af,aa];by_cases hp:p=s
  .rw[ao hp]
  .rw[aj hp]at h⊢;exact lf (args:=xs) (p:=p+1) (s:=s) (j:=j) (res:=res) (by unfold aq;exact h)
 | .cW .. ::xs,p,s,j,res,h=>by
  simp only[aJ,aq,aa]at h;simp only[aJ,af,aa];by_cases hp:p=s
  .rw[ao hp]
  .rw[aj hp]at h⊢;exact lf (args:=xs) (p:=p+1) (s:=s) (j:=j) (res:=res) (by unfold aq;exact h)
theorem je:∀{args:List Arg} {p k s j:Nat} {res:aM} {bs:List ct} {us:List Value},aV P w A0 aH γ k args bs us->aq (aJ p args) s j=some res->
  p≤s/\res.e=0/\res.fz=false/\res.cf=true/\
  ((res.var=true/\j=0/\∃(i b:Nat) (l:List RO) (m:Nat) (c:Array Value) (e:Nat),(aK p args)[i]? =some (.o s)/\bs[i]? =some (.bP b)/\aH b/\bE γ p k args bs s 0=⟨some (b,0),0⟩/\w.heap[b]? =some (.cells c e (0,0))/\
    res.cells=cX s 0 0 l/\bM A0 w γ m l c.toList/\(∀u∈c.toList,flat u=true)/\
    (∀(i sz n:Nat) (ds:List D) (bo:Bool),l[i]? =some (.own sz n ds bo)->aq (aJ p args) s (i+1)=some {e:=0,var:=false,fz:=false,cf:=true,sz,cells:=ds.map C.d}/\
     bE γ p k args bs s (i+1)=γ (m+i)))∨
   (res.var=false/\∃(m sz n:Nat) (ds:List D) (bo:Bool),(iu p args)[m]? =some (s,j)/\(br args)[m]? =some (.own sz n ds bo)/\bE γ p k args bs s j=γ (k+m)/\res.sz=sz/\res.cells=ds.map C.d/\
    bL w A0 (γ (k+m)) sz ds))
 |[],_,_,_,_,_,_,_,_,h=>by simp[aJ,aq,aa]at h
 | .f x::xs,p,k,s,j,res,bs,us,ha,h=>by simp only[aV]at ha;obtain⟨u,us',_,_,ha⟩:=ha;obtain⟨h1,h2⟩:=je (p:=p+1) ha (by simpa[aJ]using h);exact⟨by omega,h2⟩
 | .ob o0 l::xs,p,k,s,j,res,bs,us,ha,h=>by
  simp only[aV]at ha;obtain⟨b,bs',us',c,e,rfl,rfl,hB,hw,hro,hfl,ha⟩:=ha;by_cases hp:p=s
  .subst hp;have hl:∀i,aq (aJ p (.ob o0 l::xs)) p i=(match (some {e:=0,var:=true,fz:=false,cf:=true,sz:=0,cells:=cX p 0 0 l}::eB l)[i]? with|some (some res)=>some res|_=>none):=λ i=>by simp only[aJ,aq,aa,eP];rfl
   rw[hl]at h;cases j with
   |zero=>
    simp only[bG,aF]at h;subst h;refine⟨Nat.le_refl _,rfl,rfl,rfl, .inl ⟨rfl,rfl,0,b,l,k,c,e,by simp[aK],by simp,hB,by simp[bE],hw,rfl,hro,hfl,λ i sz n ds bo hi=>⟨?_,by simp[bE]⟩⟩⟩;rw[hl];simp[qH hi]
   |succ i=>
    simp only[fI]at h;split at h
    .rename_i q hq;cases h;obtain⟨sz,n,ds,bo,g1,rfl⟩:=qt hq;have hi:i<l.length:=(bq.1 g1).1;have hrow:=bM.row hro g1;refine⟨Nat.le_refl _,rfl,rfl,rfl, .inr ⟨rfl,i,sz,n,ds,bo, ?_, ?_,by simp[bE],rfl,rfl,hrow⟩⟩
     .simp only[iu];rw[bJ (by simpa using hi)];simp[hi]
     .simp only[br];rw[bJ hi];exact g1
    .cases h
  .have hl:∀s' i,p≠s'->aq (aJ p (.ob o0 l::xs)) s' i=aq (aJ (p+1) xs) s' i:=λ s' i hs'=>by simp only[aJ,aq,aa,aj hs']
   rw[hl s j hp]at h;obtain⟨h1,h2,h3,h4,h5⟩:=je (p:=p+1) ha h;have hb:∀j',bE γ p k (.ob o0 l::xs) (.bP b::bs') s j'=bE γ (p+1) (k+l.length) xs bs' s j':=λ j'=>by simp only[bE];rw[aj (du hp)]
   refine⟨by omega,h2,h3,h4, ?_⟩;rcases h5 with⟨g0,g1,i,b',l',m,c',e',g2,g3,g4,g5,g6,g7,g8,g9,g10⟩|⟨g0,m,sz,n,ds,bo,g1,g2,g3,g4,g5,g6⟩
   .refine .inl ⟨g0,g1,i+1,b',l',m,c',e',by simpa[aK]using g2,by simpa using g3,g4,by rw[hb];exact g5,g6,g7,g8,g9,λ i sz n ds bo hi=> ?_⟩;rw[hl _ _ hp,hb];exact g10 i sz n ds bo hi
   .refine .inr ⟨g0,l.length+m,sz,n,ds,bo, ?_, ?_, ?_,g4,g5, ?_⟩
    .simp only[iu];rw[bT (by simp)];simpa using g1
    .simp only[br];rw[bT (by simp)];simpa using g2
    .rw[hb,g3,cq]
    .rw[←cq];exact g6
 | .row sz0 n0 ds0::xs,p,k,s,j,res,bs,us,ha,h=>by
  simp only[aV]at ha;obtain⟨u,bs',us',rfl,rfl,hro,ha⟩:=ha;by_cases hp:p=s
  .subst hp;have hl:∀i,aq (aJ p (.row sz0 n0 ds0::xs)) p i=(match ([none,some {e:=0,var:=false,fz:=false,cf:=true,sz:=sz0,cells:=ds0.map C.d}]:List (Option aM))[i]? with|some (some res)=>some res|_=>none):=λ i=>by simp only[aJ,aq,aa,eP];rfl
   rw[hl]at h;simp only[cy]at hro
   match j,h with
   |0,h=>simp at h
   |1,h=>
    simp only[fI,bG,aF]at h;subst h;exact⟨Nat.le_refl _,rfl,rfl,rfl, .inr ⟨rfl,0,sz0,n0,ds0,true,by simp[iu],by simp[br],by simp[bE],rfl,rfl,hro.2.2.1⟩⟩
   |j+2,h=>simp at h
  .have hl:∀s' i,p≠s'->aq (aJ p (.row sz0 n0 ds0::xs)) s' i=aq (aJ (p+1) xs) s' i:=λ s' i hs'=>by simp only[aJ,aq,aa,aj hs']
   rw[hl s j hp]at h;obtain⟨h1,h2,h3,h4,h5⟩:=je (p:=p+1) ha h;have hb:∀j',bE γ p k (.row sz0 n0 ds0::xs) (.val u::bs') s j'=bE γ (p+1) (k+1) xs bs' s j':=λ j'=>by simp only[bE];rw[aj (du hp)]
   refine⟨by omega,h2,h3,h4, ?_⟩;rcases h5 with⟨g0,g1,i,b',l',m,c',e',g2,g3,g4,g5,g6,g7,g8,g9,g10⟩|⟨g0,m,sz,n,ds,bo,g1,g2,g3,g4,g5,g6⟩
   .refine .inl ⟨g0,g1,i+1,b',l',m,c',e',by simpa[aK]using g2,by simpa using g3,g4,by rw[hb];exact g5,g6,g7,g8,g9,λ i sz n ds bo hi=> ?_⟩;rw[hl _ _ hp,hb];exact g10 i sz n ds bo hi
   .refine .inr ⟨g0,m+1,sz,n,ds,bo,by simpa[iu]using g1,by simpa[br]using g2, ?_,g4,g5, ?_⟩
    .rw[hb,g3];congr 1;omega
    .rw[show k+(m+1)=k+1+m from by omega];exact g6
 | .cW pre0 post0 sz0 n0 ds0::xs,p,k,s,j,res,bs,us,ha,h=>by
  simp only[aV]at ha;obtain⟨vs,u,ws,bs',us',rfl,rfl,_,_,hro,ha⟩:=ha;by_cases hp:p=s
  .subst hp;have hl:∀i,aq (aJ p (.cW pre0 post0 sz0 n0 ds0::xs)) p i=(match ([none,some {e:=0,var:=false,fz:=false,cf:=true,sz:=sz0,cells:=ds0.map C.d}]:List (Option aM))[i]? with|some (some res)=>some res|_=>none):=λ i=>by simp only[aJ,aq,aa,eP];rfl
   rw[hl]at h;simp only[cy]at hro
   match j,h with
   |0,h=>simp at h
   |1,h=>
    simp only[fI,bG,aF]at h;subst h;exact⟨Nat.le_refl _,rfl,rfl,rfl, .inr ⟨rfl,0,sz0,n0,ds0,true,by simp[iu],by simp[br],by simp[bE],rfl,rfl,hro.2.2.1⟩⟩
   |j+2,h=>simp at h
  .have hl:∀s' i,p≠s'->aq (aJ p (.cW pre0 post0 sz0 n0 ds0::xs)) s' i=aq (aJ (p+1) xs) s' i:=λ s' i hs'=>by simp only[aJ,aq,aa,aj hs']
   rw[hl s j hp]at h;obtain⟨h1,h2,h3,h4,h5⟩:=je (p:=p+1) ha h;have hb:∀j',bE γ p k (.cW pre0 post0 sz0 n0 ds0::xs) (.val u::bs') s j'=bE γ (p+1) (k+1) xs bs' s j':=λ j'=>by simp only[bE];rw[aj (du hp)]
   refine⟨by omega,h2,h3,h4, ?_⟩;rcases h5 with⟨g0,g1,i,b',l',m,c',e',g2,g3,g4,g5,g6,g7,g8,g9,g10⟩|⟨g0,m,sz,n,ds,bo,g1,g2,g3,g4,g5,g6⟩
   .refine .inl ⟨g0,g1,i+1,b',l',m,c',e',by simpa[aK]using g2,by simpa using g3,g4,by rw[hb];exact g5,g6,g7,g8,g9,λ i sz n ds bo hi=> ?_⟩;rw[hl _ _ hp,hb];exact g10 i sz n ds bo hi
   .refine .inr ⟨g0,m+1,sz,n,ds,bo,by simpa[iu]using g1,by simpa[br]using g2, ?_,g4,g5, ?_⟩
    .rw[hb,g3];congr 1;omega
    .rw[show k+(m+1)=k+1+m from by omega];exact g6
theorem mq:∀{args:List Arg} {k:Nat} {bs:List ct} {us:List Value},aV P w A0 aH γ k args bs us->us.length=args.length/\(∀p,(aK p args).length=bs.length)/\∀p,(c7 p args).length=args.length
 |[],k,bs,us,h=>by simp only[aV]at h;obtain⟨rfl,rfl⟩:=h;exact⟨rfl,λ _=>rfl,λ _=>rfl⟩
 | .f x::xs,k,bs,us,h=>by simp only[aV]at h;obtain⟨u,us',rfl,_,h⟩:=h;obtain⟨g1,g2,g3⟩:=mq h;exact⟨by simp[g1],λ p=>by simp only[aK];exact g2 _,λ p=>by simp[c7,g3]⟩
 | .ob o0 l::xs,k,bs,us,h=>by simp only[aV]at h;obtain⟨b,bs',us',c,e,rfl,rfl,_,_,_,_,h⟩:=h;obtain⟨g1,g2,g3⟩:=mq h;exact⟨by simp[g1],λ p=>by simp[aK,g2],λ p=>by simp[c7,g3]⟩
 | .row .. ::xs,k,bs,us,h=>by simp only[aV]at h;obtain⟨u,bs',us',rfl,rfl,_,h⟩:=h;obtain⟨g1,g2,g3⟩:=mq h;exact⟨by simp[g1],λ p=>by simp[aK,g2],λ p=>by simp[c7,g3]⟩
 | .cW .. ::xs,k,bs,us,h=>by simp only[aV]at h;obtain⟨vs,u,ws,bs',us',rfl,rfl,_,_,_,h⟩:=h;obtain⟨g1,g2,g3⟩:=mq h;exact⟨by simp[g1],λ p=>by simp[aK,g2],λ p=>by simp[c7,g3]⟩
theorem md:∀{args:List Arg} {p k i:Nat} {bs:List ct} {us:List Value} {x:AV},aV P w A0 aH γ k args bs us->(c7 p args)[i]? =some x->
  ∃u,us[i]? =some u/\(ak (bV P w A0 aH) w [] (λ _ _=>⟨none,0⟩) x u∨
   (∃o b,x= .one (j5 o (.ptr ⟨p+i,0,0⟩ 0))/\u=nn o (.pointer (some ⟨b,0,none⟩))/\bE γ p k args bs (p+i) 0=⟨some (b,0),0⟩/\af (aJ p args) (p+i)=1)∨
   (∃sz n ds m,x= .one (.own ⟨p+i,1,0⟩ 0 n)/\cy A0 w (γ m) (.own sz n ds true) u/\bE γ p k args bs (p+i) 1=γ m/\af (aJ p args) (p+i)=1/\
    ∀res,ax (aJ p args) ⟨p+i,1,0⟩=some res->res.var=false/\res.sz=sz/\res.cells=ds.map C.d)∨
   (∃pre post sz n ds m vs u0 ws,x= .agg (pre++ .own ⟨p+i,1,0⟩ 0 n::post)/\u= .agg (vs++u0::ws).toArray/\ar (bV P w A0 aH) w [] (λ _ _=>⟨none,0⟩) pre vs/\ar (bV P w A0 aH) w [] (λ _ _=>⟨none,0⟩) post ws/\
    cy A0 w (γ m) (.own sz n ds true) u0/\bE γ p k args bs (p+i) 1=γ m/\af (aJ p args) (p+i)=1/\
    ∀res,ax (aJ p args) ⟨p+i,1,0⟩=some res->res.var=false/\res.sz=sz/\res.cells=ds.map C.d))
 |[],p,k,i,bs,us,x,h,hi=>by simp[c7]at hi
 | .f y::xs,p,k,i,bs,us,x,h,hi=>by
  simp only[aV]at h;obtain⟨u,us',rfl,h1,h⟩:=h;cases i with
  |zero=>simp only[c7,bG,aF]at hi;subst hi;exact⟨u,by simp, .inl h1⟩
  |succ i=>
   obtain⟨u',g1,g2⟩:=md (p:=p+1) (i:=i) h (by simpa[c7]using hi);rw[show p+1+i=p+(i+1) from by omega]at g2;exact⟨u',by simpa using g1,g2⟩
 | .ob o0 l::xs,p,k,i,bs,us,x,h,hi=>by
  simp only[aV]at h;obtain⟨b,bs',us',c,e,rfl,rfl,_,_,_,_,h⟩:=h;cases i with
  |zero=>
   simp only[c7,bG,aF]at hi;subst hi;exact⟨_,by simp, .inr (.inl ⟨o0,b,by simp,rfl,by simp[bE],by simp[aJ,af,aa]⟩)⟩
  |succ i=>
   obtain⟨u',g1,g2⟩:=md (p:=p+1) (i:=i) h (by simpa[c7]using hi);rw[show p+1+i=p+(i+1) from by omega]at g2;refine⟨u',by simpa using g1,g2.imp id (Or.imp ?_ (Or.imp ?_ ?_))⟩
   .rintro⟨o',b',q1,q2,q3,q4⟩
    refine⟨o',b',q1,q2, ?_, ?_⟩
    .simp only[bE];rw[aj (by omega)];exact q3
    .simp only[aJ,af,aa];rw[aj (by omega)];exact q4
   .rintro⟨sz,n,ds,m,q1,q2,q3,q4,q5⟩
    refine⟨sz,n,ds,m,q1,q2, ?_, ?_, ?_⟩
    .simp only[bE];rw[aj (by omega)];exact q3
    .simp only[aJ,af,aa];rw[aj (by omega)];exact q4
    .simp only[aJ,ax,aq,aa];rw[aj (by omega)];simpa only[ax,aq]using q5
   .rintro⟨pre,post,sz,n,ds,m,vs1,u1,ws1,q1,q2,q21,q22,q23,q3,q4,q5⟩
    refine⟨pre,post,sz,n,ds,m,vs1,u1,ws1,q1,q2,q21,q22,q23, ?_, ?_, ?_⟩
    .simp only[bE];rw[aj (by omega)];exact q3
    .simp only[aJ,af,aa];rw[aj (by omega)];exact q4
    .simp only[aJ,ax,aq,aa];rw[aj (by omega)];simpa only[ax,aq]using q5
 | .row sz0 n0 ds0::xs,p,k,i,bs,us,x,h,hi=>by
  simp only[aV]at h;obtain⟨u,bs',us',rfl,rfl,h0,h⟩:=h;cases i with
  |zero=>
   simp only[c7,bG,aF]at hi;subst hi;refine⟨u,by simp, .inr (.inr (.inl ⟨sz0,n0,ds0,k,by simp,h0,by simp[bE],by simp[aJ,af,aa],λ res hr=> ?_⟩))⟩;simp[aJ,ax,aq,aa]at hr;subst hr;exact⟨rfl,rfl,rfl⟩
  |succ i=>
   obtain⟨u',g1,g2⟩:=md (p:=p+1) (i:=i) h (by simpa[c7]using hi);rw[show p+1+i=p+(i+1) from by omega]at g2;refine⟨u',by simpa using g1,g2.imp id (Or.imp ?_ (Or.imp ?_ ?_))⟩
   .rintro⟨o',b',q1,q2,q3,q4⟩
    refine⟨o',b',q1,q2, ?_, ?_⟩
    .simp only[bE];rw[aj (by omega)];exact q3
    .simp only[aJ,af,aa];rw[aj (by omega)];exact q4
   .rintro⟨sz,n,ds,m,q1,q2,q3,q4,q5⟩
    refine⟨sz,n,ds,m,q1,q2, ?_, ?_, ?_⟩
    .simp only[bE];rw[aj (by omega)];exact q3
    .simp only[aJ,af,aa];rw[aj (by omega)];exact q4
    .simp only[aJ,ax,aq,aa];rw[aj (by omega)];simpa only[ax,aq]using q5
   .rintro⟨pre,post,sz,n,ds,m,vs1,u1,ws1,q1,q2,q21,q22,q23,q3,q4,q5⟩
    refine⟨pre,post,sz,n,ds,m,vs1,u1,ws1,q1,q2,q21,q22,q23, ?_, ?_, ?_⟩
    .simp only[bE];rw[aj (by omega)];exact q3
    .simp only[aJ,af,aa];rw[aj (by omega)];exact q4
    .simp only[aJ,ax,aq,aa];rw[aj (by omega)];simpa only[ax,aq]using q5
 | .cW pre0 post0 sz0 n0 ds0::xs,p,k,i,bs,us,x,h,hi=>by
  simp only[aV]at h;obtain⟨vs,u,ws,bs',us',rfl,rfl,h01,h02,h0,h⟩:=h;cases i with
  |zero=>
   simp only[c7,bG,aF]at hi;subst hi;refine⟨_,by simp, .inr (.inr (.inr ⟨pre0,post0,sz0,n0,ds0,k,vs,u,ws,by simp,rfl,h01,h02,h0,by simp[bE],by simp[aJ,af,aa],λ res hr=> ?_⟩))⟩;simp[aJ,ax,aq,aa]at hr;subst hr;exact⟨rfl,rfl,rfl⟩
  |succ i=>
   obtain⟨u',g1,g2⟩:=md (p:=p+1) (i:=i) h (by simpa[c7]using hi);rw[show p+1+i=p+(i+1) from by omega]at g2;refine⟨u',by simpa using g1,g2.imp id (Or.imp ?_ (Or.imp ?_ ?_))⟩
   .rintro⟨o',b',q1,q2,q3,q4⟩
    refine⟨o',b',q1,q2, ?_, ?_⟩
    .simp only[bE];rw[aj (by omega)];exact q3
    .simp only[aJ,af,aa];rw[aj (by omega)];exact q4
   .rintro⟨sz,n,ds,m,q1,q2,q3,q4,q5⟩
    refine⟨sz,n,ds,m,q1,q2, ?_, ?_, ?_⟩
    .simp only[bE];rw[aj (by omega)];exact q3
    .simp only[aJ,af,aa];rw[aj (by omega)];exact q4
    .simp only[aJ,ax,aq,aa];rw[aj (by omega)];simpa only[ax,aq]using q5
   .rintro⟨pre,post,sz,n,ds,m,vs1,u1,ws1,q1,q2,q21,q22,q23,q3,q4,q5⟩
    refine⟨pre,post,sz,n,ds,m,vs1,u1,ws1,q1,q2,q21,q22,q23, ?_, ?_, ?_⟩
    .simp only[bE];rw[aj (by omega)];exact q3
    .simp only[aJ,af,aa];rw[aj (by omega)];exact q4
    .simp only[aJ,ax,aq,aa];rw[aj (by omega)];simpa only[ax,aq]using q5
end
section
variable {P:Program} {w:World} {A0 aH:Nat->Prop} {γ:Nat->Pl} {T:Nat->Option TI}
def eT (n:Nat) (args:List Arg):G:=⟨c7 0 args++List.replicate (n - args.length) (.one .dead),aJ 0 args⟩
theorem lx:∀{bs:List ct} {i b:Nat},bs[i]? =some (.bP b)->b∈bI bs
 |[],i,b,h=>by simp at h
 | .bP b'::bs,0,b,h=>by simp only[bG,aF,ct.bP.injEq]at h;subst h;simp[bI]
 | .val u::bs,0,b,h=>by simp at h
 | .bP b'::bs,i+1,b,h=>by simp only[bI,dw];exact .inr (lx (i:=i) (by simpa using h))
 | .val u::bs,i+1,b,h=>lx (bs:=bs) (i:=i) (by simpa using h)
theorem ue:∀{l:List ct} {i j b:Nat},(bI l).Nodup->l[i]? =some (.bP b)->l[j]? =some (.bP b)->i=j
 |[],i,j,b,_,h,_=>by simp at h
 |x::l,0,0,b,_,_,_=>rfl
 |x::l,0,j+1,b,hn,h,h'=>by simp only[bG,aF]at h;subst h;exact absurd (lx (by simpa using h')) (List.nodup_cons.1 hn).1
 |x::l,i+1,0,b,hn,h,h'=>by simp only[bG,aF]at h';subst h';exact absurd (lx (by simpa using h)) (List.nodup_cons.1 hn).1
 |x::l,i+1,j+1,b,hn,h,h'=>by
  have hn':(bI l).Nodup:=by cases x with
   |bP _=>exact(List.nodup_cons.1 hn).2
   |val _=>exact hn
  rw[ue hn' (i:=i) (j:=j) (by simpa using h) (by simpa using h')]
theorem bM.shift {A:Nat->Prop} {m:Nat}:∀{l:List RO} {k:Nat} {us:List Value},bM A w γ (m+k) l us->bM A w (λ i=>γ (m+i)) k l us
 |[],_,_,h=>h
 |x::l,k,us,h=>by simp only[bM]at h⊢;obtain⟨u,us',rfl,h1,h2⟩:=h;exact⟨u,us',rfl,h1,bM.shift (k:=k+1) h2⟩
def dj:List Pos->List ct->List (Nat×Nat)
 | .o p::ps, .bP b::bs=>(p,b)::dj ps bs
 | .r _ _::ps,_::bs=>dj ps bs
 | .o _::ps, .val _::bs=>dj ps bs
 |_,_=>[]
def rowsOf:List Pos->List ct->List (Nat×Nat×Value)
 | .r p n::ps, .val u::bs=>(p,n,u)::rowsOf ps bs
 | .o _::ps,_::bs=>rowsOf ps bs
 | .r _ _::ps, .bP _::bs=>rowsOf ps bs
 |_,_=>[]
theorem CT {cx:Cx} {w:World} {r:Rs} {β:Nat->Nat->Pl}:∀{p k:Nat} {args:List Arg} {bs:List ct} {us:List Value} {w1:World} {A0 aH:Nat->Prop},aV P w1 A0 aH γ k args bs us->
  (∀p b,(p,b)∈dj (aK p args) bs->True)->
  (∀q b,(q,b)∈dj (aK p args) bs->∀res,ax r ⟨q,0,0⟩=some res->(β q 0).base=some (b,0))->
  (∀q n u,(q,n,u)∈rowsOf (aK p args) bs->ae cx w r β (.own ⟨q,1,0⟩ 0 n) u)->b9 cx w r β (aK p args) bs:=by
 intro p k args;induction args generalizing p k with
 |nil=>intro bs us w1 A0 aH h _ _ _;simp only[aV]at h;obtain⟨_,rfl⟩:=h;simp[aK,b9]
 |cons x xs ih=>
  intro bs us w1 A0 aH h h0 h1 h2;cases x with
  |f y=>
   simp only[aV]at h;obtain⟨u,us',rfl,_,h⟩:=h;exact ih h (λ _ _ _=>trivial) h1 h2
  |ob _ l=>
   simp only[aV]at h;obtain⟨b',bs',us',c,e,rfl,rfl,_,_,_,_,h⟩:=h;simp only[aK,b9];refine⟨h1 p b' (by simp[aK,dj]),ih h (λ _ _ _=>trivial) (λ q b hm=>h1 q b (by simp[aK,dj,hm])) (λ q n u hm=>h2 q n u (by simpa[aK,rowsOf]using hm))⟩
  |cW pre post sz n ds=>
   simp only[aV]at h;obtain⟨vs,u,ws,bs',us',rfl,rfl,_,_,_,h⟩:=h;simp only[aK,b9];refine⟨h2 p n u (by simp[aK,rowsOf]),ih h (λ _ _ _=>trivial) (λ q b hm=>h1 q b (by simpa[aK,dj]using hm)) (λ q n u hm=>h2 q n u (by simp[aK,rowsOf,hm]))⟩
  |row sz n ds=>
   simp only[aV]at h;obtain⟨u,bs',us',rfl,rfl,_,h⟩:=h;simp only[aK,b9];refine⟨h2 p n u (by simp[aK,rowsOf]),ih h (λ _ _ _=>trivial) (λ q b hm=>h1 q b (by simpa[aK,dj]using hm)) (λ q n u hm=>h2 q n u (by simp[aK,rowsOf,hm]))⟩
theorem lh:∀{ys:List Arg} {q:Nat},(∀s b bs,(s,b)∈dj (aK q ys) bs->q≤s)/\(∀s n u bs,(s,n,u)∈rowsOf (aK q ys) bs->q≤s):=by
 intro ys;induction ys with
 |nil=>intro q;exact⟨λ s b bs h=>by simp[aK,dj]at h,λ s n u bs h=>by simp[aK,rowsOf]at h⟩
 |cons y ys ih=>
  intro q;cases y with
  |f _=>exact⟨λ s b bs h=>by have:=(ih (q:=q+1)).1 s b bs h;omega,λ s n u bs h=>by have:=(ih (q:=q+1)).2 s n u bs h;omega⟩
  |ob _ l=>
   refine⟨λ s b bs h=> ?_,λ s n u bs h=> ?_⟩
   .cases bs with
    |nil=>simp[aK,dj]at h
    |cons b0 bs=>
     cases b0 with
     |bP b0=>
      simp only[aK,dj,dw,gU]at h;rcases h with⟨rfl,_⟩|h
      .exact Nat.le_refl _
      .have:=(ih (q:=q+1)).1 s b bs h;omega
     |val _=>have:=(ih (q:=q+1)).1 s b bs (by simpa[aK,dj]using h);omega
   .cases bs with
    |nil=>simp[aK,rowsOf]at h
    |cons b0 bs=>have:=(ih (q:=q+1)).2 s n u bs (by simpa[aK,rowsOf]using h);omega
  |row sz n0 ds=>
   refine⟨λ s b bs h=> ?_,λ s n u bs h=> ?_⟩
   .cases bs with
    |nil=>simp[aK,dj]at h
    |cons b0 bs=>have:=(ih (q:=q+1)).1 s b bs (by simpa[aK,dj]using h);omega
   .cases bs with
    |nil=>simp[aK,rowsOf]at h
    |cons b0 bs=>
     cases b0 with
     |val u0=>
      simp only[aK,rowsOf,dw,gU]at h;rcases h with⟨rfl,_⟩|h
      .exact Nat.le_refl _
      .have:=(ih (q:=q+1)).2 s n u bs h;omega
     |bP _=>have:=(ih (q:=q+1)).2 s n u bs (by simpa[aK,rowsOf]using h);omega
  |cW _ _ sz n0 ds=>
   refine⟨λ s b bs h=> ?_,λ s n u bs h=> ?_⟩
   .cases bs with
    |nil=>simp[aK,dj]at h
    |cons b0 bs=>have:=(ih (q:=q+1)).1 s b bs (by simpa[aK,dj]using h);omega
   .cases bs with
    |nil=>simp[aK,rowsOf]at h
    |cons b0 bs=>
     cases b0 with
     |val u0=>
      simp only[aK,rowsOf,dw,gU]at h;rcases h with⟨rfl,_⟩|h
      .exact Nat.le_refl _
      .have:=(ih (q:=q+1)).2 s n u bs h;omega
     |bP _=>have:=(ih (q:=q+1)).2 s n u bs (by simpa[aK,rowsOf]using h);omega
theorem CL:∀{p k:Nat} {args:List Arg} {bs:List ct} {us:List Value},aV P w A0 aH γ k args bs us->
  ∀(s b:Nat),(s,b)∈dj (aK p args) bs->(bE γ p k args bs s 0).base=some (b,0)/\af (aJ p args) s=1:=by
 intro p k args;induction args generalizing p k with
 |nil=>intro bs us h s b h1;simp[aK,dj]at h1
 |cons x xs ih=>
  intro bs us h s b h1;cases x with
  |f y=>
   simp only[aV]at h;obtain⟨u,us',rfl,_,h⟩:=h;exact ih (p:=p+1) h s b (by simpa[aK]using h1)
  |ob _ l=>
   simp only[aV]at h;obtain⟨b',bs',us',c,e,rfl,rfl,_,_,_,_,h⟩:=h;simp only[aK,dj,dw,gU]at h1;rcases h1 with⟨rfl,rfl⟩|h1
   .exact⟨by simp[bE],by simp[aJ,af,aa]⟩
   .have hs:=lh.1 s b bs' h1;have:=ih (p:=p+1) (k:=k+l.length) h s b h1;simp only[bE,aJ,af,aa];rw[aj (by omega),aj (by omega)];exact this
  |row sz n ds=>
   simp only[aV]at h;obtain⟨u,bs',us',rfl,rfl,_,h⟩:=h;have h1:(s,b)∈dj (aK (p+1) xs) bs':=by simpa[aK,dj]using h1
   have hs:=lh.1 s b bs' h1;have:=ih (p:=p+1) (k:=k+1) h s b h1;simp only[bE,aJ,af,aa];rw[aj (by omega),aj (by omega)];exact this
  |cW pre post sz n ds=>
   simp only[aV]at h;obtain⟨vs,u,ws,bs',us',rfl,rfl,_,_,_,h⟩:=h;have h1:(s,b)∈dj (aK (p+1) xs) bs':=by simpa[aK,dj]using h1
   have hs:=lh.1 s b bs' h1;have:=ih (p:=p+1) (k:=k+1) h s b h1;simp only[bE,aJ,af,aa];rw[aj (by omega),aj (by omega)];exact this
theorem CO:∀{p k:Nat} {args:List Arg} {bs:List ct} {us:List Value},aV P w A0 aH γ k args bs us->
  ∀(s n:Nat) (u:Value),(s,n,u)∈rowsOf (aK p args) bs->∃sz ds m,cy A0 w (γ m) (.own sz n ds true) u/\bE γ p k args bs s 1=γ m/\af (aJ p args) s=1/\
   ∀res,ax (aJ p args) ⟨s,1,0⟩=some res->res.var=false/\res.sz=sz/\res.cells=ds.map C.d:=by
 intro p k args;induction args generalizing p k with
 |nil=>intro bs us h s n u h1;simp[aK,rowsOf]at h1
 |cons x xs ih=>
  intro bs us h s n u h1;cases x with
  |f y=>
   simp only[aV]at h;obtain⟨u0,us',rfl,_,h⟩:=h;exact ih (p:=p+1) h s n u (by simpa[aK]using h1)
  |ob _ l=>
   simp only[aV]at h;obtain⟨b',bs',us',c,e,rfl,rfl,_,_,_,_,h⟩:=h;have h1:(s,n,u)∈rowsOf (aK (p+1) xs) bs':=by simpa[aK,rowsOf]using h1
   have hs:=lh.2 s n u bs' h1;obtain⟨sz,ds,m,q1,q2,q3,q4⟩:=ih (p:=p+1) (k:=k+l.length) h s n u h1;refine⟨sz,ds,m,q1, ?_, ?_, ?_⟩
   .simp only[bE];rw[aj (by omega)];exact q2
   .simp only[aJ,af,aa];rw[aj (by omega)];exact q3
   .simp only[aJ,ax,aq,aa];rw[aj (by omega)];simpa only[ax,aq]using q4
  |row sz n0 ds=>
   simp only[aV]at h;obtain⟨u0,bs',us',rfl,rfl,h0,h⟩:=h;simp only[aK,rowsOf,dw,gU]at h1;rcases h1 with⟨rfl,rfl,rfl⟩|h1
   .refine⟨sz,ds,k,h0,by simp[bE],by simp[aJ,af,aa],λ res hr=> ?_⟩;simp[aJ,ax,aq,aa]at hr;subst hr;exact⟨rfl,rfl,rfl⟩
   .have hs:=lh.2 s n u bs' h1;obtain⟨sz,ds,m,q1,q2,q3,q4⟩:=ih (p:=p+1) (k:=k+1) h s n u h1;refine⟨sz,ds,m,q1, ?_, ?_, ?_⟩
    .simp only[bE];rw[aj (by omega)];exact q2
    .simp only[aJ,af,aa];rw[aj (by omega)];exact q3
    .simp only[aJ,ax,aq,aa];rw[aj (by omega)];simpa only[ax,aq]using q4
  |cW pre post sz n0 ds=>
   simp only[aV]at h;obtain⟨vs,u0,ws,bs',us',rfl,rfl,_,_,h0,h⟩:=h;simp only[aK,rowsOf,dw,gU]at h1;rcases h1 with⟨rfl,rfl,rfl⟩|h1
   .refine⟨sz,ds,k,h0,by simp[bE],by simp[aJ,af,aa],λ res hr=> ?_⟩;simp[aJ,ax,aq,aa]at hr;subst hr;exact⟨rfl,rfl,rfl⟩
   .have hs:=lh.2 s n u bs' h1;obtain⟨sz,ds,m,q1,q2,q3,q4⟩:=ih (p:=p+1) (k:=k+1) h s n u h1;refine⟨sz,ds,m,q1, ?_, ?_, ?_⟩
    .simp only[bE];rw[aj (by omega)];exact q2
    .simp only[aJ,af,aa];rw[aj (by omega)];exact q3
    .simp only[aJ,ax,aq,aa];rw[aj (by omega)];simpa only[ax,aq]using q4
theorem pU {cx:Cx} {w:World} {r:Rs} {β:Nat->Nat->Pl} {A:Nat->Prop} {hd:Hd} {sz n:Nat} {ds:List D} {u:Value} {pl:Pl} (h:cy A w pl (.own sz n ds true) u) (hpl:β hd.s hd.j=pl) (hlt:hd.e<af r hd.s)
  (hr:∀res,ax r hd=some res->res.var=false/\res.sz=sz/\res.cells=ds.map C.d):ae cx w r β (.own hd 0 n) u:=by
 simp only[cy]at h;obtain⟨h1,h2,h3,ad,rfl,h5⟩:=h;simp only[ae];refine⟨rfl,hlt,λ res hres=> ?_⟩;obtain⟨g1,g2,g3⟩:=hr res hres;refine⟨g1,by rw[g2,g3];simpa using h1,by rw[hpl];omega,ad,by rw[hpl];simp, ?_⟩;rw[hpl];rcases h5 with h5|⟨b,o,h5,h6⟩
 .exact .inl (by omega)
 .exact .inr ⟨b,o,h5,by simpa using h6⟩
abbrev ic (P:Program) (w:World) (A0 aH:Nat->Prop) (args:List Arg) (bs:List ct):Cx:={P,w0:=w,A0,aH,Obj:=dj (aK 0 args) bs,Row:=rowsOf (aK 0 args) bs}
section
variable {cx:Cx} {r:Rs} {β:Nat->Nat->Pl} {ob:List (Nat×Nat)} {rw':List (Nat×Nat×Value)}
mutual
theorem ae.obj:∀{c:C} {u:Value},ae cx w r β c u->ae {cx with Obj:=ob,Row:=rw'} w r β c u
 | .d _,_,h=>by simp only[ae]at h⊢;exact h
 | .aI n ds,_,h=>by simp only[ae]at h⊢;exact h
 | .own hd lo n,u,h=>by simp only[ae]at h⊢;exact h
 | .ptr hd off,u,h=>by simp only[ae]at h⊢;exact h
 | .cZ ds,_,h=>by simp only[ae]at h⊢;exact h
 | .dF f caps,_,h=>by simp only[ae]at h⊢;obtain⟨us,h1,h2⟩:=h;exact⟨us,h1,ar.obj h2⟩
 | .ab,_,h=>by simpa only[ae]using h
 | .dead,_,_=>by simp[ae]
 | .cN cs,u,h=>by simp only[ae]at h⊢;obtain⟨b,o,us,h1,h2,h3,h4,h5⟩:=h;exact⟨b,o,us,h1,h2,h3,h4,ar.obj h5⟩
 | .cP hd lo n k,u,h=>by simp only[ae]at h⊢;exact h
 | .lk hd n x,u,h=>by simp only[ae]at h⊢;exact h
theorem ar.obj:∀{c:List C} {u:List Value},ar cx w r β c u->ar {cx with Obj:=ob,Row:=rw'} w r β c u
 |[],_,h=>by simpa[ar]using h
 |c::cs,_,h=>by simp only[ar]at h⊢;obtain⟨u,us,h1,h2,h3⟩:=h;exact⟨u,us,h1,ae.obj h2,ar.obj h3⟩
end
mutual
theorem ak.obj:∀{c:AV} {u:Value},ak cx w r β c u->ak {cx with Obj:=ob,Row:=rw'} w r β c u
 | .one _,_,h=>by simp only[ak]at h⊢;exact h.obj
 | .agg l,_,h=>by simp only[ak]at h⊢;obtain⟨us,h1,h2⟩:=h;exact⟨us,h1,h2.obj⟩
 | .eW l,_,h=>by simp only[ak]at h⊢;obtain⟨us,h1,h2⟩:=h;exact⟨us,h1,aL.obj h2⟩
 | .gd c y,_,h=>by simp only[ak]at h⊢;exact⟨λ hc=>ak.obj (h.1 hc),h.2⟩
theorem aL.obj:∀{c:List AV} {u:List Value},aL cx w r β c u->aL {cx with Obj:=ob,Row:=rw'} w r β c u
 |[],_,h=>by simpa[aL]using h
 |c::cs,_,h=>by simp only[aL]at h⊢;obtain⟨u,us,h1,h2,h3⟩:=h;exact⟨u,us,h1,ak.obj h2,aL.obj h3⟩
end
end
theorem sT {args:List Arg} {bs:List ct} {us:List Value} {n:Nat} (h:aV P w A0 aH γ 0 args bs us) (hA:∀b,A0 b->b<w.heap.size) (hB:∀b,aH b->A0 b)
  (hnb:∀b,NB γ 0 (br args) b->aH b/\b ∉ bI bs) (hnd:(bI bs).Nodup) (hap:jW γ (br args)):
  aw (ic P w A0 aH args bs) (eT n args) {tmps:=us.toArray++Array.replicate (n - us.length) undef,defers:=[]} w (bE γ 0 0 args bs):=by
 obtain⟨l1,l2,l3⟩:=mq h;have hbase:∀s j res b o,aq (aJ 0 args) s j=some res->(bE γ 0 0 args bs s j).base=some (b,o)->aH b:=λ s j res b o hl hb=>by
  obtain⟨_,_,_,_,h5⟩:=je h hl;rcases h5 with⟨_,rfl,i,b',l',m,c,e,_,_,g4,g5,_⟩|⟨_,m,sz,n,ds,bo,_,g2,g3,_⟩
  .rw[g5]at hb;cases hb;exact g4
  .rw[g3]at hb;exact(hnb b (fm (k:=0) g2 hb)).1
 have hAv:∀b,Av (ic P w A0 aH args bs) (aJ 0 args) (bE γ 0 0 args bs) b->A0 b:=λ b hb=>by
  rcases hb with hb|⟨s,j,res,o,hl,_,hb⟩
  .exact hb
  .exact hB b (hbase s j res b o hl hb)
 have hx:Ext (ic P w A0 aH args bs) w [] (λ _ _=>⟨none,0⟩) w (aJ 0 args) (bE γ 0 0 args bs):=
  ⟨λ s=>by simp[af,aa],λ hd res' hlt _=>by simp[af,aa]at hlt,⟨λ _ _ _=>rfl,λ b _ hb=> .inl (hAv b hb)⟩,λ _ _ _=>rfl,rfl,rfl⟩
 refine⟨by simp[eT,l1,l3],rfl,λ i x hi=> ?_,λ s j res hl=> ?_,λ s j res s' j' res' b o o' hl _ hl' _ hb hb'=> ?_,λ s j res b o hl _ hb=> ?_,Nat.le_refl _,λ _ _ _=>rfl,hA,hB,λ p b hm=> ?_,λ p n u hm=> ?_,rfl,rfl⟩
 .simp only[eT]at hi;rcases fg i args.length with hlt|hge
  .rw[bJ (by rw[l3];exact hlt)]at hi;obtain⟨u,g1,g2⟩:=md h hi;refine⟨u,by rw[Array.getElem?_append_left (by simp[l1];exact hlt)];simpa using g1, ?_⟩;rcases g2 with g2|⟨o,b,rfl,rfl,g3,g4⟩|⟨sz,n',ds,m,rfl,g2,g3,g4,g5⟩|⟨pre,post,sz,n',ds,m,vs1,u1,ws1,rfl,rfl,q1,q2,g2,g3,g4,g5⟩
   .exact(ak.obj (ob:=dj (aK 0 args) bs) (rw':=rowsOf (aK 0 args) bs) g2).ext hx
   .simp only[bu]at g3 g4⊢;exact ck.2 (Eu o (by simp only[ae];exact⟨rfl,by simp only[eT];rw[g4];exact Nat.one_pos,λ res hres=>⟨b,0,by rw[g3],rfl⟩⟩))
   .simp only[bu]at g3 g4 g5⊢;exact ck.2 (pU g2 g3 (by simp only[eT];rw[g4];exact Nat.one_pos) g5)
   .simp only[bu]at g3 g4 g5⊢;refine ec.2 ⟨_,rfl, ?_⟩;have hown:=pU (cx:=ic P w A0 aH args bs) (w:=w) (r:=aJ 0 args) (β:=bE γ 0 0 args bs) (hd:=⟨i,1,0⟩) g2 g3 (by rw[g4];exact Nat.one_pos) g5;have h1:=(ar.obj (ob:=dj (aK 0 args) bs) (rw':=rowsOf (aK 0 args) bs) q1).ext hx;have h2:=(ar.obj (ob:=dj (aK 0 args) bs) (rw':=rowsOf (aK 0 args) bs) q2).ext hx;exact pv h1 (by simp only[ar];exact⟨_,_,rfl,hown,h2⟩)
  .rw[bT (by rw[l3];exact hge)]at hi;rw[o6]at hi;split at hi
   .rename_i hlt;cases hi;refine⟨undef, ?_,by simp[ak,ae]⟩;rw[l3]at hlt;rw[Array.getElem?_append_right (by simp[l1];exact hge)];simp[l1,hlt]
   .cases hi
 .simp only[eT]at hl⊢;obtain⟨_,h2,h3,h4,h5⟩:=je h hl;refine⟨?_,by rw[h2,lf hl];exact Nat.one_pos⟩;rcases h5 with⟨g0,rfl,i,b,l',m,c,e,g2,g3,g4,g5,g6,g7,g8,g9,g10⟩|⟨g0,m,sz,n,ds,bo,g1,g2,g3,g4,g5,g6⟩
  .unfold bn;rw[ao g0];refine⟨h3,b,c,e,by rw[g5],g6, ?_,g9⟩;rw[g7];refine ke (γ:=λ k=>γ (m+k)) hAv (λ i sz n ds bo hi=> ?_) ?_
   .obtain⟨q1,q2⟩:=g10 i sz n ds bo hi;rw[bu];exact⟨⟨true,dH q1 rfl⟩,q2,by rw[lf hl];exact Nat.one_pos⟩
   .exact bM.shift (m:=m) (k:=0) g8
  .unfold bn;rw[aj (by simp[g0])];refine⟨ds,g5, ?_,λ hf=>by rw[h3]at hf;cases hf⟩;rw[g3,g4,bu];rw[bu]at g6;exact g6.bC ⟨λ _ _ _=>rfl,λ b _ hb=>hAv b hb⟩ (λ _ _ _=>rfl)
 .simp only[eT]at hl hl';obtain⟨_,_,_,_,h5⟩:=je h hl;obtain⟨_,_,_,_,h5'⟩:=je h hl';rcases h5 with⟨g0,rfl,i,b1,l',m,c,e,g2,g3,g4,g5,g6⟩|⟨g0,m,sz,n,ds,bo,g1,g2,g3,g4⟩<;>
   rcases h5' with⟨k0,rfl,i',b1',l'',m',c',e',k2,k3,k4,k5,k6⟩|⟨k0,m',sz',n',ds',bo',k1,k2,k3,k4⟩
  .rw[g5]at hb;rw[k5]at hb';cases hb;cases hb';have hi:i=i':=ue hnd g3 k3;subst hi;rw[g2]at k2;cases k2;exact⟨rfl,rfl⟩
  .rw[g5]at hb;rw[k3]at hb';cases hb;exact absurd (lx g3) (hnb _ (fm (k:=0) k2 hb')).2
  .rw[g3]at hb;rw[k5]at hb';cases hb';exact absurd (lx k3) (hnb _ (fm (k:=0) g2 hb)).2
  .rw[g3,bu]at hb;rw[k3,bu]at hb';have:=hap m m' b o o' sz n ds bo sz' n' ds' bo' g2 k2 hb hb';subst this;rw[g1]at k1;cases k1;exact⟨rfl,rfl⟩
 .exact⟨.inr (hbase s j res b o hl hb),λ hbor=>by obtain⟨_,_,_,h4,_⟩:=je h (by simpa[eT]using hl);rw[h4]at hbor;cases hbor⟩
 .obtain⟨e1,e2⟩:=CL h p b hm;simp only[eT];exact⟨by rw[e2];exact Nat.one_pos,λ _ _=>e1⟩
 .obtain⟨sz,ds,m,q1,q2,q3,q4⟩:=CO h p n u hm;exact pU q1 q2 (by simp only[eT];rw[q3];exact Nat.one_pos) q4
end
section
variable {P:Program} {cx:Cx} {T:Nat->Option TI} {v:List AV} {r:Rs} {a:Act} {w:World} {β:Nat->Nat->Pl}
def fq (tmps:Array Value):ResultVar->Sem Value
 | .tmp t=>pure (tmps.getD t undef)
 | .cell a t=>do loadVar t (←asAddr (tmps.getD a undef))
theorem BH (fn:Func) (tmps:Array Value):results fn tmps=(do
  let vs←fn.results.mapM (fq tmps)
  pure (if h:vs.size=1 then vs[0]else .tuple vs)):=by
 unfold results fq;rfl
theorem D9 (hT:bx cx.P T) (h:aw cx ⟨v,r⟩ a w β) {x:ResultVar} (hs:(kR T v r x).1):
  ∃u,(fq a.tmps x).run cx.P w= .ok u w/\ak cx w r β (kR T v r x).2 u:=by
 cases x with
 |tmp t=>exact⟨a.eval (.tmp t),by simp[fq,Act.eval],mC h (.tmp t)⟩
 |cell p t=>
  simp only[kR]at hs⊢;have hg:=mC h (.tmp p);split at hs
  .rename_i hd off h1
   try simp only[h1]
   rw[h1]at hg;split at hs
   .rename_i res h2
    try simp only[h2]
    simp only[ak,ae]at hg;obtain⟨b,o',g1,g2⟩:=hg.2.2 res h2;obtain⟨hl,_⟩:=bh h2;have hcs:=((h.rs _ _ _ hl).1.cells g1).drop (k:=off);obtain⟨u,f1,f2⟩:=ot hT hcs hs;refine⟨u, ?_,f2⟩;have g2':a.tmps[p]?.getD undef= .pointer (some ⟨b,o'+off,none⟩):=by simpa[Act.eval]using g2
    simp[fq,g2',asAddr,f1]
   .exact hs.elim
  .exact hs.elim
theorem pY (hT:bx cx.P T) (h:aw cx ⟨v,r⟩ a w β):∀{xs:List ResultVar},(eJ T v r xs).1->
  ∃us,(xs.mapM (fq a.tmps)).run cx.P w= .ok us w/\aL cx w r β (eJ T v r xs).2 us
 |[],_=>⟨[],by simp,by simp[eJ,aL]⟩
 |x::xs,hs=>by simp only[eJ]at hs⊢;obtain⟨u,h1,h2⟩:=D9 hT h hs.1;obtain⟨us,h3,h4⟩:=pY hT h hs.2;refine⟨u::us, ?_,by simp only[aL];exact⟨u,us,rfl,h2,h4⟩⟩;rw[List.mapM_cons];simp[h1,h3]
theorem sr {fn:Func} {rvs:List ResultVar} {tmps:Array Value} {us:List Value} (hr:fn.results=rvs.toArray) (h:(rvs.mapM (fq tmps)).run P w= .ok us w):
  (results fn tmps).run P w= .ok (j4 us) w:=by
 rw[BH,hr,List.mapM_toArray];simp only[eS,map_eq_pure_bind,h,dZ];simp only[iJ,dZ];congr 1;cases us with
 |nil=>rfl
 |cons x xs=>
  cases xs with
  |nil=>rfl
  |cons y ys=>simp[j4]
def mZ (T:Nat->Option TI) (rvs:List ResultVar) (ps:List Pos) (post:List RF->List (List RO)->Prop) (e:Ex) (g:G):Prop:=
 match e with
 | .normal=>gu T rvs ps post g
 | .ret=>gu T rvs ps post g
 | .exit _=>False
 | .panic _=>False
theorem se {rvs:List ResultVar} {ps:List Pos} {post:List RF->List (List RO)->Prop} {g:G}:mZ T rvs ps post .normal g=gu T rvs ps post g:=rfl
theorem uQ {rvs:List ResultVar} {ps:List Pos} {post:List RF->List (List RO)->Prop} {g:G}:mZ T rvs ps post .ret g=gu T rvs ps post g:=rfl
theorem tX {rvs:List ResultVar} {ps:List Pos} {post:List RF->List (List RO)->Prop} {g:G} {id:Nat}:mZ T rvs ps post (.exit id) g=False:=rfl
theorem nF:∀{ps:List Pos} {cs:List (List C)} {bs:List ct} {b:Nat},cY r ps cs->b9 cx w r β ps bs->b∈bI bs->∃hd res,ax r hd=some res/\res.var=true/\(β hd.s hd.j).base=some (b,0)
 |[],_,[],_,_,_,h=>by simp[bI]at h
 |[],_,_::_,_,_,hp,_=>by simp[b9]at hp
 | .o p::ps,[],_,_,h1,_,_=>by simp[cY]at h1
 | .o p::ps,_::_,[],_,_,hp,_=>by simp[b9]at hp
 | .o p::ps,_::_, .val _::_,_,_,hp,_=>by simp[b9]at hp
 | .o p::ps,c::cs, .bP b0::bs,b,h1,hp,hm=>by
  simp only[cY]at h1;simp only[b9]at hp;obtain⟨⟨res,g1,g2,_⟩,g3⟩:=h1;simp only[bI,dw]at hm;rcases hm with rfl|hm
  .exact⟨⟨p,0,0⟩,res,g1,g2,hp.1 res g1⟩
  .exact nF g3 hp.2 hm
 | .h hd::ps,[],_,_,h1,_,_=>by simp[cY]at h1
 | .h hd::ps,_::_,[],_,_,hp,_=>by simp[b9]at hp
 | .h hd::ps,_::_, .val _::_,_,_,hp,_=>by simp[b9]at hp
 | .h hd::ps,c::cs, .bP b0::bs,b,h1,hp,hm=>by
  simp only[cY]at h1;simp only[b9]at hp;obtain⟨⟨res,g1,g2,_⟩,g3⟩:=h1;simp only[bI,dw]at hm;rcases hm with rfl|hm
  .exact⟨hd,res,g1,g2,hp.1 res g1⟩
  .exact nF g3 hp.2 hm
 | .r p n::ps,[],_,_,h1,_,_=>by simp[cY]at h1
 | .r p n::ps,_::_,[],_,_,hp,_=>by simp[b9]at hp
 | .r p n::ps,_::_, .bP _::_,_,_,hp,_=>by simp[b9]at hp
 | .r p n::ps,c::cs, .val u::bs,b,h1,hp,hm=>by simp only[cY]at h1;simp only[b9]at hp;exact nF h1.2 hp.2 (by simpa[bI]using hm)
theorem BC (hT:bx P T) (hm:P.follows .mixedOrders=true) {f:FuncId} {fn:Func} {c:Code} {rvs:List ResultVar} {n:Nat} (hf:P.funcs[f]? =some fn) (hb:fn.body=some c)
  (hres:fn.results=rvs.toArray) (hn:fn.ntmps=n) (hcall:∀(us:Array Value) (w:World),(callFunc f us).run P w= .ok (.enter f us) w) {args:List Arg} {post:List RF->List (List RO)->Prop}
  (F:Nat->G) (Cd:Nat->Prop) (hF:∀cx a w,cU cx (eT n args) a w->∃k,Cd k/\cU cx (F k) a w)
  (h:∀k,Cd k->bZ T P c (F k) (mZ T rvs (aK 0 args) post)):ag P f args post:=by
 refine⟨hcall,λ w A0 aH γ bs us hA hB ha hnb hnd hap=> ?_⟩;refine calls_of_wp hf hb ?_;have h0:=sT (n:=n) ha hA hB hnb hnd hap;have hend:∀g a w',cU (ic P w A0 aH args bs) g a w'->gu T rvs (aK 0 args) post g->
   a.defers=[]/\∃v,(results fn a.tmps).run P w'= .ok v w'/\∃rfs objs u,post rfs objs/\Ending.returned v= .returned u/\dT w A0 aH w' bs rfs objs u:=by
  rintro⟨v,r⟩ a w' ⟨β,hh⟩ ⟨g1,g2⟩
  obtain⟨vs,k1,k2⟩:=pY (cx:=ic P w A0 aH args bs) hT hh g1;refine⟨hh.df,j4 vs,sr hres k1, ?_⟩;unfold oB at g2;split at g2
  .rename_i rfs cs q1 q2;split at g2
   .rename_i objs q3;refine⟨rfs,objs,j4 vs,g2.2,rfl, ?_⟩;have hpos:b9 (ic P w A0 aH args bs) w' r β (aK 0 args) bs:=CT ha (λ _ _ _=>trivial) (λ q b hm res hg=>(hh.ob q b hm).2 res hg) (λ q n u hm=>hh.rw q n u hm);refine wm (cx:=ic P w A0 aH args bs) hh (A1:=A0) (λ b hb=> .inl hb) k2 rfl q1 (tT q2) q3 g2.1 hpos (λ s j res b o hl hfz hv hbase hmem=> ?_);obtain⟨p,res',e1,e2,hbase'⟩:=nF (tT q2) hpos hmem;have hlk:=(bh e1).1;have hf':res'.fz=false:=by
     cases hq:res'.fz with
     |false=>rfl
     |true=>have:=hh.vz _ _ _ hlk hq;rw[e2]at this;cases this
    obtain⟨p1,p2⟩:=hh.inj _ _ _ _ _ _ _ _ _ hl hfz hlk hf' hbase hbase';subst p1 p2;rw[hl]at hlk;cases hlk;rw[hv]at e2;cases e2
   .exact g2.elim
  .exact g2.elim
 have hact:({tmps:=us.toArray++Array.replicate (fn.ntmps - us.toArray.size) undef,defers:=[]}:Act)={tmps:=us.toArray++Array.replicate (n - us.length) undef,defers:=[]}:=by rw[hn];simp
 rw[hact];obtain⟨k,hk,hFk⟩:=hF _ _ _ ⟨_,h0⟩;refine wC (cx:=ic P w A0 aH args bs) hT hm c (F k) _ _ (λ e g a w' hh hq=> ?_) (h k hk) _ _ hFk;cases e with
 |normal=>exact hend g a w' hh hq
 |ret=>exact hend g a w' hh hq
 |exit id=>exact hq.elim
 |panic x=>exact hq.elim
theorem bR (hT:bx P T) (hm:P.follows .mixedOrders=true) {f:FuncId} {fn:Func} {c:Code} {rvs:List ResultVar} {n:Nat} (hf:P.funcs[f]? =some fn) (hb:fn.body=some c)
  (hres:fn.results=rvs.toArray) (hn:fn.ntmps=n) (hcall:∀(us:Array Value) (w:World),(callFunc f us).run P w= .ok (.enter f us) w) {args:List Arg} {post:List RF->List (List RO)->Prop}
  (h:bZ T P c (eT n args) (mZ T rvs (aK 0 args) post)):ag P f args post:=
 BC hT hm hf hb hres hn hcall (λ _=>eT n args) (λ _=>True) (λ _ _ _ hh=>⟨0,trivial,hh⟩) λ _ _=>h
end
section
variable {P:Program} {cx:Cx} {T:Nat->Option TI} {v:List AV} {r:Rs} {a:Act} {w:World} {β:Nat->Nat->Pl}
section
variable {cx:Cx} {r:Rs} {β:Nat->Nat->Pl} {ob:List (Nat×Nat)} {rw':List (Nat×Nat×Value)} {dd:List Deferred}
mutual
theorem ae.fO:∀{c:C} {u:Value},ae cx w r β c u->ae {cx with Obj:=ob,Row:=rw',ds:=dd} w r β c u
 | .d _,_,h=>by simp only[ae]at h⊢;exact h
 | .aI n ds,_,h=>by simp only[ae]at h⊢;exact h
 | .own hd lo n,u,h=>by simp only[ae]at h⊢;exact h
 | .ptr hd off,u,h=>by simp only[ae]at h⊢;exact h
 | .cZ ds,_,h=>by simp only[ae]at h⊢;exact h
 | .dF f caps,_,h=>by simp only[ae]at h⊢;obtain⟨us,h1,h2⟩:=h;exact⟨us,h1,ar.fO h2⟩
 | .ab,_,h=>by simpa only[ae]using h
 | .dead,_,_=>by simp[ae]
 | .cN cs,u,h=>by simp only[ae]at h⊢;obtain⟨b,o,us,h1,h2,h3,h4,h5⟩:=h;exact⟨b,o,us,h1,h2,h3,h4,ar.fO h5⟩
 | .cP hd lo n k,u,h=>by simp only[ae]at h⊢;exact h
 | .lk hd n x,u,h=>by simp only[ae]at h⊢;exact h
theorem ar.fO:∀{c:List C} {u:List Value},ar cx w r β c u->ar {cx with Obj:=ob,Row:=rw',ds:=dd} w r β c u
 |[],_,h=>by simpa[ar]using h
 |c::cs,_,h=>by simp only[ar]at h⊢;obtain⟨u,us,h1,h2,h3⟩:=h;exact⟨u,us,h1,ae.fO h2,ar.fO h3⟩
end
mutual
theorem ak.fO:∀{c:AV} {u:Value},ak cx w r β c u->ak {cx with Obj:=ob,Row:=rw',ds:=dd} w r β c u
 | .one _,_,h=>by simp only[ak]at h⊢;exact h.fO
 | .agg l,_,h=>by simp only[ak]at h⊢;obtain⟨us,h1,h2⟩:=h;exact⟨us,h1,h2.fO⟩
 | .eW l,_,h=>by simp only[ak]at h⊢;obtain⟨us,h1,h2⟩:=h;exact⟨us,h1,aL.fO h2⟩
 | .gd c y,_,h=>by simp only[ak]at h⊢;exact⟨λ hc=>ak.fO (h.1 hc),h.2⟩
theorem aL.fO:∀{c:List AV} {u:List Value},aL cx w r β c u->aL {cx with Obj:=ob,Row:=rw',ds:=dd} w r β c u
 |[],_,h=>by simpa[aL]using h
 |c::cs,_,h=>by simp only[aL]at h⊢;obtain⟨u,us,h1,h2,h3⟩:=h;exact⟨u,us,h1,ak.fO h2,aL.fO h3⟩
end
theorem bn.fO {pl:Pl} {res:aM} (h:bn cx w r β pl res):bn {cx with Obj:=ob,Row:=rw',ds:=dd} w r β pl res:=by
 unfold bn at h⊢;split
 .rename_i hv;rw[ao hv]at h;obtain⟨h0,b,c,e,h1,h2,h3,h4⟩:=h;exact⟨h0,b,c,e,h1,h2,h3.fO,h4⟩
 .rename_i hv;rw[aj hv]at h;exact h
end
def FB (x:Value) (e:Ex) (g:G):Prop:=
 match e with
 | .panic y=>y=x
 |_=>False
def wL (n:Nat) (ks:List Nat):List AV:=(List.range n).map λ i=>if ks.contains i then .one (.ptr ⟨i,0,0⟩ 0)else .one .dead
def qK (nw:Nat->List Value):List Nat->Rs
 |[]=>[]
 |k::ks=>(k,{next:=1,l:=[some {e:=0,var:=true,fz:=false,sz:=0,cells:=(nw k).map λ x=> .d (.v x)}]})::qK nw ks
def E8 (n:Nat) (ks:List Nat) (nw:Nat->List Value):G:=⟨wL n ks,qK nw ks⟩
def qE (sz:Nat->Nat) (g:G):List Nat->Prop
 |[]=>True
 |k::ks=>(∃res,g.v[k]? =some (.one (.ptr ⟨k,0,0⟩ 0))/\ax g.r ⟨k,0,0⟩=some res/\res.var=true/\res.cf=false/\res.cells.length=sz k)/\qE sz g ks
def FF (T:Nat->Option TI) (rvs:List ResultVar) (n:Nat) (ks:List Nat) (sz:Nat->Nat) (nw:Value->Nat->List Value) (Px:Value->Prop) (post:List RF->List (List RO)->Prop) (e:Ex) (g:G):Prop:=
 match e with
 | .normal=>gu T rvs [] post g
 | .ret=>gu T rvs [] post g
 | .exit _=>False
 | .panic x=>Px x/\g.v.length=n/\qE sz g ks/\gu T rvs [] post (E8 n ks (nw x))
def Fv (P:Program) (fc:FuncId) (k:Nat):Prop:=
 ∀(us:Array Value) (w:World),us.size=k->CallsD P fc us .returning w λ e u' w'=>e= .returned (.tuple #[])/\u'= .returning/\l0 w en w'
def Fs (P:Program) (fc:FuncId) (ks:List Nat) (sz:Nat->Nat) (nw:Value->Nat->List Value) (Px:Value->Prop):Prop:=
 ∀(x:Value) (bl:Nat->Nat) (w:World),Px x->(∀k∈ks,∃c e,w.heap[bl k]? =some (.cells c e (0,0))/\c.size=sz k/\∀u∈c.toList,flat u=true)->(∀k∈ks,∀k'∈ks,bl k=bl k'->k=k')->
  CallsD P fc (ks.map λ k=>eb (bl k)).toArray (.panicking [{v:=x,recovered:=false}]) w λ e u' w'=>e= .returned (.tuple #[])/\u'= .panicking [{v:=x,recovered:=true}]/\
   w.heap.size≤w'.heap.size/\(∀b,b<w.heap.size->(∀k∈ks,bl k≠b)->w'.heap[b]? =w.heap[b]?)/\
   (∀k∈ks,∃e,w'.heap[bl k]? =some (.cells (nw x k).toArray e (0,0))/\∀u∈nw x k,flat u=true)/\w'.os=w.os/\w'.output=w.output
end
set_option maxRecDepth 100000
theorem vA:gg []=true:=rfl
theorem vI {x:Nat×Nat}:gg [x]=true:=rfl
theorem zg:type_of% (I (I (I (I (@Go.Pk.se) (I (@Go.Pk.uQ) (@Go.Pk.tX))) (I (I (@Go.Pk.vA) (@Go.Pk.vI)) (I (@Go.Pk.gu.eq_def) (@Go.Pk.oB.eq_def)))) (I (I (I (@Go.Pk.mD.eq_def) (@Go.Pk.pb.eq_def)) (I (@Go.Pk.lY.eq_def) (@Go.Pk.iT.eq_def))) (I (I (@Go.Pk.kR.eq_def) (@Go.Pk.eT.eq_def)) (I (@Go.Pk.e9.eq_1) (@Go.Pk.e9.eq_2))))) (I (I (I (@Go.Pk.fY.eq_1) (I (@Go.Pk.fY.eq_2) (@Go.Pk.dm.eq_1))) (I (I (@Go.Pk.dm.eq_2) (@Go.Pk.dD.eq_1)) (I (@Go.Pk.dD.eq_2) (@Go.Pk.eJ.eq_1)))) (I (I (I (@Go.Pk.eJ.eq_2) (@Go.Pk.ff.eq_1)) (I (@Go.Pk.ff.eq_2) (@Go.Pk.ff.eq_3))) (I (I (@Go.Pk.ff.eq_4) (@Go.Pk.eF.eq_1)) (I (@Go.Pk.eF.eq_2) (@Go.Pk.eF.eq_3)))))):=I (I (I (I (@Go.Pk.se) (I (@Go.Pk.uQ) (@Go.Pk.tX))) (I (I (@Go.Pk.vA) (@Go.Pk.vI)) (I (@Go.Pk.gu.eq_def) (@Go.Pk.oB.eq_def)))) (I (I (I (@Go.Pk.mD.eq_def) (@Go.Pk.pb.eq_def)) (I (@Go.Pk.lY.eq_def) (@Go.Pk.iT.eq_def))) (I (I (@Go.Pk.kR.eq_def) (@Go.Pk.eT.eq_def)) (I (@Go.Pk.e9.eq_1) (@Go.Pk.e9.eq_2))))) (I (I (I (@Go.Pk.fY.eq_1) (I (@Go.Pk.fY.eq_2) (@Go.Pk.dm.eq_1))) (I (I (@Go.Pk.dm.eq_2) (@Go.Pk.dD.eq_1)) (I (@Go.Pk.dD.eq_2) (@Go.Pk.eJ.eq_1)))) (I (I (I (@Go.Pk.eJ.eq_2) (@Go.Pk.ff.eq_1)) (I (@Go.Pk.ff.eq_2) (@Go.Pk.ff.eq_3))) (I (I (@Go.Pk.ff.eq_4) (@Go.Pk.eF.eq_1)) (I (@Go.Pk.eF.eq_2) (@Go.Pk.eF.eq_3)))))
theorem zx:type_of% (I (I (I (I (@Go.Pk.eF.eq_4) (@Go.Pk.eF.eq_5)) (I (@Go.Pk.c7.eq_1) (I (@Go.Pk.c7.eq_2) (@Go.Pk.c7.eq_3)))) (I (I (@Go.Pk.c7.eq_4) (I (@Go.Pk.c7.eq_5) (@Go.Pk.eB.eq_1))) (I (@Go.Pk.eB.eq_2) (I (@Go.Pk.eB.eq_3) (@Go.Pk.aJ.eq_1))))) (I (I (I (@Go.Pk.aJ.eq_2) (@Go.Pk.aJ.eq_3)) (I (@Go.Pk.aJ.eq_4) (I (@Go.Pk.aJ.eq_5) (@Go.Pk.aK.eq_1)))) (I (I (@Go.Pk.aK.eq_2) (I (@Go.Pk.aK.eq_3) (@Go.Pk.aK.eq_4))) (I (@Go.Pk.aK.eq_5) (I (@Go.Pk.j5.eq_1) (@Go.Pk.j5.eq_2)))))):=I (I (I (I (@Go.Pk.eF.eq_4) (@Go.Pk.eF.eq_5)) (I (@Go.Pk.c7.eq_1) (I (@Go.Pk.c7.eq_2) (@Go.Pk.c7.eq_3)))) (I (I (@Go.Pk.c7.eq_4) (I (@Go.Pk.c7.eq_5) (@Go.Pk.eB.eq_1))) (I (@Go.Pk.eB.eq_2) (I (@Go.Pk.eB.eq_3) (@Go.Pk.aJ.eq_1))))) (I (I (I (@Go.Pk.aJ.eq_2) (@Go.Pk.aJ.eq_3)) (I (@Go.Pk.aJ.eq_4) (I (@Go.Pk.aJ.eq_5) (@Go.Pk.aK.eq_1)))) (I (I (@Go.Pk.aK.eq_2) (I (@Go.Pk.aK.eq_3) (@Go.Pk.aK.eq_4))) (I (@Go.Pk.aK.eq_5) (I (@Go.Pk.j5.eq_1) (@Go.Pk.j5.eq_2)))))
set_option maxRecDepth 100000
theorem Ab:type_of% (I (I (I (I (I (zy) (I (zV) (zo))) (I (zz) (I (zn) (zU)))) (I (I (z9) (I (zR) (Ao))) (I (I (Ad) (xh)) (I (zg) (zx))))) (I (I (I (@sj) (I (@tG) (@uO))) (I (@sE) (I (@tU) (@uC)))) (I (I (@sC) (I (@sk) (@tn))) (I (I (@uH) (@ta)) (I (@List.append_eq.{0}) (@dK.{0})))))) (I (I (I (I (@jq.{0}) (I (bu) (eo))) (I (ca) (I (cc) (iF)))) (I (I (Bool.and_true) (I (lP) (Bool.or_false))) (I (I (Bool.false_or) (Bool.true_or)) (I (Bool.or_true) (eI))))) (I (I (I (Bool.and_false) (I (@Nat.zero_lt_succ) (@List.zip_nil_left.{0,0}))) (I (I (@List.zip_nil_right.{0,0}) (Int.toNat_natCast)) (I (pK.eq_1) (@eP.{1})))) (I (I (@jm.{1}) (I (@beq_self_eq_true.{0}) (@imp_self))) (I (I (@ne_eq.{1}) (@not_false_eq_true)) (I (@gx.{0}) (true_implies))))))):=I (I (I (I (I (zy) (I (zV) (zo))) (I (zz) (I (zn) (zU)))) (I (I (z9) (I (zR) (Ao))) (I (I (Ad) (xh)) (I (zg) (zx))))) (I (I (I (@sj) (I (@tG) (@uO))) (I (@sE) (I (@tU) (@uC)))) (I (I (@sC) (I (@sk) (@tn))) (I (I (@uH) (@ta)) (I (@List.append_eq.{0}) (@dK.{0})))))) (I (I (I (I (@jq.{0}) (I (bu) (eo))) (I (ca) (I (cc) (iF)))) (I (I (Bool.and_true) (I (lP) (Bool.or_false))) (I (I (Bool.false_or) (Bool.true_or)) (I (Bool.or_true) (eI))))) (I (I (I (Bool.and_false) (I (@Nat.zero_lt_succ) (@List.zip_nil_left.{0,0}))) (I (I (@List.zip_nil_right.{0,0}) (Int.toNat_natCast)) (I (pK.eq_1) (@eP.{1})))) (I (I (@jm.{1}) (I (@beq_self_eq_true.{0}) (@imp_self))) (I (I (@ne_eq.{1}) (@not_false_eq_true)) (I (@gx.{0}) (true_implies))))))
theorem Gh.refl {g:G}:Gh g g:=λ _ _ _ h=>h
theorem Gh.trans {g g' g'':G} (h:Gh g g') (h':Gh g' g''):Gh g g'':=λ cx a w hh=>h' cx a w (h cx a w hh)
def kT:List AV->List AV->Prop
 |[],[]=>True
 |x::xs,y::ys=>(y= .one .dead∨x=y)/\kT xs ys
 |_,_=>False
theorem vf:∀{v v':List AV},kT v v'->v'.length=v.length/\∀(i:Nat) (y:AV),v'[i]? =some y->y= .one .dead∨v[i]? =some y
 |[],[],_=>⟨rfl,λ i y h=>by simp at h⟩
 |x::xs,y::ys,h=>by
  obtain⟨h1,h2⟩:=h;obtain⟨g1,g2⟩:=vf h2;refine⟨by simp[g1],λ i z hz=> ?_⟩;cases i with
  |zero=>
   simp only[bG,aF]at hz;subst hz;exact h1.imp id λ e=>by simp[e]
  |succ i=>simpa using g2 i z (by simpa using hz)
 |[],_::_,h=>h.elim
 |_::_,[],h=>h.elim
theorem Gh.kT {v v':List AV} {r:Rs} (h:kT v v'):Gh ⟨v,r⟩ ⟨v',r⟩:=λ cx a w ⟨β,hh⟩=>by
 obtain⟨h1,h2⟩:=vf h;refine⟨β,{hh with sz:=by rw[hh.sz];exact h1.symm,sl:=λ i x hi=> ?_}⟩;rcases h2 i x hi with rfl|h3
 .have hlt:i<a.tmps.size:=by rw[hh.sz];simp only;rw[←h1];exact(bq.1 hi).1
  exact⟨a.tmps[i],Array.getElem?_eq_getElem hlt,by simp[ak,ae]⟩
 .exact hh.sl i x h3
section
variable {T:Nat->Option TI} {P:Program}
theorem aA {b:Bool} {x y:Code} {g:G} {Q:Ex->G->Prop} (h1:b=true->bZ T P x g Q) (h2:b=false->bZ T P y g Q):oX T P (.one (.d (.v (.bool b)))) True x y g Q:=
 ⟨trivial,h1,h2⟩
theorem aS {all:List Oper} {m:M} {rest:List Oper} {dst:Option Nat} {v:List AV} {r:Rs} {K:Ex->G->Prop} {n:FuncId} {as:List Arg} {rfs:List RF}
  (h:ag P n as (λ r o=>r=rfs/\o=[])) (hk:aZ T P all m rest (bf v dst (cS r dst rfs).1) (cS r dst rfs).2 K) {f:Operand} {args:Array Operand}:mN T P all m rest dst v r K f args (some (n,as)):=
 .inl ⟨rfs,λ _=>h,hk⟩
theorem nP {all:List Oper} {m:M} {rest:List Oper} {d:Nat} {v:List AV} {r:Rs} {K:Ex->G->Prop} {n:FuncId} {as:List Arg} {rfs:List RF} {l:List RO} {f:Operand} {args:Array Operand}
  (h:c8 P n as rfs l) (hk:aZ T P all (eA (some d) (d+pK) m) rest (bf v (some d) (cI r d rfs l).1) (cI r d rfs l).2 K):mN T P all m rest (some d) v r K f args (some (n,as)):=
 .inr (.inr (.inr (.inl ⟨d,rfl,rfs,l,h,hk⟩)))
theorem aR {f:Operand} {args:Array Operand} {j:Nat} {want:Bool} {all:List Oper} {m:M} {rest:List Oper} {c:Bool} {dst:Option Nat} {v:List AV} {r:Rs} {K:Ex->G->Prop} {n:FuncId} {as:List Arg} {rfs:List RF}
  (h:c=true->ag P n as (λ r o=>r=rfs/\o=[])) (hn:eu (rfs.flatMap RF.cells)=true) (hk:aZ T P all m rest (bf v dst (.gd c (fb (ed 0 0 0 rfs)))) r K):
  oF T P all m rest c dst v r K f args j want (some (n,as)):=
 .inl ⟨rfs,h,hn,hk⟩
theorem aC {f:Operand} {args:Array Operand} {j:Nat} {want:Bool} {all:List Oper} {m:M} {rest:List Oper} {dst:Option Nat} {v:List AV} {r:Rs} {K:Ex->G->Prop} {a:Option (FuncId×List Arg)} (hk:aZ T P all m rest (bf v dst i4) r K):
  oF T P all m rest false dst v r K f args j want a:= .inr (.inl ⟨rfl,hk⟩)
theorem aQ {f:Operand} {args:Array Operand} {j:Nat} {want:Bool} {all:List Oper} {m:M} {rest:List Oper} {dst:Option Nat} {v:List AV} {r:Rs} {K:Ex->G->Prop} {a:Option (FuncId×List Arg)} (h:mN T P all m rest dst v r K f args a):
  oF T P all m rest true dst v r K f args j want a:= .inr (.inr ⟨λ _=>h,λ h=>(by cases h)⟩)
end
theorem wrap64 {n:Int} (h1: -9223372036854775808≤n) (h2:n<9223372036854775808):IntKind.i64.wrap n=n:=by unfold IntKind.wrap;simp[IntKind.bits,IntKind.signed];omega
theorem uB {l:List Oper} (h:mY l=true):oL l:=h
theorem qC {a:List Oper} {b:List FP} (h:kv a b=true):kv a b=true:=h
theorem wB {l:List Nat} {n:Nat} (h:l=List.range n):l=List.range n:=h
def jT:IntKind->Nat
 | .i8=>1| .i16=>2| .i32=>3| .i64=>4| .u8=>5| .u16=>6| .u32=>7| .u64=>8
mutual
def jy (P:Program):Nat->Nat->Option (List Nat)
 |0,_=>none
 |d+1,t=>match P.underlying t with
  |some .bool=>some [9]
  |some .string=>some [10]
  |some (.int k)=>if jT k=0 then none else some [jT k]
  |some (.struct fs)=>if P.stoodInHeld t then none else match (P.info? t).map (·.size),lZ P d fs.toList 0 with
   |some n,some ks=>if ks.length=n then some ks else none
   |_,_=>none
  |_=>none
def lZ (P:Program):Nat->List Field->Nat->Option (List Nat)
 |_,[],_=>some []
 |0,_::_,_=>none
 |d+1,f::fs,off=>if f.name= "_" ∨f.offset≠off then none else match jy P d f.type with
  |some ks=>match lZ P d fs (off+ks.length)with
   |some l=>some (ks++l)
   |none=>none
  |none=>none
end
theorem uR {v:Value} {k:IntKind} (h0:jT k≠0) (h:cb v=jT k):∃n,v= .int k n:=by
 cases v with
 |int k' n=>cases k<;>cases k'<;>first|(exact⟨n,rfl⟩)|(simp[cb,jT]at h h0)
 |bool b=>cases k<;>simp[cb,jT]at h h0
 |string b=>cases k<;>simp[cb,jT]at h h0
 |_=>cases k<;>simp[cb,jT]at h h0
theorem tW {v:Value} (h:cb v=9):∃n,v= .bool n:=by
 cases v with
 |bool b=>exact⟨b,rfl⟩
 |int k n=>cases k<;>simp[cb]at h
 |_=>simp[cb]at h
theorem sf {v:Value} (h:cb v=10):∃n,v= .string n:=by
 cases v with
 |string b=>exact⟨b,rfl⟩
 |int k n=>cases k<;>simp[cb]at h
 |_=>simp[cb]at h
theorem sq:∀{a b c d:List Value},a.length=b.length->dx (a++c) (b++d)=(dx a b&&dx c d)
 |[],[],_,_,_=>by simp[dx]
 |x::a,y::b,c,d,h=>by simp[dx,sq (a:=a) (b:=b) (c:=c) (d:=d) (by simpa using h),Bool.and_assoc]
def gh (P:Program) (t:Nat) (l:List Value):Value:=
 match P.underlying t with
 |some (.struct _)=> .agg l.toArray
 |_=>l.headD undef
variable {P:Program}
theorem vC {d t off:Nat} {ks:List Nat} {xs:List Value} {w:World} (h:jy P d t=some ks) (hx:(xs.drop off).length≥ks.length):
  (part t xs.toArray off).run P w= .ok (gh P t ((xs.drop off).take ks.length)) w:=by
 cases d with
 |zero=>simp[jy]at h
 |succ d=>
  have basic:∀{td:TypeDesc},P.underlying t=some td->ks.length=1->(∀fs,td≠ .struct fs)->(∀n e,td≠ .array n e)->(part t xs.toArray off).run P w= .ok (gh P t ((xs.drop off).take ks.length)) w:=λ {td} hu hl h1 h2=>by
   have hlt:off<xs.length:=by rw[hl]at hx;simp at hx;omega
   have hag:(isAgg t).run P w= .ok false w:=by unfold isAgg;rw[eS,mT hu,dZ];cases td<;>first|rfl|exact absurd rfl (h1 _)|exact absurd rfl (h2 _ _)
   unfold part;rw[eS,hag,dZ];have e1:xs.toArray[off]? =some xs[off]:=by simp[hlt]
   have e2:gh P t ((xs.drop off).take ks.length)=xs[off]:=by
    unfold gh;rw[hu,hl];have:(xs.drop off).take 1=[xs[off]]:=by rw[List.drop_eq_getElem_cons hlt];rfl
    rw[this];cases td<;>first|rfl|exact absurd rfl (h1 _)
   simp[e1,e2]
  simp only[jy]at h;split at h
  .rename_i hu;cases h;exact basic hu rfl (by simp) (by simp)
  .rename_i hu;cases h;exact basic hu rfl (by simp) (by simp)
  .rename_i k hu;split at h
   .cases h
   .cases h;exact basic hu rfl (by simp) (by simp)
  .rename_i fs hu;split at h
   .cases h
   .split at h
    .rename_i n ks' h1 h2;split at h
     .rename_i hn;cases h;have hag:(isAgg t).run P w= .ok true w:=by unfold isAgg;rw[eS,mT hu,dZ];rfl
      obtain⟨i,hi,hi2⟩:=fj.1 h1;have hsz:(sizeOf t).run P w= .ok n w:=by simp[sizeOf,typeInfo,hi,hi2]
      unfold part;rw[eS,hag,dZ];simp only[eP,eS,hsz,dZ,iJ];unfold gh;rw[hu,hn];congr 2;apply er;simp[List.extract_eq_take_drop]
     .cases h
    .cases h
  .cases h
mutual
theorem vN:∀{d t:Nat} {ks:List Nat} {xs ys:List Value} {w:World} {D:Nat},d≤D->jy P d t=some ks->xs.map cb=ks->ys.map cb=ks->
  (Op.equalIn D t (gh P t xs) (gh P t ys)).run P w= .ok (dx xs ys) w
 |0,t,ks,xs,ys,w,D,_,h,_,_=>by simp[jy]at h
 |d+1,t,ks,xs,ys,w,0,hD,h,hx,hy=>by omega
 |d+1,t,ks,xs,ys,w,D+1,hD,h,hx,hy=>by
  have one:∀{k:Nat} {zs:List Value},zs.map cb=[k]->∃z,zs=[z]/\cb z=k:=λ {k zs} hz=>by
   cases zs with
   |nil=>simp at hz
   |cons z zs=>
    cases zs with
    |nil=>exact⟨z,rfl,by simpa using hz⟩
    |cons _ _=>simp at hz
  simp only[jy]at h;split at h
  .rename_i hu;cases h;obtain⟨x,rfl,hx'⟩:=one hx;obtain⟨y,rfl,hy'⟩:=one hy;obtain⟨a,rfl⟩:=tW hx';obtain⟨b,rfl⟩:=tW hy';simp only[gh,hu,List.headD_cons];rw[run_equalIn_bool' w D t a b hu];simp[dx,l6]
  .rename_i hu;cases h;obtain⟨x,rfl,hx'⟩:=one hx;obtain⟨y,rfl,hy'⟩:=one hy;obtain⟨a,rfl⟩:=sf hx';obtain⟨b,rfl⟩:=sf hy';simp only[gh,hu,List.headD_cons];rw[run_equalIn_string w D t a b hu];simp[dx,l6]
  .rename_i k hu;split at h
   .cases h
   .rename_i h0;cases h;obtain⟨x,rfl,hx'⟩:=one hx;obtain⟨y,rfl,hy'⟩:=one hy;obtain⟨a,rfl⟩:=uR h0 hx';obtain⟨b,rfl⟩:=uR h0 hy';simp only[gh,hu,List.headD_cons];rw[run_equalIn_int w D t k k a b hu];simp[dx,l6]
  .rename_i fs hu;split at h
   .cases h
   .rename_i hst;split at h
    .rename_i n ks' h1 h2;split at h
     .cases h;have hf:P.fieldsOf t=fs:=by unfold Program.fieldsOf;rw[hu]
      simp only[gh,hu];rw[run_equalIn_struct w D t _ _ (by rw[hf];exact hu) (by simpa using hst),hf];have:=vO (d:=d) (D:=D) (w:=w) (pre:=[]) (pre':=[]) (by omega) h2 rfl rfl hx hy;simpa using this
     .cases h
    .cases h
  .cases h
theorem vO:∀{d:Nat} {fs:List Field} {off:Nat} {ks:List Nat} {pre pre' xs ys:List Value} {w:World} {D:Nat},d≤D->lZ P d fs off=some ks->pre.length=off->pre'.length=off->
  xs.map cb=ks->ys.map cb=ks->(Op.eqFields D (pre++xs).toArray (pre'++ys).toArray fs).run P w= .ok (dx xs ys) w
 |d,[],off,ks,pre,pre',xs,ys,w,D,_,h,_,_,hx,hy=>by simp only[lZ,aF]at h;subst h;simp only[List.map_eq_nil_iff]at hx hy;subst hx hy;simp[Op.eqFields,dx]
 |0,f::fs,off,ks,pre,pre',xs,ys,w,D,_,h,_,_,hx,hy=>by simp[lZ]at h
 |d+1,f::fs,off,ks,pre,pre',xs,ys,w,D,hD,h,hp,hp',hx,hy=>by
  simp only[lZ]at h;split at h
  .cases h
  .rename_i hno;simp only[not_or,Decidable.not_not]at hno;split at h
   .rename_i k1 h1;split at h
    .rename_i k2 h2;cases h;have hxl:xs.length=k1.length+k2.length:=by have:=congrArg List.length hx;simpa using this
     have hyl:ys.length=k1.length+k2.length:=by have:=congrArg List.length hy;simpa using this
     have hx1:(xs.take k1.length).map cb=k1:=by rw[List.map_take,hx];simp
     have hy1:(ys.take k1.length).map cb=k1:=by rw[List.map_take,hy];simp
     have hx2:(xs.drop k1.length).map cb=k2:=by rw[List.map_drop,hx];simp
     have hy2:(ys.drop k1.length).map cb=k2:=by rw[List.map_drop,hy];simp
     have e1:(part f.type (pre++xs).toArray f.offset).run P w= .ok (gh P f.type (xs.take k1.length)) w:=by rw[hno.2,←hp];have:=vC (w:=w) (xs:=pre++xs) (off:=pre.length) h1 (by simp;omega);simpa using this
     have e2:(part f.type (pre'++ys).toArray f.offset).run P w= .ok (gh P f.type (ys.take k1.length)) w:=by rw[hno.2,←hp'];have:=vC (w:=w) (xs:=pre'++ys) (off:=pre'.length) h1 (by simp;omega);simpa using this
     have e3:=vN (w:=w) (D:=D) (by omega) h1 hx1 hy1;have e4:=vO (w:=w) (D:=D) (pre:=pre++xs.take k1.length) (pre':=pre'++ys.take k1.length) (xs:=xs.drop k1.length) (ys:=ys.drop k1.length) (by omega) h2
      (by simp[hp];omega) (by simp[hp'];omega) hx2 hy2
     rw[i6,i6,lK,lK]at e4;have hsplit:dx xs ys=(dx (xs.take k1.length) (ys.take k1.length)&&dx (xs.drop k1.length) (ys.drop k1.length)):=by rw[←sq (by simp;omega),lK,lK]
     rw[hsplit];unfold Op.eqFields;rw[ao hno.1];simp only[eS,e1,e2,e3,dZ];cases dx (xs.take k1.length) (ys.take k1.length)with
     |true=>simpa using e4
     |false=>simp
    .cases h
   .cases h
end
def rO (P:Program) (t:Nat):Bool:=
 match jy P 64 t,kO P [] t with
 |some ks,some ti=>decide (ti.zero.map cb=ks)&& !P.eqGuardType P.depth t&&lX ti.desc
 |_,_=>false
theorem Ec {eqs:List Nat} (h:∀t∈eqs,rO P t=true):bx P (kO P eqs):=by
 intro t ti ht;refine⟨DT ht,λ he xs ys w hx hy=> ?_⟩;have ht':=ht;unfold kO at ht';split at ht'
 .rename_i i d hi hd;split at ht'
  .rename_i z hz;split at ht'
   .rename_i hfl;cases ht';simp only[mR,dQ]at he;have hb:=h t he;unfold rO at hb;split at hb
    .rename_i ks ti' h1 h2;unfold kO at h2;rw[hi,hd]at h2;simp only[hz]at h2;rw[ao hfl]at h2;cases h2;simp only[cg,dQ,mG]at hb;obtain⟨⟨g1,g2⟩,g3⟩:=hb;have hst:∃fs,d= .struct fs:=by
      unfold jy at h1;rw[hd]at h1;cases d with
      |struct fs=>exact⟨fs,rfl⟩
      |array n e=>simp at h1
      |_=>simp[cK,lX]at g3
     obtain⟨fs,rfl⟩:=hst;refine⟨λ o x y _=>run_eqGuard_agg w o t x y _ _ g2, ?_⟩;have:=vN (w:=w) (D:=10000) (by omega) h1 (hx.trans g1) (hy.trans g1);simp only[gh,hd]at this;exact this
    .cases hb
   .cases ht'
  .cases ht'
 .cases ht'
inductive Sh where
 |bool
 |int (k:IntKind)
 |str
 |slice (by_:Nat) (s:Sh)
 |struct (l:List Sh)
mutual
def Sh.size:Sh->Nat
 | .struct l=>Sh.ju l
 | .bool=>1
 | .int _=>1
 | .str=>1
 | .slice _ _=>1
def Sh.ju:List Sh->Nat
 |[]=>0
 |s::l=>s.size+Sh.ju l
end
mutual
def cL:Sh->List D->Prop
 | .bool,ds=>∃b,ds=[.v (.bool b)]
 | .int k,ds=>∃n,ds=[.v (.int k n)]/\(Lit.int k n).wf=true
 | .str,ds=>∃s:ByteArray,ds=[.v (.string s)]/\s.size≤reachBytes
 | .slice b s,ds=>∃xs:List (List D),ds=[.sl xs.length xs.flatten]/\xs.length*b≤reachBytes/\∀x∈xs,cL s x
 | .struct l,ds=>iO l ds
def iO:List Sh->List D->Prop
 |[],ds=>ds=[]
 |s::l,ds=>∃a b,ds=a++b/\cL s a/\iO l b
end
mutual
theorem cL.len:∀{s:Sh} {ds:List D},cL s ds->ds.length=s.size
 | .bool,_,h=>by simp only[cL]at h;obtain⟨b,rfl⟩:=h;rfl
 | .int k,_,h=>by simp only[cL]at h;obtain⟨n,rfl,_⟩:=h;rfl
 | .str,_,h=>by simp only[cL]at h;obtain⟨n,rfl,_⟩:=h;rfl
 | .slice b s,_,h=>by simp only[cL]at h;obtain⟨xs,rfl,_⟩:=h;rfl
 | .struct l,_,h=>by simp only[cL]at h;simp only[Sh.size];exact iO.len h
theorem iO.len:∀{l:List Sh} {ds:List D},iO l ds->ds.length=Sh.ju l
 |[],_,h=>by simp only[iO]at h;subst h;rfl
 |s::l,_,h=>by simp only[iO]at h;obtain⟨a,b,rfl,h1,h2⟩:=h;simp only[eh,Sh.ju,h1.len,h2.len]
end
mutual
def jx (P:Program):Nat->TypeId->Option Sh
 |0,_=>none
 |n+1,t=>match P.underlying t with
  |some .bool=>some .bool
  |some (.int k)=>some (.int k)
  |some .string=>some .str
  |some (.slice e)=>match jx P n e with
   |some s=>if P.cellsOf e=s.size/\s.size≠0 then some (.slice (P.bytesOf e) s)else none
   |none=>none
  |some (.struct fs)=>match kN P n fs.toList 0 with
   |some l=>if P.cellsOf t=Sh.ju l then some (.struct l)else none
   |none=>none
  |_=>none
def kN (P:Program):Nat->List Field->Nat->Option (List Sh)
 |_,[],_=>some []
 |0,_::_,_=>none
 |n+1,f::fs,off=>match jx P n f.type with
  |some s=>if f.offset=off/\P.cellsOf f.type=s.size then match kN P n fs (off+s.size)with
    |some l=>some (s::l)
    |none=>none
   else none
  |none=>none
end
def ie (w:World) (ds:List D) (cs:List Value):Prop:=
 ds.length=cs.length/\∀(k:Nat) (d:D),ds[k]? =some d->∃u,cs[k]? =some u/\Rd w (λ _=>False) d u
theorem ie.append {w:World} {a b:List D} {cs ds:List Value} (h:ie w a cs) (h':ie w b ds):ie w (a++b) (cs++ds):=by
 refine⟨by simp[h.1,h'.1],λ k d hk=> ?_⟩;by_cases hlt:k<a.length
 .rw[bJ hlt]at hk;rw[bJ (by rw[←h.1];exact hlt)];exact h.2 k d hk
 .rw[bT (by omega)]at hk;rw[bT (by rw[←h.1];omega),←h.1];exact h'.2 _ d hk
theorem ie.one {w:World} {d:D} {u:Value} (h:Rd w (λ _=>False) d u):ie w [d] [u]:=
 ⟨rfl,λ k d' hk=>by cases k with
  |zero=>simp only[bG,aF]at hk;subst hk;exact⟨u,rfl,h⟩
  |succ k=>simp at hk⟩
theorem EW {w:World} {a:Addr} {u:Value} (h:w.cell? a=some u):a.spot=none:=by
 unfold World.cell? at h;split at h
 .cases hs:a.spot with
  |none=>rfl
  |some _=>simp[hs]at h
 .cases h
theorem D3 (a:Addr) (i j:Nat):(a.add i).add j=a.add (i+j):=by unfold Addr.add;by_cases hi:i=0<;>by_cases hj:j=0<;>simp[hi,hj];omega
theorem v7 {w:World}:∀{ds:List D} {a:Addr} {cs:List Value},ie w ds cs->(∀(i:Nat) u,cs[i]? =some u->w.cell? (a.add i)=some u)->ek w (λ _=>False) ds (some a)
 |[],_,_,_,_=>trivial
 |d::ds,a,cs,h,hc=>by
  obtain⟨u,h1,h2⟩:=h.2 0 d rfl;have hc0:=hc 0 u h1;simp only[Addr.add,eP]at hc0;have hs:=EW hc0;obtain⟨b,o,sp⟩:=a;simp only at hs;subst hs;simp only[ek];refine⟨b,o,u,rfl,λ h=>h,hc0,h2, ?_⟩;cases cs with
  |nil=>simp at h1
  |cons c cs=>
   refine v7 (cs:=cs) ⟨by simpa using h.1,λ k d' hk=> ?_⟩ (λ i u' hi=> ?_)
   .have:=h.2 (k+1) d' (by simpa using hk);simpa using this
   .have:=hc (i+1) u' (by simpa using hi);unfold Addr.add at this⊢;simp only[Nat.succ_ne_zero,Nat.add_one_ne_zero,jm]at this;by_cases hi0:i=0
    .subst hi0;simpa using this
    .simp only[hi0,jm];rw[show o+1+i=o+(i+1) by omega];exact this
variable {H:Type} {enc:TypeId×Value->H} {P:Program} {w:World} {base:Nat} {sp:Nat->Bool} {held:Bool}
theorem r9 {e:TypeId}:∀{ds:List (DataW H)} {d:DataW H},d∈ds->∀x∈DataW.weights P e d,x∈DataW.weightsAll P e ds
 |[],d,h=>by simp at h
 |d'::ds,d,h=>λ x hx=>by
  simp only[DataW.weightsAll,eQ];rcases dw.1 h with rfl|h
  .exact .inl hx
  .exact .inr (r9 h x hx)
theorem Ax {α:Type} {l:List α} {o n:Nat} (h:o+n≤l.length):(l.drop o).take n++l.drop (o+n)=l.drop o:=by rw[←List.drop_drop];exact lK n (l.drop o)
theorem Bo:∀(n:Nat),
  (∀(t:TypeId) (s:Sh),jx P n t=some s->∀(fuel:Nat) (cs:List Value) (d:DataW H) (ps:List MemPlace),DataW.trod enc P w base sp held fuel t cs=some (d,ps)->
   (∀x∈DataW.weights P t d,x≤reachBytes)->∃ds,cL s ds/\ie w ds cs)/\
  (∀(fs:List Field) (off:Nat) (l:List Sh),kN P n fs off=some l->∀(fuel:Nat) (cs:List Value) (xs:List (DataW H×List MemPlace)),xs.length=fs.length->off+Sh.ju l=cs.length->
   (∀(i:Nat) (f:Field),fs[i]? =some f->DataW.trod enc P w base sp held fuel f.type ((cs.drop f.offset).take (P.cellsOf f.type))=xs[i]?)->
   (∀x∈DataW.weightsEach P (fs.map (·.type)) (xs.map (·.1)),x≤reachBytes)->∃ds,iO l ds/\ie w ds (cs.drop off)):=by
 intro n;induction n with
 |zero=>
  refine⟨λ t s h=>by simp[jx]at h,λ fs off l h fuel cs xs hx hl hf hw=> ?_⟩;cases fs with
  |nil=>
   simp only[kN,aF]at h;subst h;simp only[Sh.ju,eo]at hl;refine⟨[],rfl, ?_⟩;rw[hl,List.drop_length];exact⟨rfl,λ k d hk=>by simp at hk⟩
  |cons f fs=>simp[kN]at h
 |succ n ih=>
  refine⟨λ t s h fuel cs d ps ht hw=> ?_,λ fs off l h fuel cs xs hx hl hf hw=> ?_⟩
  .unfold jx at h;split at h
   .rename_i hu;cases h;obtain⟨b,rfl,e⟩:=DataW.trod_bool hu ht;exact⟨[.v (.bool b)],⟨b,rfl⟩, .one (by simp only[Rd];exact⟨trivial,rfl⟩)⟩
   .rename_i k hu;cases h;obtain⟨m,rfl,e,hwf⟩:=DataW.trod_int hu ht;exact⟨[.v (.int k m)],⟨m,rfl,hwf⟩, .one (by simp only[Rd];exact⟨trivial,rfl⟩)⟩
   .rename_i hu;cases h;obtain⟨b,rfl,e,hb⟩:=DataW.trod_string hu ht;cases e;refine⟨[.v (.string b)],⟨b,rfl, ?_⟩, .one (by simp only[Rd];exact⟨trivial,rfl⟩)⟩;have:=hw b.data.toList.length (by simp[DataW.weights]);simpa using this
   .rename_i e hu;split at h
    .rename_i s' hs;split at h
     .rename_i hcond;cases h;rcases DataW.trod_slice hu ht with⟨rfl,_⟩|⟨a,len,cap,elems,rest,m,rfl,rfl,e1,hb,hlc,hcm,hel,hget,_,_⟩
      .exact⟨[.sl 0 []],⟨[],rfl,by simp,λ x hx=>by simp at hx⟩, .one (by simp only[Rd,ek];exact⟨none,0,rfl,Nat.le_refl _,trivial⟩)⟩
      .cases e1;simp only[DataW.weights,hu]at hw;have hsz:=hw _ (List.mem_cons_self)
       -- each element
       have each:∀(k:Nat),k≤len->∃xs:List (List D),xs.length=k/\(∀x∈xs,cL s' x)/\∃cs:List Value,ie w xs.flatten cs/\∀(i:Nat) u,cs[i]? =some u->w.cell? (a.add i)=some u:=by
        intro k;induction k with
        |zero=>intro _;exact⟨[],rfl,λ x hx=>by simp at hx,[],⟨rfl,λ k d hk=>by simp at hk⟩,λ i u hi=>by simp at hi⟩
        |succ k ihk=>
         intro hk;obtain⟨xs,g1,g2,cs,g3,g4⟩:=ihk (by omega);have hg:=hget k (by omega);have hkl:k<elems.length:=by omega
         rw[gy hkl]at hg;obtain⟨cs',h1,h2⟩:=ky.1 hg;obtain⟨_,c1,c2⟩:=World.cells?_some h1;obtain⟨ds,k1,k2⟩:=ih.1 e s' hs m cs' elems[k].1 elems[k].2 h2 (λ x hx=>hw x (List.mem_cons_of_mem _ (jV _ (r9 (List.mem_map.2 ⟨elems[k],List.getElem_mem hkl,rfl⟩) x hx))));refine⟨xs++[ds],by simp[g1],λ x hx=> ?_,cs++cs', ?_,λ i u hi=> ?_⟩
         .rcases eQ.1 hx with hx|hx
          .exact g2 x hx
          .simp only[iZ]at hx;subst hx;exact k1
         .rw[List.flatten_append];simpa using g3.append k2
         .have hlen:∀(ys:List (List D)),(∀x∈ys,cL s' x)->ys.flatten.length=ys.length*s'.size:=by
           intro ys;induction ys with
           |nil=>intro _;simp
           |cons y ys ihy=>
            intro hy;rw[fl,eh,ihy (λ x hx=>hy x (by simp[hx])),(hy y (by simp)).len,dK,cV];omega
          have hcl:cs.length=k*s'.size:=by rw[←g3.1,hlen xs g2,g1]
          by_cases hi2:i<cs.length
          .rw[bJ hi2]at hi;exact g4 i u hi
          .rw[bT (by omega)]at hi;have hi3:i - cs.length<P.cellsOf e:=by rw[←c1];exact(bq.1 hi).1
           have:=c2 (i - cs.length) hi3;rw[hi,D3,hcond.1]at this;rw[show i=k*s'.size+(i - cs.length) by omega];exact this
       obtain⟨xs,g1,g2,cs,g3,g4⟩:=each len (Nat.le_refl _);refine⟨[.sl xs.length xs.flatten],⟨xs,rfl, ?_,g2⟩, .one ?_⟩
       .refine eR (fk _ ?_) hsz;simp only[fG];omega
       .simp only[Rd];exact⟨some a,cap,by rw[g1],by omega,v7 g3 g4⟩
     .cases h
    .cases h
   .rename_i fs hu;split at h
    .rename_i l hs;split at h
     .rename_i hcell;cases h;obtain⟨xs,m,rfl,e1,hcl,hxl,hget⟩:=DataW.trod_struct hu ht;cases e1;simp only[DataW.weights,hu]at hw;obtain⟨ds,g1,g2⟩:=ih.2 fs.toList 0 l hs m cs xs (by simpa using hxl) (by rw[bu,hcl,hcell]) (λ i f hf=>hget i f (by simpa using hf)) (by simpa using hw);exact⟨ds,by simp only[cL];exact g1,by simpa using g2⟩
     .cases h
    .cases h
   .cases h
  .cases fs with
   |nil=>
    simp only[kN,aF]at h;subst h;simp only[Sh.ju,eo]at hl;refine⟨[],rfl, ?_⟩;rw[hl,List.drop_length];exact⟨rfl,λ k d hk=>by simp at hk⟩
   |cons f fs=>
    simp only[kN]at h;split at h
    .rename_i s hs;split at h
     .rename_i hcond;split at h
      .rename_i l' hl';cases h;cases xs with
       |nil=>simp at hx
       |cons x xs=>
        simp only[Sh.ju]at hl;simp only[fF,DataW.weightsEach]at hw;have h0:=hf 0 f rfl;simp only[bG]at h0;obtain⟨da,k1,k2⟩:=ih.1 f.type s hs fuel _ x.1 x.2 h0 (λ y hy=>hw y (jV _ hy));obtain⟨db,k3,k4⟩:=ih.2 fs (off+s.size) l' hl' fuel cs xs (by simpa using hx) (by omega) (λ i f' hf'=>by have:=hf (i+1) f' (by simpa using hf');simpa using this) (λ y hy=>hw y (kE _ hy));refine⟨da++db,by simp only[iO];exact⟨da,db,rfl,k1,k3⟩, ?_⟩;have:=k2.append k4
        rwa[hcond.1,hcond.2,Ax (by omega)]at this
      .cases h
     .cases h
    .cases h
open Go.ChangeShapes Go.WideShapes Go.RowKit
def mL:Sh->List D->AV
 | .struct _,ds=> .agg (ds.map C.d)
 |_,[d]=> .one (.d d)
 |_,_=> .one .dead
def gr:List Sh->List (List D)->List Arg
 |s::shs,ds::dss=> .f (mL s ds)::gr shs dss
 |_,_=>[]
def jY:List Sh->List (List D)->Prop
 |[],[]=>True
 |s::shs,ds::dss=>cL s ds/\jY shs dss
 |_,_=>False
abbrev gC:Nat->Prop:=λ _=>False
section
variable {H:Type} {enc:TypeId×Value->H} {P:Program} {w:World} {base:Nat} {sp:Nat->Bool} {held:Bool}
theorem wF {d:D} {u:Value} (h:Rd w gC d u):Rd w (Av (bV P w gC gC) [] β0) d u:=h.bC ⟨λ _ _ _=>rfl,λ b _ hb=>ez.1 hb⟩
theorem vy:∀{ds:List D} {us:List Value},ie w ds us->ar (bV P w gC gC) w [] β0 (ds.map C.d) us
 |[],us,h=>by have:=h.1;simp only[List.map_nil,ar];exact fW this.symm
 |d::ds,us,h=>by
  cases us with
  |nil=>have:=h.1;simp at this
  |cons u us=>
   simp only[fF,ar];obtain⟨u',h1,h2⟩:=h.2 0 d rfl;simp only[bG,aF]at h1;subst h1;exact⟨u,us,rfl,by simp only[ae];exact wF h2,vy ⟨by simpa using h.1,λ k d' hk=>by simpa using h.2 (k+1) d' (by simpa using hk)⟩⟩
theorem ny {d:D} {ds:List D} {u:Value} (h:ie w [d] [u]):ak (bV P w gC gC) w [] β0 (.one (.d d)) u:=by obtain⟨u',h1,h2⟩:=h.2 0 d rfl;simp only[bG,aF]at h1;subst h1;simp only[ak,ae];exact wF h2
theorem EG {n:Nat} {t:TypeId} {s:Sh} (hs:jx P n t=some s) {v:Value} {d:DataW H} {ps:List MemPlace} (hv:Value.okWide P w .any base t v) (ht:DataW.Trod enc P w 0 sp held t v d ps)
  (hw:∀x∈DataW.weights P t d,x≤reachBytes):∃ds,cL s ds/\ak (bV P w gC gC) w [] β0 (mL s ds) v:=by
 obtain⟨fuel,ht⟩:=ht;obtain⟨ds,h1,h2⟩:=(Bo n).1 t s hs fuel _ d ps ht hw;refine⟨ds,h1, ?_⟩;cases n with
 |zero=>simp[jx]at hs
 |succ n=>
  unfold jx at hs;split at hs
  .rename_i hu;cases hs;obtain⟨b,rfl⟩:=okWide_bool hu hv;have h3:=h1;simp only[cL]at h3;obtain⟨b',rfl⟩:=h3;exact ny (ds:=[]) h2
  .rename_i k hu;cases hs;obtain⟨b,rfl⟩:=okWide_int hu hv;have h3:=h1;simp only[cL]at h3;obtain⟨b',rfl,_⟩:=h3;exact ny (ds:=[]) h2
  .rename_i hu;cases hs;obtain⟨b,rfl⟩:=okWide_string hu hv;have h3:=h1;simp only[cL]at h3;obtain⟨b',rfl,_⟩:=h3;exact ny (ds:=[]) h2
  .rename_i e hu;obtain⟨a,len,cap,rfl⟩:=okWide_slice hu hv;split at hs
   .split at hs
    .cases hs;have h3:=h1;simp only[cL]at h3;obtain⟨xs,rfl,_⟩:=h3;exact ny (ds:=[]) h2
    .cases hs
   .cases hs
  .rename_i fs hu;obtain⟨cs,rfl,_⟩:=okWide_struct hu hv;split at hs
   .split at hs
    .cases hs;simp only[mL,ak];exact⟨cs,rfl,vy h2⟩
    .cases hs
   .cases hs
  .cases hs
def kI (P:Program) (n:Nat):List TypeId->Option (List Sh)
 |[]=>some []
 |t::ts=>match jx P n t,kI P n ts with
  |some s,some l=>some (s::l)
  |_,_=>none
theorem vB {n:Nat} {γ:Nat->Pl}:∀{ts:List TypeId} {shs:List Sh} {vs:List Value} {ds:List (DataW H)} {ps:List MemPlace},kI P n ts=some shs->DataW.TrodAll enc P w 0 sp held ts vs ds ps->
  (∀(j:Nat) t v,ts[j]? =some t->vs[j]? =some v->Value.okWide P w .any base t v)->(∀x∈DataW.weightsEach P ts ds,x≤reachBytes)->
  ∃dss,jY shs dss/\aV P w gC gC γ 0 (gr shs dss) [] vs
 |[],shs,vs,ds,ps,hs,ht,_,_=>by simp only[kI,aF]at hs;subst hs;obtain⟨rfl,rfl,rfl⟩:=trodAll_nil ht;exact⟨[],trivial,by simp[gr,aV]⟩
 |t::ts,shs,vs,ds,ps,hs,ht,hv,hw=>by
  simp only[kI]at hs;split at hs
  .rename_i s l g1 g2;cases hs;obtain⟨v,vs',d,ds',p,q,rfl,rfl,rfl,h1,h2⟩:=trodAll_cons ht;simp only[DataW.weightsEach]at hw;obtain⟨x,k1,k2⟩:=EG g1 (hv 0 t v rfl rfl) h1 (λ y hy=>hw y (jV _ hy));obtain⟨xs,k3,k4⟩:=vB (γ:=γ) g2 h2 (λ j t' v' hj hj'=>hv (j+1) t' v' (by simpa using hj) (by simpa using hj')) (λ y hy=>hw y (kE _ hy));refine⟨x::xs,⟨k1,k3⟩, ?_⟩;simp only[gr,aV];exact⟨v,vs',rfl,k2,k4⟩
  .cases hs
theorem pr:∀{shs:List Sh} {dss:List (List D)},br (gr shs dss)=[]
 |[],_=>by simp[gr,br]
 |_::_,[]=>by simp[gr,br]
 |_::shs,_::dss=>by simp[gr,br,pr (shs:=shs)]
theorem rX (hl:laidOutB P=true):∀{ts:List TypeId} {vs:List Value} {ds:List (DataW H)} {ps:List MemPlace},(∀t∈ts,P.readableRec t=true/\t<P.types.size)->∀{W W':World},DataW.TrodAll enc P W 0 (λ _=>true) true ts vs ds ps->
  (∀p∈ps,W.sameAt W' p)->∀{sp':Nat->Bool},(∀p∈ps,sp' p.block=true)->DataW.TrodAll enc P W' 0 sp' true ts vs ds ps
 |[],vs,ds,ps,_,W,W',h,_,sp',_=>by obtain⟨rfl,rfl,rfl⟩:=trodAll_nil h;rfl
 |t::ts,vs,ds,ps,hr,W,W',h,hsame,sp',hsp=>by
  obtain⟨v,vs',d,ds',p,q,rfl,rfl,rfl,h1,h2⟩:=trodAll_cons h;obtain⟨r1,r2⟩:=hr t (by simp)
  exact⟨p,q,WideElems.Trod_stays hl r1 r2 h1 (λ x hx=>hsame x (jV _ hx)) (λ x hx=>hsp x (jV _ hx)),
   rX hl (λ t' ht'=>hr t' (by simp[ht'])) h2 (λ x hx=>hsame x (kE _ hx)) (λ x hx=>hsp x (kE _ hx)),rfl⟩
theorem sn {f:FuncId} {fn:Func} {s:ChangeSpec} {shs:List Sh} {tb:TypeId} {n:Nat} (hsh:kI P n fn.params.toList=some shs) (hvars:s.vars=[])
  (hfn:∀(ds:List (DataW H)),ds.length=fn.params.size->(s.fn H ds).results=[.lit (.bool true)]/\(s.fn H ds).args=ds/\(s.fn H ds).vars=[]) (hres:fn.resultTypes= #[tb]) (htb:P.underlying tb=some .bool) (hl:laidOutB P=true)
  (hread:∀t∈fn.params.toList,P.readableRec t=true/\t<P.types.size)
  (hok:∀dss,jY shs dss->ag P f (gr shs dss) (λ r o=>r=[.one (.d (.v (.bool true)))]/\o=[]))
  (W:World) (base:Nat) (args:Array Value) (ds gs:List (DataW H)) (before:List MemPlace)
  (hval:∀(j:Nat) t v,fn.params[j]? =some t->args[j]? =some v->Value.okWide P W .any base t v)
  (hW:DataW.Whole enc P fn.params.toList s.vars false W args.toList ds gs before)
  (hsz:(DataW.weightsEach P (fn.params.toList++s.plain.varTypes P) (ds++gs)).all (·≤reachBytes)=true):
  Calls P f args W λ e W'=>∃v,e= .returned v/\s.post enc P fn false true false false W args v W':=by
 have hW':=hW;obtain⟨p,q,hA,hV,rfl,hfz,hnd⟩:=hW;rw[hvars]at hV;obtain⟨rfl,rfl⟩:=trodVars_none hV;have hvt:s.plain.varTypes P=[]:=by have:s.plain.vars=[]:=hvars;simp[DataSpec.varTypes,this]
 rw[hvt,dz,dz]at hsz;have hlen:∀{ts:List TypeId} {vs:List Value} {ds:List (DataW H)} {ps:List MemPlace},DataW.TrodAll enc P W 0 (λ _=>true) true ts vs ds ps->ds.length=ts.length:=by
  intro ts;induction ts with
  |nil=>intro vs ds ps h;obtain⟨_,rfl,_⟩:=trodAll_nil h;rfl
  |cons t ts ih=>intro vs ds ps h;obtain⟨v,vs',d,ds',p,q,rfl,rfl,rfl,h1,h2⟩:=trodAll_cons h;simp[ih h2]
 obtain⟨f1,f2,f3⟩:=hfn ds (by rw[hlen hA];simp)
 obtain⟨dss,g1,g2⟩:=vB (n:=n) (γ:=λ _=>⟨none,0⟩) hsh hA (λ j t v hj hj'=>hval j t v (by simpa using hj) (by simpa using hj')) (λ x hx=>by have:=gT.1 hsz x hx;simpa using this)
 have hc:=(hok dss g1).2 W gC gC (λ _=>⟨none,0⟩) [] args.toList (λ b hb=>hb.elim) (λ b hb=>hb) g2 (by rw[pr];intro b hb;exact hb.elim) List.nodup_nil (by rw[pr];intro i j b o o' sz n ds bo sz' n' ds' bo' h1;simp at h1);simp only[lJ]at hc;refine hc.mono λ e W' ⟨rfs,objs,u,⟨e1,e2⟩,e3,e4⟩=>⟨u,e3, ?_⟩
 subst e1 e2;obtain⟨⟨γ,us,m1,m2,_⟩,hsize,hold,hos,hout⟩:=e4;have hu:u= .bool true:=by simp only[cM,fP,cy,Rd]at m2;obtain⟨u1,us1,rfl,⟨rfl,_⟩,rfl⟩:=m2;simpa using m1
 subst hu;have hheap:∀b,b<W.heap.size->W'.heap[b]? =W.heap[b]? :=λ b hb=>hold b hb (λ h=>h)
 have hplace:∀x∈p,x.block<W.heap.size:=λ x hx=>by have:=hW'.lt x (by simpa using hx);simpa using this
 have hsame:∀x∈p,W.sameAt W' x:=λ x hx=>by
  have hb:=hheap x.block (hplace x hx);cases x with
  |cell b o=>exact World.cell?_of_block (w:=W) hb
  |map b=>exact hb
 refine⟨ds,[],p++[],[],p,[],by simpa using hW', ?_, ?_, ?_, ?_,λ h=>by cases h⟩
 .rw[dz,f1,hres];exact trodAll_mk1 (shut_bool htb _)
 .rw[dz,f2];exact rX hl hread hA hsame (λ x hx=>by simpa using hplace x hx)
 .rw[dz,f3,hvars];rfl
 .refine⟨hos,hout,λ i hi=> ?_⟩;rw[hheap i hi];split<;>simp_all
end
end Go.Pk
