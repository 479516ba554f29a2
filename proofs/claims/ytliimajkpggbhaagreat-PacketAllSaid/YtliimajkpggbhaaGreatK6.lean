import Derived.Test.YtliimajkpggbhaaGreatK5
import Derived.Deep.LoopGhost
import Derived.Scope
import Derived.Defers
import Derived.Laws.StructEq
import Derived.ChangeArms
import Derived.ChangeShapes
import Derived.SizedLaws
import Derived.WideKeyArgs
import Derived.ChangeSame
import Derived.RowKit
import Derived.Carry
set_option linter.unusedVariables false
set_option linter.unusedSimpArgs false
set_option linter.unusedSectionVars false
namespace Go.Pk
section
variable {v v':List AV} {r r':Rs} {T:Nat→Option TI} {c:Bool} {cx:Cx} {a:Act} {w:World} {β:Nat→Nat→Pl} {all:List Oper} {Q:Exit→Act→World→Prop} {K:Ex→G→Prop}
theorem HoldsE.congr (h:HoldsE cx ⟨v,r⟩ a w) (hf:∀s,findR s r=findR s r'):HoldsE cx ⟨v,r'⟩ a w:=
 let ⟨β,h⟩:=h
 ⟨β,h.congr hf⟩
theorem zf3 (hT:TOK cx.P T) (hQ:∀e g a w,HoldsE cx g a w→K e g→Q (zt1 e) a w):∀(rest:List Oper) (k:Nat) (m:M) (v:List AV) (r:Rs) (a:Act) (w:World),
  (∀j,rest[j]? =all[k+j]?)→aops T cx.P all m rest v r K→HoldsE cx ⟨v,r⟩ a w→wpOps cx.P all.toArray Q (List.range' k rest.length) a w
 |[],k,m,v,r,a,w,_,hk,h=>hQ .normal _ _ _ h hk.2
 |o::rest,k,m,v,r,a,w,hall,hk,h=>by
  have ho:all.toArray[k]? =some o:=by simpa using(hall 0).symm
  obtain⟨β,h⟩:=h
  rw[List.length_cons,List.range'_succ,wpOps_cons]
  rcases step_ok hT hk with⟨fp,x,r1,⟨h1,h2⟩,_,_,h3⟩|⟨_,hp|⟨v',r',fp,x,r1,off',himp,⟨h1,h2⟩,h3⟩⟩
  case inr.inl=>exact hp a w β h k Q _ ho (fun x g a w hg hk=>hQ (.panic x) g a w hg hk)
  case inr.inr=>
   obtain⟨β',h'⟩:=himp _ _ _ ⟨β,h⟩
   refine wpOp_mono (fun a' w' hd=> ?_) (h2 v' r' (fun _ _=>rfl) (fun _ _ _=>rfl) (fun _ _=>rfl) a w β' h' k Q ho)
   obtain⟨r1',g1,g2,g3⟩:=hd
   refine zf3 hT hQ rest (k+1) _ _ _ a' w' (fun j=> ?_) h3 (g1.congr fun s=> ?_)
   ·have:=hall (j+1)
    simpa[Nat.add_assoc,Nat.add_comm 1 j]using this
   ·by_cases hs:s∈fp.w
    ·exact g2 s hs
    ·rw[g3 s hs,h1 s hs]
  refine wpOp_mono (fun a' w' hd=> ?_) (h2 v r (fun _ _=>rfl) (fun _ _ _=>rfl) (fun _ _=>rfl) a w β h k Q ho)
  obtain⟨r1',g1,g2,g3⟩:=hd
  refine zf3 hT hQ rest (k+1) _ _ _ a' w' (fun j=> ?_) h3 (g1.congr fun s=> ?_)
  ·have:=hall (j+1)
   simpa[Nat.add_assoc,Nat.add_comm 1 j]using this
  ·by_cases hs:s∈fp.w
   ·exact g2 s hs
   ·rw[g3 s hs,h1 s hs]
theorem zos (hT:TOK cx.P T) (hQ:∀e g a w,HoldsE cx g a w→K e g→Q (zt1 e) a w) {ops:Array Oper} {id:Nat} {m:M} {g:G} (hk:aops T cx.P ops.toList m ops.toList g.v g.r K)
  (h:HoldsE cx g a w):(Code.region id ops false).wp cx.P Q a w:=by
 refine wp_region ?_
 have:=zf3 hT hQ ops.toList 0 m g.v g.r a w (fun j=>by simp) hk h
 simpa[List.range_eq_range']using this
section
variable {L α:Type} (b0:L→α) (Wr:Nat→L→Option α)
def zfh (S:Nat→Bool):Nat→L→α
 |0,l=>b0 l
 |k+1,l=>if S k then(Wr k l).getD (zfh S k l)else zfh S k l
variable {b0 Wr} {S S':Nat→Bool} {j n:Nat} {l:L}
theorem zjf (hj:S j=false) (hjn:j≤n) (h1:∀k,k<j→Wr k l≠none→S k=true) (h2:∀k,j<k→Wr k l≠none→S k=false):
  zfh b0 Wr S n l=zfh b0 Wr (fun _=>true) j l:=by
 have p1:∀k,k≤j→zfh b0 Wr S k l=zfh b0 Wr (fun _=>true) k l:=by
  intro k
  induction k with
  |zero=>intro _;rfl
  |succ k ih=>
   intro hk
   simp only[zfh,if_true]
   rw[ih (by omega)]
   cases hw:Wr k l with
   |none=>simp
   |some y=>rw[h1 k (by omega) (by rw[hw];simp)];simp
 have p2:∀d,zfh b0 Wr S (j+d) l=zfh b0 Wr S j l:=by
  intro d
  induction d with
  |zero=>rfl
  |succ d ih=>
   rw[←Nat.add_assoc]
   simp only[zfh]
   rw[ih]
   cases d with
   |zero=>simp[hj]
   |succ d=>
    cases hw:Wr (j+(d+1)) l with
    |none=>simp
    |some y=>rw[h2 (j+(d+1)) (by omega) (by rw[hw];simp)];simp
 have:=p2 (n - j)
 rw[show j+(n - j)=n from by omega]at this
 rw[this,p1 j (Nat.le_refl _)]
theorem zlm (hS:∀k,k≠j→S' k=S k) (hw:Wr j l=none):zfh b0 Wr S' n l=zfh b0 Wr S n l:=by
 induction n with
 |zero=>rfl
 |succ n ih=>
  simp only[zfh]
  rw[ih]
  by_cases hn:n=j
  ·subst hn;rw[hw];simp
  ·rw[hS n hn]
theorem znx (hS:∀k,k≠j→S' k=S k) (hj:S' j=true) {y:α} (hw:Wr j l=some y) (hjn:j<n) (h2:∀k,j<k→Wr k l≠none→S k=false):
  zfh b0 Wr S' n l=y:=by
 have p:∀d,zfh b0 Wr S' (j+1+d) l=y:=by
  intro d
  induction d with
  |zero=>simp only[Nat.add_zero,zfh];rw[hj,hw];rfl
  |succ d ih=>
   rw[←Nat.add_assoc]
   simp only[zfh]
   rw[ih]
   cases hw':Wr (j+1+d) l with
   |none=>simp
   |some y'=>
    rw[hS _ (by omega),h2 (j+1+d) (by omega) (by rw[hw'];simp)]
    simp
 have:=p (n - (j+1))
 rwa[show j+1+(n - (j+1))=n from by omega]at this
theorem zny (h:∀k,k<n→S k=true):zfh b0 Wr S n l=zfh b0 Wr (fun _=>true) n l:=by
 induction n with
 |zero=>rfl
 |succ n ih=>
  simp only[zfh,if_true]
  rw[ih fun k hk=>h k (by omega),h n (by omega),if_pos rfl]
theorem zeJ (h:∀k,k<n→S k=false):zfh b0 Wr S n l=b0 l:=by
 induction n with
 |zero=>rfl
 |succ n ih=>
  simp only[zfh]
  rw[ih fun k hk=>h k (by omega),h n (by omega)]
  rfl
end
end
section
variable {T:Nat→Option TI} {cx:Cx} {all:List Oper} {K:Ex→G→Prop}
theorem zjg (hT:TOK cx.P T):∀(rest:List Oper) (k:Nat) (m:List FP) (off:List (Nat×Bool)) (v:List AV) (r:Rs),aops T cx.P all ⟨some m,off⟩ rest v r K→
  ∃(St:Nat→G) (X:Nat→AV) (F:List FP),St k=⟨v,r⟩∧K .normal (St (k+rest.length))∧zku all (m.reverse++F)=true∧F.length=rest.length∧
   ∀j o,rest[j]? =some o→∃fp,zdg cx all o (St (k+j)).v (St (k+j)).r fp (X (k+j)) (St (k+j+1)).r∧(St (k+j+1)).v=putV (St (k+j)).v o.dst (X (k+j))∧
    F[j]? =some fp∧∀s∈fp.w,s∈fp.t
 |[],k,m,off,v,r,hk=>⟨fun _=>⟨v,r⟩,fun _=> .one .dead,[],rfl,hk.2,by have:=hk.1;simpa[EndR]using this,rfl,fun j o h=>by simp at h⟩
 |o::rest,k,m,off,v,r,hk=>by
  obtain⟨fp,x,r1,h1,h0,off',h2⟩:=(step_ok hT hk).resolve_right (fun h=>by cases h.1)
  obtain⟨St,X,F,g1,g2,g3,g4,g5⟩:=zjg hT rest (k+1) _ _ _ _ h2
  refine⟨fun i=>if i=k then⟨v,r⟩else St i,fun i=>if i=k then x else X i,fp::F,by simp, ?_,by simpa using g3,by simp[g4],fun j o' hj=> ?_⟩
  ·simp only[List.length_cons]
   rw[if_neg (by omega),show k+(rest.length+1)=k+1+rest.length from by omega]
   exact g2
  ·cases j with
   |zero=>
    simp only[List.getElem?_cons_zero,Option.some.injEq]at hj
    subst hj
    simp only[Nat.add_zero,if_true]
    rw[if_neg (by omega),g1]
    exact⟨fp,h1,rfl,by simp,h0⟩
   |succ j=>
    have:=g5 j o' (by simpa using hj)
    simp only[if_neg (show k+(j+1)≠k from by omega),if_neg (show k+(j+1)+1≠k from by omega)]
    rw[show k+(j+1)=k+1+j from by omega]
    simpa using this
theorem zkd {a b:List Nat} (h:dis a b=true) {s:Nat} (ha:s∈a):s ∉ b:=by
 unfold dis at h
 have:=List.all_eq_true.1 h s ha
 simpa using this
theorem zgK {F:List FP} (h:zku all F=true) {i j:Nat} {x y:FP} (hx:F[i]? =some x) (hy:F[j]? =some y) (hij:i<j):
  ((zdH all).getD j 0).testBit i=true∨FP.apart x y=true:=by
 unfold zku at h
 have h1:=List.all_eq_true.1 h (y,j) (List.mem_zipIdx_iff_getElem?.2 hy)
 have h2:=List.all_eq_true.1 h1 (x,i) (List.mem_zipIdx_iff_getElem?.2 hx)
 simp only[Bool.or_eq_true,Bool.not_eq_true',decide_eq_false_iff_not]at h2
 rcases h2 with(h2|h2)|h2
 ·exact absurd hij h2
 ·exact .inl h2
 ·exact .inr h2
theorem zd1 (h:zvK all=true):Region.noSelect all.toArray=true∧(∀(j:Nat) (y:Oper),all[j]? =some y→∀e∈y.after,Region.binds .any e=true→e.on<j)∧
  ∀(i j:Nat) (x y:Oper),all[i]? =some x→all[j]? =some y→i<j→((zdH all).getD j 0).testBit i=true∨x.apart all.toArray y=true:=by
 unfold zvK at h
 simp only[Bool.and_eq_true]at h
 refine⟨h.1,fun j y hy e he hb=> ?_,fun i j x y hx hy hij=> ?_⟩
 ·have h1:=List.all_eq_true.1 h.2 (y,j) (List.mem_zipIdx_iff_getElem?.2 hy)
  simp only[Bool.and_eq_true]at h1
  have h2:=Array.all_eq_true_iff_forall_mem.1 h1.1 e he
  simp only[hb,Bool.not_true,Bool.false_or,decide_eq_true_eq]at h2
  exact h2
 ·have h1:=List.all_eq_true.1 h.2 (y,j) (List.mem_zipIdx_iff_getElem?.2 hy)
  simp only[Bool.and_eq_true]at h1
  have h2:=List.all_eq_true.1 h1.2 (x,i) (List.mem_zipIdx_iff_getElem?.2 hx)
  simp only[Bool.or_eq_true,Bool.not_eq_true',decide_eq_false_iff_not]at h2
  rcases h2 with(h2|h2)|h2
  ·exact absurd hij h2
  ·exact .inl h2
  ·exact .inr h2
def zrX (acc:List Nat) (o:Oper):Nat:=o.after.foldl (fun s e=>if Region.binds .any e then s|||2^e.on|||acc.getD e.on 0 else s) 0
theorem zot (ops:List Oper):zdH ops=ops.foldl (fun acc o=>acc++[zrX acc o]) []:=rfl
theorem zln (acc:List Nat):∀(l:List Edge) (s:Nat) (i:Nat),(l.foldl (fun s e=>if Region.binds .any e then s|||2^e.on|||acc.getD e.on 0 else s) s).testBit i=true→
  s.testBit i=true∨∃e∈l,Region.binds .any e=true∧(i=e.on∨(acc.getD e.on 0).testBit i=true)
 |[],s,i,h=> .inl h
 |e::l,s,i,h=>by
  simp only[List.foldl_cons]at h
  rcases zln acc l _ i h with h1|⟨e',h1,h2⟩
  ·by_cases hb:Region.binds .any e=true
   ·rw[if_pos hb]at h1
    simp only[Nat.testBit_or,Bool.or_eq_true,Nat.testBit_two_pow,decide_eq_true_eq]at h1
    rcases h1 with(h1|h1)|h1
    ·exact .inl h1
    ·exact .inr ⟨e,by simp,hb, .inl h1.symm⟩
    ·exact .inr ⟨e,by simp,hb, .inr h1⟩
   ·rw[if_neg hb]at h1;exact .inl h1
  ·exact .inr ⟨e',by simp[h1],h2⟩
theorem zpP {acc:List Nat} {o:Oper} {i:Nat} (h:(zrX acc o).testBit i=true):∃e∈o.after,Region.binds .any e=true∧(i=e.on∨(acc.getD e.on 0).testBit i=true):=by
 unfold zrX at h
 rw[←Array.foldl_toList]at h
 rcases zln acc _ _ _ h with h1|⟨e,h1,h2⟩
 ·simp at h1
 ·exact⟨e,Array.mem_toList_iff.1 h1,h2⟩
theorem znz:∀(ops:List Oper) (acc:List Nat),(ops.foldl (fun acc o=>acc++[zrX acc o]) acc).length=acc.length+ops.length∧
  (∀k,k<acc.length→(ops.foldl (fun acc o=>acc++[zrX acc o]) acc)[k]? =acc[k]?)∧
  ∀j o,ops[j]? =some o→(ops.foldl (fun acc o=>acc++[zrX acc o]) acc)[acc.length+j]? =some (zrX ((ops.foldl (fun acc o=>acc++[zrX acc o]) acc).take (acc.length+j)) o)
 |[],acc=>⟨by simp,fun _ _=>rfl,fun j o h=>by simp at h⟩
 |o::ops,acc=>by
  obtain⟨h1,h2,h3⟩:=znz ops (acc++[zrX acc o])
  simp only[List.foldl_cons]
  simp only[List.length_append,List.length_cons,List.length_nil,Nat.zero_add]at h1 h2 h3
  refine⟨by rw[h1];simp;omega,fun k hk=> ?_,fun j o' hj=> ?_⟩
  ·rw[h2 k (by omega),List.getElem?_append_left hk]
  ·cases j with
   |zero=>
    simp only[List.getElem?_cons_zero,Option.some.injEq]at hj
    subst hj
    rw[Nat.add_zero,h2 acc.length (by omega)]
    simp only[List.getElem?_append_right (Nat.le_refl _),Nat.sub_self,List.getElem?_cons_zero,Option.some.injEq]
    congr 1
    apply List.ext_getElem?
    intro k
    rw[List.getElem?_take]
    split
    ·rename_i hk
     rw[h2 k (by omega),List.getElem?_append_left hk]
    ·rename_i hk
     rw[List.getElem?_eq_none (by omega)]
   |succ j=>
    have:=h3 j o' (by simpa using hj)
    rw[show acc.length+(j+1)=acc.length+1+j from by omega]
    exact this
theorem zlo {i j:Nat} {o:Oper} (hj:all[j]? =some o) (h:((zdH all).getD j 0).testBit i=true):
  ∃e∈o.after,Region.binds .any e=true∧(i=e.on∨((zdH all).getD e.on 0).testBit i=true):=by
 obtain⟨_,_,h3⟩:=znz all []
 have h4:=h3 j o hj
 rw[←zot]at h4
 simp only[List.length_nil,Nat.zero_add]at h4
 rw[List.getD_eq_getElem?_getD,h4]at h
 simp only[Option.getD_some]at h
 obtain⟨e,h5,h6,h7⟩:=zpP h
 refine⟨e,h5,h6,h7.imp id fun h8=> ?_⟩
 rw[List.getD_eq_getElem?_getD,List.getElem?_take]at h8
 split at h8
 ·rw[List.getD_eq_getElem?_getD];exact h8
 ·simp at h8
def Closed (all:List Oper) (S:Nat→Bool):Prop:=∀(j:Nat) (o:Oper),all[j]? =some o→S j=true→∀e∈o.after,Region.binds .any e=true→S e.on=true
theorem Closed.bef {S:Nat→Bool} (h:Closed all S) (hb:∀(j:Nat) (y:Oper),all[j]? =some y→∀e∈y.after,Region.binds .any e=true→e.on<j):
  ∀(n j:Nat),j<n→∀(o:Oper),all[j]? =some o→(∀e∈o.after,Region.binds .any e=true→S e.on=true)→∀i,((zdH all).getD j 0).testBit i=true→S i=true
 |0,_,h0,_,_,_,_,_=>absurd h0 (Nat.not_lt_zero _)
 |n+1,j,hjn,o,ho,hr,i,hbit=>by
  obtain⟨e,h1,h2,h3⟩:=zlo ho hbit
  have hs:=hr e h1 h2
  rcases h3 with rfl|h3
  ·exact hs
  ·have hlt:=hb j o ho e h1 h2
   have hjl:j<all.length:=(List.getElem?_eq_some_iff.1 ho).1
   have ho':all[e.on]? =some all[e.on]:=List.getElem?_eq_getElem (by omega)
   exact h.bef hb n e.on (by omega) _ ho' (h e.on _ ho' hs) i h3
end
section
variable {T:Nat→Option TI} {cx:Cx} {all:List Oper} {K:Ex→G→Prop} {Q:Exit→Act→World→Prop}
structure Found (cx:Cx) (all:List Oper) (St:Nat→G) (X:Nat→AV) (F:List FP):Prop where
 len:F.length=all.length
 step:∀j o,all[j]? =some o→∃fp,zdg cx all o (St j).v (St j).r fp (X j) (St (j+1)).r∧(St (j+1)).v=putV (St j).v o.dst (X j)∧F[j]? =some fp∧∀s∈fp.w,s∈fp.t
 ord:zvK all=true
 chk:zku all F=true
section
variable {St:Nat→G} {X:Nat→AV} {F:List FP} (hf:Found cx all St X F)
def WrV (all:List Oper) (N:Nat) (X:Nat→AV) (k d:Nat):Option (Option AV):=
 match all[k]? with
 |some o=>if o.dst=some d∧d<N then some (some (X k))else none
 |none=>none
def WrR (F:List FP) (St:Nat→G) (k s:Nat):Option (Option RS):=
 match F[k]? with
 |some f=>if s∈f.w then some (findR s (St (k+1)).r)else none
 |none=>none
theorem znA {v:List AV} {dst:Option Nat} {x:AV}:(putV v dst x).length=v.length:=by cases dst<;>simp[putV]
theorem znB {N k d:Nat} (h:WrV all N X k d≠none):∃o,all[k]? =some o∧o.dst=some d∧d<N:=by
 unfold WrV at h
 split at h
 ·rename_i o ho
  split at h
  ·rename_i hd;exact⟨o,ho,hd⟩
  ·exact absurd rfl h
 ·exact absurd rfl h
theorem znC {k s:Nat} (h:WrR F St k s≠none):∃f,F[k]? =some f∧s∈f.w:=by
 unfold WrR at h
 split at h
 ·rename_i f hf
  split at h
  ·rename_i hd;exact⟨f,hf,hd⟩
  ·exact absurd rfl h
 ·exact absurd rfl h
include hf in
theorem Found.v_len:∀k,k≤all.length→(St k).v.length=(St 0).v.length
 |0,_=>rfl
 |k+1,h=>by
  obtain⟨_,_,h2,_⟩:=hf.step k all[k] (List.getElem?_eq_getElem (by omega))
  rw[h2,znA]
  exact Found.v_len k (by omega)
theorem znD {v:List AV} {dst:Option Nat} {x:AV} {d:Nat}:(putV v dst x)[d]? =if dst=some d∧d<v.length then some x else v[d]? :=by
 cases dst with
 |none=>simp[putV]
 |some e=>
  simp only[putV,Option.some.injEq,List.getElem?_set]
  by_cases h:e=d
  ·subst h
   simp only[true_and,if_true]
   split
   ·rfl
   ·rename_i h;rw[List.getElem?_eq_none (by omega)]
  ·simp[h]
include hf in
theorem Found.lexV (d:Nat):∀k,k≤all.length→zfh (fun d=>(St 0).v[d]?) (WrV all (St 0).v.length X) (fun _=>true) k d=(St k).v[d]?
 |0,_=>rfl
 |k+1,h=>by
  have ho:all[k]? =some all[k]:=List.getElem?_eq_getElem (by omega)
  obtain⟨_,_,h2,_⟩:=hf.step k _ ho
  simp only[zfh,if_true]
  rw[Found.lexV d k (by omega),h2,znD]
  simp only[WrV,ho,hf.v_len k (by omega)]
  split<;>simp
include hf in
theorem Found.lexR (s:Nat):∀k,k≤all.length→zfh (fun s=>findR s (St 0).r) (WrR F St) (fun _=>true) k s=findR s (St k).r
 |0,_=>rfl
 |k+1,h=>by
  have ho:all[k]? =some all[k]:=List.getElem?_eq_getElem (by omega)
  obtain⟨fp,h1,_,h3,_⟩:=hf.step k _ ho
  simp only[zfh,if_true]
  rw[Found.lexR s k (by omega)]
  simp only[WrR,h3]
  split
  ·simp
  ·rename_i hs
   simp only[Option.getD_none]
   exact(h1.1 s hs).symm
def Inv (cx:Cx) (all:List Oper) (St:Nat→G) (X:Nat→AV) (F:List FP) (S:Nat→Bool) (a:Act) (w:World):Prop:=
 ∃v r,HoldsE cx ⟨v,r⟩ a w∧v.length=(St 0).v.length∧(∀d,v[d]? =zfh (fun d=>(St 0).v[d]?) (WrV all (St 0).v.length X) S all.length d)∧
  ∀s,findR s r=zfh (fun s=>findR s (St 0).r) (WrR F St) S all.length s
include hf in
theorem Found.v_ready {S:Nat→Bool} (hc:Closed all S) {j:Nat} {o:Oper} (hj:all[j]? =some o) (hS:S j=false) (hr:∀e∈o.after,Region.binds .any e=true→S e.on=true)
  {d:Nat} (hd:d∈o.looksAt all.toArray):zfh (fun d=>(St 0).v[d]?) (WrV all (St 0).v.length X) S all.length d=(St j).v[d]? :=by
 obtain⟨_,o2,o3⟩:=zd1 hf.ord
 have hjl:j<all.length:=(List.getElem?_eq_some_iff.1 hj).1
 rw[←hf.lexV d j (by omega)]
 refine zjf hS (by omega) (fun k hk hw=> ?_) (fun k hk hw=> ?_)
 ·obtain⟨x,hx,hxd,_⟩:=znB hw
  rcases o3 k j x o hx hj hk with h|h
  ·exact hc.bef o2 (j+1) j (by omega) o hj hr k h
  ·exact absurd hd ((Oper.apart_spec h).1 d hxd)
 ·obtain⟨x,hx,hxd,_⟩:=znB hw
  rcases o3 j k o x hj hx hk with h|h
  ·cases hSk:S k with
   |false=>rfl
   |true=>rw[hc.bef o2 (k+1) k (by omega) x hx (hc k x hx hSk) j h]at hS;cases hS
  ·exact absurd hd ((Oper.apart_spec h).2.2 d hxd)
include hf in
theorem Found.r_ready {S:Nat→Bool} (hc:Closed all S) {j:Nat} {o:Oper} {f:FP} (hj:all[j]? =some o) (hfj:F[j]? =some f) (hS:S j=false) (hr:∀e∈o.after,Region.binds .any e=true→S e.on=true)
  {s:Nat} (hs:s∈f.t):zfh (fun s=>findR s (St 0).r) (WrR F St) S all.length s=findR s (St j).r:=by
 obtain⟨_,o2,_⟩:=zd1 hf.ord
 have hjl:j<all.length:=(List.getElem?_eq_some_iff.1 hj).1
 rw[←hf.lexR s j (by omega)]
 refine zjf hS (by omega) (fun k hk hw=> ?_) (fun k hk hw=> ?_)
 ·obtain⟨x,hx,hxd⟩:=znC hw
  rcases zgK hf.chk hx hfj hk with h|h
  ·exact hc.bef o2 (j+1) j (by omega) o hj hr k h
  ·simp only[FP.apart,Bool.and_eq_true]at h
   exact absurd hs (zkd h.1.1 hxd)
 ·obtain⟨x,hx,hxd⟩:=znC hw
  have hk':k<all.length:=by rw[←hf.len];exact(List.getElem?_eq_some_iff.1 hx).1
  rcases zgK hf.chk hfj hx hk with h|h
  ·cases hSk:S k with
   |false=>rfl
   |true=>
    have hok:all[k]? =some all[k]:=List.getElem?_eq_getElem hk'
    rw[hc.bef o2 (k+1) k (by omega) _ hok (hc k _ hok hSk) j h]at hS;cases hS
  ·simp only[FP.apart,Bool.and_eq_true]at h
   exact absurd hxd (zkd h.1.2 hs)
theorem ztI {v v':List AV} {x:Operand} (h:∀t,x= .tmp t→v'[t]? =v[t]?):gev v' x=gev v x:=by
 cases x with
 |tmp t=>simp only[gev,List.getD_eq_getElem?_getD,h t rfl]
 |_=>rfl
theorem zuw {v v':List AV} {j:Nat} (h:∀t,(all[j]?.bind (·.dst))=some t→v'[t]? =v[t]?):gdOf all v' j=gdOf all v j:=by
 unfold gdOf
 split
 ·rename_i o ho
  split
  ·rename_i d hd
   simp only[List.getD_eq_getElem?_getD,h d (by rw[ho];exact hd)]
  ·rfl
 ·rfl
include hf in
theorem Found.inv_step {S S':Nat→Bool} {a:Act} {w:World} (hI:Inv cx all St X F S a w) (hc:Closed all S) {j:Nat} {o:Oper} (hj:all[j]? =some o) (hS:S j=false)
  (hr:∀e∈o.after,Region.binds .any e=true→S e.on=true) (hS1:S' j=true) (hS2:∀k,k≠j→S' k=S k):
  wpOp cx.P all.toArray Q j (Inv cx all St X F S') a w:=by
 obtain⟨v,r,⟨β,hH⟩,hl,hv,hrr⟩:=hI
 obtain⟨fp,⟨h1,h2⟩,h3,h4,h5⟩:=hf.step j o hj
 obtain⟨_,o2,o3⟩:=zd1 hf.ord
 have hjl:j<all.length:=(List.getElem?_eq_some_iff.1 hj).1
 have hlook:∀d∈o.looksAt all.toArray,v[d]? =(St j).v[d]? :=fun d hd=>by rw[hv d,hf.v_ready hc hj hS hr hd]
 have hlk:∀s∈fp.t,findR s r=findR s (St j).r:=fun s hs=>by rw[hrr s,hf.r_ready hc hj h4 hS hr hs]
 refine wpOp_mono (fun a' w' hd=> ?_) (h2 v r (fun x hx=>ztI fun t ht=>hlook t ?_) (fun i b hg=>zuw fun t ht=>hlook t ?_) hlk a w β hH j Q (by simpa using hj))
 ·obtain⟨r1',g1,g2,g3⟩:=hd
  refine⟨_,r1',g1,by rw[znA,hl],fun d=> ?_,fun s=> ?_⟩
  ·rw[znD,hl]
   by_cases hd:o.dst=some d∧d<(St 0).v.length
   ·rw[if_pos hd]
    refine(znx hS2 hS1 (y:=some (X j)) (by unfold WrV;simp only[hj];rw[if_pos hd]) hjl (fun k hk hw=> ?_)).symm
    obtain⟨x,hx,hxd,_⟩:=znB hw
    rcases o3 j k o x hj hx hk with h|h
    ·cases hSk:S k with
     |false=>rfl
     |true=>rw[hc.bef o2 (k+1) k (by omega) x hx (hc k x hx hSk) j h]at hS;cases hS
    ·exact absurd hxd ((Oper.apart_spec h).2.1 d hd.1)
   ·rw[if_neg hd,hv d]
    exact(zlm hS2 (by unfold WrV;simp only[hj];rw[if_neg hd])).symm
  ·by_cases hs:s∈fp.w
   ·rw[g2 s hs]
    refine(znx hS2 hS1 (y:=findR s (St (j+1)).r) (by unfold WrR;simp only[h4];rw[if_pos hs]) hjl (fun k hk hw=> ?_)).symm
    obtain⟨x,hx,hxd⟩:=znC hw
    have hk':k<all.length:=by rw[←hf.len];exact(List.getElem?_eq_some_iff.1 hx).1
    rcases zgK hf.chk h4 hx hk with h|h
    ·cases hSk:S k with
     |false=>rfl
     |true=>
      have hok:all[k]? =some all[k]:=List.getElem?_eq_getElem hk'
      rw[hc.bef o2 (k+1) k (by omega) _ hok (hc k _ hok hSk) j h]at hS;cases hS
    ·simp only[FP.apart,Bool.and_eq_true]at h
     exact absurd hxd (zkd h.2 hs)
   ·rw[g3 s hs,hrr s]
    exact(zlm hS2 (by unfold WrR;simp only[h4];rw[if_neg hs])).symm
 ·subst ht
  exact List.mem_append_left _ (List.mem_filterMap.2 ⟨.tmp t,hx,rfl⟩)
 ·unfold Oper.looksAt
  refine List.mem_append_right _ ?_
  rw[hg]
  simp only[List.getElem?_toArray]
  rw[ht]
  simp
end
theorem filter_lt {α:Type} {p q:α→Bool}:∀{l:List α},(∀x∈l,p x=true→q x=true)→(∃x∈l,q x=true∧p x=false)→(l.filter p).length<(l.filter q).length
 |[],_,⟨x,h,_⟩=>by simp at h
 |y::l,h,⟨x,hx,h1,h2⟩=>by
  have hle:(l.filter p).length≤(l.filter q).length:=by
   clear hx h1 h2
   induction l with
   |nil=>simp
   |cons z l ih=>
    have:=ih fun x hx=>h x (by simp only[List.mem_cons]at hx⊢;rcases hx with h|h<;>simp[h])
    have hz:=h z (by simp)
    simp only[List.filter_cons]
    cases hp:p z with
    |true=>rw[hz hp];simpa using this
    |false=>cases hq:q z<;>simp<;>omega
  simp only[List.filter_cons]
  by_cases hxy:x=y
  ·subst hxy
   rw[h1,h2]
   simp only[Bool.false_eq_true,if_false,if_true,List.length_cons]
   omega
  ·have hx':x∈l:=by simp only[List.mem_cons]at hx;exact hx.resolve_left hxy
   have ih:=filter_lt (p:=p) (q:=q) (l:=l) (fun x hx=>h x (by simp[hx])) ⟨x,hx',h1,h2⟩
   have hy:=h y (by simp)
   cases hp:p y with
   |true=>rw[hy hp];simpa using ih
   |false=>cases hq:q y<;>simp<;>omega
def unl (n:Nat) (listed:Array Bool):Nat:=((List.range n).filter fun i=> !listed.getD i true).length
section
variable {St:Nat→G} {X:Nat→AV} {F:List FP} (hf:Found cx all St X F)
include hf in
theorem Found.all_listed {listed:Array Bool} (hr:Region.ready .any all.toArray listed=[]) (hsz:listed.size=all.length):∀n j,j<n→j<all.length→listed.getD j false=true
 |0,_,h,_=>absurd h (Nat.not_lt_zero _)
 |n+1,j,hj,hjl=>by
  obtain⟨_,o2,_⟩:=zd1 hf.ord
  have ho:all[j]? =some all[j]:=List.getElem?_eq_getElem hjl
  cases hl:listed.getD j true with
  |true=>simpa[hsz,hjl]using hl
  |false=>
   have:j∈Region.ready .any all.toArray listed:=by
    rw[mem_ready]
    refine⟨hl,all[j],by simp,fun e he hb=> ?_⟩
    have hlt:=o2 j _ ho e he hb
    exact Found.all_listed hr hsz n e.on (by omega) (by omega)
   rw[hr]at this
   cases this
include hf in
theorem Found.any (hQ:∀a w,HoldsE cx (St all.length) a w→Q .normal a w):∀(fuel:Nat) (listed:Array Bool) (a:Act) (w:World),listed.size=all.length→unl all.length listed≤fuel→
  Closed all (fun i=>listed.getD i false)→Inv cx all St X F (fun i=>listed.getD i false) a w→wpAny cx.P .any all.toArray Q fuel listed a w:=by
 have hend:∀(listed:Array Bool) (a:Act) (w:World),(∀j,j<all.length→listed.getD j false=true)→Inv cx all St X F (fun i=>listed.getD i false) a w→Q .normal a w:=fun listed a w hl hI=>by
  obtain⟨v,r,hH,hlen,hv,hrr⟩:=hI
  refine hQ a w ?_
  have e1:v=(St all.length).v:=by
   apply List.ext_getElem?
   intro d
   rw[hv d,zny (fun k hk=>hl k hk),hf.lexV d _ (Nat.le_refl _)]
  have:=hH.congr (r':=(St all.length).r) fun s=>by rw[hrr s,zny (fun k hk=>hl k hk),hf.lexR s _ (Nat.le_refl _)]
  rw[e1]at this
  exact this
 intro fuel
 induction fuel with
 |zero=>
  intro listed a w hsz hu hc hI
  have hall:∀j,j<all.length→listed.getD j false=true:=fun j hj=>by
   cases hl:listed.getD j true with
   |true=>simpa[hsz,hj]using hl
   |false=>
    have:j∈(List.range all.length).filter fun i=> !listed.getD i true:=by simp only[List.mem_filter,List.mem_range,hl,hj,Bool.not_false,and_self]
    have:=List.length_pos_of_mem this
    unfold unl at hu
    omega
  refine⟨?_,hend listed a w hall hI⟩
  rw[List.eq_nil_iff_forall_not_mem]
  intro j hj
  obtain⟨h1,o,ho,_⟩:=mem_ready.1 hj
  have hjl:j<all.length:=by simpa using(Array.getElem?_eq_some_iff.1 ho).1
  have:=hall j hjl
  simp[hsz,hjl]at h1 this
  rw[h1]at this
  cases this
 |succ fuel ih=>
  intro listed a w hsz hu hc hI
  refine⟨fun hr=>hend listed a w (fun j hj=>hf.all_listed hr hsz (j+1) j (by omega) hj) hI,fun j hj=> ?_⟩
  obtain⟨h1,o,ho,hall⟩:=mem_ready.1 hj
  have ho':all[j]? =some o:=by simpa using ho
  have hjl:j<all.length:=(List.getElem?_eq_some_iff.1 ho').1
  have hjf:listed.getD j false=false:=by simp[hsz,hjl]at h1⊢;exact h1
  have hset:(listed.setIfInBounds j true).getD j false=true:=by simp[hsz,hjl]
  have hset2:∀k,k≠j→(listed.setIfInBounds j true).getD k false=listed.getD k false:=fun k hk=>getD_set_ne false (Ne.symm hk)
  refine wpOp_mono (fun a' w' hI'=>ih (listed.setIfInBounds j true) a' w' (by simp[hsz]) ?_ ?_ hI') (hf.inv_step (S':=fun i=>(listed.setIfInBounds j true).getD i false) hI hc ho' hjf hall hset hset2)
  ·have:unl all.length (listed.setIfInBounds j true)<unl all.length listed:=by
    unfold unl
    refine filter_lt (fun x hx hp=> ?_) ⟨j,by simp[hjl],by rw[h1];rfl,by simp[hsz,hjl]⟩
    by_cases hxj:x=j
    ·subst hxj;rw[h1];rfl
    ·rwa[getD_set_ne true (Ne.symm hxj)]at hp
   omega
  ·intro k ok hk hSk e he hb
   by_cases hkj:k=j
   ·subst hkj
    rw[ho']at hk
    cases hk
    exact getD_set_true (hall e he hb)
   ·simp only[hset2 k hkj]at hSk
    exact getD_set_true (hc k ok hk hSk e he hb)
end
theorem zou (hT:TOK cx.P T) (hm:cx.P.follows .mixedOrders=true) (hQ:∀g a w,HoldsE cx g a w→K .normal g→Q .normal a w) {ops:Array Oper} {id:Nat} {g:G} (ho:zlT ops.toList)
  (hk:aops T cx.P ops.toList ⟨some [],[]⟩ ops.toList g.v g.r K) {a:Act} {w:World} (h:HoldsE cx g a w):(Code.region id ops true).wp cx.P Q a w:=by
 obtain⟨St,X,F,g1,g2,g3,g4,g5⟩:=zjg hT ops.toList 0 [] [] g.v g.r hk
 have hf:Found cx ops.toList St X F:=⟨g4,fun j o hj=>by simpa using g5 j o hj,ho,by simpa using g3⟩
 refine wp_region_any hm ?_
 have hz:∀i,(Array.replicate ops.size false).getD i false=false:=fun i=>by
  simp only[Array.getD_eq_getD_getElem?,Array.getElem?_replicate]
  split<;>rfl
 obtain⟨β,h⟩:=h
 have:=hf.any (Q:=Q) (fun a w hH=>hQ _ a w hH (by simpa using g2)) ops.size (Array.replicate ops.size false) a {w with drawn:=w.drawn+1} (by simp)
  (by unfold unl;exact Nat.le_trans (List.length_filter_le _ _) (by simp)) (fun j o _ hS=>by have hS':=hz j;simp only at hS;rw[hS']at hS;cases hS)
  ⟨g.v,g.r,⟨β,h.drew⟩,by rw[g1],fun d=>by rw[zeJ (fun k _=>hz k),g1],fun s=>by rw[zeJ (fun k _=>hz k),g1]⟩
 simpa using this
end
section
variable {T:Nat→Option TI} {cx:Cx}
theorem zlp (hT:TOK cx.P T) (hm:cx.P.follows .mixedOrders=true):∀(c:Code) (g:G) (Qa:Ex→G→Prop) (Q:Exit→Act→World→Prop),
  (∀e g a w,HoldsE cx g a w→Qa e g→Q (zt1 e) a w)→awp T cx.P c g Qa→∀a w,HoldsE cx g a w→c.wp cx.P Q a w:=by
 intro c
 induction c with
 |skip=>intro g Qa Q hQ hk a w h;exact wp_skip (hQ .normal g a w h hk)
 |exit id=>intro g Qa Q hQ hk a w h;exact wp_exit (hQ (.exit id) g a w h hk)
 |ret=>intro g Qa Q hQ hk a w h;exact wp_ret (hQ .ret g a w h hk)
 |region id ops d=>
  intro g Qa Q hQ hk a w h
  cases d with
  |true=>exact zou hT hm (fun g a w h hq=>hQ .normal g a w h hq) hk.1 hk.2 h
  |false=>exact zos hT (fun e g a w h hq=>hQ e g a w h hq) hk h
 |seq x y ihx ihy=>
  intro g Qa Q hQ hk a w h
  refine wp_seq (ihx g _ _ (fun e g a w h hq=> ?_) hk a w h)
  cases e with
  |normal=>
   rcases hq with⟨g',h1,h2⟩|hq
   ·exact ihy g' Qa Q hQ h2 a w (h1 _ _ _ h)
   ·exact hq cx rfl Q hQ a w h
  |exit id=>exact hQ (.exit id) g a w h hq
  |ret=>exact hQ .ret g a w h hq
  |panic x=>exact hQ (.panic x) g a w h hq
 |cond c x y ihx ihy=>
  intro g Qa Q hQ hk a w h
  simp only[awp]at hk
  split at hk
  ·rename_i b hb
   obtain⟨h1,h2,h3⟩:=hk
   obtain⟨β,hh⟩:=h
   have he:=zbl (v:=g.v) (r:=g.r) hh (c:=true) rfl h1
   rw[hb]at he
   exact wp_cond_split (zas.1 he).1 (fun ht=>ihx g Qa Q hQ (h2 ht) a w ⟨β,hh⟩) (fun ht=>ihy g Qa Q hQ (h3 ht) a w ⟨β,hh⟩)
  ·rename_i hb
   obtain⟨h1,h2,h3⟩:=hk
   obtain⟨β,hh⟩:=h
   have he:=zbl (v:=g.v) (r:=g.r) hh (c:=true) rfl h1
   rw[hb]at he
   simp only[ReA,ReC]at he
   obtain⟨b,hb'⟩:=he
   exact wp_cond_split hb' (fun _=>ihx g Qa Q hQ h2 a w ⟨β,hh⟩) (fun _=>ihy g Qa Q hQ h3 a w ⟨β,hh⟩)
  ·exact hk.elim
 |block id x ih=>
  intro g Qa Q hQ hk a w h
  refine wp_block (ih g _ _ (fun e g a w h hq=> ?_) hk a w h)
  cases e with
  |normal=>exact hQ .normal g a w h hq
  |exit id'=>
   simp only[zt1,Exit.inBlock]
   simp only at hq
   split
   ·rename_i hid;rw[if_pos hid]at hq;exact hQ .normal g a w h hq
   ·rename_i hid;rw[if_neg hid]at hq;exact hQ (.exit id') g a w h hq
  |ret=>exact hQ .ret g a w h hq
  |panic x=>exact hQ (.panic x) g a w h hq
 |loop x ih=>
  intro g Qa Q hQ hk a w h
  obtain⟨I,n0,⟨g0,h0,h1⟩,h2⟩:=hk
  refine wp_loop_ghost (fun n a w=>∃g,I n g∧HoldsE cx g a w) n0 ⟨g0,h1,h0 _ _ _ h⟩ ?_
  rintro n a w ⟨g',hI,hh⟩
  refine ih g' _ _ (fun e g a w h hq=> ?_) (h2 n g' hI) a w hh
  cases e with
  |normal=>
   obtain⟨n',g1,k1,k2,k3⟩:=hq
   exact⟨n',k1,g1,k3,k2 _ _ _ h⟩
  |exit id=>exact hQ (.exit id) g a w h hq
  |ret=>exact hQ .ret g a w h hq
  |panic x=>exact hQ (.panic x) g a w h hq
 |label l=>intro g Qa Q hQ hk a w h;exact wp_label (hQ .normal g a w h hk)
 |scope x ih=>
  intro g Qa Q hQ hk a w h
  refine wp_scope_straight (ih g _ _ (fun e g a w h hq=> ?_) hk a w h)
  cases e with
  |normal=>exact hQ .normal g a w h hq
  |exit id=>exact hQ (.exit id) g a w h hq
  |ret=>exact hQ .ret g a w h hq
  |panic x=>exact hQ (.panic x) g a w h hq
 |_=>intro g Qa Q hQ hk a w h;exact hk.elim
end
def openV:Nat→List Arg→List AV
 |_,[]=>[]
 |p, .f x::xs=>x::openV (p+1) xs
 |p, .obj _::xs=> .one (.ptr ⟨p,0,0⟩ 0)::openV (p+1) xs
 |p, .row _ n _::xs=> .one (.own ⟨p,1,0⟩ 0 n)::openV (p+1) xs
 |p, .agr pre post _ n _::xs=> .agg (pre++ .own ⟨p,1,0⟩ 0 n::post)::openV (p+1) xs
def bRs:List RO→List (Option Res)
 |[]=>[]
 | .d _::xs=>none::bRs xs
 | .own sz _ ds _::xs=>some {e:=0,var:=false,fz:=false,bor:=true,sz,cells:=ds.map C.d}::bRs xs
def openR:Nat→List Arg→Rs
 |_,[]=>[]
 |p, .f _::xs=>openR (p+1) xs
 |p, .obj l::xs=>(p,{next:=1,l:=some {e:=0,var:=true,fz:=false,bor:=true,sz:=0,cells:=bindCs p 0 0 l}::bRs l})::openR (p+1) xs
 |p, .row sz _ ds::xs=>(p,{next:=1,l:=[none,some {e:=0,var:=false,fz:=false,bor:=true,sz,cells:=ds.map C.d}]})::openR (p+1) xs
 |p, .agr _ _ sz _ ds::xs=>(p,{next:=1,l:=[none,some {e:=0,var:=false,fz:=false,bor:=true,sz,cells:=ds.map C.d}]})::openR (p+1) xs
def objPos:Nat→List Arg→List Pos
 |_,[]=>[]
 |p, .f _::xs=>objPos (p+1) xs
 |p, .obj _::xs=> .o p::objPos (p+1) xs
 |p, .row _ n _::xs=> .r p n::objPos (p+1) xs
 |p, .agr _ _ _ n _::xs=> .r p n::objPos (p+1) xs
def zeK:Nat→List Arg→List (Nat×Nat)
 |_,[]=>[]
 |p, .f _::xs=>zeK (p+1) xs
 |p, .obj l::xs=>(List.range l.length).map (fun i=>(p,i+1))++zeK (p+1) xs
 |p, .row _ _ _::xs=>(p,1)::zeK (p+1) xs
 |p, .agr _ _ _ _ _::xs=>(p,1)::zeK (p+1) xs
def zbg (γ:Nat→Pl):Nat→Nat→List Arg→List Hold→Nat→Nat→Pl
 |p,k, .f _::xs,bs=>zbg γ (p+1) k xs bs
 |p,k, .row _ _ _::xs, .val _::bs=>fun s j=>if s=p then γ k else zbg γ (p+1) (k+1) xs bs s j
 |p,k, .agr _ _ _ _ _::xs, .val _::bs=>fun s j=>if s=p then γ k else zbg γ (p+1) (k+1) xs bs s j
 |p,k, .obj l::xs, .blk b::bs=>fun s j=>if s=p then(if j=0 then⟨some (b,0),0⟩else γ (k+(j - 1)))else zbg γ (p+1) (k+l.length) xs bs s j
 |_,_,_,_=>fun _ _=>⟨none,0⟩
section
variable {P:Program} {w:World} {A0 Bor:Nat→Prop} {γ:Nat→Pl}
theorem zmG:∀{l:List RO} {j:Nat} {res:Res},(bRs l)[j]? =some (some res)→∃sz n ds bo,l[j]? =some (RO.own sz n ds bo)∧res={e:=0,var:=false,fz:=false,bor:=true,sz,cells:=ds.map C.d}
 |[],j,_,h=>by simp[bRs]at h
 | .d x::l,0,_,h=>by simp[bRs]at h
 | .own sz n ds bo::l,0,res,h=>by
  simp only[bRs,List.getElem?_cons_zero,Option.some.injEq]at h
  exact⟨sz,n,ds,bo,by simp,h.symm⟩
 | .d x::l,j+1,res,h=>by simpa using zmG (l:=l) (j:=j) (by simpa[bRs]using h)
 | .own .. ::l,j+1,res,h=>by simpa using zmG (l:=l) (j:=j) (by simpa[bRs]using h)
theorem zpQ:∀{l:List RO} {j sz n:Nat} {ds:List D} {bo:Bool},l[j]? =some (RO.own sz n ds bo)→(bRs l)[j]? =some (some {e:=0,var:=false,fz:=false,bor:=true,sz,cells:=ds.map C.d})
 |[],j,_,_,_,_,h=>by simp at h
 | .d x::l,0,_,_,_,_,h=>by simp at h
 | .own sz n ds bo::l,0,_,_,_,_,h=>by
  simp only[List.getElem?_cons_zero,Option.some.injEq,RO.own.injEq]at h
  obtain⟨rfl,rfl,rfl,rfl⟩:=h
  rfl
 | .d x::l,j+1,sz,n,ds,bo,h=>by simpa[bRs]using zpQ (l:=l) (j:=j) (by simpa using h)
 | .own .. ::l,j+1,sz,n,ds,bo,h=>by simpa[bRs]using zpQ (l:=l) (j:=j) (by simpa using h)
theorem zd2:∀{args:List Arg} {p s j:Nat} {res:Res},lookR (openR p args) s j=some res→nxt (openR p args) s=1
 |[],_,_,_,_,h=>by simp[openR,lookR,findR]at h
 | .f _::xs,p,s,j,res,h=>zd2 (args:=xs) (p:=p+1) (by simpa[openR]using h)
 | .obj l::xs,p,s,j,res,h=>by
  simp only[openR,lookR,findR]at h
  simp only[openR,nxt,findR]
  by_cases hp:p=s
  ·rw[if_pos hp]
  ·rw[if_neg hp]at h⊢
   exact zd2 (args:=xs) (p:=p+1) (s:=s) (j:=j) (res:=res) (by unfold lookR;exact h)
 | .row .. ::xs,p,s,j,res,h=>by
  simp only[openR,lookR,findR]at h
  simp only[openR,nxt,findR]
  by_cases hp:p=s
  ·rw[if_pos hp]
  ·rw[if_neg hp]at h⊢
   exact zd2 (args:=xs) (p:=p+1) (s:=s) (j:=j) (res:=res) (by unfold lookR;exact h)
 | .agr .. ::xs,p,s,j,res,h=>by
  simp only[openR,lookR,findR]at h
  simp only[openR,nxt,findR]
  by_cases hp:p=s
  ·rw[if_pos hp]
  ·rw[if_neg hp]at h⊢
   exact zd2 (args:=xs) (p:=p+1) (s:=s) (j:=j) (res:=res) (by unfold lookR;exact h)
theorem zcJ:∀{args:List Arg} {p k s j:Nat} {res:Res} {bs:List Hold} {us:List Value},zaq P w A0 Bor γ k args bs us→lookR (openR p args) s j=some res→
  p≤s∧res.e=0∧res.fz=false∧res.bor=true∧
  ((res.var=true∧j=0∧∃(i b:Nat) (l:List RO) (m:Nat) (c:Array Value) (e:Nat),(objPos p args)[i]? =some (.o s)∧bs[i]? =some (.blk b)∧Bor b∧zbg γ p k args bs s 0=⟨some (b,0),0⟩∧w.heap[b]? =some (.cells c e (0,0))∧
    res.cells=bindCs s 0 0 l∧ROcs A0 w γ m l c.toList∧(∀u∈c.toList,flat u=true)∧
    (∀(i sz n:Nat) (ds:List D) (bo:Bool),l[i]? =some (.own sz n ds bo)→lookR (openR p args) s (i+1)=some {e:=0,var:=false,fz:=false,bor:=true,sz,cells:=ds.map C.d}∧
     zbg γ p k args bs s (i+1)=γ (m+i)))∨
   (res.var=false∧∃(m sz n:Nat) (ds:List D) (bo:Bool),(zeK p args)[m]? =some (s,j)∧(zal args)[m]? =some (.own sz n ds bo)∧zbg γ p k args bs s j=γ (k+m)∧res.sz=sz∧res.cells=ds.map C.d∧
    RowM w A0 (γ (k+m)) sz ds))
 |[],_,_,_,_,_,_,_,_,h=>by simp[openR,lookR,findR]at h
 | .f x::xs,p,k,s,j,res,bs,us,ha,h=>by
  simp only[zaq]at ha
  obtain⟨u,us',_,_,ha⟩:=ha
  obtain⟨h1,h2⟩:=zcJ (p:=p+1) ha (by simpa[openR]using h)
  exact⟨by omega,h2⟩
 | .obj l::xs,p,k,s,j,res,bs,us,ha,h=>by
  simp only[zaq]at ha
  obtain⟨b,bs',us',c,e,rfl,rfl,hB,hw,hro,hfl,ha⟩:=ha
  by_cases hp:p=s
  ·subst hp
   have hl:∀i,lookR (openR p (.obj l::xs)) p i=(match (some {e:=0,var:=true,fz:=false,bor:=true,sz:=0,cells:=bindCs p 0 0 l}::bRs l)[i]? with|some (some res)=>some res|_=>none):=fun i=>by
    simp only[openR,lookR,findR,if_true]
    rfl
   rw[hl]at h
   cases j with
   |zero=>
    simp only[List.getElem?_cons_zero,Option.some.injEq]at h
    subst h
    refine⟨Nat.le_refl _,rfl,rfl,rfl, .inl ⟨rfl,rfl,0,b,l,k,c,e,by simp[objPos],by simp,hB,by simp[zbg],hw,rfl,hro,hfl,fun i sz n ds bo hi=>⟨?_,by simp[zbg]⟩⟩⟩
    rw[hl]
    simp[zpQ hi]
   |succ i=>
    simp only[List.getElem?_cons_succ]at h
    split at h
    ·rename_i q hq
     cases h
     obtain⟨sz,n,ds,bo,g1,rfl⟩:=zmG hq
     have hi:i<l.length:=(List.getElem?_eq_some_iff.1 g1).1
     have hrow:=ROcs.row hro g1
     refine⟨Nat.le_refl _,rfl,rfl,rfl, .inr ⟨rfl,i,sz,n,ds,bo, ?_, ?_,by simp[zbg],rfl,rfl,hrow⟩⟩
     ·simp only[zeK]
      rw[List.getElem?_append_left (by simpa using hi)]
      simp[hi]
     ·simp only[zal]
      rw[List.getElem?_append_left hi]
      exact g1
    ·cases h
  ·have hl:∀s' i,p≠s'→lookR (openR p (.obj l::xs)) s' i=lookR (openR (p+1) xs) s' i:=fun s' i hs'=>by
    simp only[openR,lookR,findR,if_neg hs']
   rw[hl s j hp]at h
   obtain⟨h1,h2,h3,h4,h5⟩:=zcJ (p:=p+1) ha h
   have hb:∀j',zbg γ p k (.obj l::xs) (.blk b::bs') s j'=zbg γ (p+1) (k+l.length) xs bs' s j':=fun j'=>by
    simp only[zbg]
    rw[if_neg (Ne.symm hp)]
   refine⟨by omega,h2,h3,h4, ?_⟩
   rcases h5 with⟨g0,g1,i,b',l',m,c',e',g2,g3,g4,g5,g6,g7,g8,g9,g10⟩|⟨g0,m,sz,n,ds,bo,g1,g2,g3,g4,g5,g6⟩
   ·refine .inl ⟨g0,g1,i+1,b',l',m,c',e',by simpa[objPos]using g2,by simpa using g3,g4,by rw[hb];exact g5,g6,g7,g8,g9,fun i sz n ds bo hi=> ?_⟩
    rw[hl _ _ hp,hb]
    exact g10 i sz n ds bo hi
   ·refine .inr ⟨g0,l.length+m,sz,n,ds,bo, ?_, ?_, ?_,g4,g5, ?_⟩
    ·simp only[zeK]
     rw[List.getElem?_append_right (by simp)]
     simpa using g1
    ·simp only[zal]
     rw[List.getElem?_append_right (by simp)]
     simpa using g2
    ·rw[hb,g3,Nat.add_assoc]
    ·rw[←Nat.add_assoc];exact g6
 | .row sz0 n0 ds0::xs,p,k,s,j,res,bs,us,ha,h=>by
  simp only[zaq]at ha
  obtain⟨u,bs',us',rfl,rfl,hro,ha⟩:=ha
  by_cases hp:p=s
  ·subst hp
   have hl:∀i,lookR (openR p (.row sz0 n0 ds0::xs)) p i=(match ([none,some {e:=0,var:=false,fz:=false,bor:=true,sz:=sz0,cells:=ds0.map C.d}]:List (Option Res))[i]? with|some (some res)=>some res|_=>none):=fun i=>by
    simp only[openR,lookR,findR,if_true]
    rfl
   rw[hl]at h
   simp only[ROc]at hro
   match j,h with
   |0,h=>simp at h
   |1,h=>
    simp only[List.getElem?_cons_succ,List.getElem?_cons_zero,Option.some.injEq]at h
    subst h
    exact⟨Nat.le_refl _,rfl,rfl,rfl, .inr ⟨rfl,0,sz0,n0,ds0,true,by simp[zeK],by simp[zal],by simp[zbg],rfl,rfl,hro.2.2.1⟩⟩
   |j+2,h=>simp at h
  ·have hl:∀s' i,p≠s'→lookR (openR p (.row sz0 n0 ds0::xs)) s' i=lookR (openR (p+1) xs) s' i:=fun s' i hs'=>by
    simp only[openR,lookR,findR,if_neg hs']
   rw[hl s j hp]at h
   obtain⟨h1,h2,h3,h4,h5⟩:=zcJ (p:=p+1) ha h
   have hb:∀j',zbg γ p k (.row sz0 n0 ds0::xs) (.val u::bs') s j'=zbg γ (p+1) (k+1) xs bs' s j':=fun j'=>by
    simp only[zbg]
    rw[if_neg (Ne.symm hp)]
   refine⟨by omega,h2,h3,h4, ?_⟩
   rcases h5 with⟨g0,g1,i,b',l',m,c',e',g2,g3,g4,g5,g6,g7,g8,g9,g10⟩|⟨g0,m,sz,n,ds,bo,g1,g2,g3,g4,g5,g6⟩
   ·refine .inl ⟨g0,g1,i+1,b',l',m,c',e',by simpa[objPos]using g2,by simpa using g3,g4,by rw[hb];exact g5,g6,g7,g8,g9,fun i sz n ds bo hi=> ?_⟩
    rw[hl _ _ hp,hb]
    exact g10 i sz n ds bo hi
   ·refine .inr ⟨g0,m+1,sz,n,ds,bo,by simpa[zeK]using g1,by simpa[zal]using g2, ?_,g4,g5, ?_⟩
    ·rw[hb,g3];congr 1;omega
    ·rw[show k+(m+1)=k+1+m from by omega];exact g6
 | .agr pre0 post0 sz0 n0 ds0::xs,p,k,s,j,res,bs,us,ha,h=>by
  simp only[zaq]at ha
  obtain⟨vs,u,ws,bs',us',rfl,rfl,_,_,hro,ha⟩:=ha
  by_cases hp:p=s
  ·subst hp
   have hl:∀i,lookR (openR p (.agr pre0 post0 sz0 n0 ds0::xs)) p i=(match ([none,some {e:=0,var:=false,fz:=false,bor:=true,sz:=sz0,cells:=ds0.map C.d}]:List (Option Res))[i]? with|some (some res)=>some res|_=>none):=fun i=>by
    simp only[openR,lookR,findR,if_true]
    rfl
   rw[hl]at h
   simp only[ROc]at hro
   match j,h with
   |0,h=>simp at h
   |1,h=>
    simp only[List.getElem?_cons_succ,List.getElem?_cons_zero,Option.some.injEq]at h
    subst h
    exact⟨Nat.le_refl _,rfl,rfl,rfl, .inr ⟨rfl,0,sz0,n0,ds0,true,by simp[zeK],by simp[zal],by simp[zbg],rfl,rfl,hro.2.2.1⟩⟩
   |j+2,h=>simp at h
  ·have hl:∀s' i,p≠s'→lookR (openR p (.agr pre0 post0 sz0 n0 ds0::xs)) s' i=lookR (openR (p+1) xs) s' i:=fun s' i hs'=>by
    simp only[openR,lookR,findR,if_neg hs']
   rw[hl s j hp]at h
   obtain⟨h1,h2,h3,h4,h5⟩:=zcJ (p:=p+1) ha h
   have hb:∀j',zbg γ p k (.agr pre0 post0 sz0 n0 ds0::xs) (.val u::bs') s j'=zbg γ (p+1) (k+1) xs bs' s j':=fun j'=>by
    simp only[zbg]
    rw[if_neg (Ne.symm hp)]
   refine⟨by omega,h2,h3,h4, ?_⟩
   rcases h5 with⟨g0,g1,i,b',l',m,c',e',g2,g3,g4,g5,g6,g7,g8,g9,g10⟩|⟨g0,m,sz,n,ds,bo,g1,g2,g3,g4,g5,g6⟩
   ·refine .inl ⟨g0,g1,i+1,b',l',m,c',e',by simpa[objPos]using g2,by simpa using g3,g4,by rw[hb];exact g5,g6,g7,g8,g9,fun i sz n ds bo hi=> ?_⟩
    rw[hl _ _ hp,hb]
    exact g10 i sz n ds bo hi
   ·refine .inr ⟨g0,m+1,sz,n,ds,bo,by simpa[zeK]using g1,by simpa[zal]using g2, ?_,g4,g5, ?_⟩
    ·rw[hb,g3];congr 1;omega
    ·rw[show k+(m+1)=k+1+m from by omega];exact g6
theorem zf4:∀{args:List Arg} {k:Nat} {bs:List Hold} {us:List Value},zaq P w A0 Bor γ k args bs us→us.length=args.length∧(∀p,(objPos p args).length=bs.length)∧∀p,(openV p args).length=args.length
 |[],k,bs,us,h=>by simp only[zaq]at h;obtain⟨rfl,rfl⟩:=h;exact⟨rfl,fun _=>rfl,fun _=>rfl⟩
 | .f x::xs,k,bs,us,h=>by
  simp only[zaq]at h
  obtain⟨u,us',rfl,_,h⟩:=h
  obtain⟨g1,g2,g3⟩:=zf4 h
  exact⟨by simp[g1],fun p=>by simp only[objPos];exact g2 _,fun p=>by simp[openV,g3]⟩
 | .obj l::xs,k,bs,us,h=>by
  simp only[zaq]at h
  obtain⟨b,bs',us',c,e,rfl,rfl,_,_,_,_,h⟩:=h
  obtain⟨g1,g2,g3⟩:=zf4 h
  exact⟨by simp[g1],fun p=>by simp[objPos,g2],fun p=>by simp[openV,g3]⟩
 | .row .. ::xs,k,bs,us,h=>by
  simp only[zaq]at h
  obtain⟨u,bs',us',rfl,rfl,_,h⟩:=h
  obtain⟨g1,g2,g3⟩:=zf4 h
  exact⟨by simp[g1],fun p=>by simp[objPos,g2],fun p=>by simp[openV,g3]⟩
 | .agr .. ::xs,k,bs,us,h=>by
  simp only[zaq]at h
  obtain⟨vs,u,ws,bs',us',rfl,rfl,_,_,_,h⟩:=h
  obtain⟨g1,g2,g3⟩:=zf4 h
  exact⟨by simp[g1],fun p=>by simp[objPos,g2],fun p=>by simp[openV,g3]⟩
theorem zeL:∀{args:List Arg} {p k i:Nat} {bs:List Hold} {us:List Value} {x:AV},zaq P w A0 Bor γ k args bs us→(openV p args)[i]? =some x→
  ∃u,us[i]? =some u∧(ReA (cx0 P w A0 Bor) w [] (fun _ _=>⟨none,0⟩) x u∨
   (∃b,x= .one (.ptr ⟨p+i,0,0⟩ 0)∧u= .pointer (some ⟨b,0,none⟩)∧zbg γ p k args bs (p+i) 0=⟨some (b,0),0⟩∧nxt (openR p args) (p+i)=1)∨
   (∃sz n ds m,x= .one (.own ⟨p+i,1,0⟩ 0 n)∧ROc A0 w (γ m) (.own sz n ds true) u∧zbg γ p k args bs (p+i) 1=γ m∧nxt (openR p args) (p+i)=1∧
    ∀res,getR (openR p args) ⟨p+i,1,0⟩=some res→res.var=false∧res.sz=sz∧res.cells=ds.map C.d)∨
   (∃pre post sz n ds m vs u0 ws,x= .agg (pre++ .own ⟨p+i,1,0⟩ 0 n::post)∧u= .agg (vs++u0::ws).toArray∧ReCs (cx0 P w A0 Bor) w [] (fun _ _=>⟨none,0⟩) pre vs∧ReCs (cx0 P w A0 Bor) w [] (fun _ _=>⟨none,0⟩) post ws∧
    ROc A0 w (γ m) (.own sz n ds true) u0∧zbg γ p k args bs (p+i) 1=γ m∧nxt (openR p args) (p+i)=1∧
    ∀res,getR (openR p args) ⟨p+i,1,0⟩=some res→res.var=false∧res.sz=sz∧res.cells=ds.map C.d))
 |[],p,k,i,bs,us,x,h,hi=>by simp[openV]at hi
 | .f y::xs,p,k,i,bs,us,x,h,hi=>by
  simp only[zaq]at h
  obtain⟨u,us',rfl,h1,h⟩:=h
  cases i with
  |zero=>simp only[openV,List.getElem?_cons_zero,Option.some.injEq]at hi;subst hi;exact⟨u,by simp, .inl h1⟩
  |succ i=>
   obtain⟨u',g1,g2⟩:=zeL (p:=p+1) (i:=i) h (by simpa[openV]using hi)
   rw[show p+1+i=p+(i+1) from by omega]at g2
   exact⟨u',by simpa using g1,g2⟩
 | .obj l::xs,p,k,i,bs,us,x,h,hi=>by
  simp only[zaq]at h
  obtain⟨b,bs',us',c,e,rfl,rfl,_,_,_,_,h⟩:=h
  cases i with
  |zero=>
   simp only[openV,List.getElem?_cons_zero,Option.some.injEq]at hi
   subst hi
   exact⟨_,by simp, .inr (.inl ⟨b,by simp,rfl,by simp[zbg],by simp[openR,nxt,findR]⟩)⟩
  |succ i=>
   obtain⟨u',g1,g2⟩:=zeL (p:=p+1) (i:=i) h (by simpa[openV]using hi)
   rw[show p+1+i=p+(i+1) from by omega]at g2
   refine⟨u',by simpa using g1,g2.imp id (Or.imp ?_ (Or.imp ?_ ?_))⟩
   ·rintro⟨b',q1,q2,q3,q4⟩
    refine⟨b',q1,q2, ?_, ?_⟩
    ·simp only[zbg];rw[if_neg (by omega)];exact q3
    ·simp only[openR,nxt,findR]
     rw[if_neg (by omega)]
     exact q4
   ·rintro⟨sz,n,ds,m,q1,q2,q3,q4,q5⟩
    refine⟨sz,n,ds,m,q1,q2, ?_, ?_, ?_⟩
    ·simp only[zbg];rw[if_neg (by omega)];exact q3
    ·simp only[openR,nxt,findR]
     rw[if_neg (by omega)]
     exact q4
    ·simp only[openR,getR,lookR,findR]
     rw[if_neg (by omega)]
     simpa only[getR,lookR]using q5
   ·rintro⟨pre,post,sz,n,ds,m,vs1,u1,ws1,q1,q2,q21,q22,q23,q3,q4,q5⟩
    refine⟨pre,post,sz,n,ds,m,vs1,u1,ws1,q1,q2,q21,q22,q23, ?_, ?_, ?_⟩
    ·simp only[zbg];rw[if_neg (by omega)];exact q3
    ·simp only[openR,nxt,findR]
     rw[if_neg (by omega)]
     exact q4
    ·simp only[openR,getR,lookR,findR]
     rw[if_neg (by omega)]
     simpa only[getR,lookR]using q5
 | .row sz0 n0 ds0::xs,p,k,i,bs,us,x,h,hi=>by
  simp only[zaq]at h
  obtain⟨u,bs',us',rfl,rfl,h0,h⟩:=h
  cases i with
  |zero=>
   simp only[openV,List.getElem?_cons_zero,Option.some.injEq]at hi
   subst hi
   refine⟨u,by simp, .inr (.inr (.inl ⟨sz0,n0,ds0,k,by simp,h0,by simp[zbg],by simp[openR,nxt,findR],fun res hr=> ?_⟩))⟩
   simp[openR,getR,lookR,findR]at hr
   subst hr
   exact⟨rfl,rfl,rfl⟩
  |succ i=>
   obtain⟨u',g1,g2⟩:=zeL (p:=p+1) (i:=i) h (by simpa[openV]using hi)
   rw[show p+1+i=p+(i+1) from by omega]at g2
   refine⟨u',by simpa using g1,g2.imp id (Or.imp ?_ (Or.imp ?_ ?_))⟩
   ·rintro⟨b',q1,q2,q3,q4⟩
    refine⟨b',q1,q2, ?_, ?_⟩
    ·simp only[zbg];rw[if_neg (by omega)];exact q3
    ·simp only[openR,nxt,findR]
     rw[if_neg (by omega)]
     exact q4
   ·rintro⟨sz,n,ds,m,q1,q2,q3,q4,q5⟩
    refine⟨sz,n,ds,m,q1,q2, ?_, ?_, ?_⟩
    ·simp only[zbg];rw[if_neg (by omega)];exact q3
    ·simp only[openR,nxt,findR]
     rw[if_neg (by omega)]
     exact q4
    ·simp only[openR,getR,lookR,findR]
     rw[if_neg (by omega)]
     simpa only[getR,lookR]using q5
   ·rintro⟨pre,post,sz,n,ds,m,vs1,u1,ws1,q1,q2,q21,q22,q23,q3,q4,q5⟩
    refine⟨pre,post,sz,n,ds,m,vs1,u1,ws1,q1,q2,q21,q22,q23, ?_, ?_, ?_⟩
    ·simp only[zbg];rw[if_neg (by omega)];exact q3
    ·simp only[openR,nxt,findR]
     rw[if_neg (by omega)]
     exact q4
    ·simp only[openR,getR,lookR,findR]
     rw[if_neg (by omega)]
     simpa only[getR,lookR]using q5
 | .agr pre0 post0 sz0 n0 ds0::xs,p,k,i,bs,us,x,h,hi=>by
  simp only[zaq]at h
  obtain⟨vs,u,ws,bs',us',rfl,rfl,h01,h02,h0,h⟩:=h
  cases i with
  |zero=>
   simp only[openV,List.getElem?_cons_zero,Option.some.injEq]at hi
   subst hi
   refine⟨_,by simp, .inr (.inr (.inr ⟨pre0,post0,sz0,n0,ds0,k,vs,u,ws,by simp,rfl,h01,h02,h0,by simp[zbg],by simp[openR,nxt,findR],fun res hr=> ?_⟩))⟩
   simp[openR,getR,lookR,findR]at hr
   subst hr
   exact⟨rfl,rfl,rfl⟩
  |succ i=>
   obtain⟨u',g1,g2⟩:=zeL (p:=p+1) (i:=i) h (by simpa[openV]using hi)
   rw[show p+1+i=p+(i+1) from by omega]at g2
   refine⟨u',by simpa using g1,g2.imp id (Or.imp ?_ (Or.imp ?_ ?_))⟩
   ·rintro⟨b',q1,q2,q3,q4⟩
    refine⟨b',q1,q2, ?_, ?_⟩
    ·simp only[zbg];rw[if_neg (by omega)];exact q3
    ·simp only[openR,nxt,findR]
     rw[if_neg (by omega)]
     exact q4
   ·rintro⟨sz,n,ds,m,q1,q2,q3,q4,q5⟩
    refine⟨sz,n,ds,m,q1,q2, ?_, ?_, ?_⟩
    ·simp only[zbg];rw[if_neg (by omega)];exact q3
    ·simp only[openR,nxt,findR]
     rw[if_neg (by omega)]
     exact q4
    ·simp only[openR,getR,lookR,findR]
     rw[if_neg (by omega)]
     simpa only[getR,lookR]using q5
   ·rintro⟨pre,post,sz,n,ds,m,vs1,u1,ws1,q1,q2,q21,q22,q23,q3,q4,q5⟩
    refine⟨pre,post,sz,n,ds,m,vs1,u1,ws1,q1,q2,q21,q22,q23, ?_, ?_, ?_⟩
    ·simp only[zbg];rw[if_neg (by omega)];exact q3
    ·simp only[openR,nxt,findR]
     rw[if_neg (by omega)]
     exact q4
    ·simp only[openR,getR,lookR,findR]
     rw[if_neg (by omega)]
     simpa only[getR,lookR]using q5
end
section
variable {P:Program} {w:World} {A0 Bor:Nat→Prop} {γ:Nat→Pl} {T:Nat→Option TI}
def openG (n:Nat) (args:List Arg):G:=⟨openV 0 args++List.replicate (n - args.length) (.one .dead),openR 0 args⟩
theorem zfi:∀{bs:List Hold} {i b:Nat},bs[i]? =some (.blk b)→b∈zdG bs
 |[],i,b,h=>by simp at h
 | .blk b'::bs,0,b,h=>by simp only[List.getElem?_cons_zero,Option.some.injEq,Hold.blk.injEq]at h;subst h;simp[zdG]
 | .val u::bs,0,b,h=>by simp at h
 | .blk b'::bs,i+1,b,h=>by simp only[zdG,List.mem_cons];exact .inr (zfi (i:=i) (by simpa using h))
 | .val u::bs,i+1,b,h=>zfi (bs:=bs) (i:=i) (by simpa using h)
theorem zlq:∀{l:List Hold} {i j b:Nat},(zdG l).Nodup→l[i]? =some (.blk b)→l[j]? =some (.blk b)→i=j
 |[],i,j,b,_,h,_=>by simp at h
 |x::l,0,0,b,_,_,_=>rfl
 |x::l,0,j+1,b,hn,h,h'=>by
  simp only[List.getElem?_cons_zero,Option.some.injEq]at h
  subst h
  exact absurd (zfi (by simpa using h')) (List.nodup_cons.1 hn).1
 |x::l,i+1,0,b,hn,h,h'=>by
  simp only[List.getElem?_cons_zero,Option.some.injEq]at h'
  subst h'
  exact absurd (zfi (by simpa using h)) (List.nodup_cons.1 hn).1
 |x::l,i+1,j+1,b,hn,h,h'=>by
  have hn':(zdG l).Nodup:=by cases x with
   |blk _=>exact(List.nodup_cons.1 hn).2
   |val _=>exact hn
  rw[zlq hn' (i:=i) (j:=j) (by simpa using h) (by simpa using h')]
theorem ROcs.shift {A:Nat→Prop} {m:Nat}:∀{l:List RO} {k:Nat} {us:List Value},ROcs A w γ (m+k) l us→ROcs A w (fun i=>γ (m+i)) k l us
 |[],_,_,h=>h
 |x::l,k,us,h=>by
  simp only[ROcs]at h⊢
  obtain⟨u,us',rfl,h1,h2⟩:=h
  exact⟨u,us',rfl,h1,ROcs.shift (k:=k+1) h2⟩
def zbD:List Pos→List Hold→List (Nat×Nat)
 | .o p::ps, .blk b::bs=>(p,b)::zbD ps bs
 | .r _ _::ps,_::bs=>zbD ps bs
 | .o _::ps, .val _::bs=>zbD ps bs
 |_,_=>[]
def rowsOf:List Pos→List Hold→List (Nat×Nat×Value)
 | .r p n::ps, .val u::bs=>(p,n,u)::rowsOf ps bs
 | .o _::ps,_::bs=>rowsOf ps bs
 | .r _ _::ps, .blk _::bs=>rowsOf ps bs
 |_,_=>[]
theorem znE {cx:Cx} {w:World} {r:Rs} {β:Nat→Nat→Pl}:∀{p k:Nat} {args:List Arg} {bs:List Hold} {us:List Value} {w1:World} {A0 Bor:Nat→Prop},zaq P w1 A0 Bor γ k args bs us→
  (∀p b,(p,b)∈zbD (objPos p args) bs→True)→
  (∀q b,(q,b)∈zbD (objPos p args) bs→∀res,getR r ⟨q,0,0⟩=some res→(β q 0).base=some (b,0))→
  (∀q n u,(q,n,u)∈rowsOf (objPos p args) bs→ReC cx w r β (.own ⟨q,1,0⟩ 0 n) u)→zbM cx w r β (objPos p args) bs:=by
 intro p k args
 induction args generalizing p k with
 |nil=>intro bs us w1 A0 Bor h _ _ _;simp only[zaq]at h;obtain⟨_,rfl⟩:=h;simp[objPos,zbM]
 |cons x xs ih=>
  intro bs us w1 A0 Bor h h0 h1 h2
  cases x with
  |f y=>
   simp only[zaq]at h
   obtain⟨u,us',rfl,_,h⟩:=h
   exact ih h (fun _ _ _=>trivial) h1 h2
  |obj l=>
   simp only[zaq]at h
   obtain⟨b',bs',us',c,e,rfl,rfl,_,_,_,_,h⟩:=h
   simp only[objPos,zbM]
   refine⟨h1 p b' (by simp[objPos,zbD]),ih h (fun _ _ _=>trivial) (fun q b hm=>h1 q b (by simp[objPos,zbD,hm])) (fun q n u hm=>h2 q n u (by simpa[objPos,rowsOf]using hm))⟩
  |agr pre post sz n ds=>
   simp only[zaq]at h
   obtain⟨vs,u,ws,bs',us',rfl,rfl,_,_,_,h⟩:=h
   simp only[objPos,zbM]
   refine⟨h2 p n u (by simp[objPos,rowsOf]),ih h (fun _ _ _=>trivial) (fun q b hm=>h1 q b (by simpa[objPos,zbD]using hm)) (fun q n u hm=>h2 q n u (by simp[objPos,rowsOf,hm]))⟩
  |row sz n ds=>
   simp only[zaq]at h
   obtain⟨u,bs',us',rfl,rfl,_,h⟩:=h
   simp only[objPos,zbM]
   refine⟨h2 p n u (by simp[objPos,rowsOf]),ih h (fun _ _ _=>trivial) (fun q b hm=>h1 q b (by simpa[objPos,zbD]using hm)) (fun q n u hm=>h2 q n u (by simp[objPos,rowsOf,hm]))⟩
theorem zd3:∀{ys:List Arg} {q:Nat},(∀s b bs,(s,b)∈zbD (objPos q ys) bs→q≤s)∧(∀s n u bs,(s,n,u)∈rowsOf (objPos q ys) bs→q≤s):=by
 intro ys
 induction ys with
 |nil=>intro q;exact⟨fun s b bs h=>by simp[objPos,zbD]at h,fun s n u bs h=>by simp[objPos,rowsOf]at h⟩
 |cons y ys ih=>
  intro q
  cases y with
  |f _=>exact⟨fun s b bs h=>by have:=(ih (q:=q+1)).1 s b bs h;omega,fun s n u bs h=>by have:=(ih (q:=q+1)).2 s n u bs h;omega⟩
  |obj l=>
   refine⟨fun s b bs h=> ?_,fun s n u bs h=> ?_⟩
   ·cases bs with
    |nil=>simp[objPos,zbD]at h
    |cons b0 bs=>
     cases b0 with
     |blk b0=>
      simp only[objPos,zbD,List.mem_cons,Prod.mk.injEq]at h
      rcases h with⟨rfl,_⟩|h
      ·exact Nat.le_refl _
      ·have:=(ih (q:=q+1)).1 s b bs h;omega
     |val _=>have:=(ih (q:=q+1)).1 s b bs (by simpa[objPos,zbD]using h);omega
   ·cases bs with
    |nil=>simp[objPos,rowsOf]at h
    |cons b0 bs=>have:=(ih (q:=q+1)).2 s n u bs (by simpa[objPos,rowsOf]using h);omega
  |row sz n0 ds=>
   refine⟨fun s b bs h=> ?_,fun s n u bs h=> ?_⟩
   ·cases bs with
    |nil=>simp[objPos,zbD]at h
    |cons b0 bs=>have:=(ih (q:=q+1)).1 s b bs (by simpa[objPos,zbD]using h);omega
   ·cases bs with
    |nil=>simp[objPos,rowsOf]at h
    |cons b0 bs=>
     cases b0 with
     |val u0=>
      simp only[objPos,rowsOf,List.mem_cons,Prod.mk.injEq]at h
      rcases h with⟨rfl,_⟩|h
      ·exact Nat.le_refl _
      ·have:=(ih (q:=q+1)).2 s n u bs h;omega
     |blk _=>have:=(ih (q:=q+1)).2 s n u bs (by simpa[objPos,rowsOf]using h);omega
  |agr _ _ sz n0 ds=>
   refine⟨fun s b bs h=> ?_,fun s n u bs h=> ?_⟩
   ·cases bs with
    |nil=>simp[objPos,zbD]at h
    |cons b0 bs=>have:=(ih (q:=q+1)).1 s b bs (by simpa[objPos,zbD]using h);omega
   ·cases bs with
    |nil=>simp[objPos,rowsOf]at h
    |cons b0 bs=>
     cases b0 with
     |val u0=>
      simp only[objPos,rowsOf,List.mem_cons,Prod.mk.injEq]at h
      rcases h with⟨rfl,_⟩|h
      ·exact Nat.le_refl _
      ·have:=(ih (q:=q+1)).2 s n u bs h;omega
     |blk _=>have:=(ih (q:=q+1)).2 s n u bs (by simpa[objPos,rowsOf]using h);omega
theorem zrY:∀{p k:Nat} {args:List Arg} {bs:List Hold} {us:List Value},zaq P w A0 Bor γ k args bs us→
  ∀(s b:Nat),(s,b)∈zbD (objPos p args) bs→(zbg γ p k args bs s 0).base=some (b,0)∧nxt (openR p args) s=1:=by
 intro p k args
 induction args generalizing p k with
 |nil=>intro bs us h s b h1;simp[objPos,zbD]at h1
 |cons x xs ih=>
  intro bs us h s b h1
  cases x with
  |f y=>
   simp only[zaq]at h
   obtain⟨u,us',rfl,_,h⟩:=h
   exact ih (p:=p+1) h s b (by simpa[objPos]using h1)
  |obj l=>
   simp only[zaq]at h
   obtain⟨b',bs',us',c,e,rfl,rfl,_,_,_,_,h⟩:=h
   simp only[objPos,zbD,List.mem_cons,Prod.mk.injEq]at h1
   rcases h1 with⟨rfl,rfl⟩|h1
   ·exact⟨by simp[zbg],by simp[openR,nxt,findR]⟩
   ·have hs:=zd3.1 s b bs' h1
    have:=ih (p:=p+1) (k:=k+l.length) h s b h1
    simp only[zbg,openR,nxt,findR]
    rw[if_neg (by omega),if_neg (by omega)]
    exact this
  |row sz n ds=>
   simp only[zaq]at h
   obtain⟨u,bs',us',rfl,rfl,_,h⟩:=h
   have h1:(s,b)∈zbD (objPos (p+1) xs) bs':=by simpa[objPos,zbD]using h1
   have hs:=zd3.1 s b bs' h1
   have:=ih (p:=p+1) (k:=k+1) h s b h1
   simp only[zbg,openR,nxt,findR]
   rw[if_neg (by omega),if_neg (by omega)]
   exact this
  |agr pre post sz n ds=>
   simp only[zaq]at h
   obtain⟨vs,u,ws,bs',us',rfl,rfl,_,_,_,h⟩:=h
   have h1:(s,b)∈zbD (objPos (p+1) xs) bs':=by simpa[objPos,zbD]using h1
   have hs:=zd3.1 s b bs' h1
   have:=ih (p:=p+1) (k:=k+1) h s b h1
   simp only[zbg,openR,nxt,findR]
   rw[if_neg (by omega),if_neg (by omega)]
   exact this
theorem zrZ:∀{p k:Nat} {args:List Arg} {bs:List Hold} {us:List Value},zaq P w A0 Bor γ k args bs us→
  ∀(s n:Nat) (u:Value),(s,n,u)∈rowsOf (objPos p args) bs→∃sz ds m,ROc A0 w (γ m) (.own sz n ds true) u∧zbg γ p k args bs s 1=γ m∧nxt (openR p args) s=1∧
   ∀res,getR (openR p args) ⟨s,1,0⟩=some res→res.var=false∧res.sz=sz∧res.cells=ds.map C.d:=by
 intro p k args
 induction args generalizing p k with
 |nil=>intro bs us h s n u h1;simp[objPos,rowsOf]at h1
 |cons x xs ih=>
  intro bs us h s n u h1
  cases x with
  |f y=>
   simp only[zaq]at h
   obtain⟨u0,us',rfl,_,h⟩:=h
   exact ih (p:=p+1) h s n u (by simpa[objPos]using h1)
  |obj l=>
   simp only[zaq]at h
   obtain⟨b',bs',us',c,e,rfl,rfl,_,_,_,_,h⟩:=h
   have h1:(s,n,u)∈rowsOf (objPos (p+1) xs) bs':=by simpa[objPos,rowsOf]using h1
   have hs:=zd3.2 s n u bs' h1
   obtain⟨sz,ds,m,q1,q2,q3,q4⟩:=ih (p:=p+1) (k:=k+l.length) h s n u h1
   refine⟨sz,ds,m,q1, ?_, ?_, ?_⟩
   ·simp only[zbg];rw[if_neg (by omega)];exact q2
   ·simp only[openR,nxt,findR];rw[if_neg (by omega)];exact q3
   ·simp only[openR,getR,lookR,findR];rw[if_neg (by omega)];simpa only[getR,lookR]using q4
  |row sz n0 ds=>
   simp only[zaq]at h
   obtain⟨u0,bs',us',rfl,rfl,h0,h⟩:=h
   simp only[objPos,rowsOf,List.mem_cons,Prod.mk.injEq]at h1
   rcases h1 with⟨rfl,rfl,rfl⟩|h1
   ·refine⟨sz,ds,k,h0,by simp[zbg],by simp[openR,nxt,findR],fun res hr=> ?_⟩
    simp[openR,getR,lookR,findR]at hr
    subst hr
    exact⟨rfl,rfl,rfl⟩
   ·have hs:=zd3.2 s n u bs' h1
    obtain⟨sz,ds,m,q1,q2,q3,q4⟩:=ih (p:=p+1) (k:=k+1) h s n u h1
    refine⟨sz,ds,m,q1, ?_, ?_, ?_⟩
    ·simp only[zbg];rw[if_neg (by omega)];exact q2
    ·simp only[openR,nxt,findR];rw[if_neg (by omega)];exact q3
    ·simp only[openR,getR,lookR,findR];rw[if_neg (by omega)];simpa only[getR,lookR]using q4
  |agr pre post sz n0 ds=>
   simp only[zaq]at h
   obtain⟨vs,u0,ws,bs',us',rfl,rfl,_,_,h0,h⟩:=h
   simp only[objPos,rowsOf,List.mem_cons,Prod.mk.injEq]at h1
   rcases h1 with⟨rfl,rfl,rfl⟩|h1
   ·refine⟨sz,ds,k,h0,by simp[zbg],by simp[openR,nxt,findR],fun res hr=> ?_⟩
    simp[openR,getR,lookR,findR]at hr
    subst hr
    exact⟨rfl,rfl,rfl⟩
   ·have hs:=zd3.2 s n u bs' h1
    obtain⟨sz,ds,m,q1,q2,q3,q4⟩:=ih (p:=p+1) (k:=k+1) h s n u h1
    refine⟨sz,ds,m,q1, ?_, ?_, ?_⟩
    ·simp only[zbg];rw[if_neg (by omega)];exact q2
    ·simp only[openR,nxt,findR];rw[if_neg (by omega)];exact q3
    ·simp only[openR,getR,lookR,findR];rw[if_neg (by omega)];simpa only[getR,lookR]using q4
theorem zh1 {cx:Cx} {w:World} {r:Rs} {β:Nat→Nat→Pl} {A:Nat→Prop} {hd:Hd} {sz n:Nat} {ds:List D} {u:Value} {pl:Pl} (h:ROc A w pl (.own sz n ds true) u) (hpl:β hd.s hd.j=pl) (hlt:hd.e<nxt r hd.s)
  (hr:∀res,getR r hd=some res→res.var=false∧res.sz=sz∧res.cells=ds.map C.d):ReC cx w r β (.own hd 0 n) u:=by
 simp only[ROc]at h
 obtain⟨h1,h2,h3,ad,rfl,h5⟩:=h
 simp only[ReC]
 refine⟨rfl,hlt,fun res hres=> ?_⟩
 obtain⟨g1,g2,g3⟩:=hr res hres
 refine⟨g1,by rw[g2,g3];simpa using h1,by rw[hpl];omega,ad,by rw[hpl];simp, ?_⟩
 rw[hpl]
 rcases h5 with h5|⟨b,o,h5,h6⟩
 ·exact .inl (by omega)
 ·exact .inr ⟨b,o,h5,by simpa using h6⟩
abbrev cxO (P:Program) (w:World) (A0 Bor:Nat→Prop) (args:List Arg) (bs:List Hold):Cx:={P,w0:=w,A0,Bor,Obj:=zbD (objPos 0 args) bs,Row:=rowsOf (objPos 0 args) bs}
section
variable {cx:Cx} {r:Rs} {β:Nat→Nat→Pl} {ob:List (Nat×Nat)} {rw':List (Nat×Nat×Value)}
mutual
theorem ReC.obj:∀{c:C} {u:Value},ReC cx w r β c u→ReC {cx with Obj:=ob,Row:=rw'} w r β c u
 | .d _,_,h=>by simp only[ReC]at h⊢;exact h
 | .lent n ds,_,h=>by simp only[ReC]at h⊢;exact h
 | .own hd lo n,u,h=>by simp only[ReC]at h⊢;exact h
 | .ptr hd off,u,h=>by simp only[ReC]at h⊢;exact h
 | .elt ds,_,h=>by simp only[ReC]at h⊢;exact h
 | .clos f caps,_,h=>by
  simp only[ReC]at h⊢
  obtain⟨us,h1,h2⟩:=h
  exact⟨us,h1,ReCs.obj h2⟩
 | .ab,_,h=>by simpa only[ReC]using h
 | .dead,_,_=>by simp[ReC]
 | .eltR cs,u,h=>by
  simp only[ReC]at h⊢
  obtain⟨b,o,us,h1,h2,h3,h4,h5⟩:=h
  exact⟨b,o,us,h1,h2,h3,h4,ReCs.obj h5⟩
 | .gap hd lo n k,u,h=>by simp only[ReC]at h⊢;exact h
 | .lk hd n x,u,h=>by simp only[ReC]at h⊢;exact h
theorem ReCs.obj:∀{c:List C} {u:List Value},ReCs cx w r β c u→ReCs {cx with Obj:=ob,Row:=rw'} w r β c u
 |[],_,h=>by simpa[ReCs]using h
 |c::cs,_,h=>by
  simp only[ReCs]at h⊢
  obtain⟨u,us,h1,h2,h3⟩:=h
  exact⟨u,us,h1,ReC.obj h2,ReCs.obj h3⟩
end
mutual
theorem ReA.obj:∀{c:AV} {u:Value},ReA cx w r β c u→ReA {cx with Obj:=ob,Row:=rw'} w r β c u
 | .one _,_,h=>by simp only[ReA]at h⊢;exact h.obj
 | .agg l,_,h=>by
  simp only[ReA]at h⊢
  obtain⟨us,h1,h2⟩:=h
  exact⟨us,h1,h2.obj⟩
 | .tup l,_,h=>by
  simp only[ReA]at h⊢
  obtain⟨us,h1,h2⟩:=h
  exact⟨us,h1,ReAs.obj h2⟩
 | .gd c y,_,h=>by
  simp only[ReA]at h⊢
  exact⟨fun hc=>ReA.obj (h.1 hc),h.2⟩
theorem ReAs.obj:∀{c:List AV} {u:List Value},ReAs cx w r β c u→ReAs {cx with Obj:=ob,Row:=rw'} w r β c u
 |[],_,h=>by simpa[ReAs]using h
 |c::cs,_,h=>by
  simp only[ReAs]at h⊢
  obtain⟨u,us,h1,h2,h3⟩:=h
  exact⟨u,us,h1,ReA.obj h2,ReAs.obj h3⟩
end
end
theorem zfj {args:List Arg} {bs:List Hold} {us:List Value} {n:Nat} (h:zaq P w A0 Bor γ 0 args bs us) (hA:∀b,A0 b→b<w.heap.size) (hB:∀b,Bor b→A0 b)
  (hnb:∀b,NB γ 0 (zal args) b→Bor b∧b ∉ zdG bs) (hnd:(zdG bs).Nodup) (hap:Apart γ (zal args)):
  Holds (cxO P w A0 Bor args bs) (openG n args) {tmps:=us.toArray++Array.replicate (n - us.length) undef,defers:=[]} w (zbg γ 0 0 args bs):=by
 obtain⟨l1,l2,l3⟩:=zf4 h
 have hbase:∀s j res b o,lookR (openR 0 args) s j=some res→(zbg γ 0 0 args bs s j).base=some (b,o)→Bor b:=fun s j res b o hl hb=>by
  obtain⟨_,_,_,_,h5⟩:=zcJ h hl
  rcases h5 with⟨_,rfl,i,b',l',m,c,e,_,_,g4,g5,_⟩|⟨_,m,sz,n,ds,bo,_,g2,g3,_⟩
  ·rw[g5]at hb;cases hb;exact g4
  ·rw[g3]at hb
   exact(hnb b (zeQ (k:=0) g2 hb)).1
 have hAv:∀b,Av (cxO P w A0 Bor args bs) (openR 0 args) (zbg γ 0 0 args bs) b→A0 b:=fun b hb=>by
  rcases hb with hb|⟨s,j,res,o,hl,_,hb⟩
  ·exact hb
  ·exact hB b (hbase s j res b o hl hb)
 have hx:Ext (cxO P w A0 Bor args bs) w [] (fun _ _=>⟨none,0⟩) w (openR 0 args) (zbg γ 0 0 args bs):=
  ⟨fun s=>by simp[nxt,findR],fun hd res' hlt _=>by simp[nxt,findR]at hlt,⟨fun _ _ _=>rfl,fun b _ hb=> .inl (hAv b hb)⟩,fun _ _ _=>rfl,rfl,rfl⟩
 refine⟨by simp[openG,l1,l3],rfl,fun i x hi=> ?_,fun s j res hl=> ?_,fun s j res s' j' res' b o o' hl _ hl' _ hb hb'=> ?_,fun s j res b o hl _ hb=> ?_,Nat.le_refl _,fun _ _ _=>rfl,hA,hB,fun p b hm=> ?_,fun p n u hm=> ?_,rfl,rfl⟩
 ·simp only[openG]at hi
  rcases Nat.lt_or_ge i args.length with hlt|hge
  ·rw[List.getElem?_append_left (by rw[l3];exact hlt)]at hi
   obtain⟨u,g1,g2⟩:=zeL h hi
   refine⟨u,by rw[Array.getElem?_append_left (by simp[l1];exact hlt)];simpa using g1, ?_⟩
   rcases g2 with g2|⟨b,rfl,rfl,g3,g4⟩|⟨sz,n',ds,m,rfl,g2,g3,g4,g5⟩|⟨pre,post,sz,n',ds,m,vs1,u1,ws1,rfl,rfl,q1,q2,g2,g3,g4,g5⟩
   ·exact(ReA.obj (ob:=zbD (objPos 0 args) bs) (rw':=rowsOf (objPos 0 args) bs) g2).ext hx
   ·simp only[Nat.zero_add]at g3 g4⊢
    simp only[ReA,ReC]
    exact⟨rfl,by simp only[openG];rw[g4];exact Nat.one_pos,fun res hres=>⟨b,0,by rw[g3],rfl⟩⟩
   ·simp only[Nat.zero_add]at g3 g4 g5⊢
    exact zaN.2 (zh1 g2 g3 (by simp only[openG];rw[g4];exact Nat.one_pos) g5)
   ·simp only[Nat.zero_add]at g3 g4 g5⊢
    refine zbR.2 ⟨_,rfl, ?_⟩
    have hown:=zh1 (cx:=cxO P w A0 Bor args bs) (w:=w) (r:=openR 0 args) (β:=zbg γ 0 0 args bs) (hd:=⟨i,1,0⟩) g2 g3 (by rw[g4];exact Nat.one_pos) g5
    have h1:=(ReCs.obj (ob:=zbD (objPos 0 args) bs) (rw':=rowsOf (objPos 0 args) bs) q1).ext hx
    have h2:=(ReCs.obj (ob:=zbD (objPos 0 args) bs) (rw':=rowsOf (objPos 0 args) bs) q2).ext hx
    exact zfS h1 (by simp only[ReCs];exact⟨_,_,rfl,hown,h2⟩)
  ·rw[List.getElem?_append_right (by rw[l3];exact hge)]at hi
   rw[List.getElem?_replicate]at hi
   split at hi
   ·rename_i hlt
    cases hi
    refine⟨undef, ?_,by simp[ReA,ReC]⟩
    rw[l3]at hlt
    rw[Array.getElem?_append_right (by simp[l1];exact hge)]
    simp[l1,hlt]
   ·cases hi
 ·simp only[openG]at hl⊢
  obtain⟨_,h2,h3,h4,h5⟩:=zcJ h hl
  refine⟨?_,by rw[h2,zd2 hl];exact Nat.one_pos⟩
  rcases h5 with⟨g0,rfl,i,b,l',m,c,e,g2,g3,g4,g5,g6,g7,g8,g9,g10⟩|⟨g0,m,sz,n,ds,bo,g1,g2,g3,g4,g5,g6⟩
  ·unfold ResOK
   rw[if_pos g0]
   refine⟨h3,b,c,e,by rw[g5],g6, ?_,g9⟩
   rw[g7]
   refine zdB (γ:=fun k=>γ (m+k)) hAv (fun i sz n ds bo hi=> ?_) ?_
   ·obtain⟨q1,q2⟩:=g10 i sz n ds bo hi
    rw[Nat.zero_add]
    exact⟨⟨true,zao q1 rfl⟩,q2,by rw[zd2 hl];exact Nat.one_pos⟩
   ·exact ROcs.shift (m:=m) (k:=0) g8
  ·unfold ResOK
   rw[if_neg (by simp[g0])]
   refine⟨ds,g5, ?_,fun hf=>by rw[h3]at hf;cases hf⟩
   rw[g3,g4,Nat.zero_add]
   rw[Nat.zero_add]at g6
   exact g6.stb ⟨fun _ _ _=>rfl,fun b _ hb=>hAv b hb⟩ (fun _ _ _=>rfl)
 ·simp only[openG]at hl hl'
  obtain⟨_,_,_,_,h5⟩:=zcJ h hl
  obtain⟨_,_,_,_,h5'⟩:=zcJ h hl'
  rcases h5 with⟨g0,rfl,i,b1,l',m,c,e,g2,g3,g4,g5,g6⟩|⟨g0,m,sz,n,ds,bo,g1,g2,g3,g4⟩<;>
   rcases h5' with⟨k0,rfl,i',b1',l'',m',c',e',k2,k3,k4,k5,k6⟩|⟨k0,m',sz',n',ds',bo',k1,k2,k3,k4⟩
  ·rw[g5]at hb
   rw[k5]at hb'
   cases hb
   cases hb'
   have hi:i=i':=zlq hnd g3 k3
   subst hi
   rw[g2]at k2
   cases k2
   exact⟨rfl,rfl⟩
  ·rw[g5]at hb
   rw[k3]at hb'
   cases hb
   exact absurd (zfi g3) (hnb _ (zeQ (k:=0) k2 hb')).2
  ·rw[g3]at hb
   rw[k5]at hb'
   cases hb'
   exact absurd (zfi k3) (hnb _ (zeQ (k:=0) g2 hb)).2
  ·rw[g3,Nat.zero_add]at hb
   rw[k3,Nat.zero_add]at hb'
   have:=hap m m' b o o' sz n ds bo sz' n' ds' bo' g2 k2 hb hb'
   subst this
   rw[g1]at k1
   cases k1
   exact⟨rfl,rfl⟩
 ·exact⟨.inr (hbase s j res b o hl hb),fun hbor=>by
   obtain⟨_,_,_,h4,_⟩:=zcJ h (by simpa[openG]using hl)
   rw[h4]at hbor;cases hbor⟩
 ·obtain⟨e1,e2⟩:=zrY h p b hm
  simp only[openG]
  exact⟨by rw[e2];exact Nat.one_pos,fun _ _=>e1⟩
 ·obtain⟨sz,ds,m,q1,q2,q3,q4⟩:=zrZ h p n u hm
  exact zh1 q1 q2 (by simp only[openG];rw[q3];exact Nat.one_pos) q4
end
section
variable {P:Program} {cx:Cx} {T:Nat→Option TI} {v:List AV} {r:Rs} {a:Act} {w:World} {β:Nat→Nat→Pl}
def res1 (tmps:Array Value):ResultVar→Sem Value
 | .tmp t=>pure (tmps.getD t undef)
 | .cell a t=>do loadVar t (←asAddr (tmps.getD a undef))
theorem zov (fn:Func) (tmps:Array Value):results fn tmps=(do
  let vs←fn.results.mapM (res1 tmps)
  pure (if h:vs.size=1 then vs[0]else .tuple vs)):=by
 unfold results res1
 rfl
theorem zux (hT:TOK cx.P T) (h:Holds cx ⟨v,r⟩ a w β) {x:ResultVar} (hs:(resA T v r x).1):
  ∃u,(res1 a.tmps x).run cx.P w= .ok u w∧ReA cx w r β (resA T v r x).2 u:=by
 cases x with
 |tmp t=>exact⟨a.eval (.tmp t),by simp[res1,Act.eval],zlN h (.tmp t)⟩
 |cell p t=>
  simp only[resA]at hs⊢
  have hg:=zlN h (.tmp p)
  split at hs
  ·rename_i hd off h1
   try simp only[h1]
   rw[h1]at hg
   split at hs
   ·rename_i res h2
    try simp only[h2]
    simp only[ReA,ReC]at hg
    obtain⟨b,o',g1,g2⟩:=hg.2.2 res h2
    obtain⟨hl,_⟩:=zad h2
    have hcs:=((h.rs _ _ _ hl).1.cells g1).drop (k:=off)
    obtain⟨u,f1,f2⟩:=zkl hT hcs hs
    refine⟨u, ?_,f2⟩
    have g2':a.tmps[p]?.getD undef= .pointer (some ⟨b,o'+off,none⟩):=by simpa[Act.eval]using g2
    simp[res1,g2',asAddr,f1]
   ·exact hs.elim
  ·exact hs.elim
theorem zhs (hT:TOK cx.P T) (h:Holds cx ⟨v,r⟩ a w β):∀{xs:List ResultVar},(resAs T v r xs).1→
  ∃us,(xs.mapM (res1 a.tmps)).run cx.P w= .ok us w∧ReAs cx w r β (resAs T v r xs).2 us
 |[],_=>⟨[],by simp,by simp[resAs,ReAs]⟩
 |x::xs,hs=>by
  simp only[resAs]at hs⊢
  obtain⟨u,h1,h2⟩:=zux hT h hs.1
  obtain⟨us,h3,h4⟩:=zhs hT h hs.2
  refine⟨u::us, ?_,by simp only[ReAs];exact⟨u,us,rfl,h2,h4⟩⟩
  rw[List.mapM_cons]
  simp[h1,h3]
theorem zfN {fn:Func} {rvs:List ResultVar} {tmps:Array Value} {us:List Value} (hr:fn.results=rvs.toArray) (h:(rvs.mapM (res1 tmps)).run P w= .ok us w):
  (results fn tmps).run P w= .ok (zsr us) w:=by
 rw[zov,hr,List.mapM_toArray]
 simp only[Sem.run_bind,map_eq_pure_bind,h,Result.andThen_ok]
 simp only[Sem.run_pure,Result.andThen_ok]
 congr 1
 cases us with
 |nil=>rfl
 |cons x xs=>
  cases xs with
  |nil=>rfl
  |cons y ys=>simp[zsr]
def zow (T:Nat→Option TI) (rvs:List ResultVar) (ps:List Pos) (post:List RF→List (List RO)→Prop) (e:Ex) (g:G):Prop:=
 match e with
 | .normal=>closeA T rvs ps post g
 | .ret=>closeA T rvs ps post g
 | .exit _=>False
 | .panic _=>False
theorem EndQ_normal {rvs:List ResultVar} {ps:List Pos} {post:List RF→List (List RO)→Prop} {g:G}:zow T rvs ps post .normal g=closeA T rvs ps post g:=rfl
theorem EndQ_ret {rvs:List ResultVar} {ps:List Pos} {post:List RF→List (List RO)→Prop} {g:G}:zow T rvs ps post .ret g=closeA T rvs ps post g:=rfl
theorem EndQ_exit {rvs:List ResultVar} {ps:List Pos} {post:List RF→List (List RO)→Prop} {g:G} {id:Nat}:zow T rvs ps post (.exit id) g=False:=rfl
theorem zeM:∀{ps:List Pos} {cs:List (List C)} {bs:List Hold} {b:Nat},zcG r ps cs→zbM cx w r β ps bs→b∈zdG bs→∃hd res,getR r hd=some res∧res.var=true∧(β hd.s hd.j).base=some (b,0)
 |[],_,[],_,_,_,h=>by simp[zdG]at h
 |[],_,_::_,_,_,hp,_=>by simp[zbM]at hp
 | .o p::ps,[],_,_,h1,_,_=>by simp[zcG]at h1
 | .o p::ps,_::_,[],_,_,hp,_=>by simp[zbM]at hp
 | .o p::ps,_::_, .val _::_,_,_,hp,_=>by simp[zbM]at hp
 | .o p::ps,c::cs, .blk b0::bs,b,h1,hp,hm=>by
  simp only[zcG]at h1
  simp only[zbM]at hp
  obtain⟨⟨res,g1,g2,_⟩,g3⟩:=h1
  simp only[zdG,List.mem_cons]at hm
  rcases hm with rfl|hm
  ·exact⟨⟨p,0,0⟩,res,g1,g2,hp.1 res g1⟩
  ·exact zeM g3 hp.2 hm
 | .h hd::ps,[],_,_,h1,_,_=>by simp[zcG]at h1
 | .h hd::ps,_::_,[],_,_,hp,_=>by simp[zbM]at hp
 | .h hd::ps,_::_, .val _::_,_,_,hp,_=>by simp[zbM]at hp
 | .h hd::ps,c::cs, .blk b0::bs,b,h1,hp,hm=>by
  simp only[zcG]at h1
  simp only[zbM]at hp
  obtain⟨⟨res,g1,g2,_⟩,g3⟩:=h1
  simp only[zdG,List.mem_cons]at hm
  rcases hm with rfl|hm
  ·exact⟨hd,res,g1,g2,hp.1 res g1⟩
  ·exact zeM g3 hp.2 hm
 | .r p n::ps,[],_,_,h1,_,_=>by simp[zcG]at h1
 | .r p n::ps,_::_,[],_,_,hp,_=>by simp[zbM]at hp
 | .r p n::ps,_::_, .blk _::_,_,_,hp,_=>by simp[zbM]at hp
 | .r p n::ps,c::cs, .val u::bs,b,h1,hp,hm=>by
  simp only[zcG]at h1
  simp only[zbM]at hp
  exact zeM h1.2 hp.2 (by simpa[zdG]using hm)
theorem zjh (hT:TOK P T) (hm:P.follows .mixedOrders=true) {f:FuncId} {fn:Func} {c:Code} {rvs:List ResultVar} {n:Nat} (hf:P.funcs[f]? =some fn) (hb:fn.body=some c)
  (hres:fn.results=rvs.toArray) (hn:fn.ntmps=n) (hcall:∀(us:Array Value) (w:World),(callFunc f us).run P w= .ok (.enter f us) w) {args:List Arg} {post:List RF→List (List RO)→Prop}
  (F:Nat→G) (Cd:Nat→Prop) (hF:∀cx a w,HoldsE cx (openG n args) a w→∃k,Cd k∧HoldsE cx (F k) a w)
  (h:∀k,Cd k→awp T P c (F k) (zow T rvs (objPos 0 args) post)):CallOK P f args post:=by
 refine⟨hcall,fun w A0 Bor γ bs us hA hB ha hnb hnd hap=> ?_⟩
 refine calls_of_wp hf hb ?_
 have h0:=zfj (n:=n) ha hA hB hnb hnd hap
 have hend:∀g a w',HoldsE (cxO P w A0 Bor args bs) g a w'→closeA T rvs (objPos 0 args) post g→
   a.defers=[]∧∃v,(results fn a.tmps).run P w'= .ok v w'∧∃rfs objs u,post rfs objs∧Ending.returned v= .returned u∧Ret w A0 Bor w' bs rfs objs u:=by
  rintro⟨v,r⟩ a w' ⟨β,hh⟩ ⟨g1,g2⟩
  obtain⟨vs,k1,k2⟩:=zhs (cx:=cxO P w A0 Bor args bs) hT hh g1
  refine⟨hh.df,zsr vs,zfN hres k1, ?_⟩
  unfold closeB at g2
  split at g2
  ·rename_i rfs cs q1 q2
   split at g2
   ·rename_i objs q3
    refine⟨rfs,objs,zsr vs,g2.2,rfl, ?_⟩
    have hpos:zbM (cxO P w A0 Bor args bs) w' r β (objPos 0 args) bs:=znE ha (fun _ _ _=>trivial) (fun q b hm res hg=>(hh.ob q b hm).2 res hg) (fun q n u hm=>hh.rw q n u hm)
    refine zqi (cx:=cxO P w A0 Bor args bs) hh (A1:=A0) (fun b hb=> .inl hb) k2 rfl q1 (zeR q2) q3 g2.1 hpos (fun s j res b o hl hfz hv hbase hmem=> ?_)
    obtain⟨p,res',e1,e2,hbase'⟩:=zeM (zeR q2) hpos hmem
    have hlk:=(zad e1).1
    have hf':res'.fz=false:=by
     cases hq:res'.fz with
     |false=>rfl
     |true=>have:=hh.vz _ _ _ hlk hq;rw[e2]at this;cases this
    obtain⟨p1,p2⟩:=hh.inj _ _ _ _ _ _ _ _ _ hl hfz hlk hf' hbase hbase'
    subst p1 p2
    rw[hl]at hlk
    cases hlk
    rw[hv]at e2
    cases e2
   ·exact g2.elim
  ·exact g2.elim
 have hact:({tmps:=us.toArray++Array.replicate (fn.ntmps - us.toArray.size) undef,defers:=[]}:Act)={tmps:=us.toArray++Array.replicate (n - us.length) undef,defers:=[]}:=by rw[hn];simp
 rw[hact]
 obtain⟨k,hk,hFk⟩:=hF _ _ _ ⟨_,h0⟩
 refine zlp (cx:=cxO P w A0 Bor args bs) hT hm c (F k) _ _ (fun e g a w' hh hq=> ?_) (h k hk) _ _ hFk
 cases e with
 |normal=>exact hend g a w' hh hq
 |ret=>exact hend g a w' hh hq
 |exit id=>exact hq.elim
 |panic x=>exact hq.elim
theorem zdx (hT:TOK P T) (hm:P.follows .mixedOrders=true) {f:FuncId} {fn:Func} {c:Code} {rvs:List ResultVar} {n:Nat} (hf:P.funcs[f]? =some fn) (hb:fn.body=some c)
  (hres:fn.results=rvs.toArray) (hn:fn.ntmps=n) (hcall:∀(us:Array Value) (w:World),(callFunc f us).run P w= .ok (.enter f us) w) {args:List Arg} {post:List RF→List (List RO)→Prop}
  (h:awp T P c (openG n args) (zow T rvs (objPos 0 args) post)):CallOK P f args post:=
 zjh hT hm hf hb hres hn hcall (fun _=>openG n args) (fun _=>True) (fun _ _ _ hh=>⟨0,trivial,hh⟩) fun _ _=>h
end
section
variable {P:Program} {cx:Cx} {T:Nat→Option TI} {v:List AV} {r:Rs} {a:Act} {w:World} {β:Nat→Nat→Pl}
section
variable {cx:Cx} {r:Rs} {β:Nat→Nat→Pl} {ob:List (Nat×Nat)} {rw':List (Nat×Nat×Value)} {dd:List Deferred}
mutual
theorem ReC.dfx:∀{c:C} {u:Value},ReC cx w r β c u→ReC {cx with Obj:=ob,Row:=rw',ds:=dd} w r β c u
 | .d _,_,h=>by simp only[ReC]at h⊢;exact h
 | .lent n ds,_,h=>by simp only[ReC]at h⊢;exact h
 | .own hd lo n,u,h=>by simp only[ReC]at h⊢;exact h
 | .ptr hd off,u,h=>by simp only[ReC]at h⊢;exact h
 | .elt ds,_,h=>by simp only[ReC]at h⊢;exact h
 | .clos f caps,_,h=>by
  simp only[ReC]at h⊢
  obtain⟨us,h1,h2⟩:=h
  exact⟨us,h1,ReCs.dfx h2⟩
 | .ab,_,h=>by simpa only[ReC]using h
 | .dead,_,_=>by simp[ReC]
 | .eltR cs,u,h=>by
  simp only[ReC]at h⊢
  obtain⟨b,o,us,h1,h2,h3,h4,h5⟩:=h
  exact⟨b,o,us,h1,h2,h3,h4,ReCs.dfx h5⟩
 | .gap hd lo n k,u,h=>by simp only[ReC]at h⊢;exact h
 | .lk hd n x,u,h=>by simp only[ReC]at h⊢;exact h
theorem ReCs.dfx:∀{c:List C} {u:List Value},ReCs cx w r β c u→ReCs {cx with Obj:=ob,Row:=rw',ds:=dd} w r β c u
 |[],_,h=>by simpa[ReCs]using h
 |c::cs,_,h=>by
  simp only[ReCs]at h⊢
  obtain⟨u,us,h1,h2,h3⟩:=h
  exact⟨u,us,h1,ReC.dfx h2,ReCs.dfx h3⟩
end
mutual
theorem ReA.dfx:∀{c:AV} {u:Value},ReA cx w r β c u→ReA {cx with Obj:=ob,Row:=rw',ds:=dd} w r β c u
 | .one _,_,h=>by simp only[ReA]at h⊢;exact h.dfx
 | .agg l,_,h=>by
  simp only[ReA]at h⊢
  obtain⟨us,h1,h2⟩:=h
  exact⟨us,h1,h2.dfx⟩
 | .tup l,_,h=>by
  simp only[ReA]at h⊢
  obtain⟨us,h1,h2⟩:=h
  exact⟨us,h1,ReAs.dfx h2⟩
 | .gd c y,_,h=>by
  simp only[ReA]at h⊢
  exact⟨fun hc=>ReA.dfx (h.1 hc),h.2⟩
theorem ReAs.dfx:∀{c:List AV} {u:List Value},ReAs cx w r β c u→ReAs {cx with Obj:=ob,Row:=rw',ds:=dd} w r β c u
 |[],_,h=>by simpa[ReAs]using h
 |c::cs,_,h=>by
  simp only[ReAs]at h⊢
  obtain⟨u,us,h1,h2,h3⟩:=h
  exact⟨u,us,h1,ReA.dfx h2,ReAs.dfx h3⟩
end
theorem ResOK.dfx {pl:Pl} {res:Res} (h:ResOK cx w r β pl res):ResOK {cx with Obj:=ob,Row:=rw',ds:=dd} w r β pl res:=by
 unfold ResOK at h⊢
 split
 ·rename_i hv
  rw[if_pos hv]at h
  obtain⟨h0,b,c,e,h1,h2,h3,h4⟩:=h
  exact⟨h0,b,c,e,h1,h2,h3.dfx,h4⟩
 ·rename_i hv
  rw[if_neg hv]at h
  exact h
end
def zwe (x:Value) (e:Ex) (g:G):Prop:=
 match e with
 | .panic y=>y=x
 |_=>False
theorem zac {x y:Value} {g:G}:zwe x (.panic y) g=(y=x):=rfl
theorem zlr (hT:TOK P T) (hm:P.follows .mixedOrders=true) {f:FuncId} {fn:Func} {c:Code} {n:Nat} (hf:P.funcs[f]? =some fn) (hb:fn.body=some c)
  (hn:fn.ntmps=n) (hcall:∀(us:Array Value) (w:World),(callFunc f us).run P w= .ok (.enter f us) w) {args:List Arg} {x:Value}
  (h:awp T P c (openG n args) (zwe x)):zbE P f args x:=by
 refine⟨hcall,fun w A0 Bor γ bs us hA hB ha hnb hnd hap=> ?_⟩
 refine calls_of_wp hf hb ?_
 have h0:=zfj (n:=n) ha hA hB hnb hnd hap
 have hact:({tmps:=us.toArray++Array.replicate (fn.ntmps - us.toArray.size) undef,defers:=[]}:Act)={tmps:=us.toArray++Array.replicate (n - us.length) undef,defers:=[]}:=by rw[hn];simp
 rw[hact]
 refine zlp (cx:=cxO P w A0 Bor args bs) hT hm c _ _ _ (fun e g a w' hh hq=> ?_) h _ _ ⟨_,h0⟩
 cases e with
 |panic y=>
  obtain⟨β,hh⟩:=hh
  cases(show y=x from hq)
  exact⟨hh.df,rfl,hh.n0,hh.old,hh.os,hh.out⟩
 |normal=>exact hq.elim
 |ret=>exact hq.elim
 |exit id=>exact hq.elim
theorem ztJ (hT:TOK cx.P T) {fn:Func} {rvs:List ResultVar} {post:List RF→List (List RO)→Prop} (hres:fn.results=rvs.toArray) {g:G} (hh:HoldsE cx g a w) (hc:closeA T rvs [] post g):
  ∃v,(results fn a.tmps).run cx.P w= .ok v w∧∃rfs objs u,post rfs objs∧Ending.returned v= .returned u∧Ret cx.w0 cx.A0 cx.Bor w [] rfs objs u:=by
 obtain⟨v,r⟩:=g
 obtain⟨β,hh⟩:=hh
 obtain⟨g1,g2⟩:=hc
 obtain⟨vs,k1,k2⟩:=zhs hT hh g1
 refine⟨zsr vs,zfN hres k1, ?_⟩
 unfold closeB at g2
 split at g2
 ·rename_i rfs cs q1 q2
  split at g2
  ·rename_i objs q3
   refine⟨rfs,objs,zsr vs,g2.2,rfl, ?_⟩
   exact zqi hh (A1:=cx.A0) (fun b hb=> .inl hb) k2 rfl q1 (zeR q2) q3 g2.1 (by simp[zbM]) (fun s j res b o _ _ _ _ hm=>by simp[zdG]at hm)
  ·exact g2.elim
 ·exact g2.elim
def zr0 (n:Nat) (ks:List Nat):List AV:=(List.range n).map fun i=>if ks.contains i then .one (.ptr ⟨i,0,0⟩ 0)else .one .dead
def ziX (nw:Nat→List Value):List Nat→Rs
 |[]=>[]
 |k::ks=>(k,{next:=1,l:=[some {e:=0,var:=true,fz:=false,sz:=0,cells:=(nw k).map fun x=> .d (.v x)}]})::ziX nw ks
def zmr (n:Nat) (ks:List Nat) (nw:Nat→List Value):G:=⟨zr0 n ks,ziX nw ks⟩
def zh2 (sz:Nat→Nat) (g:G):List Nat→Prop
 |[]=>True
 |k::ks=>(∃res,g.v[k]? =some (.one (.ptr ⟨k,0,0⟩ 0))∧getR g.r ⟨k,0,0⟩=some res∧res.var=true∧res.bor=false∧res.cells.length=sz k)∧zh2 sz g ks
theorem zd4 {sz:Nat→Nat} {g:G}:∀{ks:List Nat},zh2 sz g ks→∀k∈ks,∃res,g.v[k]? =some (.one (.ptr ⟨k,0,0⟩ 0))∧getR g.r ⟨k,0,0⟩=some res∧res.var=true∧res.bor=false∧res.cells.length=sz k
 |[],_,k,hk=>by simp at hk
 |k'::ks,h,k,hk=>by
  rcases List.mem_cons.1 hk with rfl|hk
  ·exact h.1
  ·exact zd4 h.2 k hk
def zxI (T:Nat→Option TI) (rvs:List ResultVar) (n:Nat) (ks:List Nat) (sz:Nat→Nat) (nw:Value→Nat→List Value) (Px:Value→Prop) (post:List RF→List (List RO)→Prop) (e:Ex) (g:G):Prop:=
 match e with
 | .normal=>closeA T rvs [] post g
 | .ret=>closeA T rvs [] post g
 | .exit _=>False
 | .panic x=>Px x∧g.v.length=n∧zh2 sz g ks∧closeA T rvs [] post (zmr n ks (nw x))
theorem zfk {rvs:List ResultVar} {n:Nat} {ks:List Nat} {sz:Nat→Nat} {nw:Value→Nat→List Value} {Px:Value→Prop} {post:List RF→List (List RO)→Prop} {g:G}:zxI T rvs n ks sz nw Px post .ret g=closeA T rvs [] post g:=rfl
theorem za2 {rvs:List ResultVar} {n:Nat} {ks:List Nat} {sz:Nat→Nat} {nw:Value→Nat→List Value} {Px:Value→Prop} {post:List RF→List (List RO)→Prop} {g:G} {x:Value}:
  zxI T rvs n ks sz nw Px post (.panic x) g=(Px x∧g.v.length=n∧zh2 sz g ks∧closeA T rvs [] post (zmr n ks (nw x))):=rfl
def zmH (P:Program) (fc:FuncId) (k:Nat):Prop:=
 ∀(us:Array Value) (w:World),us.size=k→CallsD P fc us .returning w fun e u' w'=>e= .returned (.tuple #[])∧u'= .returning∧PRet w noB w'
def zh3 (P:Program) (fc:FuncId) (ks:List Nat) (sz:Nat→Nat) (nw:Value→Nat→List Value) (Px:Value→Prop):Prop:=
 ∀(x:Value) (bl:Nat→Nat) (w:World),Px x→(∀k∈ks,∃c e,w.heap[bl k]? =some (.cells c e (0,0))∧c.size=sz k∧∀u∈c.toList,flat u=true)→(∀k∈ks,∀k'∈ks,bl k=bl k'→k=k')→
  CallsD P fc (ks.map fun k=>zgO (bl k)).toArray (.panicking [{v:=x,recovered:=false}]) w fun e u' w'=>e= .returned (.tuple #[])∧u'= .panicking [{v:=x,recovered:=true}]∧
   w.heap.size≤w'.heap.size∧(∀b,b<w.heap.size→(∀k∈ks,bl k≠b)→w'.heap[b]? =w.heap[b]?)∧
   (∀k∈ks,∃e,w'.heap[bl k]? =some (.cells (nw x k).toArray e (0,0))∧∀u∈nw x k,flat u=true)∧w'.os=w.os∧w'.output=w.output
theorem zji {nw:Nat→List Value} {s:Nat}:∀{ks:List Nat} {rs:RS},findR s (ziX nw ks)=some rs→s∈ks∧rs={next:=1,l:=[some {e:=0,var:=true,fz:=false,sz:=0,cells:=(nw s).map fun x=> .d (.v x)}]}
 |[],rs,h=>by simp[ziX,findR]at h
 |k::ks,rs,h=>by
  simp only[ziX,findR]at h
  split at h
  ·rename_i hk;subst hk;cases h;exact⟨by simp,rfl⟩
  ·obtain⟨h1,h2⟩:=zji h;exact⟨by simp[h1],h2⟩
theorem zf5 {nw:Nat→List Value} {s:Nat}:∀{ks:List Nat},s∈ks→findR s (ziX nw ks)=some {next:=1,l:=[some {e:=0,var:=true,fz:=false,sz:=0,cells:=(nw s).map fun x=> .d (.v x)}]}
 |[],h=>by simp at h
 |k::ks,h=>by
  simp only[ziX,findR]
  split
  ·rename_i hk;subst hk;rfl
  ·rename_i hk
   rcases List.mem_cons.1 h with rfl|h
   ·exact absurd rfl hk
   ·exact zf5 h
theorem zfl {nw:Nat→List Value} {ks:List Nat} {s j:Nat} {res:Res} (h:lookR (ziX nw ks) s j=some res):s∈ks∧j=0∧res={e:=0,var:=true,fz:=false,sz:=0,cells:=(nw s).map fun x=> .d (.v x)}:=by
 unfold lookR at h
 cases hf:findR s (ziX nw ks)with
 |none=>rw[hf]at h;cases h
 |some rs=>
  rw[hf]at h
  obtain⟨h1,rfl⟩:=zji hf
  cases j with
  |zero=>simp at h;exact⟨h1,rfl,h.symm⟩
  |succ j=>simp at h
theorem zjj {r:Rs}:∀{us:List Value},(∀u∈us,flat u=true)→ReCs cx w r β (us.map fun x=> .d (.v x)) us
 |[],_=>by simp[ReCs]
 |u::us,h=>by
  simp only[List.map_cons,ReCs]
  exact⟨u,us,rfl,zbp.2 ⟨rfl,h u (by simp)⟩,zjj fun x hx=>h x (by simp[hx])⟩
theorem zwf (h:Holds cx ⟨v,r⟩ a w β) {ks:List Nat} {sz:Nat→Nat} {nw:Nat→List Value} {bl:Nat→Nat} {w':World} (hob:∀k∈ks,(k,bl k)∈cx.Obj)
  (hkp:zh2 sz ⟨v,r⟩ ks) (hobj:∀p b,(p,b)∈cx.Obj→p∈ks∧b=bl p) (hrow:cx.Row=[]) (hsz:w.heap.size≤w'.heap.size)
  (hold:∀b,b<w.heap.size→(∀k∈ks,bl k≠b)→w'.heap[b]? =w.heap[b]?)
  (hnw:∀k∈ks,∃e,w'.heap[bl k]? =some (.cells (nw k).toArray e (0,0))∧∀u∈nw k,flat u=true) (hos:w'.os=w.os) (hout:w'.output=w.output):
  HoldsE cx (zmr v.length ks nw) a w':=by
 have hbase:∀k∈ks,(β k 0).base=some (bl k,0)∧∃res,lookR r k 0=some res∧res.fz=false∧res.bor=false:=fun k hk=>by
  obtain⟨res,g1,g2,g3,g4,_⟩:=zd4 hkp k hk
  refine⟨(h.ob k (bl k) (hob k hk)).2 res g2,res,(zad g2).1, ?_,g4⟩
  have:=(h.rs _ _ _ (zad g2).1).1
  unfold ResOK at this
  rw[if_pos g3]at this
  exact this.1
 refine⟨β,⟨?_,h.df,fun i x hi=> ?_,fun s j res hl=> ?_,fun s j res s' j' res' b o o' hl hf hl' hf' hb hb'=> ?_,fun s j res b o hl hf hb=> ?_,Nat.le_trans h.n0 hsz,fun b hb hn=> ?_,h.a0,h.bor,fun p b hm=> ?_,fun p n u hm=> ?_,hos.trans h.os,hout.trans h.out⟩⟩
 ·rw[h.sz];simp[zmr,zr0]
 ·have hi2:=hi
  simp only[zmr,zr0,List.getElem?_map]at hi
  cases hr:(List.range v.length)[i]? with
  |none=>rw[hr]at hi;cases hi
  |some i'=>
   rw[hr]at hi
   obtain⟨hlt,rfl⟩:=List.getElem?_eq_some_iff.1 hr
   simp only[List.length_range]at hlt
   simp only[List.getElem_range,Option.map_some,Option.some.injEq]at hi
   by_cases hc:ks.contains i=true
   ·rw[if_pos hc]at hi
    subst hi
    have hk:i∈ks:=by simpa using hc
    obtain⟨res,g1,g2,_⟩:=zd4 hkp i hk
    obtain⟨u,e1,e2⟩:=h.sl i _ g1
    refine⟨u,e1, ?_⟩
    simp only[ReA,ReC]at e2⊢
    refine⟨e2.1, ?_,fun res' hg=> ?_⟩
    ·unfold nxt;simp only[zmr];rw[zf5 hk];simp
    ·exact e2.2.2 res g2
   ·rw[if_neg hc]at hi
    subst hi
    obtain⟨u,hu⟩:∃u,a.tmps[i]? =some u:=⟨a.tmps[i]'(by have:=h.sz;simp only at this;omega),Array.getElem?_eq_getElem _⟩
    exact⟨u,hu,by simp[ReA,ReC]⟩
 ·obtain⟨hk,rfl,rfl⟩:=zfl hl
  obtain⟨e,g1,g2⟩:=hnw s hk
  refine⟨?_,by unfold nxt;simp only[zmr];rw[zf5 hk];simp⟩
  unfold ResOK
  rw[if_pos rfl]
  exact⟨rfl,bl s,_,e,(hbase s hk).1,g1,zjj g2,fun u hu=>g2 u (by simpa using hu)⟩
 ·obtain⟨hk,rfl,rfl⟩:=zfl hl
  obtain⟨hk',rfl,rfl⟩:=zfl hl'
  obtain⟨res1,p1,p2,_⟩:=(hbase s hk).2
  obtain⟨res2,p3,p4,_⟩:=(hbase s' hk').2
  exact h.inj _ _ _ _ _ _ _ _ _ p1 p2 p3 p4 hb hb'
 ·obtain⟨hk,rfl,rfl⟩:=zfl hl
  obtain⟨res1,p1,p2,p3⟩:=(hbase s hk).2
  have:=h.fr _ _ _ _ _ p1 p2 hb
  exact⟨this.1,fun _=>this.2 p3⟩
 ·rw[hold b (Nat.lt_of_lt_of_le hb h.n0) fun k hk hkb=> ?_]
  ·exact h.old b hb hn
  ·obtain⟨hb1,res1,p1,p2,_⟩:=hbase k hk
   rcases(h.fr _ _ _ _ _ p1 p2 hb1).1 with h1|h1
   ·omega
   ·rw[hkb]at h1;exact hn h1
 ·obtain⟨hk,rfl⟩:=hobj p b hm
  refine⟨by unfold nxt;simp only[zmr];rw[zf5 hk];simp,fun _ _=>(hbase p hk).1⟩
 ·rw[hrow]at hm;simp at hm
theorem zpR {k:Nat} {A0 Bor:Nat→Prop} {γ:Nat→Pl}:∀{xs:List AV} {bs:List Hold} {us:List Value} {p:Nat},zaq P w A0 Bor γ k (xs.map Arg.f) bs us→bs=[]∧objPos p (xs.map Arg.f)=[]
 |[],bs,us,p,h=>by simp only[List.map_nil,zaq]at h;exact⟨h.2,rfl⟩
 |x::xs,bs,us,p,h=>by
  simp only[List.map_cons,zaq]at h
  obtain⟨u,us',_,_,h3⟩:=h
  obtain⟨h4,_⟩:=zpR (p:=p) h3
  refine⟨h4, ?_⟩
  simp only[List.map_cons,objPos]
  exact(zpR (p:=p+1) h3).2
theorem zbt (hT:TOK P T) (hm:P.follows .mixedOrders=true) {f fc:FuncId} {fn:Func} {i0 i1 tq n:Nat} {ops0:Array Oper} {mf df:Oper} {ts:Array TypeId} {rest:Code} {rvs:List ResultVar} {ks:List Nat}
  (hf:P.funcs[f]? =some fn) (hb:fn.body=some (.seq (.region i0 ops0 false) (.seq (.region i1 #[mf,df] false) rest)))
  (hres:fn.results=rvs.toArray) (hn:fn.ntmps=n) (hcall:∀(us:Array Value) (w:World),(callFunc f us).run P w= .ok (.enter f us) w)
  (hcallc:∀(us:Array Value) (w:World),(callFunc fc us).run P w= .ok (.enter fc us) w)
  (hmf:mf.op= .makeFunc (.func fc) #[] (ks.map Operand.tmp).toArray) (hmd:mf.dst=some tq) (hmg:mf.guard=none)
  (hdf:df.op= .defer ⟨.value (.tmp tq), #[],ts⟩) (hdd:df.dst=none) (hdg:df.guard=none) (hks:tq ∉ ks) (htq:tq<n)
  {xs:List AV} {post:List RF→List (List RO)→Prop} {sz:Nat→Nat} {nw:Value→Nat→List Value} {Px:Value→Prop} (hidle:zmH P fc ks.length) (hcatch:zh3 P fc ks sz nw Px)
  (G0:G) (h0:awp T P (.region i0 ops0 false) (openG n (xs.map Arg.f)) (zu5 (fun g=>Gh g G0) fun _ _=>False)) (hG0:zh2 sz G0 ks) (hl0:G0.v.length=n)
  (h1:awp T P rest ⟨G0.v.set tq (.one .dead),G0.r⟩ (zxI T rvs n ks sz nw Px post)):CallOK P f (xs.map Arg.f) post:=by
 refine⟨hcall,fun w A0 Bor γ bs us hA hB ha hnb hnd hap=> ?_⟩
 obtain⟨rfl,hpos⟩:=zpR (p:=0) ha
 refine calls_of_wp_defers hf hb ?_
 have hop:=zfj (n:=n) ha hA hB hnb hnd hap
 have hact:({tmps:=us.toArray++Array.replicate (fn.ntmps - us.toArray.size) undef,defers:=[]}:Act)={tmps:=us.toArray++Array.replicate (n - us.length) undef,defers:=[]}:=by rw[hn];simp
 rw[hact]
 refine wp_seq (zlp (cx:=cxO P w A0 Bor (xs.map Arg.f) []) hT hm _ _ _ _ (fun e g a w1 hh hq=> ?_) h0 _ _ ⟨_,hop⟩)
 cases e with
 |exit id=>exact hq.elim
 |ret=>exact hq.elim
 |panic x=>exact hq.elim
 |normal=>
  obtain⟨β1,hh1⟩:=(show Gh g G0 from hq) _ _ _ hh
  obtain⟨v0,r0⟩:=G0
  simp only at hl0 h1
  -- where the results' cells lie
  let bl:Nat→Nat:=fun k=>match (β1 k 0).base with|some (b,_)=>b|none=>0
  have hbl:∀k∈ks,(β1 k 0).base=some (bl k,0)∧a.tmps[k]? =some (zgO (bl k))∧0<nxt r0 k∧∃res,lookR r0 k 0=some res∧res.e=0:=fun k hk=>by
   obtain⟨res,g1,g2,g3,g4,g5⟩:=zd4 hG0 k hk
   obtain⟨hl,he⟩:=zad g2
   have hok:=(hh1.rs _ _ _ hl).1
   unfold ResOK at hok
   rw[if_pos g3]at hok
   obtain⟨_,b,c,e,k1,_⟩:=hok
   simp only at k1
   obtain⟨u,e1,e2⟩:=hh1.sl k _ g1
   simp only[ReA,ReC]at e2
   obtain⟨_,e3,e4⟩:=e2
   obtain⟨b',o',e5,e6⟩:=e4 res g2
   rw[k1]at e5
   cases e5
   refine⟨by simp only[bl];rw[k1], ?_,e3,res,hl,he⟩
   rw[e1,e6]
   simp only[bl,k1]
  let d:Deferred:={target:= .fn (.func fc) (ks.map fun k=>zgO (bl k)).toArray,args:= #[]}
  let cx1:Cx:={P,w0:=w,A0,Bor,Obj:=ks.map fun k=>(k,bl k),ds:=[d]}
  have hcaps:((ks.map Operand.tmp).toArray).map a.eval=(ks.map fun k=>zgO (bl k)).toArray:=by
   simp only[List.map_toArray,List.map_map]
   congr 1
   refine List.map_congr_left fun k hk=> ?_
   simp only[Function.comp_apply,Act.eval]
   have:=(hbl k hk).2.1
   simp[Array.getD_eq_getD_getElem?,this]
  have hdf0:a.defers=[]:=hh1.df
  -- the closure is made,and deferred
  refine wp_seq (wp_region ?_)
  have hrg:List.range (#[mf,df]:Array Oper).size=[0,1]:=rfl
  rw[hrg,wpOps_cons]
  have hi0:([mf,df]:List Oper).toArray[0]? =some mf:=rfl
  have hi1:([mf,df]:List Oper).toArray[1]? =some df:=rfl
  refine zbk (cx:=cx1) (all:=[mf,df]) hi0 (zcA hmg) ?_
  unfold Oper.wp
  have hr0:(execOp a.eval mf).run P w1= .ok (.value (.func (.func fc) #[] (ks.map fun k=>zgO (bl k)).toArray)) w1:=by
   simp[execOp,hmf,hcaps,Instr.makeFunc]
  rw[hr0,Oper.upon_value,hmd,wpOps_cons]
  refine zbk (cx:=cx1) (all:=[mf,df]) hi1 (zcA hdg) ?_
  unfold Oper.wp
  have hsz:a.tmps.size=n:=by rw[hh1.sz];exact hl0
  have hev:(a.put (some tq) (.func (.func fc) #[] (ks.map fun k=>zgO (bl k)).toArray)).eval (.tmp tq)= .func (.func fc) #[] (ks.map fun k=>zgO (bl k)).toArray:=by
   simp[Act.eval,Act.put,hsz,htq]
  have hr1:(execOp (a.put (some tq) (.func (.func fc) #[] (ks.map fun k=>zgO (bl k)).toArray)).eval df).run P w1= .ok (.defer d) w1:=by
   simp only[execOp,hdf,resolve,hev]
   simp[Deferred.ofValue,d]
  rw[hr1,Oper.upon_defer,hdd]
  simp only[wpOps]
  show rest.wp P _ _ w1
  have hh2:Holds cx1 ⟨v0.set tq (.one .dead),r0⟩ ({(a.put (some tq) (.func (.func fc) #[] (ks.map fun k=>zgO (bl k)).toArray))with defers:=d::(a.put (some tq) (.func (.func fc) #[] (ks.map fun k=>zgO (bl k)).toArray)).defers}.put none undef) w1 β1:=by
   refine⟨?_, ?_,fun i x hi=> ?_,fun s j res hl=>⟨(hh1.rs s j res hl).1.dfx,(hh1.rs s j res hl).2⟩,hh1.inj,hh1.fr,hh1.n0,hh1.old,hh1.a0,hh1.bor,fun p b hm=> ?_,fun p q u hm=>by simp[cx1]at hm,hh1.os,hh1.out⟩
   ·simp[Act.put,hsz,hl0]
   ·simp[Act.put,hdf0,cx1]
   ·simp only[List.getElem?_set]at hi
    by_cases hi':tq=i
    ·subst hi'
     rw[if_pos rfl,if_pos (by rw[hl0];exact htq)]at hi
     cases hi
     exact⟨_,by simp only[Act.put];rw[Array.getElem?_setIfInBounds_self];rw[if_pos (by rw[hsz];exact htq)],by simp[ReA,ReC]⟩
    ·rw[if_neg hi']at hi
     obtain⟨u,e1,e2⟩:=hh1.sl i x hi
     refine⟨u, ?_,e2.dfx⟩
     simp only[Act.put]
     rw[Array.getElem?_setIfInBounds_ne hi']
     exact e1
   ·simp only[cx1,List.mem_map]at hm
    obtain⟨k,hk,hm⟩:=hm
    injection hm with e1 e2
    subst e1 e2
    obtain⟨q1,_,q3,_⟩:=hbl k hk
    exact⟨q3,fun _ _=>q1⟩
  refine zlp (cx:=cx1) hT hm rest _ _ _ (fun e g a' w' hh hq=> ?_) h1 _ _ ⟨β1,hh2⟩
  have hobk:∀k∈ks,(k,bl k)∈cx1.Obj:=fun k hk=>List.mem_map.2 ⟨k,hk,rfl⟩
  have hdf1:a'.defers=[d]:=by obtain⟨β',hh⟩:=hh;exact hh.df
  have hsize1:w.heap.size≤w'.heap.size:=by obtain⟨β',hh⟩:=hh;exact hh.n0
  have hinv:(invoke d.target d.args).run P w'= .ok (.enter fc (ks.map fun k=>zgO (bl k)).toArray) w':=by
   simp only[d,invoke]
   have:=hcallc (ks.map fun k=>zgO (bl k)).toArray w'
   simpa using this
  have hend:∀{g:G},HoldsE cx1 g a' w'→closeA T rvs [] post g→Leaves P fn a'.tmps (fun e w'=>∃rfs objs u,post rfs objs∧e= .returned u∧Ret w A0 Bor w' [] rfs objs u) [d] .returning w':=fun {g} hg hq=>by
   refine leaves_cons (by simp) hinv ((hidle _ w' (by simp)).mono ?_)
   rintro e u' w'' ⟨rfl,rfl,hp⟩
   obtain⟨v1,r1⟩:=g
   obtain⟨β',hg⟩:=hg
   obtain⟨val,q1,q2⟩:=ztJ (cx:=cx1) hT hres ⟨β',zly hg hp⟩ hq
   exact⟨val,q1,q2⟩
  cases e with
  |exit id=>exact hq.elim
  |normal=>
   show Leaves P fn a'.tmps _ a'.defers .returning w'
   rw[hdf1]
   exact hend hh hq
  |ret=>
   show Leaves P fn a'.tmps _ a'.defers .returning w'
   rw[hdf1]
   exact hend hh hq
  |panic x=>
   obtain⟨hx,hlen,hkp,hq⟩:=hq
   show Leaves P fn a'.tmps _ a'.defers (.panicking [{v:=x,recovered:=false}]) w'
   rw[hdf1]
   obtain⟨v1,r1⟩:=g
   obtain⟨β',hg⟩:=hh
   have hblk:∀k∈ks,(β' k 0).base=some (bl k,0)∧∃res,lookR r1 k 0=some res∧res.fz=false∧∃c e,w'.heap[bl k]? =some (.cells c e (0,0))∧c.size=sz k∧∀u∈c.toList,flat u=true:=fun k hk=>by
    obtain⟨res,g1,g2,g3,g4,g5⟩:=zd4 hkp k hk
    obtain⟨hl,he⟩:=zad g2
    have hok:=(hg.rs _ _ _ hl).1
    unfold ResOK at hok
    rw[if_pos g3]at hok
    obtain⟨q0,b,c,e,k1,k2,k3,k4⟩:=hok
    have hb1:=(hg.ob k (bl k) (hobk k hk)).2 res g2
    simp only at k1
    rw[hb1]at k1
    cases k1
    refine⟨hb1,res,hl,q0,c,e,k2, ?_,k4⟩
    rw[←g5,←Array.length_toList]
    exact zch k3
   refine leaves_cons (by simp) hinv ((hcatch x bl w' hx (fun k hk=>(hblk k hk).2.choose_spec.2.2) (fun k hk k' hk' hb=> ?_)).mono ?_)
   ·obtain⟨p1,res,p2,p3,_⟩:=hblk k hk
    obtain⟨p4,res',p5,p6,_⟩:=hblk k' hk'
    rw[hb]at p1
    exact(hg.inj _ _ _ _ _ _ _ _ _ p2 p3 p5 p6 p1 p4).1
   ·rintro e u' w'' ⟨rfl,rfl,s1,s2,s3,s4,s5⟩
    show Leaves P fn a'.tmps _ [] (settle (.panicking [{v:=x,recovered:=true}])) w''
    have hc:=zwf (cx:=cx1) hg (nw:=nw x) (bl:=bl) hobk hkp (fun p b hm=>by
     simp only[cx1,List.mem_map]at hm
     obtain⟨k,hk,hm⟩:=hm
     cases hm
     exact⟨hk,rfl⟩) rfl s1 s2 s3 s4 s5
    simp only at hc hlen
    rw[hlen]at hc
    obtain⟨val,q1,q2⟩:=ztJ (cx:=cx1) hT hres hc hq
    exact⟨val,q1,q2⟩
end
set_option maxRecDepth 100000
theorem ndB_nil:ndB []=true:=rfl
theorem ndB_one {x:Nat×Nat}:ndB [x]=true:=rfl
theorem pe0:type_of% (I (I (I (I (@Go.Pk.EndQ_normal) (I (@Go.Pk.EndQ_ret) (@Go.Pk.EndQ_exit))) (I (I (@Go.Pk.ndB_nil) (@Go.Pk.ndB_one)) (I (@Go.Pk.closeA.eq_def) (@Go.Pk.closeB.eq_def)))) (I (I (I (@Go.Pk.objCsA.eq_def) (@Go.Pk.rowB.eq_def)) (I (@Go.Pk.avRF.eq_def) (@Go.Pk.avCells.eq_def))) (I (I (@Go.Pk.resA.eq_def) (@Go.Pk.openG.eq_def)) (I (@Go.Pk.roCss.eq_1) (@Go.Pk.roCss.eq_2))))) (I (I (I (@Go.Pk.avRFs.eq_1) (I (@Go.Pk.avRFs.eq_2) (@Go.Pk.avCellss.eq_1))) (I (I (@Go.Pk.avCellss.eq_2) (@Go.Pk.flatCs.eq_1)) (I (@Go.Pk.flatCs.eq_2) (@Go.Pk.resAs.eq_1)))) (I (I (I (@Go.Pk.resAs.eq_2) (@Go.Pk.objCs.eq_1)) (I (@Go.Pk.objCs.eq_2) (@Go.Pk.objCs.eq_3))) (I (I (@Go.Pk.objCs.eq_4) (@Go.Pk.addRows.eq_1)) (I (@Go.Pk.addRows.eq_2) (@Go.Pk.addRows.eq_3)))))):=I (I (I (I (@Go.Pk.EndQ_normal) (I (@Go.Pk.EndQ_ret) (@Go.Pk.EndQ_exit))) (I (I (@Go.Pk.ndB_nil) (@Go.Pk.ndB_one)) (I (@Go.Pk.closeA.eq_def) (@Go.Pk.closeB.eq_def)))) (I (I (I (@Go.Pk.objCsA.eq_def) (@Go.Pk.rowB.eq_def)) (I (@Go.Pk.avRF.eq_def) (@Go.Pk.avCells.eq_def))) (I (I (@Go.Pk.resA.eq_def) (@Go.Pk.openG.eq_def)) (I (@Go.Pk.roCss.eq_1) (@Go.Pk.roCss.eq_2))))) (I (I (I (@Go.Pk.avRFs.eq_1) (I (@Go.Pk.avRFs.eq_2) (@Go.Pk.avCellss.eq_1))) (I (I (@Go.Pk.avCellss.eq_2) (@Go.Pk.flatCs.eq_1)) (I (@Go.Pk.flatCs.eq_2) (@Go.Pk.resAs.eq_1)))) (I (I (I (@Go.Pk.resAs.eq_2) (@Go.Pk.objCs.eq_1)) (I (@Go.Pk.objCs.eq_2) (@Go.Pk.objCs.eq_3))) (I (I (@Go.Pk.objCs.eq_4) (@Go.Pk.addRows.eq_1)) (I (@Go.Pk.addRows.eq_2) (@Go.Pk.addRows.eq_3)))))
theorem pe1:type_of% (I (I (I (I (@Go.Pk.addRows.eq_4) (@Go.Pk.addRows.eq_5)) (I (@Go.Pk.openV.eq_1) (I (@Go.Pk.openV.eq_2) (@Go.Pk.openV.eq_3)))) (I (I (@Go.Pk.openV.eq_4) (@Go.Pk.openV.eq_5)) (I (@Go.Pk.bRs.eq_1) (I (@Go.Pk.bRs.eq_2) (@Go.Pk.bRs.eq_3))))) (I (I (I (@Go.Pk.openR.eq_1) (@Go.Pk.openR.eq_2)) (I (@Go.Pk.openR.eq_3) (I (@Go.Pk.openR.eq_4) (@Go.Pk.openR.eq_5)))) (I (I (@Go.Pk.objPos.eq_1) (@Go.Pk.objPos.eq_2)) (I (@Go.Pk.objPos.eq_3) (I (@Go.Pk.objPos.eq_4) (@Go.Pk.objPos.eq_5)))))):=I (I (I (I (@Go.Pk.addRows.eq_4) (@Go.Pk.addRows.eq_5)) (I (@Go.Pk.openV.eq_1) (I (@Go.Pk.openV.eq_2) (@Go.Pk.openV.eq_3)))) (I (I (@Go.Pk.openV.eq_4) (@Go.Pk.openV.eq_5)) (I (@Go.Pk.bRs.eq_1) (I (@Go.Pk.bRs.eq_2) (@Go.Pk.bRs.eq_3))))) (I (I (I (@Go.Pk.openR.eq_1) (@Go.Pk.openR.eq_2)) (I (@Go.Pk.openR.eq_3) (I (@Go.Pk.openR.eq_4) (@Go.Pk.openR.eq_5)))) (I (I (@Go.Pk.objPos.eq_1) (@Go.Pk.objPos.eq_2)) (I (@Go.Pk.objPos.eq_3) (I (@Go.Pk.objPos.eq_4) (@Go.Pk.objPos.eq_5)))))
set_option maxRecDepth 100000
theorem pkS:type_of% (I (I (I (I (I (pk0) (I (pk1) (pk2))) (I (pk3) (I (pk4) (pk5)))) (I (I (pk6) (I (pk7) (pk8))) (I (I (pk9) (zya)) (I (pe0) (pe1))))) (I (I (I (@zik) (I (@zlX) (@znW))) (I (@zaU) (I (@zlW) (@znV)))) (I (I (@zaT) (I (@zij) (@zlV))) (I (I (@znU) (@zaS)) (I (@List.append_eq.{0}) (@List.length_cons.{0})))))) (I (I (I (I (@List.length_nil.{0}) (I (Nat.zero_add) (Nat.add_zero))) (I (true_and) (I (and_true) (Bool.true_and)))) (I (I (Bool.and_true) (I (Bool.false_eq_true) (Bool.or_false))) (I (I (Bool.false_or) (Bool.true_or)) (I (Bool.or_true) (Bool.false_and))))) (I (I (I (Bool.and_false) (I (@Nat.zero_lt_succ) (@List.zip_nil_left.{0,0}))) (I (I (@List.zip_nil_right.{0,0}) (Int.toNat_natCast)) (I (pK.eq_1) (@if_true.{1})))) (I (I (@if_false.{1}) (I (@beq_self_eq_true.{0}) (@imp_self))) (I (I (@ne_eq.{1}) (@not_false_eq_true)) (I (@beq_iff_eq.{0}) (true_implies))))))):=I (I (I (I (I (pk0) (I (pk1) (pk2))) (I (pk3) (I (pk4) (pk5)))) (I (I (pk6) (I (pk7) (pk8))) (I (I (pk9) (zya)) (I (pe0) (pe1))))) (I (I (I (@zik) (I (@zlX) (@znW))) (I (@zaU) (I (@zlW) (@znV)))) (I (I (@zaT) (I (@zij) (@zlV))) (I (I (@znU) (@zaS)) (I (@List.append_eq.{0}) (@List.length_cons.{0})))))) (I (I (I (I (@List.length_nil.{0}) (I (Nat.zero_add) (Nat.add_zero))) (I (true_and) (I (and_true) (Bool.true_and)))) (I (I (Bool.and_true) (I (Bool.false_eq_true) (Bool.or_false))) (I (I (Bool.false_or) (Bool.true_or)) (I (Bool.or_true) (Bool.false_and))))) (I (I (I (Bool.and_false) (I (@Nat.zero_lt_succ) (@List.zip_nil_left.{0,0}))) (I (I (@List.zip_nil_right.{0,0}) (Int.toNat_natCast)) (I (pK.eq_1) (@if_true.{1})))) (I (I (@if_false.{1}) (I (@beq_self_eq_true.{0}) (@imp_self))) (I (I (@ne_eq.{1}) (@not_false_eq_true)) (I (@beq_iff_eq.{0}) (true_implies))))))
theorem Gh.refl {g:G}:Gh g g:=fun _ _ _ h=>h
theorem Gh.trans {g g' g'':G} (h:Gh g g') (h':Gh g' g''):Gh g g'':=fun cx a w hh=>h' cx a w (h cx a w hh)
def fgt:List AV→List AV→Prop
 |[],[]=>True
 |x::xs,y::ys=>(y= .one .dead∨x=y)∧fgt xs ys
 |_,_=>False
theorem za8:fgt [] []=True:=rfl
theorem zaQ {x:AV} {xs ys:List AV}:fgt (x::xs) (.one .dead::ys)=fgt xs ys:=by simp[fgt]
theorem zaR {x:AV} {xs ys:List AV}:fgt (x::xs) (x::ys)=fgt xs ys:=by simp[fgt]
theorem zpS:∀{v v':List AV},fgt v v'→v'.length=v.length∧∀(i:Nat) (y:AV),v'[i]? =some y→y= .one .dead∨v[i]? =some y
 |[],[],_=>⟨rfl,fun i y h=>by simp at h⟩
 |x::xs,y::ys,h=>by
  obtain⟨h1,h2⟩:=h
  obtain⟨g1,g2⟩:=zpS h2
  refine⟨by simp[g1],fun i z hz=> ?_⟩
  cases i with
  |zero=>
   simp only[List.getElem?_cons_zero,Option.some.injEq]at hz
   subst hz
   exact h1.imp id fun e=>by simp[e]
  |succ i=>simpa using g2 i z (by simpa using hz)
 |[],_::_,h=>h.elim
 |_::_,[],h=>h.elim
theorem Gh.fgt {v v':List AV} {r:Rs} (h:fgt v v'):Gh ⟨v,r⟩ ⟨v',r⟩:=fun cx a w ⟨β,hh⟩=>by
 obtain⟨h1,h2⟩:=zpS h
 refine⟨β,{hh with sz:=by rw[hh.sz];exact h1.symm,sl:=fun i x hi=> ?_}⟩
 rcases h2 i x hi with rfl|h3
 ·have hlt:i<a.tmps.size:=by rw[hh.sz];simp only;rw[←h1];exact(List.getElem?_eq_some_iff.1 hi).1
  exact⟨a.tmps[i],Array.getElem?_eq_getElem hlt,by simp[ReA,ReC]⟩
 ·exact hh.sl i x h3
section
variable {T:Nat→Option TI} {P:Program}
theorem zab {b:Bool} {x y:Code} {g:G} {Q:Ex→G→Prop} (h1:b=true→awp T P x g Q) (h2:b=false→awp T P y g Q):zqE T P (.one (.d (.v (.bool b)))) True x y g Q:=
 ⟨trivial,h1,h2⟩
theorem zaC {all:List Oper} {m:M} {rest:List Oper} {dst:Option Nat} {v:List AV} {r:Rs} {K:Ex→G→Prop} {n:FuncId} {as:List Arg} {rfs:List RF}
  (h:CallOK P n as (fun r o=>r=rfs∧o=[])) (hk:aops T P all m rest (putV v dst (bindRet r dst rfs).1) (bindRet r dst rfs).2 K) {f:Operand} {args:Array Operand}:zii T P all m rest dst v r K f args (some (n,as)):=
 .inl ⟨rfs,fun _=>h,hk⟩
theorem zr1 (i:Nat) {all:List Oper} {m:M} {rest:List Oper} {dst:Option Nat} {v:List AV} {r:Rs} {K:Ex→G→Prop} {n:FuncId} {ars:List Arg} {mv:Mv} {lent:List Nat} {rfs:List RF} {l':List RO}
  {f:Operand} {args:Array Operand} {a:Option (FuncId×List Arg)} (hc:callM i v r f args=some (n,ars,mv,lent)) (h:CallOK P n ars (fun r o=>r=rfs∧o=[l'])) (hs:scM r dst mv lent l')
  (hk:aops T P all (upM dst mv.s m) rest (putV v dst (bindM r dst mv rfs l').1) (bindM r dst mv rfs l').2 K):zii T P all m rest dst v r K f args a:=
 .inr (.inl ⟨i,by rw[hc];exact⟨rfs,l',h,hs,hk⟩⟩)
theorem zc2 {all:List Oper} {m:M} {rest:List Oper} {dst:Option Nat} {v:List AV} {r:Rs} {K:Ex→G→Prop} {n:FuncId} {as:List Arg} {x:Value} {f:Operand} {args:Array Operand}
  (h:zbE P n as x) (hm:m.fp=none) (hk:K (.panic x) ⟨v,r⟩):zii T P all m rest dst v r K f args (some (n,as)):=
 .inr (.inr (.inr (.inr (.inl ⟨hm,n,as,x,h, .inl ⟨rfl,hk⟩⟩))))
theorem zpT (i:Nat) {all:List Oper} {m:M} {rest:List Oper} {dst:Option Nat} {v:List AV} {r:Rs} {K:Ex→G→Prop} {n:FuncId} {ars:List Arg} {mv:Mv} {lent:List Nat} {l':List RO} {x:Value}
  {f:Operand} {args:Array Operand} {a:Option (FuncId×List Arg)} (hc:callM i v r f args=some (n,ars,mv,lent)) (h:zbE P n ars x) (hs:scM r none mv lent l') (hm:m.fp=none)
  (hk:K (.panic x) ⟨v,ziZ r mv⟩):zii T P all m rest dst v r K f args a:=
 .inr (.inr (.inr (.inr (.inl ⟨hm,n,ars,x,h, .inr ⟨i,mv,lent,l',hc,hs,hk⟩⟩))))
theorem zaE {f:Operand} {args:Array Operand} {j:Nat} {want:Bool} {all:List Oper} {m:M} {rest:List Oper} {c:Bool} {dst:Option Nat} {v:List AV} {r:Rs} {K:Ex→G→Prop} {n:FuncId} {as:List Arg} {rfs:List RF}
  (h:c=true→CallOK P n as (fun r o=>r=rfs∧o=[])) (hn:noOwn (rfs.flatMap RF.cells)=true) (hk:aops T P all m rest (putV v dst (.gd c (tupOf (bindFs 0 0 0 rfs)))) r K):
  zlU T P all m rest c dst v r K f args j want (some (n,as)):=
 .inl ⟨rfs,h,hn,hk⟩
theorem zaG {f:Operand} {args:Array Operand} {j:Nat} {want:Bool} {all:List Oper} {m:M} {rest:List Oper} {dst:Option Nat} {v:List AV} {r:Rs} {K:Ex→G→Prop} {a:Option (FuncId×List Arg)} (hk:aops T P all m rest (putV v dst ziY) r K):
  zlU T P all m rest false dst v r K f args j want a:= .inr (.inl ⟨rfl,hk⟩)
theorem zaB {f:Operand} {args:Array Operand} {j:Nat} {want:Bool} {all:List Oper} {m:M} {rest:List Oper} {dst:Option Nat} {v:List AV} {r:Rs} {K:Ex→G→Prop} {a:Option (FuncId×List Arg)} (h:zii T P all m rest dst v r K f args a):
  zlU T P all m rest true dst v r K f args j want a:= .inr (.inr ⟨fun _=>h,fun h=>(by cases h)⟩)
end
theorem wrap64 {n:Int} (h1: -9223372036854775808≤n) (h2:n<9223372036854775808):IntKind.i64.wrap n=n:=by
 unfold IntKind.wrap
 simp[IntKind.bits,IntKind.signed]
 omega
theorem zke {l:List Oper} (h:zvK l=true):zlT l:=h
theorem ztK {a:List Oper} {b:List FP} (h:zku a b=true):zku a b=true:=h
theorem zwg {l:List Nat} {n:Nat} (h:l=List.range n):l=List.range n:=h
def zls:IntKind→Nat
 | .i8=>1| .i16=>2| .i32=>3| .i64=>4| .u8=>5| .u16=>6| .u32=>7| .u64=>8
mutual
def zr2 (P:Program):Nat→Nat→Option (List Nat)
 |0,_=>none
 |d+1,t=>match P.underlying t with
  |some .bool=>some [9]
  |some .string=>some [10]
  |some (.int k)=>if zls k=0 then none else some [zls k]
  |some (.struct fs)=>if P.stoodInHeld t then none else match (P.info? t).map (·.size),zvI P d fs.toList 0 with
   |some n,some ks=>if ks.length=n then some ks else none
   |_,_=>none
  |_=>none
def zvI (P:Program):Nat→List Field→Nat→Option (List Nat)
 |_,[],_=>some []
 |0,_::_,_=>none
 |d+1,f::fs,off=>if f.name= "_" ∨f.offset≠off then none else match zr2 P d f.type with
  |some ks=>match zvI P d fs (off+ks.length)with
   |some l=>some (ks++l)
   |none=>none
  |none=>none
end
theorem znF {v:Value} {k:IntKind} (h0:zls k≠0) (h:kindV v=zls k):∃n,v= .int k n:=by
 cases v with
 |int k' n=>cases k<;>cases k'<;>first|(exact⟨n,rfl⟩)|(simp[kindV,zls]at h h0)
 |bool b=>cases k<;>simp[kindV,zls]at h h0
 |string b=>cases k<;>simp[kindV,zls]at h h0
 |_=>cases k<;>simp[kindV,zls]at h h0
theorem zlt {v:Value} (h:kindV v=9):∃n,v= .bool n:=by
 cases v with
 |bool b=>exact⟨b,rfl⟩
 |int k n=>cases k<;>simp[kindV]at h
 |_=>simp[kindV]at h
theorem zh4 {v:Value} (h:kindV v=10):∃n,v= .string n:=by
 cases v with
 |string b=>exact⟨b,rfl⟩
 |int k n=>cases k<;>simp[kindV]at h
 |_=>simp[kindV]at h
theorem zh5:∀{a b c d:List Value},a.length=b.length→eqVs (a++c) (b++d)=(eqVs a b&&eqVs c d)
 |[],[],_,_,_=>by simp[eqVs]
 |x::a,y::b,c,d,h=>by simp[eqVs,zh5 (a:=a) (b:=b) (c:=c) (d:=d) (by simpa using h),Bool.and_assoc]
def asV (P:Program) (t:Nat) (l:List Value):Value:=
 match P.underlying t with
 |some (.struct _)=> .agg l.toArray
 |_=>l.headD undef
variable {P:Program}
theorem zpU {d t off:Nat} {ks:List Nat} {xs:List Value} {w:World} (h:zr2 P d t=some ks) (hx:(xs.drop off).length≥ks.length):
  (part t xs.toArray off).run P w= .ok (asV P t ((xs.drop off).take ks.length)) w:=by
 cases d with
 |zero=>simp[zr2]at h
 |succ d=>
  have basic:∀{td:TypeDesc},P.underlying t=some td→ks.length=1→(∀fs,td≠ .struct fs)→(∀n e,td≠ .array n e)→(part t xs.toArray off).run P w= .ok (asV P t ((xs.drop off).take ks.length)) w:=fun {td} hu hl h1 h2=>by
   have hlt:off<xs.length:=by rw[hl]at hx;simp at hx;omega
   have hag:(isAgg t).run P w= .ok false w:=by
    unfold isAgg
    rw[Sem.run_bind,run_underlying hu,Result.andThen_ok]
    cases td<;>first|rfl|exact absurd rfl (h1 _)|exact absurd rfl (h2 _ _)
   unfold part
   rw[Sem.run_bind,hag,Result.andThen_ok]
   have e1:xs.toArray[off]? =some xs[off]:=by simp[hlt]
   have e2:asV P t ((xs.drop off).take ks.length)=xs[off]:=by
    unfold asV
    rw[hu,hl]
    have:(xs.drop off).take 1=[xs[off]]:=by
     rw[List.drop_eq_getElem_cons hlt];rfl
    rw[this]
    cases td<;>first|rfl|exact absurd rfl (h1 _)
   simp[e1,e2]
  simp only[zr2]at h
  split at h
  ·rename_i hu;cases h;exact basic hu rfl (by simp) (by simp)
  ·rename_i hu;cases h;exact basic hu rfl (by simp) (by simp)
  ·rename_i k hu
   split at h
   ·cases h
   ·cases h;exact basic hu rfl (by simp) (by simp)
  ·rename_i fs hu
   split at h
   ·cases h
   ·split at h
    ·rename_i n ks' h1 h2
     split at h
     ·rename_i hn
      cases h
      have hag:(isAgg t).run P w= .ok true w:=by
       unfold isAgg
       rw[Sem.run_bind,run_underlying hu,Result.andThen_ok]
       rfl
      obtain⟨i,hi,hi2⟩:=Option.map_eq_some_iff.1 h1
      have hsz:(sizeOf t).run P w= .ok n w:=by simp[sizeOf,typeInfo,hi,hi2]
      unfold part
      rw[Sem.run_bind,hag,Result.andThen_ok]
      simp only[if_true,Sem.run_bind,hsz,Result.andThen_ok,Sem.run_pure]
      unfold asV
      rw[hu,hn]
      congr 2
      apply Array.ext'
      simp[List.extract_eq_take_drop]
     ·cases h
    ·cases h
  ·cases h
mutual
theorem zpV:∀{d t:Nat} {ks:List Nat} {xs ys:List Value} {w:World} {D:Nat},d≤D→zr2 P d t=some ks→xs.map kindV=ks→ys.map kindV=ks→
  (Op.equalIn D t (asV P t xs) (asV P t ys)).run P w= .ok (eqVs xs ys) w
 |0,t,ks,xs,ys,w,D,_,h,_,_=>by simp[zr2]at h
 |d+1,t,ks,xs,ys,w,0,hD,h,hx,hy=>by omega
 |d+1,t,ks,xs,ys,w,D+1,hD,h,hx,hy=>by
  have one:∀{k:Nat} {zs:List Value},zs.map kindV=[k]→∃z,zs=[z]∧kindV z=k:=fun {k zs} hz=>by
   cases zs with
   |nil=>simp at hz
   |cons z zs=>
    cases zs with
    |nil=>exact⟨z,rfl,by simpa using hz⟩
    |cons _ _=>simp at hz
  simp only[zr2]at h
  split at h
  ·rename_i hu
   cases h
   obtain⟨x,rfl,hx'⟩:=one hx
   obtain⟨y,rfl,hy'⟩:=one hy
   obtain⟨a,rfl⟩:=zlt hx'
   obtain⟨b,rfl⟩:=zlt hy'
   simp only[asV,hu,List.headD_cons]
   rw[run_equalIn_bool' w D t a b hu]
   simp[eqVs,eqV]
  ·rename_i hu
   cases h
   obtain⟨x,rfl,hx'⟩:=one hx
   obtain⟨y,rfl,hy'⟩:=one hy
   obtain⟨a,rfl⟩:=zh4 hx'
   obtain⟨b,rfl⟩:=zh4 hy'
   simp only[asV,hu,List.headD_cons]
   rw[run_equalIn_string w D t a b hu]
   simp[eqVs,eqV]
  ·rename_i k hu
   split at h
   ·cases h
   ·rename_i h0
    cases h
    obtain⟨x,rfl,hx'⟩:=one hx
    obtain⟨y,rfl,hy'⟩:=one hy
    obtain⟨a,rfl⟩:=znF h0 hx'
    obtain⟨b,rfl⟩:=znF h0 hy'
    simp only[asV,hu,List.headD_cons]
    rw[run_equalIn_int w D t k k a b hu]
    simp[eqVs,eqV]
  ·rename_i fs hu
   split at h
   ·cases h
   ·rename_i hst
    split at h
    ·rename_i n ks' h1 h2
     split at h
     ·cases h
      have hf:P.fieldsOf t=fs:=by unfold Program.fieldsOf;rw[hu]
      simp only[asV,hu]
      rw[run_equalIn_struct w D t _ _ (by rw[hf];exact hu) (by simpa using hst),hf]
      have:=zpW (d:=d) (D:=D) (w:=w) (pre:=[]) (pre':=[]) (by omega) h2 rfl rfl hx hy
      simpa using this
     ·cases h
    ·cases h
  ·cases h
theorem zpW:∀{d:Nat} {fs:List Field} {off:Nat} {ks:List Nat} {pre pre' xs ys:List Value} {w:World} {D:Nat},d≤D→zvI P d fs off=some ks→pre.length=off→pre'.length=off→
  xs.map kindV=ks→ys.map kindV=ks→(Op.eqFields D (pre++xs).toArray (pre'++ys).toArray fs).run P w= .ok (eqVs xs ys) w
 |d,[],off,ks,pre,pre',xs,ys,w,D,_,h,_,_,hx,hy=>by
  simp only[zvI,Option.some.injEq]at h
  subst h
  simp only[List.map_eq_nil_iff]at hx hy
  subst hx hy
  simp[Op.eqFields,eqVs]
 |0,f::fs,off,ks,pre,pre',xs,ys,w,D,_,h,_,_,hx,hy=>by simp[zvI]at h
 |d+1,f::fs,off,ks,pre,pre',xs,ys,w,D,hD,h,hp,hp',hx,hy=>by
  simp only[zvI]at h
  split at h
  ·cases h
  ·rename_i hno
   simp only[not_or,Decidable.not_not]at hno
   split at h
   ·rename_i k1 h1
    split at h
    ·rename_i k2 h2
     cases h
     have hxl:xs.length=k1.length+k2.length:=by have:=congrArg List.length hx;simpa using this
     have hyl:ys.length=k1.length+k2.length:=by have:=congrArg List.length hy;simpa using this
     have hx1:(xs.take k1.length).map kindV=k1:=by rw[List.map_take,hx];simp
     have hy1:(ys.take k1.length).map kindV=k1:=by rw[List.map_take,hy];simp
     have hx2:(xs.drop k1.length).map kindV=k2:=by rw[List.map_drop,hx];simp
     have hy2:(ys.drop k1.length).map kindV=k2:=by rw[List.map_drop,hy];simp
     have e1:(part f.type (pre++xs).toArray f.offset).run P w= .ok (asV P f.type (xs.take k1.length)) w:=by
      rw[hno.2,←hp]
      have:=zpU (w:=w) (xs:=pre++xs) (off:=pre.length) h1 (by simp;omega)
      simpa using this
     have e2:(part f.type (pre'++ys).toArray f.offset).run P w= .ok (asV P f.type (ys.take k1.length)) w:=by
      rw[hno.2,←hp']
      have:=zpU (w:=w) (xs:=pre'++ys) (off:=pre'.length) h1 (by simp;omega)
      simpa using this
     have e3:=zpV (w:=w) (D:=D) (by omega) h1 hx1 hy1
     have e4:=zpW (w:=w) (D:=D) (pre:=pre++xs.take k1.length) (pre':=pre'++ys.take k1.length) (xs:=xs.drop k1.length) (ys:=ys.drop k1.length) (by omega) h2
      (by simp[hp];omega) (by simp[hp'];omega) hx2 hy2
     rw[List.append_assoc,List.append_assoc,List.take_append_drop,List.take_append_drop]at e4
     have hsplit:eqVs xs ys=(eqVs (xs.take k1.length) (ys.take k1.length)&&eqVs (xs.drop k1.length) (ys.drop k1.length)):=by
      rw[←zh5 (by simp;omega),List.take_append_drop,List.take_append_drop]
     rw[hsplit]
     unfold Op.eqFields
     rw[if_pos hno.1]
     simp only[Sem.run_bind,e1,e2,e3,Result.andThen_ok]
     cases eqVs (xs.take k1.length) (ys.take k1.length)with
     |true=>simpa using e4
     |false=>simp
    ·cases h
   ·cases h
end
def eqB (P:Program) (t:Nat):Bool:=
 match zr2 P 64 t,zu4 P [] t with
 |some ks,some ti=>decide (ti.zero.map kindV=ks)&& !P.eqGuardType P.depth t&&aggD ti.desc
 |_,_=>false
theorem zwh {eqs:List Nat} (h:∀t∈eqs,eqB P t=true):TOK P (zu4 P eqs):=by
 intro t ti ht
 refine⟨zuU ht,fun he xs ys w hx hy=> ?_⟩
 have ht':=ht
 unfold zu4 at ht'
 split at ht'
 ·rename_i i d hi hd
  split at ht'
  ·rename_i z hz
   split at ht'
   ·rename_i hfl
    cases ht'
    simp only[List.contains_eq_mem,decide_eq_true_eq]at he
    have hb:=h t he
    unfold eqB at hb
    split at hb
    ·rename_i ks ti' h1 h2
     unfold zu4 at h2
     rw[hi,hd]at h2
     simp only[hz]at h2
     rw[if_pos hfl]at h2
     cases h2
     simp only[Bool.and_eq_true,decide_eq_true_eq,Bool.not_eq_true']at hb
     obtain⟨⟨g1,g2⟩,g3⟩:=hb
     have hst:∃fs,d= .struct fs:=by
      unfold zr2 at h1
      rw[hd]at h1
      cases d with
      |struct fs=>exact⟨fs,rfl⟩
      |array n e=>simp at h1
      |_=>simp[zeB,aggD]at g3
     obtain⟨fs,rfl⟩:=hst
     refine⟨fun o x y _=>run_eqGuard_agg w o t x y _ _ g2, ?_⟩
     have:=zpV (w:=w) (D:=10000) (by omega) h1 (hx.trans g1) (hy.trans g1)
     simp only[asV,hd]at this
     exact this
    ·cases hb
   ·cases ht'
  ·cases ht'
 ·cases ht'
inductive Sh where
 |bool
 |int (k:IntKind)
 |str
 |slice (by_:Nat) (s:Sh)
 |struct (l:List Sh)
mutual
def Sh.size:Sh→Nat
 | .struct l=>Sh.sizes l
 | .bool=>1
 | .int _=>1
 | .str=>1
 | .slice _ _=>1
def Sh.sizes:List Sh→Nat
 |[]=>0
 |s::l=>s.size+Sh.sizes l
end
mutual
def ShD:Sh→List D→Prop
 | .bool,ds=>∃b,ds=[.v (.bool b)]
 | .int k,ds=>∃n,ds=[.v (.int k n)]∧(Lit.int k n).wf=true
 | .str,ds=>∃s:ByteArray,ds=[.v (.string s)]∧s.size≤reachBytes
 | .slice b s,ds=>∃xs:List (List D),ds=[.sl xs.length xs.flatten]∧xs.length*b≤reachBytes∧∀x∈xs,ShD s x
 | .struct l,ds=>ShDs l ds
def ShDs:List Sh→List D→Prop
 |[],ds=>ds=[]
 |s::l,ds=>∃a b,ds=a++b∧ShD s a∧ShDs l b
end
mutual
theorem ShD.len:∀{s:Sh} {ds:List D},ShD s ds→ds.length=s.size
 | .bool,_,h=>by simp only[ShD]at h;obtain⟨b,rfl⟩:=h;rfl
 | .int k,_,h=>by simp only[ShD]at h;obtain⟨n,rfl,_⟩:=h;rfl
 | .str,_,h=>by simp only[ShD]at h;obtain⟨n,rfl,_⟩:=h;rfl
 | .slice b s,_,h=>by simp only[ShD]at h;obtain⟨xs,rfl,_⟩:=h;rfl
 | .struct l,_,h=>by simp only[ShD]at h;simp only[Sh.size];exact ShDs.len h
theorem ShDs.len:∀{l:List Sh} {ds:List D},ShDs l ds→ds.length=Sh.sizes l
 |[],_,h=>by simp only[ShDs]at h;subst h;rfl
 |s::l,_,h=>by
  simp only[ShDs]at h
  obtain⟨a,b,rfl,h1,h2⟩:=h
  simp only[List.length_append,Sh.sizes,h1.len,h2.len]
end
mutual
def zr3 (P:Program):Nat→TypeId→Option Sh
 |0,_=>none
 |n+1,t=>match P.underlying t with
  |some .bool=>some .bool
  |some (.int k)=>some (.int k)
  |some .string=>some .str
  |some (.slice e)=>match zr3 P n e with
   |some s=>if P.cellsOf e=s.size∧s.size≠0 then some (.slice (P.bytesOf e) s)else none
   |none=>none
  |some (.struct fs)=>match zuy P n fs.toList 0 with
   |some l=>if P.cellsOf t=Sh.sizes l then some (.struct l)else none
   |none=>none
  |_=>none
def zuy (P:Program):Nat→List Field→Nat→Option (List Sh)
 |_,[],_=>some []
 |0,_::_,_=>none
 |n+1,f::fs,off=>match zr3 P n f.type with
  |some s=>if f.offset=off∧P.cellsOf f.type=s.size then match zuy P n fs (off+s.size)with
    |some l=>some (s::l)
    |none=>none
   else none
  |none=>none
end
def RdV (w:World) (ds:List D) (cs:List Value):Prop:=
 ds.length=cs.length∧∀(k:Nat) (d:D),ds[k]? =some d→∃u,cs[k]? =some u∧Rd w (fun _=>False) d u
theorem RdV.append {w:World} {a b:List D} {cs ds:List Value} (h:RdV w a cs) (h':RdV w b ds):RdV w (a++b) (cs++ds):=by
 refine⟨by simp[h.1,h'.1],fun k d hk=> ?_⟩
 by_cases hlt:k<a.length
 ·rw[List.getElem?_append_left hlt]at hk
  rw[List.getElem?_append_left (by rw[←h.1];exact hlt)]
  exact h.2 k d hk
 ·rw[List.getElem?_append_right (by omega)]at hk
  rw[List.getElem?_append_right (by rw[←h.1];omega),←h.1]
  exact h'.2 _ d hk
theorem RdV.one {w:World} {d:D} {u:Value} (h:Rd w (fun _=>False) d u):RdV w [d] [u]:=
 ⟨rfl,fun k d' hk=>by cases k with
  |zero=>simp only[List.getElem?_cons_zero,Option.some.injEq]at hk;subst hk;exact⟨u,rfl,h⟩
  |succ k=>simp at hk⟩
theorem zxJ {w:World} {a:Addr} {u:Value} (h:w.cell? a=some u):a.spot=none:=by
 unfold World.cell? at h
 split at h
 ·cases hs:a.spot with
  |none=>rfl
  |some _=>simp[hs]at h
 ·cases h
theorem add_add (a:Addr) (i j:Nat):(a.add i).add j=a.add (i+j):=by
 unfold Addr.add
 by_cases hi:i=0<;>by_cases hj:j=0<;>simp[hi,hj]
 omega
theorem ztL {w:World}:∀{ds:List D} {a:Addr} {cs:List Value},RdV w ds cs→(∀(i:Nat) u,cs[i]? =some u→w.cell? (a.add i)=some u)→RdL w (fun _=>False) ds (some a)
 |[],_,_,_,_=>trivial
 |d::ds,a,cs,h,hc=>by
  obtain⟨u,h1,h2⟩:=h.2 0 d rfl
  have hc0:=hc 0 u h1
  simp only[Addr.add,if_true]at hc0
  have hs:=zxJ hc0
  obtain⟨b,o,sp⟩:=a
  simp only at hs
  subst hs
  simp only[RdL]
  refine⟨b,o,u,rfl,fun h=>h,hc0,h2, ?_⟩
  cases cs with
  |nil=>simp at h1
  |cons c cs=>
   refine ztL (cs:=cs) ⟨by simpa using h.1,fun k d' hk=> ?_⟩ (fun i u' hi=> ?_)
   ·have:=h.2 (k+1) d' (by simpa using hk)
    simpa using this
   ·have:=hc (i+1) u' (by simpa using hi)
    unfold Addr.add at this⊢
    simp only[Nat.succ_ne_zero,Nat.add_one_ne_zero,if_false]at this
    by_cases hi0:i=0
    ·subst hi0;simpa using this
    ·simp only[hi0,if_false]
     rw[show o+1+i=o+(i+1) by omega]
     exact this
variable {H:Type} {enc:TypeId×Value→H} {P:Program} {w:World} {base:Nat} {sp:Nat→Bool} {held:Bool}
theorem zh6 {e:TypeId}:∀{ds:List (DataW H)} {d:DataW H},d∈ds→∀x∈DataW.weights P e d,x∈DataW.weightsAll P e ds
 |[],d,h=>by simp at h
 |d'::ds,d,h=>fun x hx=>by
  simp only[DataW.weightsAll,List.mem_append]
  rcases List.mem_cons.1 h with rfl|h
  ·exact .inl hx
  ·exact .inr (zh6 h x hx)
theorem zhm {α:Type} {l:List α} {o n:Nat} (h:o+n≤l.length):(l.drop o).take n++l.drop (o+n)=l.drop o:=by
 rw[←List.drop_drop]
 exact List.take_append_drop n (l.drop o)
theorem zox:∀(n:Nat),
  (∀(t:TypeId) (s:Sh),zr3 P n t=some s→∀(fuel:Nat) (cs:List Value) (d:DataW H) (ps:List MemPlace),DataW.trod enc P w base sp held fuel t cs=some (d,ps)→
   (∀x∈DataW.weights P t d,x≤reachBytes)→∃ds,ShD s ds∧RdV w ds cs)∧
  (∀(fs:List Field) (off:Nat) (l:List Sh),zuy P n fs off=some l→∀(fuel:Nat) (cs:List Value) (xs:List (DataW H×List MemPlace)),xs.length=fs.length→off+Sh.sizes l=cs.length→
   (∀(i:Nat) (f:Field),fs[i]? =some f→DataW.trod enc P w base sp held fuel f.type ((cs.drop f.offset).take (P.cellsOf f.type))=xs[i]?)→
   (∀x∈DataW.weightsEach P (fs.map (·.type)) (xs.map (·.1)),x≤reachBytes)→∃ds,ShDs l ds∧RdV w ds (cs.drop off)):=by
 intro n
 induction n with
 |zero=>
  refine⟨fun t s h=>by simp[zr3]at h,fun fs off l h fuel cs xs hx hl hf hw=> ?_⟩
  cases fs with
  |nil=>
   simp only[zuy,Option.some.injEq]at h
   subst h
   simp only[Sh.sizes,Nat.add_zero]at hl
   refine⟨[],rfl, ?_⟩
   rw[hl,List.drop_length]
   exact⟨rfl,fun k d hk=>by simp at hk⟩
  |cons f fs=>simp[zuy]at h
 |succ n ih=>
  refine⟨fun t s h fuel cs d ps ht hw=> ?_,fun fs off l h fuel cs xs hx hl hf hw=> ?_⟩
  ·unfold zr3 at h
   split at h
   ·rename_i hu;cases h
    obtain⟨b,rfl,e⟩:=DataW.trod_bool hu ht
    exact⟨[.v (.bool b)],⟨b,rfl⟩, .one (by simp only[Rd];exact⟨trivial,rfl⟩)⟩
   ·rename_i k hu;cases h
    obtain⟨m,rfl,e,hwf⟩:=DataW.trod_int hu ht
    exact⟨[.v (.int k m)],⟨m,rfl,hwf⟩, .one (by simp only[Rd];exact⟨trivial,rfl⟩)⟩
   ·rename_i hu;cases h
    obtain⟨b,rfl,e,hb⟩:=DataW.trod_string hu ht
    cases e
    refine⟨[.v (.string b)],⟨b,rfl, ?_⟩, .one (by simp only[Rd];exact⟨trivial,rfl⟩)⟩
    have:=hw b.data.toList.length (by simp[DataW.weights])
    simpa using this
   ·rename_i e hu
    split at h
    ·rename_i s' hs
     split at h
     ·rename_i hcond
      cases h
      rcases DataW.trod_slice hu ht with⟨rfl,_⟩|⟨a,len,cap,elems,rest,m,rfl,rfl,e1,hb,hlc,hcm,hel,hget,_,_⟩
      ·exact⟨[.sl 0 []],⟨[],rfl,by simp,fun x hx=>by simp at hx⟩, .one (by simp only[Rd,RdL];exact⟨none,0,rfl,Nat.le_refl _,trivial⟩)⟩
      ·cases e1
       simp only[DataW.weights,hu]at hw
       have hsz:=hw _ (List.mem_cons_self)
       -- each element
       have each:∀(k:Nat),k≤len→∃xs:List (List D),xs.length=k∧(∀x∈xs,ShD s' x)∧∃cs:List Value,RdV w xs.flatten cs∧∀(i:Nat) u,cs[i]? =some u→w.cell? (a.add i)=some u:=by
        intro k
        induction k with
        |zero=>intro _;exact⟨[],rfl,fun x hx=>by simp at hx,[],⟨rfl,fun k d hk=>by simp at hk⟩,fun i u hi=>by simp at hi⟩
        |succ k ihk=>
         intro hk
         obtain⟨xs,g1,g2,cs,g3,g4⟩:=ihk (by omega)
         have hg:=hget k (by omega)
         have hkl:k<elems.length:=by omega
         rw[List.getElem?_eq_getElem hkl]at hg
         obtain⟨cs',h1,h2⟩:=Option.bind_eq_some_iff.1 hg
         obtain⟨_,c1,c2⟩:=World.cells?_some h1
         obtain⟨ds,k1,k2⟩:=ih.1 e s' hs m cs' elems[k].1 elems[k].2 h2 (fun x hx=>hw x (List.mem_cons_of_mem _ (List.mem_append_left _ (zh6 (List.mem_map.2 ⟨elems[k],List.getElem_mem hkl,rfl⟩) x hx))))
         refine⟨xs++[ds],by simp[g1],fun x hx=> ?_,cs++cs', ?_,fun i u hi=> ?_⟩
         ·rcases List.mem_append.1 hx with hx|hx
          ·exact g2 x hx
          ·simp only[List.mem_singleton]at hx;subst hx;exact k1
         ·rw[List.flatten_append]
          simpa using g3.append k2
         ·have hlen:∀(ys:List (List D)),(∀x∈ys,ShD s' x)→ys.flatten.length=ys.length*s'.size:=by
           intro ys
           induction ys with
           |nil=>intro _;simp
           |cons y ys ihy=>
            intro hy
            rw[List.flatten_cons,List.length_append,ihy (fun x hx=>hy x (by simp[hx])),(hy y (by simp)).len,List.length_cons,Nat.add_mul]
            omega
          have hcl:cs.length=k*s'.size:=by rw[←g3.1,hlen xs g2,g1]
          by_cases hi2:i<cs.length
          ·rw[List.getElem?_append_left hi2]at hi
           exact g4 i u hi
          ·rw[List.getElem?_append_right (by omega)]at hi
           have hi3:i - cs.length<P.cellsOf e:=by rw[←c1];exact(List.getElem?_eq_some_iff.1 hi).1
           have:=c2 (i - cs.length) hi3
           rw[hi,add_add,hcond.1]at this
           rw[show i=k*s'.size+(i - cs.length) by omega]
           exact this
       obtain⟨xs,g1,g2,cs,g3,g4⟩:=each len (Nat.le_refl _)
       refine⟨[.sl xs.length xs.flatten],⟨xs,rfl, ?_,g2⟩, .one ?_⟩
       ·refine Nat.le_trans (Nat.mul_le_mul_right _ ?_) hsz
        simp only[List.length_map]
        omega
       ·simp only[Rd]
        exact⟨some a,cap,by rw[g1],by omega,ztL g3 g4⟩
     ·cases h
    ·cases h
   ·rename_i fs hu
    split at h
    ·rename_i l hs
     split at h
     ·rename_i hcell
      cases h
      obtain⟨xs,m,rfl,e1,hcl,hxl,hget⟩:=DataW.trod_struct hu ht
      cases e1
      simp only[DataW.weights,hu]at hw
      obtain⟨ds,g1,g2⟩:=ih.2 fs.toList 0 l hs m cs xs (by simpa using hxl) (by rw[Nat.zero_add,hcl,hcell]) (fun i f hf=>hget i f (by simpa using hf)) (by simpa using hw)
      exact⟨ds,by simp only[ShD];exact g1,by simpa using g2⟩
     ·cases h
    ·cases h
   ·cases h
  ·cases fs with
   |nil=>
    simp only[zuy,Option.some.injEq]at h
    subst h
    simp only[Sh.sizes,Nat.add_zero]at hl
    refine⟨[],rfl, ?_⟩
    rw[hl,List.drop_length]
    exact⟨rfl,fun k d hk=>by simp at hk⟩
   |cons f fs=>
    simp only[zuy]at h
    split at h
    ·rename_i s hs
     split at h
     ·rename_i hcond
      split at h
      ·rename_i l' hl'
       cases h
       cases xs with
       |nil=>simp at hx
       |cons x xs=>
        simp only[Sh.sizes]at hl
        simp only[List.map_cons,DataW.weightsEach]at hw
        have h0:=hf 0 f rfl
        simp only[List.getElem?_cons_zero]at h0
        obtain⟨da,k1,k2⟩:=ih.1 f.type s hs fuel _ x.1 x.2 h0 (fun y hy=>hw y (List.mem_append_left _ hy))
        obtain⟨db,k3,k4⟩:=ih.2 fs (off+s.size) l' hl' fuel cs xs (by simpa using hx) (by omega) (fun i f' hf'=>by have:=hf (i+1) f' (by simpa using hf');simpa using this) (fun y hy=>hw y (List.mem_append_right _ hy))
        refine⟨da++db,by simp only[ShDs];exact⟨da,db,rfl,k1,k3⟩, ?_⟩
        have:=k2.append k4
        rwa[hcond.1,hcond.2,zhm (by omega)]at this
      ·cases h
     ·cases h
    ·cases h
open Go.ChangeShapes Go.WideShapes Go.RowKit
def zr4:Sh→List D→AV
 | .struct _,ds=> .agg (ds.map C.d)
 |_,[d]=> .one (.d d)
 |_,_=> .one .dead
def zeN:List Sh→List (List D)→List Arg
 |s::shs,ds::dss=> .f (zr4 s ds)::zeN shs dss
 |_,_=>[]
def zmI:List Sh→List (List D)→Prop
 |[],[]=>True
 |s::shs,ds::dss=>ShD s ds∧zmI shs dss
 |_,_=>False
abbrev noA:Nat→Prop:=fun _=>False
section
variable {H:Type} {enc:TypeId×Value→H} {P:Program} {w:World} {base:Nat} {sp:Nat→Bool} {held:Bool}
theorem ztM {d:D} {u:Value} (h:Rd w noA d u):Rd w (Av (cx0 P w noA noA) [] β0) d u:=h.stb ⟨fun _ _ _=>rfl,fun b _ hb=>av0.1 hb⟩
theorem zpX:∀{ds:List D} {us:List Value},RdV w ds us→ReCs (cx0 P w noA noA) w [] β0 (ds.map C.d) us
 |[],us,h=>by
  have:=h.1
  simp only[List.map_nil,ReCs]
  exact List.eq_nil_of_length_eq_zero this.symm
 |d::ds,us,h=>by
  cases us with
  |nil=>have:=h.1;simp at this
  |cons u us=>
   simp only[List.map_cons,ReCs]
   obtain⟨u',h1,h2⟩:=h.2 0 d rfl
   simp only[List.getElem?_cons_zero,Option.some.injEq]at h1
   subst h1
   exact⟨u,us,rfl,by simp only[ReC];exact ztM h2,zpX ⟨by simpa using h.1,fun k d' hk=>by simpa using h.2 (k+1) d' (by simpa using hk)⟩⟩
theorem zfm {d:D} {ds:List D} {u:Value} (h:RdV w [d] [u]):ReA (cx0 P w noA noA) w [] β0 (.one (.d d)) u:=by
 obtain⟨u',h1,h2⟩:=h.2 0 d rfl
 simp only[List.getElem?_cons_zero,Option.some.injEq]at h1
 subst h1
 simp only[ReA,ReC]
 exact ztM h2
theorem zwi {n:Nat} {t:TypeId} {s:Sh} (hs:zr3 P n t=some s) {v:Value} {d:DataW H} {ps:List MemPlace} (hv:Value.okWide P w .any base t v) (ht:DataW.Trod enc P w 0 sp held t v d ps)
  (hw:∀x∈DataW.weights P t d,x≤reachBytes):∃ds,ShD s ds∧ReA (cx0 P w noA noA) w [] β0 (zr4 s ds) v:=by
 obtain⟨fuel,ht⟩:=ht
 obtain⟨ds,h1,h2⟩:=(zox n).1 t s hs fuel _ d ps ht hw
 refine⟨ds,h1, ?_⟩
 cases n with
 |zero=>simp[zr3]at hs
 |succ n=>
  unfold zr3 at hs
  split at hs
  ·rename_i hu;cases hs
   obtain⟨b,rfl⟩:=okWide_bool hu hv
   have h3:=h1
   simp only[ShD]at h3;obtain⟨b',rfl⟩:=h3
   exact zfm (ds:=[]) h2
  ·rename_i k hu;cases hs
   obtain⟨b,rfl⟩:=okWide_int hu hv
   have h3:=h1
   simp only[ShD]at h3;obtain⟨b',rfl,_⟩:=h3
   exact zfm (ds:=[]) h2
  ·rename_i hu;cases hs
   obtain⟨b,rfl⟩:=okWide_string hu hv
   have h3:=h1
   simp only[ShD]at h3;obtain⟨b',rfl,_⟩:=h3
   exact zfm (ds:=[]) h2
  ·rename_i e hu
   obtain⟨a,len,cap,rfl⟩:=okWide_slice hu hv
   split at hs
   ·split at hs
    ·cases hs
     have h3:=h1
     simp only[ShD]at h3;obtain⟨xs,rfl,_⟩:=h3
     exact zfm (ds:=[]) h2
    ·cases hs
   ·cases hs
  ·rename_i fs hu
   obtain⟨cs,rfl,_⟩:=okWide_struct hu hv
   split at hs
   ·split at hs
    ·cases hs
     simp only[zr4,ReA]
     exact⟨cs,rfl,zpX h2⟩
    ·cases hs
   ·cases hs
  ·cases hs
def zoy (P:Program) (n:Nat):List TypeId→Option (List Sh)
 |[]=>some []
 |t::ts=>match zr3 P n t,zoy P n ts with
  |some s,some l=>some (s::l)
  |_,_=>none
theorem zpY {n:Nat} {γ:Nat→Pl}:∀{ts:List TypeId} {shs:List Sh} {vs:List Value} {ds:List (DataW H)} {ps:List MemPlace},zoy P n ts=some shs→DataW.TrodAll enc P w 0 sp held ts vs ds ps→
  (∀(j:Nat) t v,ts[j]? =some t→vs[j]? =some v→Value.okWide P w .any base t v)→(∀x∈DataW.weightsEach P ts ds,x≤reachBytes)→
  ∃dss,zmI shs dss∧zaq P w noA noA γ 0 (zeN shs dss) [] vs
 |[],shs,vs,ds,ps,hs,ht,_,_=>by
  simp only[zoy,Option.some.injEq]at hs
  subst hs
  obtain⟨rfl,rfl,rfl⟩:=trodAll_nil ht
  exact⟨[],trivial,by simp[zeN,zaq]⟩
 |t::ts,shs,vs,ds,ps,hs,ht,hv,hw=>by
  simp only[zoy]at hs
  split at hs
  ·rename_i s l g1 g2
   cases hs
   obtain⟨v,vs',d,ds',p,q,rfl,rfl,rfl,h1,h2⟩:=trodAll_cons ht
   simp only[DataW.weightsEach]at hw
   obtain⟨x,k1,k2⟩:=zwi g1 (hv 0 t v rfl rfl) h1 (fun y hy=>hw y (List.mem_append_left _ hy))
   obtain⟨xs,k3,k4⟩:=zpY (γ:=γ) g2 h2 (fun j t' v' hj hj'=>hv (j+1) t' v' (by simpa using hj) (by simpa using hj')) (fun y hy=>hw y (List.mem_append_right _ hy))
   refine⟨x::xs,⟨k1,k3⟩, ?_⟩
   simp only[zeN,zaq]
   exact⟨v,vs',rfl,k2,k4⟩
  ·cases hs
theorem zfO:∀{shs:List Sh} {dss:List (List D)},zal (zeN shs dss)=[]
 |[],_=>by simp[zeN,zal]
 |_::_,[]=>by simp[zeN,zal]
 |_::shs,_::dss=>by simp[zeN,zal,zfO (shs:=shs)]
theorem zf6 (hl:laidOutB P=true):∀{ts:List TypeId} {vs:List Value} {ds:List (DataW H)} {ps:List MemPlace},(∀t∈ts,P.readableRec t=true∧t<P.types.size)→∀{W W':World},DataW.TrodAll enc P W 0 (fun _=>true) true ts vs ds ps→
  (∀p∈ps,W.sameAt W' p)→∀{sp':Nat→Bool},(∀p∈ps,sp' p.block=true)→DataW.TrodAll enc P W' 0 sp' true ts vs ds ps
 |[],vs,ds,ps,_,W,W',h,_,sp',_=>by
  obtain⟨rfl,rfl,rfl⟩:=trodAll_nil h
  rfl
 |t::ts,vs,ds,ps,hr,W,W',h,hsame,sp',hsp=>by
  obtain⟨v,vs',d,ds',p,q,rfl,rfl,rfl,h1,h2⟩:=trodAll_cons h
  obtain⟨r1,r2⟩:=hr t (by simp)
  exact⟨p,q,WideElems.Trod_stays hl r1 r2 h1 (fun x hx=>hsame x (List.mem_append_left _ hx)) (fun x hx=>hsp x (List.mem_append_left _ hx)),
   zf6 hl (fun t' ht'=>hr t' (by simp[ht'])) h2 (fun x hx=>hsame x (List.mem_append_right _ hx)) (fun x hx=>hsp x (List.mem_append_right _ hx)),rfl⟩
theorem zmJ {f:FuncId} {fn:Func} {s:ChangeSpec} {shs:List Sh} {tb:TypeId} {n:Nat} (hsh:zoy P n fn.params.toList=some shs) (hvars:s.vars=[])
  (hfn:∀(ds:List (DataW H)),ds.length=fn.params.size→(s.fn H ds).results=[.lit (.bool true)]∧(s.fn H ds).args=ds∧(s.fn H ds).vars=[]) (hres:fn.resultTypes= #[tb]) (htb:P.underlying tb=some .bool) (hl:laidOutB P=true)
  (hread:∀t∈fn.params.toList,P.readableRec t=true∧t<P.types.size)
  (hok:∀dss,zmI shs dss→CallOK P f (zeN shs dss) (fun r o=>r=[.one (.d (.v (.bool true)))]∧o=[]))
  (W:World) (base:Nat) (args:Array Value) (ds gs:List (DataW H)) (before:List MemPlace)
  (hval:∀(j:Nat) t v,fn.params[j]? =some t→args[j]? =some v→Value.okWide P W .any base t v)
  (hW:DataW.Whole enc P fn.params.toList s.vars false W args.toList ds gs before)
  (hsz:(DataW.weightsEach P (fn.params.toList++s.plain.varTypes P) (ds++gs)).all (·≤reachBytes)=true):
  Calls P f args W fun e W'=>∃v,e= .returned v∧s.post enc P fn false true false false W args v W':=by
 have hW':=hW
 obtain⟨p,q,hA,hV,rfl,hfz,hnd⟩:=hW
 rw[hvars]at hV
 obtain⟨rfl,rfl⟩:=trodVars_none hV
 have hvt:s.plain.varTypes P=[]:=by
  have:s.plain.vars=[]:=hvars
  simp[DataSpec.varTypes,this]
 rw[hvt,List.append_nil,List.append_nil]at hsz
 have hlen:∀{ts:List TypeId} {vs:List Value} {ds:List (DataW H)} {ps:List MemPlace},DataW.TrodAll enc P W 0 (fun _=>true) true ts vs ds ps→ds.length=ts.length:=by
  intro ts
  induction ts with
  |nil=>intro vs ds ps h;obtain⟨_,rfl,_⟩:=trodAll_nil h;rfl
  |cons t ts ih=>intro vs ds ps h;obtain⟨v,vs',d,ds',p,q,rfl,rfl,rfl,h1,h2⟩:=trodAll_cons h;simp[ih h2]
 obtain⟨f1,f2,f3⟩:=hfn ds (by rw[hlen hA];simp)
 obtain⟨dss,g1,g2⟩:=zpY (n:=n) (γ:=fun _=>⟨none,0⟩) hsh hA (fun j t v hj hj'=>hval j t v (by simpa using hj) (by simpa using hj')) (fun x hx=>by
  have:=List.all_eq_true.1 hsz x hx
  simpa using this)
 have hc:=(hok dss g1).2 W noA noA (fun _=>⟨none,0⟩) [] args.toList (fun b hb=>hb.elim) (fun b hb=>hb) g2 (by rw[zfO];intro b hb;exact hb.elim) List.nodup_nil (by rw[zfO];intro i j b o o' sz n ds bo sz' n' ds' bo' h1;simp at h1)
 simp only[Array.toArray_toList]at hc
 refine hc.mono fun e W' ⟨rfs,objs,u,⟨e1,e2⟩,e3,e4⟩=>⟨u,e3, ?_⟩
 subst e1 e2
 obtain⟨⟨γ,us,m1,m2,_⟩,hsize,hold,hos,hout⟩:=e4
 have hu:u= .bool true:=by
  simp only[RFvs,RFv,ROc,Rd]at m2
  obtain⟨u1,us1,rfl,⟨rfl,_⟩,rfl⟩:=m2
  simpa using m1
 subst hu
 have hheap:∀b,b<W.heap.size→W'.heap[b]? =W.heap[b]? :=fun b hb=>hold b hb (fun h=>h)
 have hplace:∀x∈p,x.block<W.heap.size:=fun x hx=>by
  have:=hW'.lt x (by simpa using hx)
  simpa using this
 have hsame:∀x∈p,W.sameAt W' x:=fun x hx=>by
  have hb:=hheap x.block (hplace x hx)
  cases x with
  |cell b o=>exact World.cell?_of_block (w:=W) hb
  |map b=>exact hb
 refine⟨ds,[],p++[],[],p,[],by simpa using hW', ?_, ?_, ?_, ?_,fun h=>by cases h⟩
 ·rw[List.append_nil,f1,hres]
  exact trodAll_mk1 (shut_bool htb _)
 ·rw[List.append_nil,f2]
  exact zf6 hl hread hA hsame (fun x hx=>by simpa using hplace x hx)
 ·rw[List.append_nil,f3,hvars]
  rfl
 ·refine⟨hos,hout,fun i hi=> ?_⟩
  rw[hheap i hi]
  split<;>simp_all
end
end Go.Pk
