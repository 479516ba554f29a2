import Derived.Calls
import Derived.Orders
import Derived.Still
import Derived.Laws.Sem
import Derived.Laws.Cells
import Derived.Laws.World
import Derived.Laws.Rows
import Derived.Laws.Append
set_option linter.unusedVariables false
set_option linter.unusedSimpArgs false
set_option linter.unusedSectionVars false
namespace Go.Pk
theorem I {p q:Prop} (a:p) (b:q):p∧q:=⟨a,b⟩
def flat:Value→Bool
 | .agg _=>false
 | .tuple _=>false
 |_=>true
inductive D where
 |v (x:Value)
 |sl (n:Nat) (ds:List D)
 |raw (x:Value) -- a value,whatever memory it leads to
mutual
def Rd (w:World) (A:Nat→Prop):D→Value→Prop
 | .v x,u=>u=x∧flat x=true
 | .sl n ds,u=>∃a cap,u= .slice a n cap∧n≤cap∧RdL w A ds a
 | .raw x,u=>u=x∧flat x=true
def RdL (w:World) (A:Nat→Prop):List D→Option Addr→Prop
 |[],_=>True
 |d::ds,a=>∃b o u,a=some ⟨b,o,none⟩∧¬A b∧w.cell? ⟨b,o,none⟩=some u∧Rd w A d u∧RdL w A ds (some ⟨b,o+1,none⟩)
end
def RdT (w:World) (A T:Nat→Prop):List D→Option Addr→Prop
 |[],_=>True
 |d::ds,a=>∃b o u,a=some ⟨b,o,none⟩∧T b∧w.cell? ⟨b,o,none⟩=some u∧Rd w A d u∧RdT w A T ds (some ⟨b,o+1,none⟩)
theorem zdd {w:World} {A:Nat→Prop}:∀{ds:List D} {a:Option Addr},RdL w A ds a↔RdT w A (fun b=>¬A b) ds a
 |[],_=>Iff.rfl
 |d::ds,a=>by
  simp only[RdL,RdT]
  constructor
  ·rintro⟨b,o,u,h1,h2,h3,h4,h5⟩;exact⟨b,o,u,h1,h2,h3,h4,zdd.1 h5⟩
  ·rintro⟨b,o,u,h1,h2,h3,h4,h5⟩;exact⟨b,o,u,h1,h2,h3,h4,zdd.2 h5⟩
structure Stb (w:World) (A:Nat→Prop) (w':World) (A':Nat→Prop):Prop where
 hp:∀b,b<w.heap.size→¬A b→w'.heap[b]? =w.heap[b]?
 av:∀b,b<w.heap.size→A' b→A b
theorem Stb.rfl {w:World} {A:Nat→Prop}:Stb w A w A:=⟨fun _ _ _=>Eq.refl _,fun _ _ h=>h⟩
theorem lt_of_cell {w:World} {b o:Nat} {u:Value} (h:w.cell? ⟨b,o,none⟩=some u):b<w.heap.size:=by
 unfold World.cell? at h
 rcases Nat.lt_or_ge b w.heap.size with h'|h'
 ·exact h'
 ·simp[Array.getElem?_eq_none h']at h
theorem zih {w w':World} {b o:Nat} (h:w'.heap[b]? =w.heap[b]?):w'.cell? ⟨b,o,none⟩=w.cell? ⟨b,o,none⟩:=by
 simp[World.cell?,h]
mutual
theorem Rd.stb {w w':World} {A A':Nat→Prop} (s:Stb w A w' A'):∀{d:D} {u:Value},Rd w A d u→Rd w' A' d u
 | .v _,_,h=>by simpa[Rd]using h
 | .raw _,_,h=>by simpa[Rd]using h
 | .sl n ds,u,h=>by
  simp only[Rd]at h⊢
  obtain⟨a,cap,h1,h2,h3⟩:=h
  exact⟨a,cap,h1,h2,RdL.stb s h3⟩
theorem RdL.stb {w w':World} {A A':Nat→Prop} (s:Stb w A w' A'):∀{ds:List D} {a:Option Addr},RdL w A ds a→RdL w' A' ds a
 |[],_,_=>by simp[RdL]
 |d::ds,a,h=>by
  simp only[RdL]at h⊢
  obtain⟨b,o,u,h1,h2,h3,h4,h5⟩:=h
  have hb:=lt_of_cell h3
  exact⟨b,o,u,h1,fun h'=>h2 (s.av b hb h'),by rw[zih (s.hp b hb h2)];exact h3,Rd.stb s h4,RdL.stb s h5⟩
end
theorem Rd.flat {w:World} {A:Nat→Prop} {d:D} {u:Value} (h:Rd w A d u):flat u=true:=by
 cases d with
 |v x=>simp only[Rd]at h;obtain⟨rfl,h⟩:=h;exact h
 |sl n ds=>simp only[Rd]at h;obtain⟨a,c,rfl,_⟩:=h;rfl
 |raw x=>simp only[Rd]at h;obtain⟨rfl,h⟩:=h;exact h
theorem RdT.stb {w w':World} {A A' T T':Nat→Prop} (s:Stb w A w' A') (hT:∀b,b<w.heap.size→T b→T' b∧w'.heap[b]? =w.heap[b]?):
  ∀{ds:List D} {a:Option Addr},RdT w A T ds a→RdT w' A' T' ds a
 |[],_,_=>trivial
 |d::ds,a,h=>by
  simp only[RdT]at h⊢
  obtain⟨b,o,u,h1,h2,h3,h4,h5⟩:=h
  have hb:=lt_of_cell h3
  exact⟨b,o,u,h1,(hT b hb h2).1,by rw[zih (hT b hb h2).2];exact h3,h4.stb s,h5.stb s hT⟩
theorem RdT.imp {w:World} {A T T':Nat→Prop} (hT:∀b,T b→T' b):∀{ds:List D} {a:Option Addr},RdT w A T ds a→RdT w A T' ds a
 |[],_,_=>trivial
 |d::ds,a,h=>by
  simp only[RdT]at h⊢
  obtain⟨b,o,u,h1,h2,h3,h4,h5⟩:=h
  exact⟨b,o,u,h1,hT _ h2,h3,h4,h5.imp hT⟩
theorem RdT.drop {w:World} {A T:Nat→Prop}:∀{k:Nat} {ds:List D} {b o:Nat},RdT w A T ds (some ⟨b,o,none⟩)→RdT w A T (ds.drop k) (some ⟨b,o+k,none⟩)
 |0,ds,b,o,h=>by simpa using h
 |k+1,[],b,o,h=>by simp[RdT]
 |k+1,d::ds,b,o,h=>by
  simp only[RdT]at h
  obtain⟨b',o',u,h1,_,_,_,h5⟩:=h
  cases h1
  have:=RdT.drop (k:=k) h5
  simpa[Nat.add_assoc,Nat.add_comm 1 k]using this
theorem RdT.take {w:World} {A T:Nat→Prop}:∀{k:Nat} {ds:List D} {a:Option Addr},RdT w A T ds a→RdT w A T (ds.take k) a
 |0,ds,a,h=>by simp[RdT]
 |k+1,[],a,h=>by simp[RdT]
 |k+1,d::ds,a,h=>by
  simp only[RdT,List.take_succ_cons]at h⊢
  obtain⟨b',o',u,h1,h2,h3,h4,h5⟩:=h
  exact⟨b',o',u,h1,h2,h3,h4,h5.take⟩
theorem RdT.addr {w:World} {A T:Nat→Prop} {ds:List D} {a:Option Addr} (h:RdT w A T ds a) (hne:ds≠[]):∃b o,a=some ⟨b,o,none⟩:=by
 cases ds with
 |nil=>exact absurd rfl hne
 |cons d ds=>obtain⟨b,o,u,h1,_⟩:=h;exact⟨b,o,h1⟩
theorem RdT.get {w:World} {A T:Nat→Prop}:∀{ds:List D} {b o k:Nat} {d:D},RdT w A T ds (some ⟨b,o,none⟩)→ds[k]? =some d→
  T b∧∃u,w.cell? ⟨b,o+k,none⟩=some u∧Rd w A d u
 |[],_,_,k,_,_,hk=>by simp at hk
 |d'::ds,b,o,0,d,h,hk=>by
  obtain⟨b',o',u,h1,h2,h3,h4,_⟩:=h
  cases h1
  simp only[List.getElem?_cons_zero,Option.some.injEq]at hk
  exact⟨h2,u,h3,hk▸h4⟩
 |d'::ds,b,o,k+1,d,h,hk=>by
  obtain⟨b',o',u,h1,h2,h3,h4,h5⟩:=h
  cases h1
  have:=RdT.get (k:=k) h5 (by simpa using hk)
  simpa[Nat.add_assoc,Nat.add_comm 1 k]using this
theorem RdT.mk {w:World} {A T:Nat→Prop} {b:Nat} (hT:T b):∀{ds:List D} {o:Nat},
  (∀k d,ds[k]? =some d→∃u,w.cell? ⟨b,o+k,none⟩=some u∧Rd w A d u)→RdT w A T ds (some ⟨b,o,none⟩)
 |[],_,_=>trivial
 |d::ds,o,h=>by
  obtain⟨u,h1,h2⟩:=h 0 d (by simp)
  exact⟨b,o,u,rfl,hT,by simpa using h1,h2,RdT.mk hT fun k d' hk=>by
   have:=h (k+1) d' (by simpa using hk)
   simpa[Nat.add_assoc,Nat.add_comm 1 k]using this⟩
structure Hd where
 s:Nat
 j:Nat
 e:Nat
inductive C where
 |d (x:D) -- data
 |lent (n:Nat) (ds:List D) -- a slice that is looked at alone
 |own (h:Hd) (lo n:Nat) -- a slice of a row that is this frame's own
 |ptr (h:Hd) (off:Nat) -- a pointer into memory that is this frame's own
 |elt (ds:List D) -- a pointer at cells that are looked at alone
 |clos (f:FuncId) (caps:List C) -- a function literal and what it captured
 |ab -- a bool of which nothing is known
 |dead
 |eltR (cs:List C) -- a pointer at cells that are looked at alone,slices that are looked at alone among them
 |gap (h:Hd) (lo n k:Nat) -- a slice of a row of one's own with room for k elements,not all of them known
 |lk (h:Hd) (n:Nat) (x:Value) -- no value:x is the slice of n elements at the handle
inductive AV where
 |one (x:C)
 |agg (l:List C)
 |tup (l:List AV)
 |gd (c:Bool) (x:AV) -- a value that is there if c
structure Res where
 e:Nat
 var:Bool
 fz:Bool
 bor:Bool:=false -- it came with an object that was handed in
 sz:Nat
 cells:List C
structure RS where
 next:Nat
 l:List (Option Res)
abbrev Rs:=List (Nat×RS)
def findR (s:Nat):Rs→Option RS
 |[]=>none
 |(t,x)::l=>if t=s then some x else findR s l
def setR (s:Nat) (y:RS):Rs→Rs
 |[]=>[(s,y)]
 |(t,x)::l=>if t=s then(t,y)::l else(t,x)::setR s y l
theorem zak (s t:Nat) (y:RS):∀(r:Rs),findR t (setR s y r)=if s=t then some y else findR t r
 |[]=>by simp[setR,findR]
 |(u,x)::l=>by
  simp only[setR]
  by_cases h:u=s
  ·rw[if_pos h]
   simp only[findR]
   by_cases h2:u=t
   ·rw[if_pos h2,if_pos (by omega)]
   ·rw[if_neg h2,if_neg (by omega),if_neg h2]
  ·rw[if_neg h]
   simp only[findR]
   by_cases h2:u=t
   ·rw[if_pos h2,if_neg (by omega),if_pos h2]
   ·rw[if_neg h2,if_neg h2,zak s t y l]
structure G where
 v:List AV
 r:Rs
def lookR (r:Rs) (s j:Nat):Option Res:=
 match findR s r with
 |some rs=>match rs.l[j]? with
  |some (some res)=>some res
  |_=>none
 |none=>none
def getR (r:Rs) (h:Hd):Option Res:=
 match lookR r h.s h.j with
 |some res=>if res.e=h.e then some res else none
 |none=>none
def nxt (r:Rs) (s:Nat):Nat:=match findR s r with|some rs=>rs.next|none=>0
theorem zad {r:Rs} {h:Hd} {res:Res} (hg:getR r h=some res):lookR r h.s h.j=some res∧res.e=h.e:=by
 unfold getR at hg
 cases hl:lookR r h.s h.j with
 |none=>simp[hl]at hg
 |some r'=>
  simp only[hl]at hg
  split at hg
  ·rename_i he;simp only[Option.some.injEq]at hg;subst hg;exact⟨rfl,he⟩
  ·cases hg
theorem zao {r:Rs} {h:Hd} {res:Res} (hl:lookR r h.s h.j=some res) (he:res.e=h.e):getR r h=some res:=by
 simp[getR,hl,he]
structure Pl where
 base:Option (Nat×Nat)
 cap:Nat
structure Cx where
 P:Program
 w0:World
 A0:Nat→Prop
 Bor:Nat→Prop
 Obj:List (Nat×Nat):=[] -- the objects that were handed in:slot and block
 Row:List (Nat×Nat×Value):=[] -- the rows that were handed in:slot,number,value
 ds:List Deferred:=[] -- what is deferred
def Cx.n0 (cx:Cx):Nat:=cx.w0.heap.size
def OB (r:Rs) (β:Nat→Nat→Pl) (b:Nat):Prop:=
 ∃s j res o,lookR r s j=some res∧res.fz=false∧(β s j).base=some (b,o)
def Av (cx:Cx) (r:Rs) (β:Nat→Nat→Pl) (b:Nat):Prop:=cx.A0 b∨OB r β b
def Top (cx:Cx) (A:Nat→Prop) (b:Nat):Prop:=¬A b∨(b<cx.n0∧¬cx.Bor b)
def OwnV (pl:Pl) (res:Res) (lo n:Nat) (u:Value):Prop:=
 res.var=false∧lo*res.sz+n*res.sz≤res.cells.length∧lo+n≤pl.cap∧
 ∃a,u= .slice a n (pl.cap - lo)∧(pl.cap - lo=0∨∃b o,pl.base=some (b,o)∧a=some ⟨b,o+lo*res.sz,none⟩)
mutual
def ReC (cx:Cx) (w:World) (r:Rs) (β:Nat→Nat→Pl):C→Value→Prop
 | .d x,u=>Rd w (Av cx r β) x u
 | .lent n ds,u=>∃a cap,u= .slice a n cap∧n≤cap∧RdT w (Av cx r β) (Top cx (Av cx r β)) ds a
 | .own h lo n,u=>flat u=true∧h.e<nxt r h.s∧∀res,getR r h=some res→OwnV (β h.s h.j) res lo n u
 | .ptr h off,u=>flat u=true∧h.e<nxt r h.s∧∀res,getR r h=some res→∃b o,(β h.s h.j).base=some (b,o)∧u= .pointer (some ⟨b,o+off,none⟩)
 | .elt ds,u=>∃b o,u= .pointer (some ⟨b,o,none⟩)∧RdT w (Av cx r β) (Top cx (Av cx r β)) ds (some ⟨b,o,none⟩)
 | .clos f caps,u=>∃us,u= .func (.func f) #[] us∧ReCs cx w r β caps us.toList
 | .ab,u=>∃b,u= .bool b
 | .dead,_=>True
 | .eltR cs,u=>∃b o us,u= .pointer (some ⟨b,o,none⟩)∧b<w.heap.size∧Top cx (Av cx r β) b∧(∀k v,us[k]? =some v→w.cell? ⟨b,o+k,none⟩=some v∧flat v=true)∧ReCs cx w r β cs us
 | .gap h lo n k,u=>flat u=true∧h.e<nxt r h.s∧lo+n≤k∧∃a,u= .slice a n (k - lo)∧∀res,getR r h=some res→res.var=false∧(β h.s h.j).cap=k∧
   (k - lo=0∨∃b o,(β h.s h.j).base=some (b,o)∧a=some ⟨b,o+lo*res.sz,none⟩)
 | .lk h n x,_=>flat x=true∧h.e<nxt r h.s∧∀res,getR r h=some res→OwnV (β h.s h.j) res 0 n x
def ReCs (cx:Cx) (w:World) (r:Rs) (β:Nat→Nat→Pl):List C→List Value→Prop
 |[],us=>us=[]
 |c::cs,us=>∃u us',us=u::us'∧ReC cx w r β c u∧ReCs cx w r β cs us'
end
mutual
def ReA (cx:Cx) (w:World) (r:Rs) (β:Nat→Nat→Pl):AV→Value→Prop
 | .one x,u=>ReC cx w r β x u
 | .agg l,u=>∃us,u= .agg us∧ReCs cx w r β l us.toList
 | .tup l,u=>∃us,u= .tuple us∧ReAs cx w r β l us.toList
 | .gd c x,u=>(c=true→ReA cx w r β x u)∧(c=false→u=undef)
def ReAs (cx:Cx) (w:World) (r:Rs) (β:Nat→Nat→Pl):List AV→List Value→Prop
 |[],us=>us=[]
 |c::cs,us=>∃u us',us=u::us'∧ReA cx w r β c u∧ReAs cx w r β cs us'
end
def RowM (w:World) (A:Nat→Prop) (pl:Pl) (sz:Nat) (ds:List D):Prop:=
 match pl.base with
 |none=>ds=[]∧pl.cap=0
 |some (b,o)=>∃c e,w.heap[b]? =some (.cells c e (0,0))∧o+pl.cap*sz≤c.size∧ds.length≤pl.cap*sz∧
   ∀(k:Nat) (d:D),ds[k]? =some d→∃u,c[o+k]? =some u∧Rd w A d u
def ResOK (cx:Cx) (w:World) (r:Rs) (β:Nat→Nat→Pl) (pl:Pl) (res:Res):Prop:=
 if res.var then res.fz=false∧∃b c e,pl.base=some (b,0)∧w.heap[b]? =some (.cells c e (0,0))∧ReCs cx w r β res.cells c.toList∧(∀u∈c.toList,flat u=true)
 else∃ds:List D,res.cells=ds.map C.d∧RowM w (Av cx r β) pl res.sz ds∧
  (res.fz=true→∀b o,pl.base=some (b,o)→¬Av cx r β b)
structure Holds (cx:Cx) (g:G) (a:Act) (w:World) (β:Nat→Nat→Pl):Prop where
 sz:a.tmps.size=g.v.length
 df:a.defers=cx.ds
 sl:∀(i:Nat) (x:AV),g.v[i]? =some x→∃u,a.tmps[i]? =some u∧ReA cx w g.r β x u
 rs:∀s j res,lookR g.r s j=some res→ResOK cx w g.r β (β s j) res∧res.e<nxt g.r s
 inj:∀s j res s' j' res' b o o',lookR g.r s j=some res→res.fz=false→lookR g.r s' j'=some res'→res'.fz=false→
  (β s j).base=some (b,o)→(β s' j').base=some (b,o')→s=s'∧j=j'
 fr:∀s j res b o,lookR g.r s j=some res→res.fz=false→(β s j).base=some (b,o)→(cx.n0≤b∨cx.Bor b)∧(res.bor=false→cx.n0≤b)
 n0:cx.n0≤w.heap.size
 old:∀b,b<cx.n0→¬cx.Bor b→w.heap[b]? =cx.w0.heap[b]?
 a0:∀b,cx.A0 b→b<cx.n0
 bor:∀b,cx.Bor b→cx.A0 b
 ob:∀p b,(p,b)∈cx.Obj→0<nxt g.r p∧∀res,getR g.r ⟨p,0,0⟩=some res→(β p 0).base=some (b,0)
 rw:∀p n u,(p,n,u)∈cx.Row→ReC cx w g.r β (.own ⟨p,1,0⟩ 0 n) u
 os:w.os=cx.w0.os
 out:w.output=cx.w0.output
def HoldsE (cx:Cx) (g:G) (a:Act) (w:World):Prop:=∃β,Holds cx g a w β
structure Ext (cx:Cx) (w:World) (r:Rs) (β:Nat→Nat→Pl) (w':World) (r':Rs) (β':Nat→Nat→Pl):Prop where
 nx:∀s,nxt r s≤nxt r' s
 old:∀(h:Hd) (res':Res),h.e<nxt r h.s→getR r' h=some res'→
  ∃res,getR r h=some res∧β' h.s h.j=β h.s h.j∧res'.var=res.var∧res'.sz=res.sz∧res.cells.length≤res'.cells.length
 st:Stb w (Av cx r β) w' (Av cx r' β')
 tp:∀b,b<cx.n0→¬cx.Bor b→w'.heap[b]? =w.heap[b]?
 os:w'.os=w.os
 out:w'.output=w.output
theorem Ext.top {cx:Cx} {w w':World} {r r':Rs} {β β':Nat→Nat→Pl} (x:Ext cx w r β w' r' β'):
  ∀b,b<w.heap.size→Top cx (Av cx r β) b→Top cx (Av cx r' β') b∧w'.heap[b]? =w.heap[b]? :=by
 intro b hb h
 rcases h with h|⟨h1,h2⟩
 ·exact⟨.inl fun h'=>h (x.st.av b hb h'),x.st.hp b hb h⟩
 ·exact⟨.inr ⟨h1,h2⟩,x.tp b h1 h2⟩
theorem OwnV.same {pl:Pl} {res res':Res} {lo n:Nat} {u:Value} (h:OwnV pl res lo n u) (h1:res'.var=res.var) (h2:res'.sz=res.sz)
  (h3:res.cells.length≤res'.cells.length):OwnV pl res' lo n u:=by
 unfold OwnV at*
 rw[h1,h2]
 exact⟨h.1,Nat.le_trans h.2.1 h3,h.2.2⟩
mutual
theorem ReC.ext {cx:Cx} {w w':World} {r r':Rs} {β β':Nat→Nat→Pl} (x:Ext cx w r β w' r' β'):∀{c:C} {u:Value},ReC cx w r β c u→ReC cx w' r' β' c u
 | .d _,_,h=>by simp only[ReC]at h⊢;exact h.stb x.st
 | .lent n ds,_,h=>by
  simp only[ReC]at h⊢
  obtain⟨a,cap,h1,h2,h3⟩:=h
  exact⟨a,cap,h1,h2,h3.stb x.st x.top⟩
 | .own hd lo n,u,h=>by
  simp only[ReC]at h⊢
  obtain⟨h1,h2,h3⟩:=h
  refine⟨h1,Nat.lt_of_lt_of_le h2 (x.nx _),fun res' hr=> ?_⟩
  obtain⟨res,g1,g2,g3,g4,g5⟩:=x.old hd res' h2 hr
  rw[g2]
  exact(h3 res g1).same g3 g4 g5
 | .ptr hd off,u,h=>by
  simp only[ReC]at h⊢
  obtain⟨h1,h2,h3⟩:=h
  refine⟨h1,Nat.lt_of_lt_of_le h2 (x.nx _),fun res' hr=> ?_⟩
  obtain⟨res,g1,g2,_⟩:=x.old hd res' h2 hr
  rw[g2]
  exact h3 res g1
 | .elt ds,_,h=>by
  simp only[ReC]at h⊢
  obtain⟨b,o,h1,h2⟩:=h
  exact⟨b,o,h1,h2.stb x.st x.top⟩
 | .clos f caps,_,h=>by
  simp only[ReC]at h⊢
  obtain⟨us,h1,h2⟩:=h
  exact⟨us,h1,ReCs.ext x h2⟩
 | .ab,_,h=>by simpa only[ReC]using h
 | .dead,_,_=>by simp[ReC]
 | .eltR cs,u,h=>by
  simp only[ReC]at h⊢
  obtain⟨b,o,us,h1,h2,h3,h4,h5⟩:=h
  obtain⟨t1,t2⟩:=x.top b h2 h3
  refine⟨b,o,us,h1, ?_,t1,fun k v hk=>by rw[zih t2];exact h4 k v hk,ReCs.ext x h5⟩
  rcases Nat.lt_or_ge b w'.heap.size with hb|hb
  ·exact hb
  ·rw[Array.getElem?_eq_none hb,Array.getElem?_eq_getElem h2]at t2;cases t2
 | .gap hd lo n k,u,h=>by
  simp only[ReC]at h⊢
  obtain⟨h1,h2,h3,a,h4,h5⟩:=h
  refine⟨h1,Nat.lt_of_lt_of_le h2 (x.nx _),h3,a,h4,fun res' hr=> ?_⟩
  obtain⟨res,g1,g2,g3,g4,g5⟩:=x.old hd res' h2 hr
  rw[g2,g3,g4]
  exact h5 res g1
 | .lk hd n x',u,h=>by
  simp only[ReC]at h⊢
  obtain⟨h1,h2,h3⟩:=h
  refine⟨h1,Nat.lt_of_lt_of_le h2 (x.nx _),fun res' hr=> ?_⟩
  obtain⟨res,g1,g2,g3,g4,g5⟩:=x.old hd res' h2 hr
  rw[g2]
  exact(h3 res g1).same g3 g4 g5
theorem ReCs.ext {cx:Cx} {w w':World} {r r':Rs} {β β':Nat→Nat→Pl} (x:Ext cx w r β w' r' β'):∀{c:List C} {u:List Value},ReCs cx w r β c u→ReCs cx w' r' β' c u
 |[],_,h=>by simpa[ReCs]using h
 |c::cs,_,h=>by
  simp only[ReCs]at h⊢
  obtain⟨u,us,h1,h2,h3⟩:=h
  exact⟨u,us,h1,ReC.ext x h2,ReCs.ext x h3⟩
end
mutual
theorem ReA.ext {cx:Cx} {w w':World} {r r':Rs} {β β':Nat→Nat→Pl} (x:Ext cx w r β w' r' β'):∀{c:AV} {u:Value},ReA cx w r β c u→ReA cx w' r' β' c u
 | .one _,_,h=>by simp only[ReA]at h⊢;exact h.ext x
 | .agg l,_,h=>by
  simp only[ReA]at h⊢
  obtain⟨us,h1,h2⟩:=h
  exact⟨us,h1,h2.ext x⟩
 | .tup l,_,h=>by
  simp only[ReA]at h⊢
  obtain⟨us,h1,h2⟩:=h
  exact⟨us,h1,ReAs.ext x h2⟩
 | .gd c y,_,h=>by
  simp only[ReA]at h⊢
  exact⟨fun hc=>ReA.ext x (h.1 hc),h.2⟩
theorem ReAs.ext {cx:Cx} {w w':World} {r r':Rs} {β β':Nat→Nat→Pl} (x:Ext cx w r β w' r' β'):∀{c:List AV} {u:List Value},ReAs cx w r β c u→ReAs cx w' r' β' c u
 |[],_,h=>by simpa[ReAs]using h
 |c::cs,_,h=>by
  simp only[ReAs]at h⊢
  obtain⟨u,us,h1,h2,h3⟩:=h
  exact⟨u,us,h1,ReA.ext x h2,ReAs.ext x h3⟩
end
theorem RowM.stb {w w':World} {A A':Nat→Prop} (s:Stb w A w' A') {pl:Pl} {sz:Nat} {ds:List D}
  (hb:∀b o,pl.base=some (b,o)→w'.heap[b]? =w.heap[b]?) (h:RowM w A pl sz ds):RowM w' A' pl sz ds:=by
 unfold RowM at*
 split at h
 ·exact h
 ·rename_i b o hbase
  obtain⟨c,e,h1,h2,h3,h4⟩:=h
  refine⟨c,e,by rw[hb b o hbase];exact h1,h2,h3,fun k d hk=> ?_⟩
  obtain⟨u,g1,g2⟩:=h4 k d hk
  exact⟨u,g1,g2.stb s⟩
theorem ResOK.ext {cx:Cx} {w w':World} {r r':Rs} {β β':Nat→Nat→Pl} (x:Ext cx w r β w' r' β') {pl:Pl} {res:Res}
  (hb:∀b o,pl.base=some (b,o)→w'.heap[b]? =w.heap[b]?)
  (hs:∀b o,pl.base=some (b,o)→b<w.heap.size) (h:ResOK cx w r β pl res):ResOK cx w' r' β' pl res:=by
 unfold ResOK at*
 split
 ·rename_i hv
  rw[if_pos hv]at h
  obtain⟨h0,b,c,e,h1,h2,h3,h4⟩:=h
  exact⟨h0,b,c,e,h1,by rw[hb b 0 h1];exact h2,h3.ext x,h4⟩
 ·rename_i hv
  rw[if_neg hv]at h
  obtain⟨ds,h1,h2,h3⟩:=h
  exact⟨ds,h1,h2.stb x.st hb,fun hf b o hbase hA=>h3 hf b o hbase (x.st.av b (hs b o hbase) hA)⟩
theorem ResOK.lt {cx:Cx} {w:World} {r:Rs} {β:Nat→Nat→Pl} {pl:Pl} {res:Res} (h:ResOK cx w r β pl res) {b o:Nat} (hb:pl.base=some (b,o)):b<w.heap.size:=by
 have key:∀{c e},w.heap[b]? =some (Obj.cells c e (0,0))→b<w.heap.size:=fun h1=>by
  rcases Nat.lt_or_ge b w.heap.size with h'|h'
  ·exact h'
  ·simp[Array.getElem?_eq_none h']at h1
 unfold ResOK at h
 split at h
 ·obtain⟨_,b',c,e,h1,h2,_⟩:=h
  rw[hb]at h1
  cases h1
  exact key h2
 ·obtain⟨ds,_,h2,_⟩:=h
  simp only[RowM,hb]at h2
  obtain⟨c,e,h3,_⟩:=h2
  exact key h3
def G.put (g:G) (dst:Option Nat) (x:AV):G:=
 match dst with
 |some d=>{g with v:=g.v.set d x}
 |none=>g
theorem Holds.put {cx:Cx} {g:G} {a:Act} {w:World} {β:Nat→Nat→Pl} (h:Holds cx g a w β) (dst:Option Nat) {x:AV} {u:Value} (hx:ReA cx w g.r β x u):
  Holds cx (g.put dst x) (a.put dst u) w β:=by
 cases dst with
 |none=>exact h
 |some d=>
  refine {h with sz:=by simpa[G.put,Act.put]using h.sz,df:=h.df,sl:=fun i y hi=> ?_}
  simp only[G.put,Act.put,List.getElem?_set,Array.getElem?_setIfInBounds]at hi⊢
  by_cases hd:d=i
  ·subst hd
   rw[if_pos rfl]at hi⊢
   split at hi
   ·rename_i hlt
    rw[if_pos (by rw[h.sz];exact hlt)]
    cases hi
    exact⟨u,rfl,hx⟩
   ·cases hi
  ·rw[if_neg hd]at hi⊢
   exact h.sl i y hi
theorem Holds.sl_ext {cx:Cx} {g:G} {a:Act} {w w':World} {r':Rs} {β β':Nat→Nat→Pl} (h:Holds cx g a w β) (x:Ext cx w g.r β w' r' β'):
  ∀(i:Nat) (y:AV),g.v[i]? =some y→∃u,a.tmps[i]? =some u∧ReA cx w' r' β' y u:=fun i y hi=>
 let ⟨u,h1,h2⟩:=h.sl i y hi
 ⟨u,h1,h2.ext x⟩
inductive TD where
 |bool|int (k:IntKind)|string|slice (e:Nat)|struct (fs:List (Nat×Nat))|array (n e:Nat)|pointer (e:Nat)|other
structure TI where
 size:Nat
 bytes:Nat
 zero:List Value
 desc:TD
 eq:Bool:=false
def zeB:TypeDesc→TD
 | .bool=> .bool
 | .int k=> .int k
 | .string=> .string
 | .slice e=> .slice e
 | .struct fs=> .struct (fs.toList.map fun f=>(f.offset,f.type))
 | .array n e=> .array n e
 | .pointer e=> .pointer e
 |_=> .other
def zu4 (P:Program) (eqs:List Nat) (t:Nat):Option TI:=
 match P.info? t,P.underlying t with
 |some i,some d=>match i.zero with
  |some z=>if z.cells.toList.all flat&&z.cells.toList.length==i.size then some {size:=i.size,bytes:=i.bytes,zero:=z.cells.toList,desc:=zeB d,eq:=eqs.contains t}else none
  |none=>none
 |_,_=>none
def aggD:TD→Bool
 | .struct _=>true
 | .array _ _=>true
 |_=>false
def gev (v:List AV):Operand→AV
 | .tmp t=>v.getD t (.one .dead)
 | .const x=> .one (if flat x=true then .d (.v x)else .dead)
 | .func f=> .one (.d (.v (.func (.func f) #[] #[])))
 | .global _=> .one .dead
def ev (v:List AV) (x:Operand):AV:=
 match gev v x with
 | .gd _ y=>y
 | .one y=> .one y
 | .agg y=> .agg y
 | .tup y=> .tup y
def evS (c:Bool) (v:List AV) (x:Operand):Prop:=
 match gev v x with
 | .gd c' _=>c=true→c'=true
 |_=>True
def evs (v:List AV):List Operand→List AV
 |[]=>[]
 |x::xs=>ev v x::evs v xs
def evsS (c:Bool) (v:List AV):List Operand→Prop
 |[]=>True
 |x::xs=>evS c v x∧evsS c v xs
structure Out where
 sc:Prop
 x:AV
 r:Rs
def bad:Out:=⟨False, .one .dead,[]⟩
def live:C→Bool
 | .dead=>false
 | .lk _ _ _=>false
 |_=>true
def liveCs:List C→Bool
 |[]=>true
 |c::cs=>live c&&liveCs cs
def cellsOf:AV→List C
 | .one x=>if live x=true then [x]else []
 | .agg l=>l
 |_=>[]
def zfF:List AV→Option (List C)
 |[]=>some []
 |y::ys=>match y,zfF ys with
  | .one x,some xs=>some (x::xs)
  |_,_=>none
theorem onesOf_nil:zfF []=some []:=rfl
theorem onesOf_cons {x:C} {ys:List AV}:zfF (.one x::ys)=(match zfF ys with|some xs=>some (x::xs)|none=>none):=by
 cases h:zfF ys<;>simp[zfF,h]
def C.toD:C→Option D
 | .d x=>some x
 |_=>none
def normD:D→D
 | .v (.slice none 0 0)=> .sl 0 []
 |x=>x
def toDs:List C→Option (List D)
 |[]=>some []
 |c::cs=>match c.toD,toDs cs with
  |some d,some ds=>some (d::ds)
  |_,_=>none
def sub (lo n sz:Nat) (l:List C):List C:=(l.drop (lo*sz)).take (n*sz)
def rowOf (r:Rs):C→Option (Nat×List D)
 | .d (.sl n ds)=>some (n,ds)
 | .d (.v (.slice none 0 0))=>some (0,[])
 | .lent n ds=>some (n,ds)
 | .own h lo n=>match getR r h with
  |some res=>match toDs (sub lo n res.sz res.cells)with
   |some ds=>some (n,ds)
   |none=>none
  |none=>none
 | .gap h lo n _=>match getR r h with
  |some res=>match toDs (sub lo n res.sz res.cells)with
   |some ds=>some (n,ds)
   |none=>none
  |none=>none
 |_=>none
def sealC (r:Rs):C→Option (D×Rs)
 | .d x=>some (normD x,r)
 | .own h lo n=>match getR r h,findR h.s r with
  |some res,some rs=>if res.bor then none else
   match toDs (sub lo n res.sz res.cells)with
   |some ds=>some (.sl n ds,setR h.s {rs with l:=rs.l.set h.j (some {res with fz:=true})} r)
   |none=>none
  |_,_=>none
 |_=>none
def sealCs:Rs→List C→Option (List D×Rs)
 |r,[]=>some ([],r)
 |r,c::cs=>match sealC r c with
  |some (d,r')=>match sealCs r' cs with
   |some (ds,r'')=>some (d::ds,r'')
   |none=>none
  |none=>none
def binV (op:BinOp):Value→Value→Option Value
 | .int k a, .int k' b=>
  if k=k' then
   match op with
   | .add=>some (.int k (k.wrap (a+b)))
   | .sub=>some (.int k (k.wrap (a - b)))
   | .mul=>some (.int k (k.wrap (a*b)))
   | .quo=>if b=0 then none else some (.int k (k.wrap (a.tdiv b)))
   | .rem=>if b=0 then none else some (.int k (a.tmod b))
   | .and=>some (.int k (k.wrap (BitVec.ofInt k.bits a&&&BitVec.ofInt k.bits b).toNat))
   | .or=>some (.int k (k.wrap (BitVec.ofInt k.bits a|||BitVec.ofInt k.bits b).toNat))
   | .xor=>some (.int k (k.wrap (BitVec.ofInt k.bits a^^^BitVec.ofInt k.bits b).toNat))
   | .shr=>if b<0 then none else some (.int k (a.fdiv (2^(min b.toNat k.bits))))
   | .shl=>if b<0 then none else some (.int k (k.wrap (a*2^(min b.toNat k.bits))))
   | .eql=>some (.bool (a==b))
   | .neq=>some (.bool (a !=b))
   | .lss=>some (.bool (decide (a<b)))
   | .leq=>some (.bool (decide (a≤b)))
   | .gtr=>some (.bool (decide (a>b)))
   | .geq=>some (.bool (decide (a≥b)))
   |_=>none
  else match op with
   | .shr=>if b<0 then none else some (.int k (a.fdiv (2^(min b.toNat k.bits))))
   | .shl=>if b<0 then none else some (.int k (k.wrap (a*2^(min b.toNat k.bits))))
   |_=>none
 | .string a, .string b=>
  match op with
  | .eql=>some (.bool (a.toList==b.toList))
  | .neq=>some (.bool (!(a.toList==b.toList)))
  | .lss=>some (.bool (Op.bytesLess a.toList b.toList))
  | .leq=>some (.bool (Op.bytesLess a.toList b.toList||a.toList==b.toList))
  | .gtr=>some (.bool !(Op.bytesLess a.toList b.toList||a.toList==b.toList))
  | .geq=>some (.bool !(Op.bytesLess a.toList b.toList))
  |_=>none
 |_,_=>none
def boolV:AV→Option (Bool×Bool)
 | .one (.d (.v (.bool p)))=>some (true,p)
 | .gd c (.one (.d (.v (.bool p))))=>some (c,p)
 | .gd false _=>some (false,false)
 |_=>none
theorem tfb:(true==false)=false:=rfl
theorem ftb:(false==true)=false:=rfl
def zlS (b p q:Bool):Bool:=if b then p else q
theorem pickB_false (b p:Bool):zlS b p false=(b&&p):=by cases b<;>simp[zlS]
theorem pickB_true (b q:Bool):zlS b true q=(b||q):=by cases b<;>simp[zlS]
def eqV:Value→Value→Bool
 | .int _ a, .int _ b=>a==b
 | .bool a, .bool b=>a==b
 | .string a, .string b=>a.toList==b.toList
 |_,_=>false
def kindV:Value→Nat
 | .int .i8 _=>1| .int .i16 _=>2| .int .i32 _=>3| .int .i64 _=>4| .int .u8 _=>5| .int .u16 _=>6| .int .u32 _=>7| .int .u64 _=>8
 | .bool _=>9
 | .string _=>10
 |_=>0
def eqVs:List Value→List Value→Bool
 |[],[]=>true
 |x::xs,y::ys=>eqV x y&&eqVs xs ys
 |_,_=>false
def valOf:C→Option Value
 | .d (.v x)=>some x
 |_=>none
def valsOf:List C→Option (List Value)
 |[]=>some []
 |c::cs=>match valOf c,valsOf cs with
  |some x,some xs=>some (x::xs)
  |_,_=>none
inductive RO where
 |d (x:D)
 |own (sz n:Nat) (ds:List D) (bo:Bool)
inductive RF where
 |one (x:RO)
 |agg (l:List RO)
inductive Arg where
 |f (x:AV)
 |obj (l:List RO)
 |row (sz n:Nat) (ds:List D)
 |agr (pre post:List C) (sz n:Nat) (ds:List D)
inductive Hold where
 |blk (b:Nat)
 |val (u:Value)
def zdG:List Hold→List Nat
 |[]=>[]
 | .blk b::l=>b::zdG l
 | .val _::l=>zdG l
def RF.cells:RF→List RO
 | .one x=>[x]
 | .agg l=>l
def ROc (A:Nat→Prop) (w:World) (pl:Pl):RO→Value→Prop
 | .d x,u=>Rd w A x u
 | .own sz n ds _,u=>n*sz≤ds.length∧n≤pl.cap∧RowM w A pl sz ds∧
   (∃a,u= .slice a n pl.cap∧(pl.cap=0∨∃b o,pl.base=some (b,o)∧a=some ⟨b,o,none⟩))
def ROcs (A:Nat→Prop) (w:World) (γ:Nat→Pl):Nat→List RO→List Value→Prop
 |_,[],us=>us=[]
 |k,x::xs,us=>∃u us',us=u::us'∧ROc A w (γ k) x u∧ROcs A w γ (k+1) xs us'
def NB (γ:Nat→Pl):Nat→List RO→Nat→Prop
 |_,[],_=>False
 |k, .own _ _ _ _::xs,b=>(∃o,(γ k).base=some (b,o))∨NB γ (k+1) xs b
 |k, .d _::xs,b=>NB γ (k+1) xs b
def RFv (A:Nat→Prop) (w:World) (γ:Nat→Pl) (k:Nat):RF→Value→Prop
 | .one x,u=>ROc A w (γ k) x u
 | .agg l,u=>∃us,u= .agg us∧ROcs A w γ k l us.toList
def RFvs (A:Nat→Prop) (w:World) (γ:Nat→Pl):Nat→List RF→List Value→Prop
 |_,[],us=>us=[]
 |k,x::xs,us=>∃u us',us=u::us'∧RFv A w γ k x u∧RFvs A w γ (k+x.cells.length) xs us'
def zbw (rfs:List RF) (objs:List (List RO)):List RO:=rfs.flatMap RF.cells++objs.flatten
def zb5 (A:Nat→Prop) (w:World) (γ:Nat→Pl):Nat→List (List RO)→List Hold→Prop
 |_,[],bs=>bs=[]
 |_,_::_,[]=>False
 |k,l::ls, .blk b::bs=>(∃c e,w.heap[b]? =some (.cells c e (0,0))∧ROcs A w γ k l c.toList∧(∀u∈c.toList,flat u=true))∧zb5 A w γ (k+l.length) ls bs
 |k,l::ls, .val u::bs=>(l=[]∨ROcs A w γ k l [u])∧zb5 A w γ (k+l.length) ls bs
def Apart (γ:Nat→Pl) (l:List RO):Prop:=
 ∀(i j b o o':Nat) (sz n:Nat) (ds:List D) (bo:Bool) (sz' n':Nat) (ds':List D) (bo':Bool),l[i]? =some (.own sz n ds bo)→l[j]? =some (.own sz' n' ds' bo')→
  (γ i).base=some (b,o)→(γ j).base=some (b,o')→i=j
structure Ret (w:World) (A0 Bor:Nat→Prop) (w':World) (bs:List Hold) (rfs:List RF) (objs:List (List RO)) (u:Value):Prop where
 mem:∃γ:Nat→Pl,∃us:List Value,
  u=(match us with|[x]=>x|us=> .tuple us.toArray)∧
  RFvs (fun b=>A0 b∨NB γ 0 (zbw rfs objs) b) w' γ 0 rfs us∧
  zb5 (fun b=>A0 b∨NB γ 0 (zbw rfs objs) b) w' γ (rfs.flatMap RF.cells).length objs bs∧
  (∀b,NB γ 0 (zbw rfs objs) b→(w.heap.size≤b∨Bor b)∧b ∉ zdG bs)∧
  (∀(i sz n:Nat) (ds:List D) (b o:Nat),(zbw rfs objs)[i]? =some (.own sz n ds false)→(γ i).base=some (b,o)→w.heap.size≤b)∧
  Apart γ (zbw rfs objs)
 size:w.heap.size≤w'.heap.size
 old:∀b,b<w.heap.size→¬Bor b→w'.heap[b]? =w.heap[b]?
 os:w'.os=w.os
 out:w'.output=w.output
def cx0 (P:Program) (w:World) (A0 Bor:Nat→Prop):Cx:={P,w0:=w,A0,Bor}
def zaq (P:Program) (w:World) (A0 Bor:Nat→Prop) (γ:Nat→Pl):Nat→List Arg→List Hold→List Value→Prop
 |_,[],bs,us=>us=[]∧bs=[]
 |k, .f x::xs,bs,us=>∃u us',us=u::us'∧ReA (cx0 P w A0 Bor) w [] (fun _ _=>⟨none,0⟩) x u∧zaq P w A0 Bor γ k xs bs us'
 |k, .obj l::xs,bs,us=>∃b bs' us' c e,us= .pointer (some ⟨b,0,none⟩)::us'∧bs= .blk b::bs'∧Bor b∧w.heap[b]? =some (.cells c e (0,0))∧
   ROcs A0 w γ k l c.toList∧(∀v∈c.toList,flat v=true)∧zaq P w A0 Bor γ (k+l.length) xs bs' us'
 |k, .row sz n ds::xs,bs,us=>∃u bs' us',us=u::us'∧bs= .val u::bs'∧ROc A0 w (γ k) (.own sz n ds true) u∧zaq P w A0 Bor γ (k+1) xs bs' us'
 |k, .agr pre post sz n ds::xs,bs,us=>∃vs u ws bs' us',us= .agg (vs++u::ws).toArray::us'∧bs= .val u::bs'∧ReCs (cx0 P w A0 Bor) w [] (fun _ _=>⟨none,0⟩) pre vs∧ReCs (cx0 P w A0 Bor) w [] (fun _ _=>⟨none,0⟩) post ws∧
   ROc A0 w (γ k) (.own sz n ds true) u∧zaq P w A0 Bor γ (k+1) xs bs' us'
def zal:List Arg→List RO
 |[]=>[]
 | .f _::xs=>zal xs
 | .obj l::xs=>l++zal xs
 | .row sz n ds::xs=> .own sz n ds true::zal xs
 | .agr _ _ sz n ds::xs=> .own sz n ds true::zal xs
def CallOK (P:Program) (f:FuncId) (args:List Arg) (post:List RF→List (List RO)→Prop):Prop:=
 (∀(us:Array Value) (w:World),(callFunc f us).run P w= .ok (.enter f us) w)∧
 ∀(w:World) (A0 Bor:Nat→Prop) (γ:Nat→Pl) (bs:List Hold) (us:List Value),(∀b,A0 b→b<w.heap.size)→(∀b,Bor b→A0 b)→
  zaq P w A0 Bor γ 0 args bs us→(∀b,NB γ 0 (zal args) b→Bor b∧b ∉ zdG bs)→(zdG bs).Nodup→Apart γ (zal args)→
  Calls P f us.toArray w fun e w'=>∃rfs objs u,post rfs objs∧e= .returned u∧Ret w A0 Bor w' bs rfs objs u
theorem CallOK.mono {P:Program} {f:FuncId} {args:List Arg} {post post':List RF→List (List RO)→Prop} (h:CallOK P f args post)
  (hp:∀r o,post r o→post' r o):CallOK P f args post':=⟨h.1,fun w A0 Bor γ bs us h1 h2 h3 h4 h5 h6=>
 (h.2 w A0 Bor γ bs us h1 h2 h3 h4 h5 h6).mono fun _ _ ⟨r,o,u,g1,g2,g3⟩=>⟨r,o,u,hp _ _ g1,g2,g3⟩⟩
def bindCs (s e:Nat):Nat→List RO→List C
 |_,[]=>[]
 |k, .d x::xs=> .d x::bindCs s e (k+1) xs
 |k, .own _ n _ _::xs=> .own ⟨s,k+1,e⟩ 0 n::bindCs s e (k+1) xs
def bindRs (B:Bool) (e:Nat):List RO→List (Option Res)
 |[]=>[]
 | .d _::xs=>none::bindRs B e xs
 | .own sz _ ds bo::xs=>some {e,var:=false,fz:=false,bor:=bo&&B,sz,cells:=ds.map C.d}::bindRs B e xs
def bindF (s e k:Nat):RF→AV
 | .one x=>match bindCs s e k [x]with|[c]=> .one c|_=> .one .dead
 | .agg l=> .agg (bindCs s e k l)
def bindFs (s e:Nat):Nat→List RF→List AV
 |_,[]=>[]
 |k,x::xs=>bindF s e k x::bindFs s e (k+x.cells.length) xs
def tupOf:List AV→AV
 |[x]=>x
 |l=> .tup l
def noOwn:List RO→Bool
 |[]=>true
 | .d _::xs=>noOwn xs
 | .own _ _ _ _::_=>false
def bindRetB (B:Bool) (r:Rs) (dst:Option Nat) (rfs:List RF):AV×Rs:=
 let cells:=rfs.flatMap RF.cells
 if noOwn cells then(tupOf (bindFs 0 0 0 rfs),r)
 else match dst with
  |some d=>(tupOf (bindFs d (nxt r d) 0 rfs),setR d {next:=nxt r d+1,l:=none::bindRs B (nxt r d) cells} r)
  |none=>(.one .dead,r)
abbrev bindRet (r:Rs) (dst:Option Nat) (rfs:List RF):AV×Rs:=bindRetB false r dst rfs
def lend0 (r:Rs) (s:Nat):C→Option C
 | .d x=>some (.d (normD x))
 | .lent n ds=>some (.lent n ds)
 | .own h lo n=>if h.s=s then(match rowOf r (.own h lo n)with
  |some (n,ds)=>some (.lent n ds)
  |none=>none)else none
 |_=>none
def lend0s (r:Rs) (s:Nat):List C→Option (List C)
 |[]=>some []
 |c::cs=>match lend0 r s c,lend0s r s cs with
  |some x,some xs=>some (x::xs)
  |_,_=>none
def lendC (r:Rs):C→Option C
 | .d x=>some (.d x)
 | .lent n ds=>some (.lent n ds)
 | .own h lo n=>match rowOf r (.own h lo n)with
  |some (n,ds)=>some (.lent n ds)
  |none=>none
 | .elt ds=>some (.elt ds)
 | .ptr h off=>match getR r h with
  |some res=>match toDs (res.cells.drop off)with
   |some ds=>some (.elt ds)
   |none=>(match lend0s r h.s (res.cells.drop off)with|some cs=>some (.eltR cs)|none=>none)
  |none=>none
 | .clos f caps=>match lendCs r caps with
  |some cs=>some (.clos f cs)
  |none=>none
 | .ab=>none
 | .dead=>none
 | .eltR cs=>match lendCs r cs with
  |some ys=>some (.eltR ys)
  |none=>none
 | .gap h lo n k=>match rowOf r (.gap h lo n k)with
  |some (n,ds)=>some (.lent n ds)
  |none=>none
 | .lk _ _ _=>none
where lendCs (r:Rs):List C→Option (List C)
 |[]=>some []
 |c::cs=>match lendC r c,lendCs r cs with
  |some x,some xs=>some (x::xs)
  |_,_=>none
def lendA (r:Rs):AV→Option AV
 | .one x=>match lendC r x with|some y=>some (.one y)|none=>none
 | .agg l=>match lendC.lendCs r l with|some y=>some (.agg y)|none=>none
 |_=>none
def lendAs (r:Rs):List AV→Option (List Arg)
 |[]=>some []
 |x::xs=>match lendA r x,lendAs r xs with
  |some y,some ys=>some (.f y::ys)
  |_,_=>none
def CallG (P:Program) (c:Bool) (f:FuncId) (args:List Arg) (K:List RF→Prop):Prop:=
 ∃rfs,(c=true→CallOK P f args (fun r o=>r=rfs∧o=[]))∧K rfs
theorem CallG.congr {P:Program} {c:Bool} {f:FuncId} {args args':List Arg} {K:List RF→Prop} (h:args=args'):CallG P c f args K=CallG P c f args' K:=by rw[h]
def calleeOf:AV→Option (FuncId×List C)
 | .one (.d (.v (.func (.func f) ⟨[]⟩ ⟨[]⟩)))=>some (f,[])
 | .one (.clos f caps)=>some (f,caps)
 |_=>none
def roC (r:Rs):C→Option RO
 | .d x=>some (.d x)
 | .own h lo n=>match getR r h with
  |some res=>if res.fz=true then(match toDs (sub lo n res.sz res.cells)with|some ds=>some (.d (.sl n ds))|none=>none)
   else match lo,toDs res.cells with
    |0,some ds=>some (.own res.sz n ds res.bor)
    |_,_=>none
  |none=>none
 |_=>none
def roCs (r:Rs):List C→Option (List RO)
 |[]=>some []
 |x::xs=>match roC r x,roCs r xs with
  |some y,some ys=>some (y::ys)
  |_,_=>none
def roCss (r:Rs):List (List C)→Option (List (List RO))
 |[]=>some []
 |x::xs=>match roCs r x,roCss r xs with
  |some y,some ys=>some (y::ys)
  |_,_=>none
def ownH (r:Rs):C→List (Nat×Nat)
 | .own h _ _=>match getR r h with
  |some res=>if res.fz=true then []else [(h.s,h.j)]
  |none=>[]
 |_=>[]
def ownHs (r:Rs):List C→List (Nat×Nat)
 |[]=>[]
 |x::xs=>ownH r x++ownHs r xs
def ndB:List (Nat×Nat)→Bool
 |[]=>true
 |x::xs=> !xs.contains x&&ndB xs
def rehome (r:Rs) (d:Nat):AV→AV×Rs
 | .one (.own h lo n)=>
  if h.s=d then(.one (.own h lo n),r)else
  match getR r h with
  |some res=>
   if res.fz=true then(.one (.own h lo n),r)
   else match findR h.s r with
    |some rs=>(.one (.own ⟨d,1,nxt r d⟩ lo n),setR d {next:=nxt r d+1,l:=[none,some {res with e:=nxt r d}]} (setR h.s {rs with l:=rs.l.set h.j none} r))
    |none=>(.one .dead,r)
  |none=>(.one .dead,r)
 |x=>(x,r)
def ownA (d:Nat):AV→AV
 | .one (.gap h lo n k)=>if h.s=d then .one (.gap h lo n k)else .one (.own h lo n)
 |x=>x
def covA (r:Rs) (d:Nat):AV→Prop
 | .one (.gap h lo n _)=>if h.s=d then True else(match getR r h with
  |some res=>(lo+n)*res.sz≤res.cells.length
  |none=>False)
 |_=>True
def home1 (d e k:Nat) (c:C) (r:Rs):C×Option Res×Rs:=
 match c with
 | .own h lo n=>
  match (if h.s=d then none else getR r h),findR h.s r with
  |some res,some rs=>
   if res.fz=true then(c,none,r)
   else(.own ⟨d,k+1,e⟩ lo n,some {res with e:=e},setR h.s {rs with l:=rs.l.set h.j none} r)
  |_,_=>(.dead,none,r)
 | .gap _ _ _ _=>(.dead,none,r)
 | .lk _ _ _=>(.dead,none,r)
 |c=>(c,none,r)
def homeCs (d:Nat):Nat→Nat→List C→Rs→List C×List (Option Res)×Rs
 |_,_,[],r=>([],[],r)
 |e,k,c::cs,r=>((home1 d e k c r).1::(homeCs d (e+1) (k+1) cs (home1 d e k c r).2.2).1,
   (home1 d e k c r).2.1::(homeCs d (e+1) (k+1) cs (home1 d e k c r).2.2).2.1,(homeCs d (e+1) (k+1) cs (home1 d e k c r).2.2).2.2)
def fillAt {α:Type} (i:Nat):List α→List α→List α
 |[],l=>l
 |x::xs,l=>fillAt (i+1) xs (l.set i x)
def zeroC (ti:TI):List C:=ti.zero.map fun v=>C.d (.v v)
def sliceB (o:Option AV) (dflt:Int):Option Int:=
 match o with
 |none=>some dflt
 |some (.one (.d (.v (.int _ n))))=>some n
 |_=>none
def evO (v:List AV):Option Operand→Option AV
 |none=>none
 |some y=>some (ev v y)
def evOS (c:Bool) (v:List AV):Option Operand→Prop
 |none=>True
 |some y=>evS c v y
section
variable (T:Nat→Option TI) (P:Program)
def fieldOff (t f:Nat):Option Nat:=
 match T t with
 |some ti=>match ti.desc with
  | .struct fs=>match fs[f]? with
   |some (o,ft)=>match T ft with
    |some fi=>if fi.size=0 then none else some o
    |none=>none
   |none=>none
  |_=>none
 |none=>none
def fieldPl (t f:Nat):Option (Nat×Nat):=
 match T t with
 |some ti=>match ti.desc with
  | .struct fs=>match fs[f]? with
   |some (o,ft)=>match T ft with
    |some fi=>some (o,fi.size)
    |none=>none
   |none=>none
  | .array _ e=>match T e with
   |some ei=>some (f*ei.size,ei.size)
   |none=>none
  |_=>none
 |none=>none
def fsOK:List (Nat×Nat)→Bool
 |[]=>true
 |(_,ft)::l=>(match T ft with|some _=>true|none=>false)&&fsOK l
def buildOK (t:Nat):Bool:=
 match T t with
 |some ti=>match ti.desc with
  | .struct fs=>fsOK T fs
  | .array _ e=>(match T e with|some _=>true|none=>false)
  |_=>false
 |none=>false
def buildC (t:Nat):List (Nat×AV)→List C→Option (List C)
 |[],l=>some l
 |(i,y)::ps,l=>match fieldPl T t i with
  |some (o,n)=>if(cellsOf y).length=n∧n≠0∧o+n≤l.length then buildC t ps (fillAt o (cellsOf y) l)else none
  |none=>none
def elemSz (t:Nat):Option (Nat×TI):=
 match T t with
 |some ti=>match ti.desc with
  | .slice e=>match T e with
   |some ei=>some (e,ei)
   |none=>none
  |_=>none
 |none=>none
def loadC (t:Nat) (l:List C):Prop×AV:=
 match T t with
 |some ti=>if aggD ti.desc=true then(ti.size≤l.length, .agg (l.take ti.size))else match l with
  |x::_=>(True, .one x)
  |[]=>(False, .one .dead)
 |none=>(False, .one .dead)
def isSl (t:Option Nat):Bool:=
 match t.bind T with
 |some ti=>(match ti.desc with| .slice _=>true|_=>false)
 |none=>false
def isStr (t:Option Nat):Bool:=
 match t.bind T with
 |some ti=>(match ti.desc with| .string=>true|_=>false)
 |none=>false
def isInt (t:Nat):Bool:=
 match T t with
 |some ti=>(match ti.desc with| .int _=>true|_=>false)
 |none=>false
def nilB (o:BinOp) (x:Option Bool):Option C:=
 match o,x with
 | .eql,some b=>some (.d (.v (.bool b)))
 | .neq,some b=>some (.d (.v (.bool !b)))
 | .eql,none=>some .ab
 | .neq,none=>some .ab
 |_,_=>none
def isPtr (t:Nat):Bool:=
 match T t with
 |some ti=>(match ti.desc with| .pointer _=>true|_=>false)
 |none=>false
def isBool (t:Nat):Bool:=
 match T t with
 |some ti=>(match ti.desc with| .bool=>true|_=>false)
 |none=>false
def cmpA (r:Rs) (o:BinOp) (t:Nat) (x y:C):Option (Prop×C):=
 match x,y with
 | .d (.v (.bool p)), .d (.v (.bool q))=>match o with
  | .eql=>some (isBool T t=true, .d (.v (.bool (p==q))))
  | .neq=>some (isBool T t=true, .d (.v (.bool (p !=q))))
  |_=>none
 | .d (.v (.slice none 0 0)), .d (.v (.slice none 0 0))=>(nilB o (some true)).map fun z=>(isSl T (some t)=true,z)
 | .lent n ds, .d (.v (.slice none 0 0))=>(nilB o (if n=0 then none else some false)).map fun z=>(isSl T (some t)=true∧(n≠0→ds≠[]),z)
 | .d (.sl n ds), .d (.v (.slice none 0 0))=>(nilB o (if n=0 then none else some false)).map fun z=>(isSl T (some t)=true∧(n≠0→ds≠[]),z)
 | .own h _ n, .d (.v (.slice none 0 0))=>match getR r h with
  |some _=>(nilB o (if n=0 then none else some false)).map fun z=>(isSl T (some t)=true,z)
  |none=>none
 | .d (.v (.pointer none)), .d (.v (.pointer none))=>(nilB o (some true)).map fun z=>(isPtr T t=true,z)
 | .ptr h _, .d (.v (.pointer none))=>match getR r h with
  |some _=>(nilB o (some false)).map fun z=>(isPtr T t=true,z)
  |none=>none
 | .elt _, .d (.v (.pointer none))=>(nilB o (some false)).map fun z=>(isPtr T t=true,z)
 | .eltR _, .d (.v (.pointer none))=>(nilB o (some false)).map fun z=>(isPtr T t=true,z)
 |_,_=>none
def binA (r:Rs) (o:BinOp) (t:Nat) (a b:AV):Out:=
 match a,b with
 | .one (.d (.v x)), .one (.d (.v y))=>match binV o x y with
  |some z=>⟨True, .one (.d (.v z)),r⟩
  |none=>match cmpA T r o t (.d (.v x)) (.d (.v y))with
   |some (p,z)=>⟨p, .one z,r⟩
   |none=>bad
 | .one x, .one y=>match cmpA T r o t x y with
  |some (p,z)=>⟨p, .one z,r⟩
  |none=>bad
 | .agg l, .agg m=>match T t,valsOf l,valsOf m with
  |some ti,some xs,some ys=>
   (match o with
    | .eql=>⟨ti.eq=true∧xs.map kindV=ti.zero.map kindV∧ys.map kindV=ti.zero.map kindV, .one (.d (.v (.bool (eqVs xs ys)))),r⟩
    | .neq=>⟨ti.eq=true∧xs.map kindV=ti.zero.map kindV∧ys.map kindV=ti.zero.map kindV, .one (.d (.v (.bool !(eqVs xs ys)))),r⟩
    |_=>bad)
  |_,_,_=>bad
 |_,_=>bad
def arrSz (t:Nat):Option (Nat×TI):=
 match T t with
 |some ti=>match ti.desc with
  | .array n e=>match T e with
   |some ei=>some (n,ei)
   |none=>none
  |_=>none
 |none=>none
def idxA (r:Rs) (c:Bool) (t:Nat) (y iv:AV):Out:=
 match elemSz T t,iv,y with
 |some (_,ei), .one (.d (.v (.int _ n))), .one (.own h lo m)=>match getR r h with
  |some res=>⟨res.sz=ei.size∧ei.size≠0∧(c=true→0≤n∧n<m), .one (.ptr h ((lo+n.toNat)*ei.size)),r⟩
  |none=>bad
 |some (_,ei), .one (.d (.v (.int _ n))), .one (.lent m ds)=>⟨ei.size≠0∧ds.length=m*ei.size∧(c=true→0≤n∧n<m), .one (.elt (ds.drop (n.toNat*ei.size))),r⟩
 |some (_,ei), .one (.d (.v (.int _ n))), .one (.d (.sl m ds))=>⟨ei.size≠0∧ds.length=m*ei.size∧(c=true→0≤n∧n<m), .one (.elt (ds.drop (n.toNat*ei.size))),r⟩
 |none, .one (.d (.v (.int _ n))), .one (.ptr h off)=>match arrSz T t,getR r h with
  |some (m,ei),some _=>⟨c=true→0≤n∧n<m, .one (.ptr h (off+n.toNat*ei.size)),r⟩
  |_,_=>bad
 |none, .one (.d (.v (.int _ n))), .one (.elt ds)=>match arrSz T t with
  |some (m,ei)=>⟨c=true→0≤n∧n<m, .one (.elt (ds.drop (n.toNat*ei.size))),r⟩
  |none=>bad
 |_,_,_=>bad
def fieldA (r:Rs) (t f:Nat) (y:AV):Out:=
 match y,T t with
 | .agg l,some ti=>match ti.desc with
  | .struct fs=>match fs[f]? with
   |some (o,ft)=>⟨(loadC T ft (l.drop o)).1,(loadC T ft (l.drop o)).2,r⟩
   |none=>bad
  |_=>bad
 |_,_=>bad
def isIntTI (ei:TI):Bool:=match ei.desc with
 | .int _=>ei.size==1
 | .pointer _=>ei.size==1
 |_=>false
def bytesOf:List D→Option (List UInt8)
 |[]=>some []
 | .v (.int .u8 n)::ds=>match bytesOf ds with
  |some l=>some (UInt8.ofNat n.toNat::l)
  |none=>none
 |_=>none
def isByS (s:Nat):Bool:=match elemSz T s with
 |some (_,ei)=>match ei.desc with
  | .int .u8=>true
  |_=>false
 |none=>false
def convA (r:Rs) (s t:Nat) (y:AV):Out:=
 match T t with
 |some ti=>match ti.desc,y with
  | .int k, .one (.d (.v (.int _ n)))=>⟨isInt T s=true, .one (.d (.v (.int k (k.wrap n)))),r⟩
  | .string, .one x=>match rowOf r x with
   |some (n,ds)=>match bytesOf ds with
    |some l=>⟨isByS T s=true∧ds.length=n, .one (.d (.v (.string ⟨l.toArray⟩))),r⟩
    |none=>bad
   |none=>bad
  |_,_=>bad
 |none=>bad
def ifaceA (r:Rs) (t:Nat) (y:AV):Out:=
 match T t with
 |some ti=>match ti.desc,y with
  | .struct _, .agg l=>match valsOf l with
   |some vs=>⟨True, .one (.d (.v (.iface t (.agg vs.toArray)))),r⟩
   |none=>bad
  | .int _, .one (.d (.v (.int k n)))=>⟨True, .one (.d (.v (.iface t (.int k n)))),r⟩
  |_,_=>bad
 |none=>bad
def sliceA (r:Rs) (c:Bool) (t:Nat) (y:AV) (l h:Option AV):Out:=
 match y with
 | .one (.d (.v (.string s)))=>match isStr T (some t),sliceB l 0,sliceB h s.size with
  |true,some i,some j=>⟨c=true→0≤i∧i≤j∧j≤s.size, .one (.d (.v (.string (s.extract i.toNat j.toNat)))),r⟩
  |_,_,_=>bad
 | .one (.own hd lo n)=>match elemSz T t,sliceB l 0,sliceB h n,getR r hd with
  |some (_,ei),some i,some j,some res=>⟨res.sz=ei.size∧(c=true→0≤i∧i≤j∧j≤n), .one (.own hd (lo+i.toNat) (j.toNat - i.toNat)),r⟩
  |_,_,_,_=>bad
 | .one (.gap hd lo n k)=>match elemSz T t,sliceB l 0,sliceB h n,getR r hd with
  |some (_,ei),some i,some j,some res=>⟨res.sz=ei.size∧(c=true→0≤i∧i≤j∧lo+j≤k), .one (.gap hd (lo+i.toNat) (j.toNat - i.toNat) k),r⟩
  |_,_,_,_=>bad
 | .one (.lent n ds)=>match elemSz T t,sliceB l 0,sliceB h n with
  |some (_,ei),some i,some j=>⟨ds.length=n*ei.size∧(c=true→0≤i∧i≤j∧j≤n),
    .one (.lent (j.toNat - i.toNat) ((ds.drop (i.toNat*ei.size)).take ((j.toNat - i.toNat)*ei.size))),r⟩
  |_,_,_=>bad
 | .one (.d (.sl n ds))=>match elemSz T t,sliceB l 0,sliceB h n with
  |some (_,ei),some i,some j=>⟨ds.length=n*ei.size∧(c=true→0≤i∧i≤j∧j≤n),
    .one (.d (.sl (j.toNat - i.toNat) ((ds.drop (i.toNat*ei.size)).take ((j.toNat - i.toNat)*ei.size)))),r⟩
  |_,_,_=>bad
 |_=>bad
def slice3A (r:Rs) (c:Bool) (t:Nat) (y:AV) (l h m:Option AV):Out:=
 match y with
 | .one (.gap hd lo n k)=>match elemSz T t,sliceB l 0,(match h with|some _=>sliceB h n|none=>none),sliceB m n,getR r hd with
  |some _,some i,some j,some q,some _=>⟨c=true→0≤i∧i≤j∧j≤q∧lo+q≤k, .one .dead,r⟩
  |_,_,_,_,_=>bad
 |_=>bad
def sameHome (d off:Nat) (l:List C):Bool:=
 match l with
 |[.own hd _ _]=>hd.s==d&&hd.j==off+1
 |_=>false
def storeA (r:Rs) (t:Nat) (av y:AV):Out:=
 match T t,av with
 |some ti, .one (.ptr h off)=>match getR r h with
  |some res=>
   if res.var=true then
    match findR h.s r with
    |some rs=>match sameHome h.s off (cellsOf y)with
     |true=>⟨(cellsOf y).length=ti.size∧ti.size≠0∧off+ti.size≤res.cells.length∧h.j=0∧liveCs (cellsOf y)=true, .one .dead,
       setR h.s {rs with l:=rs.l.set 0 (some {res with cells:=fillAt off (cellsOf y) res.cells})} r⟩
     |false=>⟨(cellsOf y).length=ti.size∧ti.size≠0∧off+ti.size≤res.cells.length∧off+ti.size<rs.l.length∧h.j=0∧liveCs (cellsOf y)=true, .one .dead,
      setR h.s {next:=rs.next+(cellsOf y).length,l:=fillAt (off+1) (homeCs h.s rs.next off (cellsOf y) r).2.1 (rs.l.set 0 (some {res with cells:=fillAt off (homeCs h.s rs.next off (cellsOf y) r).1 res.cells}))} (homeCs h.s rs.next off (cellsOf y) r).2.2⟩
    |none=>bad
   else match sealCs r (cellsOf y)with
    |some (ds,r')=>match getR r' h,findR h.s r' with
     |some res',some rs=>⟨(cellsOf y).length=ti.size∧ti.size≠0∧off+ti.size≤res'.cells.length∧res'.fz=false, .one .dead,
       setR h.s {rs with l:=rs.l.set h.j (some {res' with cells:=fillAt off (ds.map C.d) res'.cells})} r'⟩
     |_,_=>bad
    |none=>bad
  |none=>bad
 |_,_=>bad
def srcOf (r:Rs):AV→Option (Nat×List D)
 | .one (.d (.v (.string b)))=>some (b.size,b.data.toList.map fun (x:UInt8)=>D.v (.int .u8 x.toNat))
 | .one y=>rowOf r y
 |_=>none
def ze1 (z:List Value) (n:Nat):List D:=(List.replicate n (z.map D.v)).flatten
theorem zgh {z:List Value} {n:Nat}:(ze1 z n).length=n*z.length:=by simp[ze1]
def dstOf:AV→Option (Hd×Nat×Nat)
 | .one (.own h lo n)=>some (h,lo,n)
 | .one (.gap h lo n _)=>some (h,lo,n)
 |_=>none
def putRow (r:Rs) (h:Hd) (lo:Nat) (ds:List D):Option Rs:=
 match getR r h,findR h.s r with
 |some res,some rs=>some (setR h.s {rs with l:=rs.l.set h.j (some {res with cells:=res.cells.take (lo*res.sz)++ds.map C.d++res.cells.drop (lo*res.sz+ds.length)})} r)
 |_,_=>none
def appG (r:Rs) (c:Bool) (dst:Option Nat) (ei:TI) (m:Nat) (ds2:List D) (h:Hd) (lo n k:Nat):Out:=
 match getR r h,findR h.s r with
 |some res,some rs=>match toDs (sub lo n res.sz res.cells)with
  |some ds1=>
   if lo+n+m≤k then
    ⟨ei.size≠0∧ds2.length=m*ei.size∧res.fz=false∧res.sz=ei.size∧(lo+n)*res.sz≤res.cells.length, .one (.gap ⟨h.s,h.j,rs.next⟩ 0 (n+m) (k - lo)),
     setR h.s {next:=rs.next+1,l:=rs.l.set h.j (some {res with e:=rs.next,sz:=ei.size,cells:=(ds1++ds2).map C.d})} r⟩
   else match dst with
    |some d=>⟨ei.size≠0∧ei.bytes≠0∧ds2.length=m*ei.size∧res.sz=ei.size∧(lo+n)*res.sz≤res.cells.length∧(c=true→(n+m)*ei.bytes≤2^47), .one (.own ⟨d,1,nxt r d⟩ 0 (n+m)),
      setR d {next:=nxt r d+1,l:=[none,some {e:=nxt r d,var:=false,fz:=false,sz:=ei.size,cells:=(ds1++ds2).map C.d}]} r⟩
    |none=>bad
  |none=>bad
 |_,_=>bad
def makeA (r:Rs) (c:Bool) (dst:Option Nat) (t:Nat) (x y:AV):Out:=
 match elemSz T t,x,y,dst with
 |some (_,ei), .one (.d (.v (.int _ n))), .one (.d (.v (.int _ m))),some d=>
  ⟨c=true→0≤n∧n=m∧n<2^62∧ei.bytes*n≤2^47, .one (.own ⟨d,1,nxt r d⟩ 0 n.toNat),
   setR d {next:=nxt r d+1,l:=[none,some {e:=nxt r d,var:=false,fz:=false,sz:=ei.size,cells:=(ze1 ei.zero n.toNat).map C.d}]} r⟩
 |_,_,_,_=>bad
def appZ (r:Rs) (c:Bool) (dst:Option Nat) (ts:Array Nat) (s x:AV):Out:=
 match ts[0]?.bind (elemSz T),(match ts[1]? with|some t1=>isInt T t1|none=>false),x,s with
 |some (_,ei),true, .one (.d (.v (.int _ l))), .one (.gap h lo n k)=>match getR r h,dst with
  |some res,some d=>match toDs (sub lo n res.sz res.cells)with
   |some ds1=>⟨ei.size≠0∧ei.bytes≠0∧res.sz=ei.size∧(lo+n)*res.sz≤res.cells.length∧(c=true→0≤l∧l<2^62∧k<lo+n+l.toNat∧(n+l.toNat)*ei.bytes≤2^47), .one (.own ⟨d,1,nxt r d⟩ 0 (n+l.toNat)),
     setR d {next:=nxt r d+1,l:=[none,some {e:=nxt r d,var:=false,fz:=false,sz:=ei.size,cells:=(ds1++ze1 ei.zero l.toNat).map C.d}]} r⟩
   |none=>bad
  |_,_=>bad
 |_,_,_,_=>bad
def rowOfA (r:Rs):AV→Option (Nat×List D)
 | .one x=>rowOf r x
 |_=>none
def copyA (r:Rs) (ts:Array Nat) (y x:AV):Out:=
 match ts[0]?.bind (elemSz T),dstOf y,rowOfA r x with
 |some (_,ei),some (h,lo,n),some (m,ds2)=>match getR r h,putRow r h lo (ds2.take (min m n*ei.size))with
  |some res,some r'=>⟨ei.size≠0∧res.sz=ei.size∧res.fz=false∧min m n*ei.size≤ds2.length∧lo*res.sz≤res.cells.length, .one (.d (.v (.int .i64 (min m n:Nat)))),r'⟩
  |_,_=>bad
 |_,_,_=>bad
def clearA (r:Rs) (ts:Array Nat) (y:AV):Out:=
 match ts[0]?.bind (elemSz T),dstOf y with
 |some (_,ei),some (h,lo,n)=>match getR r h,putRow r h lo (ze1 ei.zero n)with
  |some res,some r'=>⟨ei.size≠0∧res.sz=ei.size∧res.fz=false∧lo*res.sz≤res.cells.length, .one .dead,r'⟩
  |_,_=>bad
 |_,_=>bad
def appA (r:Rs) (c:Bool) (dst:Option Nat) (ts:Array Nat) (s x:AV):Out:=
 match ts[0]?.bind (elemSz T),(isSl T ts[1]? ||isStr T ts[1]?),srcOf r x,s with
 |some (_,ei),true,some (m,ds2), .one (.own h lo n)=>match getR r h,findR h.s r with
  |some res,some rs=>match toDs (sub lo n res.sz res.cells)with
   |some ds1=>⟨ei.size≠0∧ei.bytes≠0∧ds2.length=m*ei.size∧res.fz=false∧res.sz=ei.size∧(c=true→(n+m)*ei.bytes≤2^47),
     .one (.own ⟨h.s,h.j,rs.next⟩ 0 (n+m)),
     setR h.s {next:=rs.next+1,l:=rs.l.set h.j (some {res with e:=rs.next,sz:=ei.size,cells:=(ds1++ds2).map C.d})} r⟩
   |none=>bad
  |_,_=>bad
 |some (_,ei),true,some (m,ds2), .one (.d (.v (.slice none 0 0)))=>match dst with
  |some d=>⟨ei.size≠0∧ei.bytes≠0∧ds2.length=m*ei.size∧(c=true→m*ei.bytes≤2^47), .one (.own ⟨d,1,nxt r d⟩ 0 m),
    setR d {next:=nxt r d+1,l:=[none,some {e:=nxt r d,var:=false,fz:=false,sz:=ei.size,cells:=ds2.map C.d}]} r⟩
  |none=>bad
 |some (_,ei),true,some (m,ds2), .one (.gap h lo n k)=>appG r c dst ei m ds2 h lo n k
 |_,_,_,_=>appZ T r c dst ts s x
def capA (r:Rs) (t:Option Nat):AV→Out
 | .one (.gap hd lo _ k)=>match getR r hd with
  |some _=>⟨isSl T t=true, .one (.d (.v (.int .i64 (k - lo:Nat)))),r⟩
  |none=>bad
 |_=>bad
def lenA (r:Rs) (t:Option Nat):AV→Out
 | .one (.own hd _ n)=>match getR r hd with
  |some _=>⟨isSl T t=true, .one (.d (.v (.int .i64 n))),r⟩
  |none=>bad
 | .one (.gap hd _ n _)=>match getR r hd with
  |some _=>⟨isSl T t=true, .one (.d (.v (.int .i64 n))),r⟩
  |none=>bad
 | .one (.lent n _)=>⟨isSl T t=true, .one (.d (.v (.int .i64 n))),r⟩
 | .one (.d (.sl n _))=>⟨isSl T t=true, .one (.d (.v (.int .i64 n))),r⟩
 | .one (.d (.v (.slice none 0 0)))=>⟨isSl T t=true, .one (.d (.v (.int .i64 0))),r⟩
 | .one (.d (.raw (.slice _ n _)))=>⟨isSl T t=true, .one (.d (.v (.int .i64 n))),r⟩
 | .one (.d (.v (.string s)))=>⟨isStr T t=true, .one (.d (.v (.int .i64 s.size))),r⟩
 |_=>bad
def mmA (r:Rs) (mx:Bool):List AV→Out
 |[.one (.d (.v (.int k a))), .one (.d (.v (.int _ b)))]=>⟨True, .one (.d (.v (.int k (if mx then max a b else min a b)))),r⟩
 |_=>bad
def Out.with (o:Out) (p:Prop):Out:=⟨p∧o.sc,o.x,o.r⟩
def aop (c:Bool) (v:List AV) (r:Rs) (dst:Option Nat) (op:Op):Out:=
 match op with
 | .move x=>⟨evS c v x,ev v x,r⟩
 | .assign x=>match dst with
  |some d=>⟨evS c v x∧covA r d (ev v x),(rehome r d (ownA d (ev v x))).1,(rehome r d (ownA d (ev v x))).2⟩
  |none=>bad
 | .pick t x z=>match ev v t,boolV (gev v x),boolV (gev v z)with
  | .one (.d (.v (.bool b))),some (cx,p),some (cz,q)=>
   ⟨evS c v t∧(c=true→b=true→cx=true)∧(c=true→b=false→cz=true), .one (.d (.v (.bool (zlS b p q)))),r⟩
  |_,_,_=>bad
 | .unOp .not _ x=>match ev v x with
  | .one (.d (.v (.bool b)))=>⟨evS c v x, .one (.d (.v (.bool !b))),r⟩
  |_=>bad
 | .binOp o t x y _=>(binA T r o t (ev v x) (ev v y)).with (evS c v x∧evS c v y)
 | .convert s t x=>(convA T r s t (ev v x)).with (evS c v x)
 | .makeInterface t x=>(ifaceA T r t (ev v x)).with (evS c v x)
 | .extract x i=>match ev v x with
  | .tup l=>match l[i]? with
   |some z=>⟨evS c v x,z,r⟩
   |none=>bad
  |_=>bad
 | .alloc t=>match T t,dst with
  |some ti,some d=>⟨True, .one (.ptr ⟨d,0,nxt r d⟩ 0),
    setR d {next:=nxt r d+1,l:=some {e:=nxt r d,var:=true,fz:=false,sz:=0,cells:=zeroC ti}::List.replicate ti.zero.length none} r⟩
  |_,_=>bad
 | .load t x=>match ev v x with
  | .one (.ptr h off)=>match getR r h with
   |some res=>⟨evS c v x∧off≤res.cells.length∧(loadC T t (res.cells.drop off)).1,(loadC T t (res.cells.drop off)).2,r⟩
   |none=>bad
  | .one (.elt ds)=>⟨evS c v x∧(loadC T t (ds.map C.d)).1,(loadC T t (ds.map C.d)).2,r⟩
  | .one (.eltR cs)=>⟨evS c v x∧(loadC T t cs).1,(loadC T t cs).2,r⟩
  |_=>bad
 | .fieldAddr t x f=>match fieldOff T t f,ev v x with
  |some o, .one (.ptr h off)=>match getR r h with
   |some _=>⟨evS c v x, .one (.ptr h (off+o)),r⟩
   |none=>bad
  |some o, .one (.elt ds)=>⟨evS c v x∧o<ds.length, .one (.elt (ds.drop o)),r⟩
  |some o, .one (.eltR cs)=>⟨evS c v x∧o<cs.length, .one (.eltR (cs.drop o)),r⟩
  |_,_=>bad
 | .indexAddr t x i=>(idxA T r c t (ev v x) (ev v i)).with (evS c v x∧evS c v i)
 | .field t x f=>(fieldA T r t f (ev v x)).with (evS c v x)
 | .index t x i=>match ev v i,ev v x with
  | .one (.d (.v (.int _ n))), .one (.d (.v (.string s)))=>⟨evS c v x∧evS c v i∧isStr T (some t)=true∧(c=true→0≤n∧n<s.size),
    .one (.d (.v (.int .u8 (s.data.getD n.toNat 0).toNat))),r⟩
  | .one (.d (.v (.int _ n))), .agg l=>match arrSz T t,l[n.toNat]? with
   |some (m,ei),some y=>⟨evS c v x∧evS c v i∧isIntTI ei=true∧(c=true→0≤n∧n<m), .one y,r⟩
   |_,_=>bad
  |_,_=>bad
 | .slice t x lo hi none=>(sliceA T r c t (ev v x) (evO v lo) (evO v hi)).with (evS c v x∧evOS c v lo∧evOS c v hi)
 | .slice t x lo hi (some mx)=>(slice3A T r c t (ev v x) (evO v lo) (evO v hi) (evO v (some mx))).with (evS c v x∧evOS c v lo∧evOS c v hi∧evS c v mx)
 | .makeFunc (.func f) ⟨[]⟩ caps=>match zfF (evs v caps.toList)with
  |some xs=>⟨evsS c v caps.toList, .one (.clos f xs),r⟩
  |none=>bad
 | .nilCheck x=>match ev v x with
  | .one (.ptr h off)=>match getR r h with
   |some _=>⟨evS c v x, .one (.ptr h off),r⟩
   |none=>bad
  | .one (.elt ds)=>⟨evS c v x, .one (.elt ds),r⟩
  | .one (.eltR cs)=>⟨evS c v x, .one (.eltR cs),r⟩
  | .one (.clos f caps)=>⟨evS c v x, .one (.clos f caps),r⟩
  |_=>bad
 | .box t x=>match T t,dst with
  |some ti,some d=>
   ⟨evS c v x∧(cellsOf (ev v x)).length=ti.size∧ti.size≠0∧liveCs (cellsOf (ev v x))=true, .one (.ptr ⟨d,0,nxt r d⟩ 0),
    setR d {next:=nxt r d+1+(cellsOf (ev v x)).length,
             l:=some {e:=nxt r d,var:=true,fz:=false,sz:=0,cells:=(homeCs d (nxt r d+1) 0 (cellsOf (ev v x)) (setR d {next:=nxt r d,l:=[]} r)).1}::
               (homeCs d (nxt r d+1) 0 (cellsOf (ev v x)) (setR d {next:=nxt r d,l:=[]} r)).2.1}
     (homeCs d (nxt r d+1) 0 (cellsOf (ev v x)) (setR d {next:=nxt r d,l:=[]} r)).2.2⟩
  |_,_=>bad
 | .store t ad x=>(storeA T r t (ev v ad) (ev v x)).with (evS c v ad∧evS c v x)
 | .build t ps=>match T t with
  |some ti=>match buildC T t ((ps.toList.map (·.1)).zip (evs v (ps.toList.map (·.2)))) (zeroC ti)with
   |some l=>⟨evsS c v (ps.toList.map (·.2))∧buildOK T t=true, .agg l,r⟩
   |none=>bad
  |none=>bad
 | .buildSlice t n ps=>match elemSz T t,dst with
  |some (_,ei),some d=>
   let r0:=setR d {next:=nxt r d,l:=[]} r
   let ys:=evs v (ps.toList.map (·.2))
   match sealCs r0 (ys.flatMap cellsOf)with
   |some (ds,r')=>⟨evsS c v (ps.toList.map (·.2))∧ps.toList.map (·.1)=List.range n∧ei.size≠0∧n*ei.size≤2^24∧(∀y∈ys,(cellsOf y).length=ei.size),
     .one (.own ⟨d,1,nxt r d⟩ 0 n),
     setR d {next:=nxt r d+1,l:=[none,some {e:=nxt r d,var:=false,fz:=false,sz:=ei.size,cells:=ds.map C.d}]} r'⟩
   |none=>bad
  |_,_=>bad
 | .makeSlice t l k=>(makeA T r c dst t (ev v l) (ev v k)).with (evS c v l∧evS c v k)
 | .call {callee:= .builtin .append,args:=args,argTypes:=ts}=>match args.toList with
  |[s,x]=>(appA T r c dst ts (ev v s) (ev v x)).with (evS c v s∧evS c v x)
  |_=>bad
 | .call {callee:= .builtin .len,args:=args,argTypes:=ts}=>match args.toList with
  |[x]=>(lenA T r ts[0]? (ev v x)).with (evS c v x)
  |_=>bad
 | .call {callee:= .builtin .cap,args:=args,argTypes:=ts}=>match args.toList with
  |[x]=>(capA T r ts[0]? (ev v x)).with (evS c v x)
  |_=>bad
 | .call {callee:= .builtin .copy,args:=args,argTypes:=ts}=>match args.toList with
  |[y,x]=>(copyA T r ts (ev v y) (ev v x)).with (evS c v y∧evS c v x)
  |_=>bad
 | .call {callee:= .builtin .clear,args:=args,argTypes:=ts}=>match args.toList with
  |[y]=>(clearA T r ts (ev v y)).with (evS c v y)
  |_=>bad
 | .call {callee:= .builtin .max,args:=args,argTypes:=_}=>(mmA r true (evs v args.toList)).with (evsS c v args.toList)
 | .call {callee:= .builtin .min,args:=args,argTypes:=_}=>(mmA r false (evs v args.toList)).with (evsS c v args.toList)
 |_=>bad
def callA (v:List AV) (r:Rs) (f:Operand) (args:Array Operand):Option (FuncId×List Arg):=
 match calleeOf (ev v f),lendAs r (evs v args.toList)with
 |some (n,caps),some as=>match lendAs r (caps.map AV.one)with
  |some cs=>some (n,as++cs)
  |none=>none
 |_,_=>none
def znT:Op→Bool
 | .move _| .pick .. | .unOp .. | .binOp .. | .convert .. | .extract .. | .load .. | .fieldAddr .. | .field .. | .indexAddr .. | .index .. | .slice .. | .makeFunc .. | .nilCheck _| .build .. | .makeInterface .. =>true
 | .call {callee:= .builtin .len, .. }=>true
 | .call {callee:= .builtin .max, .. }=>true
 | .call {callee:= .builtin .min, .. }=>true
 |_=>false
def gdOf (ops:List Oper) (v:List AV) (j:Nat):Option (Bool×Bool):=
 match ops[j]? with
 |some o=>match o.dst with
  |some d=>boolV (v.getD d (.one .dead))
  |none=>none
 |none=>none
def putV (v:List AV) (dst:Option Nat) (x:AV):List AV:=
 match dst with
 |some d=>v.set d x
 |none=>v
def OutK (o:Out) (k:AV→Rs→Prop):Prop:=o.sc∧k o.x o.r
def GIm (c:Bool) (p:Prop):Prop:=c=true→p
theorem GIm_true {c:Bool}:GIm c True=True:=by simp[GIm]
theorem zqC {c:Bool} {p:Prop} (h:p):GIm c p:=fun _=>h
theorem GIm_tt {p:Prop}:GIm true p=p:=by simp[GIm]
theorem GIm_ff {p:Prop}:GIm false p=True:=by simp[GIm]
def OutKG (c:Bool) (o:Out) (k:AV→Rs→Prop):Prop:=GIm c o.sc∧k o.x o.r
theorem OutKG.congr {c:Bool} {o o':Out} {k:AV→Rs→Prop} (h:o=o'):OutKG c o k=OutKG c o' k:=by rw[h]
theorem OutK.congr {o o':Out} {k:AV→Rs→Prop} (h:o=o'):OutK o k=OutK o' k:=by rw[h]
def CallK (P:Program) (c:Bool) (a:Option (FuncId×List Arg)) (K:List RF→Prop):Prop:=
 match a with
 |some (n,as)=>CallG P c n as K
 |none=>False
theorem CallK.congr {P:Program} {c:Bool} {a a':Option (FuncId×List Arg)} {K:List RF→Prop} (h:a=a'):CallK P c a K=CallK P c a' K:=by rw[h]
mutual
def slotsC:C→List Nat
 | .own h _ _=>[h.s]
 | .ptr h _=>[h.s]
 | .clos _ caps=>slotsCs caps
 | .d _=>[]
 | .lent _ _=>[]
 | .elt _=>[]
 | .ab=>[]
 | .dead=>[]
 | .eltR cs=>slotsCs cs
 | .gap h _ _ _=>[h.s]
 | .lk h _ _=>[h.s]
def slotsCs:List C→List Nat
 |[]=>[]
 |c::cs=>slotsC c++slotsCs cs
end
mutual
def slotsA:AV→List Nat
 | .one x=>slotsC x
 | .agg l=>slotsCs l
 | .tup l=>slotsAs l
 | .gd _ x=>slotsA x
def slotsAs:List AV→List Nat
 |[]=>[]
 |x::xs=>slotsA x++slotsAs xs
end
def opSl (v:List AV) (x:Operand):List Nat:=slotsA (gev v x)
def opSls (v:List AV):List Operand→List Nat
 |[]=>[]
 |x::xs=>opSl v x++opSls v xs
def hdSl (v:List AV):List Operand→List Nat
 |[]=>[]
 |x::_=>opSl v x
inductive Mv where
 |o (h:Hd)
 |r (h:Hd) (n:Nat)
def Mv.s:Mv→Nat
 | .o h=>h.s
 | .r h _=>h.s
def homeB (s:Nat):List (Nat×Nat)→Bool
 |[]=>true
 |p::l=>p.1==s&&homeB s l
def ownOf:C→Option (Hd×Nat×Nat)
 | .own h lo n=>some (h,lo,n)
 |_=>none
def splitOwn:List C→Option (List C×(Hd×Nat×Nat)×List C)
 |[]=>none
 |x::xs=>match ownOf x with
  |some q=>some ([],q,xs)
  |none=>match splitOwn xs with
   |some (a,q,b)=>some (x::a,q,b)
   |none=>none
def moveA (r:Rs):AV→Option (Arg×Mv)
 | .agg l=>match splitOwn l with
  |some (a,(h,lo,n),b)=>match lendC.lendCs r a,lendC.lendCs r b,getR r h with
   |some a',some b',some res=>match toDs res.cells with
    |some ds=>if res.var=false∧res.fz=false∧lo=0∧(slotsCs a++slotsCs b).contains h.s=false then some (.agr a' b' res.sz n ds, .r h n)else none
    |none=>none
   |_,_,_=>none
  |none=>none
 | .one (.ptr h off)=>match getR r h with
  |some res=>match roCs r res.cells with
   |some l=>if res.var=true∧h.j=0∧off=0∧((slotsCs res.cells).all (·==h.s)&&(homeB h.s (ownHs r res.cells)&&ndB (ownHs r res.cells)))=true then some (.obj l, .o h)else none
   |none=>none
  |none=>none
 | .one (.own h lo n)=>match getR r h with
  |some res=>match toDs res.cells with
   |some ds=>if res.var=false∧res.fz=false∧lo=0 then some (.row res.sz n ds, .r h n)else none
   |none=>none
  |none=>none
 |_=>none
def moveAs (r:Rs):Nat→List AV→Option (List Arg×Mv)
 |_,[]=>none
 |0,x::xs=>match moveA r x,lendAs r xs with
  |some (y,mv),some ys=>some (y::ys,mv)
  |_,_=>none
 |i+1,x::xs=>match lendA r x,moveAs r i xs with
  |some y,some (ys,mv)=>some (.f y::ys,mv)
  |_,_=>none
def dl:Option Nat→List Nat
 |none=>[]
 |some d=>[d]
def lentSl:Nat→List AV→List Nat
 |_,[]=>[]
 |0,_::xs=>slotsAs xs
 |i+1,x::xs=>slotsA x++lentSl i xs
def callM (i:Nat) (v:List AV) (r:Rs) (f:Operand) (args:Array Operand):Option (FuncId×List Arg×Mv×List Nat):=
 match calleeOf (ev v f),moveAs r i (evs v args.toList)with
 |some (n,caps),some (as,mv)=>match lendAs r (caps.map AV.one)with
  |some cs=>some (n,as++cs,mv,lentSl i (evs v args.toList)++slotsCs caps)
  |none=>none
 |_,_=>none
def scM (r:Rs) (dst:Option Nat) (mv:Mv) (lent:List Nat) (l':List RO):Prop:=
 match mv with
 | .o h=>match getR r h with
  |some res=>(dl dst++lent).contains h.s=false∧l'.length=res.cells.length
  |none=>False
 | .r h n=>match getR r h with
  |some res=>(dl dst++lent).contains h.s=false∧(match l' with
   |[]=>True
   |[.own sz n' ds' _]=>n'=n∧0<n∧sz=res.sz∧ds'.length=res.cells.length
   |_=>False)
  |none=>False
def borM (r:Rs) (mv:Mv):Bool:=
 match findR mv.s r with
 |some rs=>rs.l.any fun x=>match x with|some res=>res.bor|none=>false
 |none=>false
def backM (r:Rs) (mv:Mv) (l':List RO):Rs:=
 match mv with
 | .o h=>match getR r h with
  |some res=>setR h.s {next:=nxt r h.s+1,l:=some {res with cells:=bindCs h.s (nxt r h.s) 0 l'}::bindRs (borM r (.o h)) (nxt r h.s) l'} r
  |none=>r
 | .r h _=>match getR r h,findR h.s r with
  |some res,some rs=>(match l' with
   |[.own _ _ ds' _]=>setR h.s {rs with l:=rs.l.set h.j (some {res with cells:=ds'.map C.d})} r
   |_=>setR h.s {rs with l:=rs.l.set h.j none} r)
  |_,_=>r
def bindM (r:Rs) (dst:Option Nat) (mv:Mv) (rfs:List RF) (l':List RO):AV×Rs:=bindRetB (borM r mv) (backM r mv l') dst rfs
abbrev pK:Nat:=1000000
def bindP (r:Rs) (d:Nat) (rfs:List RF) (l:List RO):AV×Rs:=
 if noOwn (rfs.flatMap RF.cells)=true then
  (tupOf (.one (.ptr ⟨d,0,nxt r d⟩ 0)::bindFs 0 0 0 rfs),setR d {next:=nxt r d+1,l:=some {e:=nxt r d,var:=true,fz:=false,sz:=0,cells:=bindCs d (nxt r d) 0 l}::bindRs false (nxt r d) l} r)
 else(tupOf (.one (.ptr ⟨d,0,nxt r d⟩ 0)::bindFs (d+pK) (nxt r (d+pK)) 0 rfs),
  setR (d+pK) {next:=nxt r (d+pK)+1,l:=none::bindRs false (nxt r (d+pK)) (rfs.flatMap RF.cells)}
   (setR d {next:=nxt r d+1,l:=some {e:=nxt r d,var:=true,fz:=false,sz:=0,cells:=bindCs d (nxt r d) 0 l}::bindRs false (nxt r d) l} r))
def zwD (P:Program) (f:FuncId) (args:List Arg) (post:List Hold→List RF→List (List RO)→Prop):Prop:=
 (∀(us:Array Value) (w:World),(callFunc f us).run P w= .ok (.enter f us) w)∧
 ∀(w:World) (A0:Nat→Prop) (us:List Value),(∀b,A0 b→b<w.heap.size)→zaq P w A0 (fun _=>False) (fun _=>⟨none,0⟩) 0 args [] us→
  Calls P f us.toArray w fun e w'=>∃bs rfs objs u,post bs rfs objs∧e= .returned u∧(∀b∈zdG bs,w.heap.size≤b)∧Ret w (fun b=>A0 b∨b∈zdG bs) (fun _=>False) w' bs rfs objs u
abbrev zgO (b:Nat):Value:= .pointer (some ⟨b,0,none⟩)
def CallP (P:Program) (f:FuncId) (args:List Arg) (rfs:List RF) (l:List RO):Prop:=
 zwD P f args fun bs r o=>∃b,bs=[.blk b]∧r= .one (.d (.v (zgO b)))::rfs∧o=[l]
def zfG (P:Program) (a:Option (FuncId×List Arg)) (K:List RF→List RO→Prop):Prop:=
 match a with
 |some (n,as)=>∃rfs l,CallP P n as rfs l∧K rfs l
 |none=>False
def zfH (P:Program) (r:Rs) (dst:Option Nat) (a:Option (FuncId×List Arg×Mv×List Nat)) (K:Mv→List RF→List RO→Prop):Prop:=
 match a with
 |some (n,as,mv,lent)=>∃rfs l',CallOK P n as (fun r o=>r=rfs∧o=[l'])∧scM r dst mv lent l'∧K mv rfs l'
 |none=>False
structure FP where
 t:List Nat
 w:List Nat
def FP.both (l:List Nat):FP:=⟨l,l⟩
def fpOf (v:List AV) (dst:Option Nat) (op:Op):FP:=
 match op with
 | .load _ x=>⟨opSl v x,[]⟩
 | .convert _ _ x=>⟨opSl v x,[]⟩
 | .fieldAddr _ x _=>⟨opSl v x,[]⟩
 | .indexAddr _ x _=>⟨opSl v x,[]⟩
 | .slice _ x _ _ _=>⟨opSl v x,[]⟩
 | .nilCheck x=>⟨opSl v x,[]⟩
 | .binOp _ _ x y _=>⟨opSl v x++opSl v y,[]⟩
 | .alloc _=> .both (dl dst)
 | .makeSlice _ l k=> .both (opSl v l++(opSl v k++dl dst))
 | .assign x=> .both (opSl v x++dl dst)
 | .box _ x=> .both (opSl v x++dl dst)
 | .store _ a x=> .both (opSl v a++opSl v x)
 | .buildSlice _ _ ps=> .both (opSls v (ps.toList.map (·.2))++dl dst)
 | .call {callee:= .value f,args:=args,argTypes:=_}=>⟨opSl v f++(opSls v args.toList++dl dst),dl dst⟩
 | .call {callee:= .builtin .append,args:=args,argTypes:=_}=>⟨opSls v args.toList++dl dst,hdSl v args.toList++dl dst⟩
 | .call {callee:= .builtin .copy,args:=args,argTypes:=_}=>⟨opSls v args.toList,hdSl v args.toList⟩
 | .call {callee:= .builtin .clear,args:=args,argTypes:=_}=>⟨opSls v args.toList,hdSl v args.toList⟩
 | .call {callee:= .builtin .cap,args:=args,argTypes:=_}=>⟨opSls v args.toList,[]⟩
 | .call {callee:= .builtin .len,args:=args,argTypes:=_}=>⟨opSls v args.toList,[]⟩
 |_=>⟨[],[]⟩
def fpM (v:List AV) (dst:Option Nat) (op:Op) (s:Nat):FP:=⟨(fpOf v dst op).t++[s],s::dl dst⟩
structure M where
 fp:Option (List FP)
 off:List (Nat×Bool)
def upM (dst:Option Nat) (s:Nat):M→M
 |⟨some (fp::l),off⟩=>⟨some (⟨fp.t++[s],s::dl dst⟩::l),off⟩
 |x=>x
def addFP (m:M) (v:List AV) (dst:Option Nat) (op:Op):M:=
 match m with
 |⟨none,off⟩=>⟨none,off⟩
 |⟨some l,off⟩=>⟨some (fpOf v dst op::l),off⟩
def offB:List (Nat×Bool)→Nat→Bool→Bool
 |[],_,_=>false
 |(a,b)::l,j,w=>(a==j&&b==w)||offB l j w
abbrev ziY:AV:= .gd false (.one (.d (.v (.bool false))))
def skS (want:Bool):Option (Bool×Bool)→Prop
 |some (c',b)=>(c'&&(b==want))=false
 |none=>False
def zdH (ops:List Oper):List Nat:=
 ops.foldl (fun acc o=>acc++[o.after.foldl (fun s e=>if Region.binds .any e then s|||2^e.on|||acc.getD e.on 0 else s) 0]) []
def dis (a b:List Nat):Bool:=a.all fun x=> !b.contains x
def FP.apart (x y:FP):Bool:=dis x.w y.t&&dis x.t y.w&&dis x.w y.w
def zku (all:List Oper) (recs:List FP):Bool:=
 recs.zipIdx.all fun y=>recs.zipIdx.all fun x=> !decide (x.2<y.2)||((zdH all).getD y.2 0).testBit x.2||FP.apart x.1 y.1
def EndR (all:List Oper) (m:M):Prop:=
 match m.fp with
 |none=>True
 |some l=>zku all l.reverse=true
def zqD (P:Program) (v:List AV) (r:Rs) (f:Operand) (args:Array Operand) (d:Value):Prop:=
 flat d=true∧∃n,calleeOf (ev v f)=some (n,[])∧∀(cx:Cx) (v':List AV) (r':Rs) (a:Act) (w:World) (β:Nat→Nat→Pl),cx.P=P→(∀s∈opSls v args.toList,findR s r'=findR s r)→
  Holds cx ⟨v',r'⟩ a w β→∀us,ReAs cx w r' β (evs v args.toList) us→(callFunc n us.toArray).run P w= .ok (.value d) w
inductive Ex where
 |normal
 |exit (id:Nat)
 |ret
 |panic (x:Value)
def zt1:Ex→Exit
 | .normal=> .normal
 | .exit id=> .exit id
 | .ret=> .ret
 | .panic x=> .panic [{v:=x,recovered:=false}]
def zxj (P:Program) (y:Code) (g:G) (Q:Ex→G→Prop):Prop:=
 ∀(cx:Cx),cx.P=P→∀(R:Exit→Act→World→Prop),(∀e g a w,HoldsE cx g a w→Q e g→R (zt1 e) a w)→∀(a:Act) (w:World),HoldsE cx g a w→y.wp P R a w
structure PRet (w:World) (Bor:Nat→Prop) (w':World):Prop where
 size:w.heap.size≤w'.heap.size
 old:∀b,b<w.heap.size→¬Bor b→w'.heap[b]? =w.heap[b]?
 os:w'.os=w.os
 out:w'.output=w.output
def zbE (P:Program) (f:FuncId) (args:List Arg) (x:Value):Prop:=
 (∀(us:Array Value) (w:World),(callFunc f us).run P w= .ok (.enter f us) w)∧
 ∀(w:World) (A0 Bor:Nat→Prop) (γ:Nat→Pl) (bs:List Hold) (us:List Value),(∀b,A0 b→b<w.heap.size)→(∀b,Bor b→A0 b)→
  zaq P w A0 Bor γ 0 args bs us→(∀b,NB γ 0 (zal args) b→Bor b∧b ∉ zdG bs)→(zdG bs).Nodup→Apart γ (zal args)→
  Calls P f us.toArray w fun e w'=>e= .panicked [{v:=x,recovered:=false}]∧PRet w Bor w'
def ziZ (r:Rs) (mv:Mv):Rs:=
 match findR mv.s r with
 |some rs=>setR mv.s {rs with l:=[]} r
 |none=>r
def zwE (P:Program) (m:M) (v:List AV) (r:Rs) (f:Operand) (args:Array Operand) (a:Option (FuncId×List Arg)) (K:Ex→G→Prop):Prop:=
 m.fp=none∧∃n as x,zbE P n as x∧((a=some (n,as)∧K (.panic x) ⟨v,r⟩)∨(∃i mv lent l',callM i v r f args=some (n,as,mv,lent)∧scM r none mv lent l'∧K (.panic x) ⟨v,ziZ r mv⟩))
def zsG (m:M) (v:List AV) (r:Rs) (C:List AV→Rs→Prop):Prop:=
 m.fp=none∧∃i h lo n k ds r',v[i]? =some (.one (.own h lo n))∧
  (∀(cx:Cx) (a:Act) (w:World),HoldsE cx ⟨v,r⟩ a w→HoldsE cx ⟨v.set i (.one (.d (.sl k ds))),r'⟩ a w)∧C (v.set i (.one (.d (.sl k ds)))) r'
def PanR (m:M) (v:List AV) (r:Rs) (K:Ex→G→Prop) (y:AV):Prop:=
 m.fp=none∧match y with
  | .one (.d (.v (.iface t z)))=>K (.panic (.iface t z)) ⟨v,r⟩
  |_=>False
def aops (all:List Oper):M→List Oper→List AV→Rs→(Ex→G→Prop)→Prop
 |m,[],v,r,K=>EndR all m∧K .normal ⟨v,r⟩
 |m,o::rest,v,r,K=>
  match o.guard with
  |none=>match o.op with
   | .call {callee:= .value f,args:=args,argTypes:=_}=>evS true v f∧evsS true v args.toList∧
     ((CallK P true (callA v r f args) fun rfs=>aops all (addFP m v o.dst o.op) rest (putV v o.dst (bindRet r o.dst rfs).1) (bindRet r o.dst rfs).2 K)∨
      (∃i,zfH P r o.dst (callM i v r f args) fun mv rfs l'=>aops all (upM o.dst mv.s (addFP m v o.dst o.op)) rest (putV v o.dst (bindM r o.dst mv rfs l').1) (bindM r o.dst mv rfs l').2 K)∨
      (∃d,zqD P v r f args d∧aops all (addFP m v o.dst o.op) rest (putV v o.dst (.one (.d (.v d)))) r K)∨
      (∃d,o.dst=some d∧zfG P (callA v r f args) fun rfs l=>aops all (upM o.dst (d+pK) (addFP m v o.dst o.op)) rest (putV v o.dst (bindP r d rfs l).1) (bindP r d rfs l).2 K)∨
      zwE P (addFP m v o.dst o.op) v r f args (callA v r f args) K∨
      zsG (addFP m v o.dst o.op) v r fun v' r'=>evS true v' f∧evsS true v' args.toList∧
      ((CallK P true (callA v' r' f args) fun rfs=>aops all (addFP m v o.dst o.op) rest (putV v' o.dst (bindRet r' o.dst rfs).1) (bindRet r' o.dst rfs).2 K)∨
       (∃i,zfH P r' o.dst (callM i v' r' f args) fun mv rfs l'=>aops all (upM o.dst mv.s (addFP m v o.dst o.op)) rest (putV v' o.dst (bindM r' o.dst mv rfs l').1) (bindM r' o.dst mv rfs l').2 K)∨
       (∃d,o.dst=some d∧zfG P (callA v' r' f args) fun rfs l=>aops all (upM o.dst (d+pK) (addFP m v o.dst o.op)) rest (putV v' o.dst (bindP r' d rfs l).1) (bindP r' d rfs l).2 K)))
   | .panic y=>evS true v y∧PanR (addFP m v o.dst o.op) v r K (ev v y)
   |op=>OutK (aop T true v r o.dst op) fun x r'=>aops all (addFP m v o.dst o.op) rest (putV v o.dst x) r' K
  |some (j,want)=>
   match offB (addFP m v o.dst o.op).off j want with
   |true=>skS want (gdOf all v j)∧aops all (addFP m v o.dst o.op) rest (putV v o.dst ziY) r K
   |false=>match gdOf all v j with
   |some (c',b)=>
    match o.op with
    | .call {callee:= .value f,args:=args,argTypes:=_}=>evS (c'&&(b==want)) v f∧evsS (c'&&(b==want)) v args.toList∧
      ((CallK P (c'&&(b==want)) (callA v r f args) fun rfs=>noOwn (rfs.flatMap RF.cells)=true∧
       aops all (addFP m v o.dst o.op) rest (putV v o.dst (.gd (c'&&(b==want)) (tupOf (bindFs 0 0 0 rfs)))) r K)∨
       ((c'&&(b==want))=false∧aops all (addFP m v o.dst o.op) rest (putV v o.dst ziY) r K)∨
       (((c'&&(b==want))=true→(CallK P true (callA v r f args) fun rfs=>aops all (addFP m v o.dst o.op) rest (putV v o.dst (bindRet r o.dst rfs).1) (bindRet r o.dst rfs).2 K)∨
        (∃i,zfH P r o.dst (callM i v r f args) fun mv rfs l'=>aops all (upM o.dst mv.s (addFP m v o.dst o.op)) rest (putV v o.dst (bindM r o.dst mv rfs l').1) (bindM r o.dst mv rfs l').2 K)∨
        (∃d,zqD P v r f args d∧aops all (addFP m v o.dst o.op) rest (putV v o.dst (.one (.d (.v d)))) r K)∨
        (∃d,o.dst=some d∧zfG P (callA v r f args) fun rfs l=>aops all (upM o.dst (d+pK) (addFP m v o.dst o.op)) rest (putV v o.dst (bindP r d rfs l).1) (bindP r d rfs l).2 K)∨
        zwE P (addFP m v o.dst o.op) v r f args (callA v r f args) K∨
        zsG (addFP m v o.dst o.op) v r fun v' r'=>evS true v' f∧evsS true v' args.toList∧
         ((CallK P true (callA v' r' f args) fun rfs=>aops all (addFP m v o.dst o.op) rest (putV v' o.dst (bindRet r' o.dst rfs).1) (bindRet r' o.dst rfs).2 K)∨
          (∃i,zfH P r' o.dst (callM i v' r' f args) fun mv rfs l'=>aops all (upM o.dst mv.s (addFP m v o.dst o.op)) rest (putV v' o.dst (bindM r' o.dst mv rfs l').1) (bindM r' o.dst mv rfs l').2 K)∨
          (∃d,o.dst=some d∧zfG P (callA v' r' f args) fun rfs l=>aops all (upM o.dst (d+pK) (addFP m v o.dst o.op)) rest (putV v' o.dst (bindP r' d rfs l).1) (bindP r' d rfs l).2 K)))∧
        ((c'&&(b==want))=false→aops all ⟨(addFP m v o.dst o.op).fp,(j,want)::(addFP m v o.dst o.op).off⟩ rest (putV v o.dst ziY) r K)))
    |op=>if znT op=true then OutKG (c'&&(b==want)) (aop T (c'&&(b==want)) v r o.dst op) fun x _=>aops all (addFP m v o.dst o.op) rest (putV v o.dst (.gd (c'&&(b==want)) x)) r K
     else((c'&&(b==want))=true→OutK (aop T true v r o.dst op) fun x r'=>aops all (addFP m v o.dst o.op) rest (putV v o.dst x) r' K)∧
      ((c'&&(b==want))=false→aops all ⟨(addFP m v o.dst o.op).fp,(j,want)::(addFP m v o.dst o.op).off⟩ rest (putV v o.dst ziY) r K)
   |none=>False
theorem aops.congr {all ops:List Oper} {m:M} {v v':List AV} {r r':Rs} {K:Ex→G→Prop} (h1:v=v') (h2:r=r'):aops T P all m ops v r K=aops T P all m ops v' r' K:=by rw[h1,h2]
def Nxt (f:G→Prop) (g:G):Prop:=f g
theorem Nxt.congr {f:G→Prop} {g g':G} (h:g=g'):Nxt f g=Nxt f g':=by rw[h]
def Gh (g g':G):Prop:=∀(cx:Cx) (a:Act) (w:World),HoldsE cx g a w→HoldsE cx g' a w
def zxM (round:G→(Ex→G→Prop)→Prop) (g:G) (Q:Ex→G→Prop):Prop:=
 ∃(I:Nat→G→Prop) (n0:Nat),(∃g0,Gh g g0∧I n0 g0)∧∀n g',I n g'→round g' fun e g''=>match e with
  | .normal=>∃n' g0,n'<n∧Gh g'' g0∧I n' g0
  |e=>Q e g''
def zvK (l:List Oper):Bool:=
 Region.noSelect l.toArray&&
 l.zipIdx.all fun y=>y.1.after.all (fun e=> !Region.binds .any e||decide (e.on<y.2))&&
  l.zipIdx.all fun x=> !decide (x.2<y.2)||((zdH l).getD y.2 0).testBit x.2||x.1.apart l.toArray y.1
def zlT (l:List Oper):Prop:=zvK l=true
def awp:Code→G→(Ex→G→Prop)→Prop
 | .skip,g,Q=>Q .normal g
 | .region _ ops d,g,Q=>match d with
  |true=>zlT ops.toList∧aops T P ops.toList ⟨some [],[]⟩ ops.toList g.v g.r Q
  |false=>aops T P ops.toList ⟨none,[]⟩ ops.toList g.v g.r Q
 | .seq x y,g,Q=>awp x g fun e g'=>match e with
  | .normal=>(∃g'',Gh g' g''∧Nxt (fun g=>awp y g Q) g'')∨zxj P y g' Q
  |e=>Q e g'
 | .cond c x y,g,Q=>match ev g.v c with
  | .one (.d (.v (.bool b)))=>evS true g.v c∧(b=true→awp x g Q)∧(b=false→awp y g Q)
  | .one .ab=>evS true g.v c∧awp x g Q∧awp y g Q
  |_=>False
 | .block id x,g,Q=>awp x g fun e g'=>match e with
  | .exit id'=>if id'=id then Q .normal g' else Q (.exit id') g'
  |e=>Q e g'
 | .loop x,g,Q=>zxM (fun g Q=>awp x g Q) g Q
 | .exit id,g,Q=>Q (.exit id) g
 | .ret,g,Q=>Q .ret g
 | .scope x,g,Q=>awp x g Q
 | .label _,g,Q=>Q .normal g
 |_,_,_=>False
def zkv (y:Code) (Q:Ex→G→Prop) (e:Ex) (g:G):Prop:=
 match e with
 | .normal=>(∃g',Gh g g'∧awp T P y g' Q)∨zxj P y g Q
 |e=>Q e g
def zwF (id:Nat) (Q:Ex→G→Prop) (e:Ex) (g:G):Prop:=
 match e with
 | .exit id'=>if id'=id then Q .normal g else Q (.exit id') g
 |e=>Q e g
def zwG (x:Code) (g:G) (Q:Ex→G→Prop):Prop:=
 ∃(I:Nat→G→Prop) (n0:Nat),(∃g0,Gh g g0∧I n0 g0)∧∀n g',I n g'→awp T P x g' fun e g''=>match e with
  | .normal=>∃n' g0,n'<n∧Gh g'' g0∧I n' g0
  |e=>Q e g''
def zqE (v:AV) (s:Prop) (x y:Code) (g:G) (Q:Ex→G→Prop):Prop:=
 match v with
 | .one (.d (.v (.bool b)))=>s∧(b=true→awp T P x g Q)∧(b=false→awp T P y g Q)
 | .one .ab=>s∧awp T P x g Q∧awp T P y g Q
 |_=>False
def zxN (all:List Oper) (m:M) (rest:List Oper) (dst:Option Nat) (v:List AV) (K:Ex→G→Prop) (o:Out):Prop:=o.sc∧aops T P all m rest (putV v dst o.x) o.r K
def zi0 (all:List Oper) (m:M) (rest:List Oper) (c:Bool) (dst:Option Nat) (v:List AV) (r:Rs) (K:Ex→G→Prop) (o:Out):Prop:=GIm c o.sc∧aops T P all m rest (putV v dst (.gd c o.x)) r K
def zii (all:List Oper) (m:M) (rest:List Oper) (dst:Option Nat) (v:List AV) (r:Rs) (K:Ex→G→Prop) (f:Operand) (args:Array Operand) (a:Option (FuncId×List Arg)):Prop:=
 (CallK P true a fun rfs=>aops T P all m rest (putV v dst (bindRet r dst rfs).1) (bindRet r dst rfs).2 K)∨
  (∃i,zfH P r dst (callM i v r f args) fun mv rfs l'=>aops T P all (upM dst mv.s m) rest (putV v dst (bindM r dst mv rfs l').1) (bindM r dst mv rfs l').2 K)∨
  (∃d,zqD P v r f args d∧aops T P all m rest (putV v dst (.one (.d (.v d)))) r K)∨
  (∃d,dst=some d∧zfG P a fun rfs l=>aops T P all (upM dst (d+pK) m) rest (putV v dst (bindP r d rfs l).1) (bindP r d rfs l).2 K)∨
  zwE P m v r f args a K∨
  zsG m v r fun v' r'=>evS true v' f∧evsS true v' args.toList∧
   ((CallK P true (callA v' r' f args) fun rfs=>aops T P all m rest (putV v' dst (bindRet r' dst rfs).1) (bindRet r' dst rfs).2 K)∨
    (∃i,zfH P r' dst (callM i v' r' f args) fun mv rfs l'=>aops T P all (upM dst mv.s m) rest (putV v' dst (bindM r' dst mv rfs l').1) (bindM r' dst mv rfs l').2 K)∨
    (∃d,dst=some d∧zfG P (callA v' r' f args) fun rfs l=>aops T P all (upM dst (d+pK) m) rest (putV v' dst (bindP r' d rfs l).1) (bindP r' d rfs l).2 K))
def zlU (all:List Oper) (m:M) (rest:List Oper) (c:Bool) (dst:Option Nat) (v:List AV) (r:Rs) (K:Ex→G→Prop) (f:Operand) (args:Array Operand) (j:Nat) (want:Bool) (a:Option (FuncId×List Arg)):Prop:=
 (CallK P c a fun rfs=>noOwn (rfs.flatMap RF.cells)=true∧aops T P all m rest (putV v dst (.gd c (tupOf (bindFs 0 0 0 rfs)))) r K)∨
  (c=false∧aops T P all m rest (putV v dst ziY) r K)∨
  ((c=true→zii T P all m rest dst v r K f args a)∧(c=false→aops T P all ⟨m.fp,(j,want)::m.off⟩ rest (putV v dst ziY) r K))
def aop1 (all:List Oper) (m:M) (rest:List Oper) (v:List AV) (r:Rs) (K:Ex→G→Prop) (dst:Option Nat) (op:Op):Prop:=
 match op with
 | .call {callee:= .value f,args:=args,argTypes:=_}=>evS true v f∧evsS true v args.toList∧zii T P all m rest dst v r K f args (callA v r f args)
 | .panic y=>evS true v y∧PanR m v r K (ev v y)
 |op=>zxN T P all m rest dst v K (aop T true v r dst op)
def zwH (all:List Oper) (m:M) (rest:List Oper) (v:List AV) (r:Rs) (K:Ex→G→Prop) (dst:Option Nat) (op:Op) (c:Bool) (j:Nat) (want:Bool):Prop:=
 (c=true→zxN T P all m rest dst v K (aop T true v r dst op))∧(c=false→aops T P all ⟨m.fp,(j,want)::m.off⟩ rest (putV v dst ziY) r K)
def aopG (all:List Oper) (m:M) (rest:List Oper) (v:List AV) (r:Rs) (K:Ex→G→Prop) (dst:Option Nat) (op:Op) (c:Bool) (j:Nat) (want:Bool):Prop:=
 match op with
 | .call {callee:= .value f,args:=args,argTypes:=_}=>evS c v f∧evsS c v args.toList∧zlU T P all m rest c dst v r K f args j want (callA v r f args)
 | .move _=>zi0 T P all m rest c dst v r K (aop T c v r dst op)
 | .pick .. =>zi0 T P all m rest c dst v r K (aop T c v r dst op)
 | .unOp .. =>zi0 T P all m rest c dst v r K (aop T c v r dst op)
 | .binOp .. =>zi0 T P all m rest c dst v r K (aop T c v r dst op)
 | .convert .. =>zi0 T P all m rest c dst v r K (aop T c v r dst op)
 | .makeInterface .. =>zi0 T P all m rest c dst v r K (aop T c v r dst op)
 | .extract .. =>zi0 T P all m rest c dst v r K (aop T c v r dst op)
 | .load .. =>zi0 T P all m rest c dst v r K (aop T c v r dst op)
 | .fieldAddr .. =>zi0 T P all m rest c dst v r K (aop T c v r dst op)
 | .indexAddr .. =>zi0 T P all m rest c dst v r K (aop T c v r dst op)
 | .index .. =>zi0 T P all m rest c dst v r K (aop T c v r dst op)
 | .field .. =>zi0 T P all m rest c dst v r K (aop T c v r dst op)
 | .slice .. =>zi0 T P all m rest c dst v r K (aop T c v r dst op)
 | .makeFunc .. =>zi0 T P all m rest c dst v r K (aop T c v r dst op)
 | .nilCheck _=>zi0 T P all m rest c dst v r K (aop T c v r dst op)
 | .build .. =>zi0 T P all m rest c dst v r K (aop T c v r dst op)
 | .call {callee:= .builtin .len, .. }=>zi0 T P all m rest c dst v r K (aop T c v r dst op)
 | .call {callee:= .builtin .max, .. }=>zi0 T P all m rest c dst v r K (aop T c v r dst op)
 | .call {callee:= .builtin .min, .. }=>zi0 T P all m rest c dst v r K (aop T c v r dst op)
 |_=>zwH T P all m rest v r K dst op c j want
def GdR (all:List Oper) (m:M) (rest:List Oper) (v:List AV) (r:Rs) (K:Ex→G→Prop) (dst:Option Nat) (op:Op) (j:Nat) (want:Bool) (gd:Option (Bool×Bool)):Prop:=
 match offB m.off j want with
 |true=>skS want gd∧aops T P all m rest (putV v dst ziY) r K
 |false=>match gd with
  |some (c',b)=>aopG T P all m rest v r K dst op (c'&&(b==want)) j want
  |none=>False
theorem aops_nil {all:List Oper} {m:M} {v:List AV} {r:Rs} {K:Ex→G→Prop}:aops T P all m [] v r K=(EndR all m∧K .normal ⟨v,r⟩):=rfl
theorem aops_cons {all:List Oper} {m:M} {rest:List Oper} {v:List AV} {r:Rs} {K:Ex→G→Prop} {dst:Option Nat} {op:Op} {ty:Nat} {pos:String} {after:Array Edge}:
  aops T P all m (⟨dst,op,ty,pos,after,none⟩::rest) v r K=aop1 T P all (addFP m v dst op) rest v r K dst op:=by
 unfold aops aop1
 dsimp only
 split<;>rfl
theorem aops_consG {all:List Oper} {m:M} {rest:List Oper} {v:List AV} {r:Rs} {K:Ex→G→Prop} {dst:Option Nat} {op:Op} {ty:Nat} {pos:String} {after:Array Edge} {j:Nat} {want:Bool}:
  aops T P all m (⟨dst,op,ty,pos,after,some (j,want)⟩::rest) v r K=GdR T P all (addFP m v dst op) rest v r K dst op j want (gdOf all v j):=by
 unfold aops GdR
 dsimp only
 split
 ·rfl
 split
 ·unfold aopG
  cases op with
  |call k=>
   obtain⟨callee,args,ts⟩:=k
   cases callee with
   |builtin bi=>cases bi<;>rfl
   |value _=>rfl
   |invoke _ _=>rfl
  |_=>rfl
 ·rfl
theorem OutR_mk {all:List Oper} {m:M} {rest:List Oper} {dst:Option Nat} {v:List AV} {K:Ex→G→Prop} {p:Prop} {x:AV} {r:Rs}:
  zxN T P all m rest dst v K ⟨p,x,r⟩=(p∧aops T P all m rest (putV v dst x) r K):=rfl
theorem OutG_mk {all:List Oper} {m:M} {rest:List Oper} {c:Bool} {dst:Option Nat} {v:List AV} {r:Rs} {K:Ex→G→Prop} {p:Prop} {x:AV} {r':Rs}:
  zi0 T P all m rest c dst v r K ⟨p,x,r'⟩=(GIm c p∧aops T P all m rest (putV v dst (.gd c x)) r K):=rfl
theorem OutG_bad {all:List Oper} {m:M} {rest:List Oper} {c:Bool} {dst:Option Nat} {v:List AV} {r:Rs} {K:Ex→G→Prop}:
  zi0 T P all m rest c dst v r K bad=(GIm c False∧aops T P all m rest (putV v dst (.gd c (.one .dead))) r K):=rfl
theorem awp_skip {g:G} {Q:Ex→G→Prop}:awp T P .skip g Q=Q .normal g:=rfl
theorem awp_exit {id:Nat} {g:G} {Q:Ex→G→Prop}:awp T P (.exit id) g Q=Q (.exit id) g:=rfl
theorem awp_ret {g:G} {Q:Ex→G→Prop}:awp T P .ret g Q=Q .ret g:=rfl
theorem awp_reg {id:Nat} {ops:List Oper} {v:List AV} {r:Rs} {Q:Ex→G→Prop}:awp T P (.region id ops.toArray false) ⟨v,r⟩ Q=aops T P ops ⟨none,[]⟩ ops v r Q:=by
 simp[awp]
theorem awp_regD {id:Nat} {ops:List Oper} {v:List AV} {r:Rs} {Q:Ex→G→Prop}:awp T P (.region id ops.toArray true) ⟨v,r⟩ Q=
  (zlT ops∧aops T P ops ⟨some [],[]⟩ ops v r Q):=by
 simp[awp]
theorem zaP {x y:Code} {g:G} {Q:Ex→G→Prop}:awp T P (.seq x y) g Q=awp T P x g (zkv T P y Q):=rfl
theorem awp_cond {c:Operand} {x y:Code} {v:List AV} {r:Rs} {Q:Ex→G→Prop}:awp T P (.cond c x y) ⟨v,r⟩ Q=zqE T P (ev v c) (evS true v c) x y ⟨v,r⟩ Q:=by
 rfl
theorem awp_label {l:Nat} {g:G} {Q:Ex→G→Prop}:awp T P (.label l) g Q=Q .normal g:=rfl
theorem awp_scope {x:Code} {g:G} {Q:Ex→G→Prop}:awp T P (.scope x) g Q=awp T P x g Q:=rfl
theorem awp_block {id:Nat} {x:Code} {g:G} {Q:Ex→G→Prop}:awp T P (.block id x) g Q=awp T P x g (zwF id Q):=rfl
def zu5 (K:G→Prop) (Q:Ex→G→Prop) (e:Ex) (g:G):Prop:=
 match e with
 | .normal=>K g
 |e=>Q e g
theorem zij {K:G→Prop} {Q:Ex→G→Prop} {g:G}:zu5 K Q .normal g=K g:=rfl
theorem zlV {K:G→Prop} {Q:Ex→G→Prop} {g:G} {id:Nat}:zu5 K Q (.exit id) g=Q (.exit id) g:=rfl
theorem zaS {K:G→Prop} {Q:Ex→G→Prop} {g:G} {x:Value}:zu5 K Q (.panic x) g=Q (.panic x) g:=rfl
theorem znU {K:G→Prop} {Q:Ex→G→Prop} {g:G}:zu5 K Q .ret g=Q .ret g:=rfl
theorem zhz {x:Code} {g:G} {Q:Ex→G→Prop} {τ:Type} (S:τ→G) (J:τ→Prop) (m:τ→Nat) (t0:τ) (h0:Gh g (S t0)) (h1:J t0)
  (h2:∀t,J t→∀K:G→Prop,(∀g t',Gh g (S t')→J t'→m t'<m t→K g)→awp T P x (S t) (zu5 K Q)):zwG T P x g Q:=by
 refine⟨fun n g'=>∃t,g'=S t∧J t∧m t=n,m t0,⟨S t0,h0,t0,rfl,h1,rfl⟩,fun n g' hI=> ?_⟩
 obtain⟨t,rfl,e2,rfl⟩:=hI
 exact h2 t e2 (fun g=>∃n' g0,n'<m t∧Gh g g0∧∃t',g0=S t'∧J t'∧m t'=n') (fun g t' k1 k2 k3=>⟨m t',S t',k3,k1,t',rfl,k2,rfl⟩)
theorem zae {y:Code} {Q:Ex→G→Prop} {g:G} (h:awp T P y g Q):zkv T P y Q .normal g:= .inl ⟨g,fun _ _ _ h=>h,h⟩
theorem zkw {y:Code} {Q:Ex→G→Prop} {g:G} (h:zxj P y g Q):zkv T P y Q .normal g:= .inr h
theorem zlW {y:Code} {Q:Ex→G→Prop} {g:G} {id:Nat}:zkv T P y Q (.exit id) g=Q (.exit id) g:=rfl
theorem zaT {y:Code} {Q:Ex→G→Prop} {g:G} {x:Value}:zkv T P y Q (.panic x) g=Q (.panic x) g:=rfl
theorem znV {y:Code} {Q:Ex→G→Prop} {g:G}:zkv T P y Q .ret g=Q .ret g:=rfl
theorem zik {id:Nat} {Q:Ex→G→Prop} {g:G}:zwF id Q .normal g=Q .normal g:=rfl
theorem zlX {id id':Nat} {Q:Ex→G→Prop} {g:G}:zwF id Q (.exit id') g=if id'=id then Q .normal g else Q (.exit id') g:=rfl
theorem zaU {id:Nat} {Q:Ex→G→Prop} {g:G} {x:Value}:zwF id Q (.panic x) g=Q (.panic x) g:=rfl
theorem znW {id:Nat} {Q:Ex→G→Prop} {g:G}:zwF id Q .ret g=Q .ret g:=rfl
theorem zcY {b:Bool} {s:Prop} {x y:Code} {g:G} {Q:Ex→G→Prop}:
  zqE T P (.one (.d (.v (.bool b)))) s x y g Q=(s∧(b=true→awp T P x g Q)∧(b=false→awp T P y g Q)):=rfl
end
set_option maxRecDepth 100000
theorem gd0 {α:Type} {a0:α} {l:List α} {d:α}:List.getD (a0::l) 0 d=a0:=rfl
theorem st0 {α:Type} {a0 x:α} {l:List α}:List.set (a0::l) 0 x=x::l:=rfl
theorem gd1 {α:Type} {a0 a1:α} {l:List α} {d:α}:List.getD (a0::a1::l) 1 d=a1:=rfl
theorem st1 {α:Type} {a0 a1 x:α} {l:List α}:List.set (a0::a1::l) 1 x=a0::x::l:=rfl
theorem gd2 {α:Type} {a0 a1 a2:α} {l:List α} {d:α}:List.getD (a0::a1::a2::l) 2 d=a2:=rfl
theorem st2 {α:Type} {a0 a1 a2 x:α} {l:List α}:List.set (a0::a1::a2::l) 2 x=a0::a1::x::l:=rfl
theorem gd3 {α:Type} {a0 a1 a2 a3:α} {l:List α} {d:α}:List.getD (a0::a1::a2::a3::l) 3 d=a3:=rfl
theorem st3 {α:Type} {a0 a1 a2 a3 x:α} {l:List α}:List.set (a0::a1::a2::a3::l) 3 x=a0::a1::a2::x::l:=rfl
theorem gd4 {α:Type} {a0 a1 a2 a3 a4:α} {l:List α} {d:α}:List.getD (a0::a1::a2::a3::a4::l) 4 d=a4:=rfl
theorem st4 {α:Type} {a0 a1 a2 a3 a4 x:α} {l:List α}:List.set (a0::a1::a2::a3::a4::l) 4 x=a0::a1::a2::a3::x::l:=rfl
theorem gd5 {α:Type} {a0 a1 a2 a3 a4 a5:α} {l:List α} {d:α}:List.getD (a0::a1::a2::a3::a4::a5::l) 5 d=a5:=rfl
theorem st5 {α:Type} {a0 a1 a2 a3 a4 a5 x:α} {l:List α}:List.set (a0::a1::a2::a3::a4::a5::l) 5 x=a0::a1::a2::a3::a4::x::l:=rfl
theorem gd6 {α:Type} {a0 a1 a2 a3 a4 a5 a6:α} {l:List α} {d:α}:List.getD (a0::a1::a2::a3::a4::a5::a6::l) 6 d=a6:=rfl
theorem st6 {α:Type} {a0 a1 a2 a3 a4 a5 a6 x:α} {l:List α}:List.set (a0::a1::a2::a3::a4::a5::a6::l) 6 x=a0::a1::a2::a3::a4::a5::x::l:=rfl
theorem gd7 {α:Type} {a0 a1 a2 a3 a4 a5 a6 a7:α} {l:List α} {d:α}:List.getD (a0::a1::a2::a3::a4::a5::a6::a7::l) 7 d=a7:=rfl
theorem st7 {α:Type} {a0 a1 a2 a3 a4 a5 a6 a7 x:α} {l:List α}:List.set (a0::a1::a2::a3::a4::a5::a6::a7::l) 7 x=a0::a1::a2::a3::a4::a5::a6::x::l:=rfl
theorem gd8 {α:Type} {a0 a1 a2 a3 a4 a5 a6 a7 a8:α} {l:List α} {d:α}:List.getD (a0::a1::a2::a3::a4::a5::a6::a7::a8::l) 8 d=a8:=rfl
theorem st8 {α:Type} {a0 a1 a2 a3 a4 a5 a6 a7 a8 x:α} {l:List α}:List.set (a0::a1::a2::a3::a4::a5::a6::a7::a8::l) 8 x=a0::a1::a2::a3::a4::a5::a6::a7::x::l:=rfl
theorem gd9 {α:Type} {a0 a1 a2 a3 a4 a5 a6 a7 a8 a9:α} {l:List α} {d:α}:List.getD (a0::a1::a2::a3::a4::a5::a6::a7::a8::a9::l) 9 d=a9:=rfl
theorem st9 {α:Type} {a0 a1 a2 a3 a4 a5 a6 a7 a8 a9 x:α} {l:List α}:List.set (a0::a1::a2::a3::a4::a5::a6::a7::a8::a9::l) 9 x=a0::a1::a2::a3::a4::a5::a6::a7::a8::x::l:=rfl
theorem gd10 {α:Type} {a0 a1 a2 a3 a4 a5 a6 a7 a8 a9 a10:α} {l:List α} {d:α}:List.getD (a0::a1::a2::a3::a4::a5::a6::a7::a8::a9::a10::l) 10 d=a10:=rfl
theorem st10 {α:Type} {a0 a1 a2 a3 a4 a5 a6 a7 a8 a9 a10 x:α} {l:List α}:List.set (a0::a1::a2::a3::a4::a5::a6::a7::a8::a9::a10::l) 10 x=a0::a1::a2::a3::a4::a5::a6::a7::a8::a9::x::l:=rfl
theorem gd11 {α:Type} {a0 a1 a2 a3 a4 a5 a6 a7 a8 a9 a10 a11:α} {l:List α} {d:α}:List.getD (a0::a1::a2::a3::a4::a5::a6::a7::a8::a9::a10::a11::l) 11 d=a11:=rfl
theorem st11 {α:Type} {a0 a1 a2 a3 a4 a5 a6 a7 a8 a9 a10 a11 x:α} {l:List α}:List.set (a0::a1::a2::a3::a4::a5::a6::a7::a8::a9::a10::a11::l) 11 x=a0::a1::a2::a3::a4::a5::a6::a7::a8::a9::a10::x::l:=rfl
theorem gd12 {α:Type} {a0 a1 a2 a3 a4 a5 a6 a7 a8 a9 a10 a11 a12:α} {l:List α} {d:α}:List.getD (a0::a1::a2::a3::a4::a5::a6::a7::a8::a9::a10::a11::a12::l) 12 d=a12:=rfl
theorem st12 {α:Type} {a0 a1 a2 a3 a4 a5 a6 a7 a8 a9 a10 a11 a12 x:α} {l:List α}:List.set (a0::a1::a2::a3::a4::a5::a6::a7::a8::a9::a10::a11::a12::l) 12 x=a0::a1::a2::a3::a4::a5::a6::a7::a8::a9::a10::a11::x::l:=rfl
theorem gd13 {α:Type} {a0 a1 a2 a3 a4 a5 a6 a7 a8 a9 a10 a11 a12 a13:α} {l:List α} {d:α}:List.getD (a0::a1::a2::a3::a4::a5::a6::a7::a8::a9::a10::a11::a12::a13::l) 13 d=a13:=rfl
theorem st13 {α:Type} {a0 a1 a2 a3 a4 a5 a6 a7 a8 a9 a10 a11 a12 a13 x:α} {l:List α}:List.set (a0::a1::a2::a3::a4::a5::a6::a7::a8::a9::a10::a11::a12::a13::l) 13 x=a0::a1::a2::a3::a4::a5::a6::a7::a8::a9::a10::a11::a12::x::l:=rfl
theorem gd14 {α:Type} {a0 a1 a2 a3 a4 a5 a6 a7 a8 a9 a10 a11 a12 a13 a14:α} {l:List α} {d:α}:List.getD (a0::a1::a2::a3::a4::a5::a6::a7::a8::a9::a10::a11::a12::a13::a14::l) 14 d=a14:=rfl
theorem st14 {α:Type} {a0 a1 a2 a3 a4 a5 a6 a7 a8 a9 a10 a11 a12 a13 a14 x:α} {l:List α}:List.set (a0::a1::a2::a3::a4::a5::a6::a7::a8::a9::a10::a11::a12::a13::a14::l) 14 x=a0::a1::a2::a3::a4::a5::a6::a7::a8::a9::a10::a11::a12::a13::x::l:=rfl
theorem gd15 {α:Type} {a0 a1 a2 a3 a4 a5 a6 a7 a8 a9 a10 a11 a12 a13 a14 a15:α} {l:List α} {d:α}:List.getD (a0::a1::a2::a3::a4::a5::a6::a7::a8::a9::a10::a11::a12::a13::a14::a15::l) 15 d=a15:=rfl
theorem st15 {α:Type} {a0 a1 a2 a3 a4 a5 a6 a7 a8 a9 a10 a11 a12 a13 a14 a15 x:α} {l:List α}:List.set (a0::a1::a2::a3::a4::a5::a6::a7::a8::a9::a10::a11::a12::a13::a14::a15::l) 15 x=a0::a1::a2::a3::a4::a5::a6::a7::a8::a9::a10::a11::a12::a13::a14::x::l:=rfl
theorem gd16 {α:Type} {a0 a1 a2 a3 a4 a5 a6 a7 a8 a9 a10 a11 a12 a13 a14 a15 a16:α} {l:List α} {d:α}:List.getD (a0::a1::a2::a3::a4::a5::a6::a7::a8::a9::a10::a11::a12::a13::a14::a15::a16::l) 16 d=a16:=rfl
theorem st16 {α:Type} {a0 a1 a2 a3 a4 a5 a6 a7 a8 a9 a10 a11 a12 a13 a14 a15 a16 x:α} {l:List α}:List.set (a0::a1::a2::a3::a4::a5::a6::a7::a8::a9::a10::a11::a12::a13::a14::a15::a16::l) 16 x=a0::a1::a2::a3::a4::a5::a6::a7::a8::a9::a10::a11::a12::a13::a14::a15::x::l:=rfl
theorem gd17 {α:Type} {a0 a1 a2 a3 a4 a5 a6 a7 a8 a9 a10 a11 a12 a13 a14 a15 a16 a17:α} {l:List α} {d:α}:List.getD (a0::a1::a2::a3::a4::a5::a6::a7::a8::a9::a10::a11::a12::a13::a14::a15::a16::a17::l) 17 d=a17:=rfl
theorem st17 {α:Type} {a0 a1 a2 a3 a4 a5 a6 a7 a8 a9 a10 a11 a12 a13 a14 a15 a16 a17 x:α} {l:List α}:List.set (a0::a1::a2::a3::a4::a5::a6::a7::a8::a9::a10::a11::a12::a13::a14::a15::a16::a17::l) 17 x=a0::a1::a2::a3::a4::a5::a6::a7::a8::a9::a10::a11::a12::a13::a14::a15::a16::x::l:=rfl
theorem gd18 {α:Type} {a0 a1 a2 a3 a4 a5 a6 a7 a8 a9 a10 a11 a12 a13 a14 a15 a16 a17 a18:α} {l:List α} {d:α}:List.getD (a0::a1::a2::a3::a4::a5::a6::a7::a8::a9::a10::a11::a12::a13::a14::a15::a16::a17::a18::l) 18 d=a18:=rfl
theorem st18 {α:Type} {a0 a1 a2 a3 a4 a5 a6 a7 a8 a9 a10 a11 a12 a13 a14 a15 a16 a17 a18 x:α} {l:List α}:List.set (a0::a1::a2::a3::a4::a5::a6::a7::a8::a9::a10::a11::a12::a13::a14::a15::a16::a17::a18::l) 18 x=a0::a1::a2::a3::a4::a5::a6::a7::a8::a9::a10::a11::a12::a13::a14::a15::a16::a17::x::l:=rfl
theorem gd19 {α:Type} {a0 a1 a2 a3 a4 a5 a6 a7 a8 a9 a10 a11 a12 a13 a14 a15 a16 a17 a18 a19:α} {l:List α} {d:α}:List.getD (a0::a1::a2::a3::a4::a5::a6::a7::a8::a9::a10::a11::a12::a13::a14::a15::a16::a17::a18::a19::l) 19 d=a19:=rfl
theorem st19 {α:Type} {a0 a1 a2 a3 a4 a5 a6 a7 a8 a9 a10 a11 a12 a13 a14 a15 a16 a17 a18 a19 x:α} {l:List α}:List.set (a0::a1::a2::a3::a4::a5::a6::a7::a8::a9::a10::a11::a12::a13::a14::a15::a16::a17::a18::a19::l) 19 x=a0::a1::a2::a3::a4::a5::a6::a7::a8::a9::a10::a11::a12::a13::a14::a15::a16::a17::a18::x::l:=rfl
theorem gd20 {α:Type} {a0 a1 a2 a3 a4 a5 a6 a7 a8 a9 a10 a11 a12 a13 a14 a15 a16 a17 a18 a19 a20:α} {l:List α} {d:α}:List.getD (a0::a1::a2::a3::a4::a5::a6::a7::a8::a9::a10::a11::a12::a13::a14::a15::a16::a17::a18::a19::a20::l) 20 d=a20:=rfl
theorem st20 {α:Type} {a0 a1 a2 a3 a4 a5 a6 a7 a8 a9 a10 a11 a12 a13 a14 a15 a16 a17 a18 a19 a20 x:α} {l:List α}:List.set (a0::a1::a2::a3::a4::a5::a6::a7::a8::a9::a10::a11::a12::a13::a14::a15::a16::a17::a18::a19::a20::l) 20 x=a0::a1::a2::a3::a4::a5::a6::a7::a8::a9::a10::a11::a12::a13::a14::a15::a16::a17::a18::a19::x::l:=rfl
theorem gd21 {α:Type} {a0 a1 a2 a3 a4 a5 a6 a7 a8 a9 a10 a11 a12 a13 a14 a15 a16 a17 a18 a19 a20 a21:α} {l:List α} {d:α}:List.getD (a0::a1::a2::a3::a4::a5::a6::a7::a8::a9::a10::a11::a12::a13::a14::a15::a16::a17::a18::a19::a20::a21::l) 21 d=a21:=rfl
theorem st21 {α:Type} {a0 a1 a2 a3 a4 a5 a6 a7 a8 a9 a10 a11 a12 a13 a14 a15 a16 a17 a18 a19 a20 a21 x:α} {l:List α}:List.set (a0::a1::a2::a3::a4::a5::a6::a7::a8::a9::a10::a11::a12::a13::a14::a15::a16::a17::a18::a19::a20::a21::l) 21 x=a0::a1::a2::a3::a4::a5::a6::a7::a8::a9::a10::a11::a12::a13::a14::a15::a16::a17::a18::a19::a20::x::l:=rfl
theorem gd22 {α:Type} {a0 a1 a2 a3 a4 a5 a6 a7 a8 a9 a10 a11 a12 a13 a14 a15 a16 a17 a18 a19 a20 a21 a22:α} {l:List α} {d:α}:List.getD (a0::a1::a2::a3::a4::a5::a6::a7::a8::a9::a10::a11::a12::a13::a14::a15::a16::a17::a18::a19::a20::a21::a22::l) 22 d=a22:=rfl
theorem st22 {α:Type} {a0 a1 a2 a3 a4 a5 a6 a7 a8 a9 a10 a11 a12 a13 a14 a15 a16 a17 a18 a19 a20 a21 a22 x:α} {l:List α}:List.set (a0::a1::a2::a3::a4::a5::a6::a7::a8::a9::a10::a11::a12::a13::a14::a15::a16::a17::a18::a19::a20::a21::a22::l) 22 x=a0::a1::a2::a3::a4::a5::a6::a7::a8::a9::a10::a11::a12::a13::a14::a15::a16::a17::a18::a19::a20::a21::x::l:=rfl
theorem gd23 {α:Type} {a0 a1 a2 a3 a4 a5 a6 a7 a8 a9 a10 a11 a12 a13 a14 a15 a16 a17 a18 a19 a20 a21 a22 a23:α} {l:List α} {d:α}:List.getD (a0::a1::a2::a3::a4::a5::a6::a7::a8::a9::a10::a11::a12::a13::a14::a15::a16::a17::a18::a19::a20::a21::a22::a23::l) 23 d=a23:=rfl
theorem st23 {α:Type} {a0 a1 a2 a3 a4 a5 a6 a7 a8 a9 a10 a11 a12 a13 a14 a15 a16 a17 a18 a19 a20 a21 a22 a23 x:α} {l:List α}:List.set (a0::a1::a2::a3::a4::a5::a6::a7::a8::a9::a10::a11::a12::a13::a14::a15::a16::a17::a18::a19::a20::a21::a22::a23::l) 23 x=a0::a1::a2::a3::a4::a5::a6::a7::a8::a9::a10::a11::a12::a13::a14::a15::a16::a17::a18::a19::a20::a21::a22::x::l:=rfl
theorem gd24 {α:Type} {a0 a1 a2 a3 a4 a5 a6 a7 a8 a9 a10 a11 a12 a13 a14 a15 a16 a17 a18 a19 a20 a21 a22 a23 a24:α} {l:List α} {d:α}:List.getD (a0::a1::a2::a3::a4::a5::a6::a7::a8::a9::a10::a11::a12::a13::a14::a15::a16::a17::a18::a19::a20::a21::a22::a23::a24::l) 24 d=a24:=rfl
theorem st24 {α:Type} {a0 a1 a2 a3 a4 a5 a6 a7 a8 a9 a10 a11 a12 a13 a14 a15 a16 a17 a18 a19 a20 a21 a22 a23 a24 x:α} {l:List α}:List.set (a0::a1::a2::a3::a4::a5::a6::a7::a8::a9::a10::a11::a12::a13::a14::a15::a16::a17::a18::a19::a20::a21::a22::a23::a24::l) 24 x=a0::a1::a2::a3::a4::a5::a6::a7::a8::a9::a10::a11::a12::a13::a14::a15::a16::a17::a18::a19::a20::a21::a22::a23::x::l:=rfl
theorem gd25 {α:Type} {a0 a1 a2 a3 a4 a5 a6 a7 a8 a9 a10 a11 a12 a13 a14 a15 a16 a17 a18 a19 a20 a21 a22 a23 a24 a25:α} {l:List α} {d:α}:List.getD (a0::a1::a2::a3::a4::a5::a6::a7::a8::a9::a10::a11::a12::a13::a14::a15::a16::a17::a18::a19::a20::a21::a22::a23::a24::a25::l) 25 d=a25:=rfl
theorem st25 {α:Type} {a0 a1 a2 a3 a4 a5 a6 a7 a8 a9 a10 a11 a12 a13 a14 a15 a16 a17 a18 a19 a20 a21 a22 a23 a24 a25 x:α} {l:List α}:List.set (a0::a1::a2::a3::a4::a5::a6::a7::a8::a9::a10::a11::a12::a13::a14::a15::a16::a17::a18::a19::a20::a21::a22::a23::a24::a25::l) 25 x=a0::a1::a2::a3::a4::a5::a6::a7::a8::a9::a10::a11::a12::a13::a14::a15::a16::a17::a18::a19::a20::a21::a22::a23::a24::x::l:=rfl
theorem gd26 {α:Type} {a0 a1 a2 a3 a4 a5 a6 a7 a8 a9 a10 a11 a12 a13 a14 a15 a16 a17 a18 a19 a20 a21 a22 a23 a24 a25 a26:α} {l:List α} {d:α}:List.getD (a0::a1::a2::a3::a4::a5::a6::a7::a8::a9::a10::a11::a12::a13::a14::a15::a16::a17::a18::a19::a20::a21::a22::a23::a24::a25::a26::l) 26 d=a26:=rfl
theorem st26 {α:Type} {a0 a1 a2 a3 a4 a5 a6 a7 a8 a9 a10 a11 a12 a13 a14 a15 a16 a17 a18 a19 a20 a21 a22 a23 a24 a25 a26 x:α} {l:List α}:List.set (a0::a1::a2::a3::a4::a5::a6::a7::a8::a9::a10::a11::a12::a13::a14::a15::a16::a17::a18::a19::a20::a21::a22::a23::a24::a25::a26::l) 26 x=a0::a1::a2::a3::a4::a5::a6::a7::a8::a9::a10::a11::a12::a13::a14::a15::a16::a17::a18::a19::a20::a21::a22::a23::a24::a25::x::l:=rfl
theorem gd27 {α:Type} {a0 a1 a2 a3 a4 a5 a6 a7 a8 a9 a10 a11 a12 a13 a14 a15 a16 a17 a18 a19 a20 a21 a22 a23 a24 a25 a26 a27:α} {l:List α} {d:α}:List.getD (a0::a1::a2::a3::a4::a5::a6::a7::a8::a9::a10::a11::a12::a13::a14::a15::a16::a17::a18::a19::a20::a21::a22::a23::a24::a25::a26::a27::l) 27 d=a27:=rfl
theorem st27 {α:Type} {a0 a1 a2 a3 a4 a5 a6 a7 a8 a9 a10 a11 a12 a13 a14 a15 a16 a17 a18 a19 a20 a21 a22 a23 a24 a25 a26 a27 x:α} {l:List α}:List.set (a0::a1::a2::a3::a4::a5::a6::a7::a8::a9::a10::a11::a12::a13::a14::a15::a16::a17::a18::a19::a20::a21::a22::a23::a24::a25::a26::a27::l) 27 x=a0::a1::a2::a3::a4::a5::a6::a7::a8::a9::a10::a11::a12::a13::a14::a15::a16::a17::a18::a19::a20::a21::a22::a23::a24::a25::a26::x::l:=rfl
theorem gd28 {α:Type} {a0 a1 a2 a3 a4 a5 a6 a7 a8 a9 a10 a11 a12 a13 a14 a15 a16 a17 a18 a19 a20 a21 a22 a23 a24 a25 a26 a27 a28:α} {l:List α} {d:α}:List.getD (a0::a1::a2::a3::a4::a5::a6::a7::a8::a9::a10::a11::a12::a13::a14::a15::a16::a17::a18::a19::a20::a21::a22::a23::a24::a25::a26::a27::a28::l) 28 d=a28:=rfl
theorem st28 {α:Type} {a0 a1 a2 a3 a4 a5 a6 a7 a8 a9 a10 a11 a12 a13 a14 a15 a16 a17 a18 a19 a20 a21 a22 a23 a24 a25 a26 a27 a28 x:α} {l:List α}:List.set (a0::a1::a2::a3::a4::a5::a6::a7::a8::a9::a10::a11::a12::a13::a14::a15::a16::a17::a18::a19::a20::a21::a22::a23::a24::a25::a26::a27::a28::l) 28 x=a0::a1::a2::a3::a4::a5::a6::a7::a8::a9::a10::a11::a12::a13::a14::a15::a16::a17::a18::a19::a20::a21::a22::a23::a24::a25::a26::a27::x::l:=rfl
theorem gd29 {α:Type} {a0 a1 a2 a3 a4 a5 a6 a7 a8 a9 a10 a11 a12 a13 a14 a15 a16 a17 a18 a19 a20 a21 a22 a23 a24 a25 a26 a27 a28 a29:α} {l:List α} {d:α}:List.getD (a0::a1::a2::a3::a4::a5::a6::a7::a8::a9::a10::a11::a12::a13::a14::a15::a16::a17::a18::a19::a20::a21::a22::a23::a24::a25::a26::a27::a28::a29::l) 29 d=a29:=rfl
theorem st29 {α:Type} {a0 a1 a2 a3 a4 a5 a6 a7 a8 a9 a10 a11 a12 a13 a14 a15 a16 a17 a18 a19 a20 a21 a22 a23 a24 a25 a26 a27 a28 a29 x:α} {l:List α}:List.set (a0::a1::a2::a3::a4::a5::a6::a7::a8::a9::a10::a11::a12::a13::a14::a15::a16::a17::a18::a19::a20::a21::a22::a23::a24::a25::a26::a27::a28::a29::l) 29 x=a0::a1::a2::a3::a4::a5::a6::a7::a8::a9::a10::a11::a12::a13::a14::a15::a16::a17::a18::a19::a20::a21::a22::a23::a24::a25::a26::a27::a28::x::l:=rfl
theorem gd30 {α:Type} {a0 a1 a2 a3 a4 a5 a6 a7 a8 a9 a10 a11 a12 a13 a14 a15 a16 a17 a18 a19 a20 a21 a22 a23 a24 a25 a26 a27 a28 a29 a30:α} {l:List α} {d:α}:List.getD (a0::a1::a2::a3::a4::a5::a6::a7::a8::a9::a10::a11::a12::a13::a14::a15::a16::a17::a18::a19::a20::a21::a22::a23::a24::a25::a26::a27::a28::a29::a30::l) 30 d=a30:=rfl
theorem st30 {α:Type} {a0 a1 a2 a3 a4 a5 a6 a7 a8 a9 a10 a11 a12 a13 a14 a15 a16 a17 a18 a19 a20 a21 a22 a23 a24 a25 a26 a27 a28 a29 a30 x:α} {l:List α}:List.set (a0::a1::a2::a3::a4::a5::a6::a7::a8::a9::a10::a11::a12::a13::a14::a15::a16::a17::a18::a19::a20::a21::a22::a23::a24::a25::a26::a27::a28::a29::a30::l) 30 x=a0::a1::a2::a3::a4::a5::a6::a7::a8::a9::a10::a11::a12::a13::a14::a15::a16::a17::a18::a19::a20::a21::a22::a23::a24::a25::a26::a27::a28::a29::x::l:=rfl
theorem gd31 {α:Type} {a0 a1 a2 a3 a4 a5 a6 a7 a8 a9 a10 a11 a12 a13 a14 a15 a16 a17 a18 a19 a20 a21 a22 a23 a24 a25 a26 a27 a28 a29 a30 a31:α} {l:List α} {d:α}:List.getD (a0::a1::a2::a3::a4::a5::a6::a7::a8::a9::a10::a11::a12::a13::a14::a15::a16::a17::a18::a19::a20::a21::a22::a23::a24::a25::a26::a27::a28::a29::a30::a31::l) 31 d=a31:=rfl
theorem st31 {α:Type} {a0 a1 a2 a3 a4 a5 a6 a7 a8 a9 a10 a11 a12 a13 a14 a15 a16 a17 a18 a19 a20 a21 a22 a23 a24 a25 a26 a27 a28 a29 a30 a31 x:α} {l:List α}:List.set (a0::a1::a2::a3::a4::a5::a6::a7::a8::a9::a10::a11::a12::a13::a14::a15::a16::a17::a18::a19::a20::a21::a22::a23::a24::a25::a26::a27::a28::a29::a30::a31::l) 31 x=a0::a1::a2::a3::a4::a5::a6::a7::a8::a9::a10::a11::a12::a13::a14::a15::a16::a17::a18::a19::a20::a21::a22::a23::a24::a25::a26::a27::a28::a29::a30::x::l:=rfl
theorem gdN {α:Type} {a0 a1 a2 a3 a4 a5 a6 a7 a8 a9 a10 a11 a12 a13 a14 a15 a16 a17 a18 a19 a20 a21 a22 a23 a24 a25 a26 a27 a28 a29 a30 a31:α} {l:List α} {d:α} {n:Nat}:List.getD (a0::a1::a2::a3::a4::a5::a6::a7::a8::a9::a10::a11::a12::a13::a14::a15::a16::a17::a18::a19::a20::a21::a22::a23::a24::a25::a26::a27::a28::a29::a30::a31::l) (n+32) d=List.getD l n d:=rfl
theorem stN {α:Type} {a0 a1 a2 a3 a4 a5 a6 a7 a8 a9 a10 a11 a12 a13 a14 a15 a16 a17 a18 a19 a20 a21 a22 a23 a24 a25 a26 a27 a28 a29 a30 a31 x:α} {l:List α} {n:Nat}:List.set (a0::a1::a2::a3::a4::a5::a6::a7::a8::a9::a10::a11::a12::a13::a14::a15::a16::a17::a18::a19::a20::a21::a22::a23::a24::a25::a26::a27::a28::a29::a30::a31::l) (n+32) x=a0::a1::a2::a3::a4::a5::a6::a7::a8::a9::a10::a11::a12::a13::a14::a15::a16::a17::a18::a19::a20::a21::a22::a23::a24::a25::a26::a27::a28::a29::a30::a31::List.set l n x:=rfl
theorem pk0:type_of% (I (I (I (I (@Go.Pk.awp_skip) (I (@Go.Pk.awp_exit) (@Go.Pk.awp_ret))) (I (I (@Go.Pk.awp_reg) (@Go.Pk.awp_regD)) (I (@Go.Pk.awp_cond) (@Go.Pk.awp_block)))) (I (I (I (@Go.Pk.awp_scope) (@Go.Pk.awp_label)) (I (@Go.Pk.aops_nil) (@Go.Pk.aops_cons))) (I (I (@Go.Pk.aops_consG) (@Go.Pk.OutG_mk)) (I (@Go.Pk.OutG_bad) (@Go.Pk.GIm_true))))) (I (I (I (@Go.Pk.GIm_tt) (I (@Go.Pk.GIm_ff) (@Go.Pk.tfb))) (I (I (@Go.Pk.ftb) (@Go.Pk.OutR_mk)) (I (@Go.Pk.pickB_false) (@Go.Pk.pickB_true)))) (I (I (I (@Go.Pk.onesOf_nil) (@Go.Pk.onesOf_cons)) (I (@Go.Pk.fieldA.eq_def) (@Go.Pk.ifaceA.eq_def))) (I (I (@Go.Pk.PanR.eq_def) (@Go.Pk.arrSz.eq_def)) (I (@Go.Pk.isIntTI.eq_def) (@Go.Pk.makeA.eq_def)))))):=I (I (I (I (@Go.Pk.awp_skip) (I (@Go.Pk.awp_exit) (@Go.Pk.awp_ret))) (I (I (@Go.Pk.awp_reg) (@Go.Pk.awp_regD)) (I (@Go.Pk.awp_cond) (@Go.Pk.awp_block)))) (I (I (I (@Go.Pk.awp_scope) (@Go.Pk.awp_label)) (I (@Go.Pk.aops_nil) (@Go.Pk.aops_cons))) (I (I (@Go.Pk.aops_consG) (@Go.Pk.OutG_mk)) (I (@Go.Pk.OutG_bad) (@Go.Pk.GIm_true))))) (I (I (I (@Go.Pk.GIm_tt) (I (@Go.Pk.GIm_ff) (@Go.Pk.tfb))) (I (I (@Go.Pk.ftb) (@Go.Pk.OutR_mk)) (I (@Go.Pk.pickB_false) (@Go.Pk.pickB_true)))) (I (I (I (@Go.Pk.onesOf_nil) (@Go.Pk.onesOf_cons)) (I (@Go.Pk.fieldA.eq_def) (@Go.Pk.ifaceA.eq_def))) (I (I (@Go.Pk.PanR.eq_def) (@Go.Pk.arrSz.eq_def)) (I (@Go.Pk.isIntTI.eq_def) (@Go.Pk.makeA.eq_def)))))
theorem pk1:type_of% (I (I (I (I (@Go.Pk.convA.eq_def) (I (@Go.Pk.isByS.eq_def) (@Go.Pk.aop.eq_def))) (I (I (@Go.Pk.aop1.eq_def) (@Go.Pk.aopG.eq_def)) (I (@Go.Pk.GdR.eq_def) (@Go.Pk.ev.eq_def)))) (I (I (I (@Go.Pk.evS.eq_def) (@Go.Pk.evO.eq_def)) (I (@Go.Pk.evOS.eq_def) (@Go.Pk.gev.eq_def))) (I (I (@Go.Pk.putV.eq_def) (@Go.Pk.cellsOf.eq_def)) (I (@Go.Pk.live.eq_def) (@Go.Pk.nxt.eq_def))))) (I (I (I (@Go.Pk.rehome.eq_def) (I (@Go.Pk.sameHome.eq_def) (@Go.Pk.home1.eq_def))) (I (I (@Go.Pk.flat.eq_def) (@Go.Pk.fieldOff.eq_def)) (I (@Go.Pk.fieldPl.eq_def) (@Go.Pk.buildOK.eq_def)))) (I (I (I (@Go.Pk.elemSz.eq_def) (@Go.Pk.getR.eq_def)) (I (@Go.Pk.lookR.eq_def) (@Go.Pk.loadC.eq_def))) (I (I (@Go.Pk.Out.with.eq_def) (@Go.Pk.binA.eq_def)) (I (@Go.Pk.nilB.eq_def) (@Go.Pk.isPtr.eq_def)))))):=I (I (I (I (@Go.Pk.convA.eq_def) (I (@Go.Pk.isByS.eq_def) (@Go.Pk.aop.eq_def))) (I (I (@Go.Pk.aop1.eq_def) (@Go.Pk.aopG.eq_def)) (I (@Go.Pk.GdR.eq_def) (@Go.Pk.ev.eq_def)))) (I (I (I (@Go.Pk.evS.eq_def) (@Go.Pk.evO.eq_def)) (I (@Go.Pk.evOS.eq_def) (@Go.Pk.gev.eq_def))) (I (I (@Go.Pk.putV.eq_def) (@Go.Pk.cellsOf.eq_def)) (I (@Go.Pk.live.eq_def) (@Go.Pk.nxt.eq_def))))) (I (I (I (@Go.Pk.rehome.eq_def) (I (@Go.Pk.sameHome.eq_def) (@Go.Pk.home1.eq_def))) (I (I (@Go.Pk.flat.eq_def) (@Go.Pk.fieldOff.eq_def)) (I (@Go.Pk.fieldPl.eq_def) (@Go.Pk.buildOK.eq_def)))) (I (I (I (@Go.Pk.elemSz.eq_def) (@Go.Pk.getR.eq_def)) (I (@Go.Pk.lookR.eq_def) (@Go.Pk.loadC.eq_def))) (I (I (@Go.Pk.Out.with.eq_def) (@Go.Pk.binA.eq_def)) (I (@Go.Pk.nilB.eq_def) (@Go.Pk.isPtr.eq_def)))))
theorem pk2:type_of% (I (I (I (I (@Go.Pk.isBool.eq_def) (I (@Go.Pk.cmpA.eq_def) (@Go.Pk.binV.eq_def))) (I (I (@Go.Pk.boolV.eq_def) (@Go.Pk.gdOf.eq_def)) (I (@Go.Pk.aggD.eq_def) (@Go.Pk.isSl.eq_def)))) (I (I (I (@Go.Pk.isStr.eq_def) (@Go.Pk.isInt.eq_def)) (I (@Go.Pk.idxA.eq_def) (@Go.Pk.sliceA.eq_def))) (I (I (@Go.Pk.sliceB.eq_def) (@Go.Pk.storeA.eq_def)) (I (@Go.Pk.srcOf.eq_def) (@Go.Pk.appA.eq_def))))) (I (I (I (@Go.Pk.lenA.eq_def) (I (@Go.Pk.mmA.eq_def) (@Go.Pk.sealC.eq_def))) (I (I (@Go.Pk.normD.eq_def) (@Go.Pk.C.toD.eq_def)) (I (@Go.Pk.rowOf.eq_def) (@Go.Pk.zeroC.eq_def)))) (I (I (I (@Go.Pk.calleeOf.eq_def) (@Go.Pk.callA.eq_def)) (I (@Go.Pk.lendA.eq_def) (@Go.Pk.bindRetB.eq_def))) (I (I (@Go.Pk.bindRet.eq_def) (@Go.Pk.bindF.eq_def)) (I (@Go.Pk.tupOf.eq_def) (@Go.Pk.RF.cells.eq_def)))))):=I (I (I (I (@Go.Pk.isBool.eq_def) (I (@Go.Pk.cmpA.eq_def) (@Go.Pk.binV.eq_def))) (I (I (@Go.Pk.boolV.eq_def) (@Go.Pk.gdOf.eq_def)) (I (@Go.Pk.aggD.eq_def) (@Go.Pk.isSl.eq_def)))) (I (I (I (@Go.Pk.isStr.eq_def) (@Go.Pk.isInt.eq_def)) (I (@Go.Pk.idxA.eq_def) (@Go.Pk.sliceA.eq_def))) (I (I (@Go.Pk.sliceB.eq_def) (@Go.Pk.storeA.eq_def)) (I (@Go.Pk.srcOf.eq_def) (@Go.Pk.appA.eq_def))))) (I (I (I (@Go.Pk.lenA.eq_def) (I (@Go.Pk.mmA.eq_def) (@Go.Pk.sealC.eq_def))) (I (I (@Go.Pk.normD.eq_def) (@Go.Pk.C.toD.eq_def)) (I (@Go.Pk.rowOf.eq_def) (@Go.Pk.zeroC.eq_def)))) (I (I (I (@Go.Pk.calleeOf.eq_def) (@Go.Pk.callA.eq_def)) (I (@Go.Pk.lendA.eq_def) (@Go.Pk.bindRetB.eq_def))) (I (I (@Go.Pk.bindRet.eq_def) (@Go.Pk.bindF.eq_def)) (I (@Go.Pk.tupOf.eq_def) (@Go.Pk.RF.cells.eq_def)))))
theorem pk3:type_of% (I (I (I (I (@Go.Pk.addFP.eq_def) (I (@Go.Pk.EndR.eq_def) (@Go.Pk.fpOf.eq_def))) (I (I (@Go.Pk.opSl.eq_def) (@Go.Pk.dl.eq_def)) (I (@Go.Pk.FP.both.eq_def) (@Go.Pk.eqV.eq_def)))) (I (I (I (@Go.Pk.kindV.eq_def) (@Go.Pk.valOf.eq_def)) (I (@Go.Pk.callM.eq_def) (@Go.Pk.moveA.eq_def))) (I (I (@Go.Pk.ownOf.eq_def) (@Go.Pk.scM.eq_def)) (I (@Go.Pk.backM.eq_def) (@Go.Pk.borM.eq_def))))) (I (I (I (@Go.Pk.bindM.eq_def) (I (@Go.Pk.upM.eq_def) (@Go.Pk.skS.eq_def))) (I (I (@Go.Pk.Mv.s.eq_def) (@Go.Pk.roC.eq_def)) (I (@Go.Pk.ownH.eq_def) (@Go.Pk.slice3A.eq_def)))) (I (I (I (@Go.Pk.dstOf.eq_def) (@Go.Pk.putRow.eq_def)) (I (@Go.Pk.bindP.eq_def) (@Go.Pk.appG.eq_def))) (I (I (@Go.Pk.appZ.eq_def) (@Go.Pk.copyA.eq_def)) (I (@Go.Pk.clearA.eq_def) (@Go.Pk.capA.eq_def)))))):=I (I (I (I (@Go.Pk.addFP.eq_def) (I (@Go.Pk.EndR.eq_def) (@Go.Pk.fpOf.eq_def))) (I (I (@Go.Pk.opSl.eq_def) (@Go.Pk.dl.eq_def)) (I (@Go.Pk.FP.both.eq_def) (@Go.Pk.eqV.eq_def)))) (I (I (I (@Go.Pk.kindV.eq_def) (@Go.Pk.valOf.eq_def)) (I (@Go.Pk.callM.eq_def) (@Go.Pk.moveA.eq_def))) (I (I (@Go.Pk.ownOf.eq_def) (@Go.Pk.scM.eq_def)) (I (@Go.Pk.backM.eq_def) (@Go.Pk.borM.eq_def))))) (I (I (I (@Go.Pk.bindM.eq_def) (I (@Go.Pk.upM.eq_def) (@Go.Pk.skS.eq_def))) (I (I (@Go.Pk.Mv.s.eq_def) (@Go.Pk.roC.eq_def)) (I (@Go.Pk.ownH.eq_def) (@Go.Pk.slice3A.eq_def)))) (I (I (I (@Go.Pk.dstOf.eq_def) (@Go.Pk.putRow.eq_def)) (I (@Go.Pk.bindP.eq_def) (@Go.Pk.appG.eq_def))) (I (I (@Go.Pk.appZ.eq_def) (@Go.Pk.copyA.eq_def)) (I (@Go.Pk.clearA.eq_def) (@Go.Pk.capA.eq_def)))))
theorem pk4:type_of% (I (I (I (I (@Go.Pk.rowOfA.eq_def) (I (@Go.Pk.ownA.eq_def) (@Go.Pk.covA.eq_def))) (I (I (@Go.Pk.bytesOf.eq_1) (@Go.Pk.bytesOf.eq_2)) (I (@Go.Pk.evs.eq_1) (@Go.Pk.evs.eq_2)))) (I (I (I (@Go.Pk.liveCs.eq_1) (@Go.Pk.liveCs.eq_2)) (I (@Go.Pk.evsS.eq_1) (@Go.Pk.evsS.eq_2))) (I (I (@Go.Pk.homeCs.eq_1) (@Go.Pk.homeCs.eq_2)) (I (@Go.Pk.findR.eq_1) (@Go.Pk.findR.eq_2))))) (I (I (I (@Go.Pk.setR.eq_1) (I (@Go.Pk.setR.eq_2) (@Go.Pk.buildC.eq_1))) (I (I (@Go.Pk.buildC.eq_2) (@Go.Pk.fsOK.eq_1)) (I (@Go.Pk.fsOK.eq_2) (@Go.Pk.fillAt.eq_1)))) (I (I (I (@Go.Pk.fillAt.eq_2) (@Go.Pk.sealCs.eq_1)) (I (@Go.Pk.sealCs.eq_2) (@Go.Pk.toDs.eq_1))) (I (I (@Go.Pk.toDs.eq_2) (@Go.Pk.lendAs.eq_1)) (I (@Go.Pk.lendAs.eq_2) (@Go.Pk.lendC.eq_1)))))):=I (I (I (I (@Go.Pk.rowOfA.eq_def) (I (@Go.Pk.ownA.eq_def) (@Go.Pk.covA.eq_def))) (I (I (@Go.Pk.bytesOf.eq_1) (@Go.Pk.bytesOf.eq_2)) (I (@Go.Pk.evs.eq_1) (@Go.Pk.evs.eq_2)))) (I (I (I (@Go.Pk.liveCs.eq_1) (@Go.Pk.liveCs.eq_2)) (I (@Go.Pk.evsS.eq_1) (@Go.Pk.evsS.eq_2))) (I (I (@Go.Pk.homeCs.eq_1) (@Go.Pk.homeCs.eq_2)) (I (@Go.Pk.findR.eq_1) (@Go.Pk.findR.eq_2))))) (I (I (I (@Go.Pk.setR.eq_1) (I (@Go.Pk.setR.eq_2) (@Go.Pk.buildC.eq_1))) (I (I (@Go.Pk.buildC.eq_2) (@Go.Pk.fsOK.eq_1)) (I (@Go.Pk.fsOK.eq_2) (@Go.Pk.fillAt.eq_1)))) (I (I (I (@Go.Pk.fillAt.eq_2) (@Go.Pk.sealCs.eq_1)) (I (@Go.Pk.sealCs.eq_2) (@Go.Pk.toDs.eq_1))) (I (I (@Go.Pk.toDs.eq_2) (@Go.Pk.lendAs.eq_1)) (I (@Go.Pk.lendAs.eq_2) (@Go.Pk.lendC.eq_1)))))
theorem pk5:type_of% (I (I (I (I (@Go.Pk.lendC.eq_2) (I (@Go.Pk.lendC.eq_3) (@Go.Pk.lendC.eq_4))) (I (I (@Go.Pk.lendC.eq_5) (@Go.Pk.lendC.eq_6)) (I (@Go.Pk.lendC.eq_7) (@Go.Pk.lendC.eq_8)))) (I (I (I (@Go.Pk.lendC.eq_9) (@Go.Pk.lendC.eq_10)) (I (@Go.Pk.lend0.eq_1) (@Go.Pk.lend0.eq_2))) (I (I (@Go.Pk.lend0.eq_3) (@Go.Pk.lend0.eq_4)) (I (@Go.Pk.lend0s.eq_1) (@Go.Pk.lend0s.eq_2))))) (I (I (I (@Go.Pk.lendC.lendCs.eq_1) (I (@Go.Pk.lendC.lendCs.eq_2) (@Go.Pk.bindFs.eq_1))) (I (I (@Go.Pk.bindFs.eq_2) (@Go.Pk.bindCs.eq_1)) (I (@Go.Pk.bindCs.eq_2) (@Go.Pk.bindCs.eq_3)))) (I (I (I (@Go.Pk.bindRs.eq_1) (@Go.Pk.bindRs.eq_2)) (I (@Go.Pk.bindRs.eq_3) (@Go.Pk.noOwn.eq_1))) (I (I (@Go.Pk.noOwn.eq_2) (@Go.Pk.noOwn.eq_3)) (I (@Go.Pk.valsOf.eq_1) (@Go.Pk.valsOf.eq_2)))))):=I (I (I (I (@Go.Pk.lendC.eq_2) (I (@Go.Pk.lendC.eq_3) (@Go.Pk.lendC.eq_4))) (I (I (@Go.Pk.lendC.eq_5) (@Go.Pk.lendC.eq_6)) (I (@Go.Pk.lendC.eq_7) (@Go.Pk.lendC.eq_8)))) (I (I (I (@Go.Pk.lendC.eq_9) (@Go.Pk.lendC.eq_10)) (I (@Go.Pk.lend0.eq_1) (@Go.Pk.lend0.eq_2))) (I (I (@Go.Pk.lend0.eq_3) (@Go.Pk.lend0.eq_4)) (I (@Go.Pk.lend0s.eq_1) (@Go.Pk.lend0s.eq_2))))) (I (I (I (@Go.Pk.lendC.lendCs.eq_1) (I (@Go.Pk.lendC.lendCs.eq_2) (@Go.Pk.bindFs.eq_1))) (I (I (@Go.Pk.bindFs.eq_2) (@Go.Pk.bindCs.eq_1)) (I (@Go.Pk.bindCs.eq_2) (@Go.Pk.bindCs.eq_3)))) (I (I (I (@Go.Pk.bindRs.eq_1) (@Go.Pk.bindRs.eq_2)) (I (@Go.Pk.bindRs.eq_3) (@Go.Pk.noOwn.eq_1))) (I (I (@Go.Pk.noOwn.eq_2) (@Go.Pk.noOwn.eq_3)) (I (@Go.Pk.valsOf.eq_1) (@Go.Pk.valsOf.eq_2)))))
theorem pk6:type_of% (I (I (I (I (@Go.Pk.eqVs.eq_1) (I (@Go.Pk.eqVs.eq_2) (@Go.Pk.slotsC.eq_1))) (I (I (@Go.Pk.slotsC.eq_2) (@Go.Pk.slotsC.eq_3)) (I (@Go.Pk.slotsC.eq_4) (@Go.Pk.slotsC.eq_5)))) (I (I (I (@Go.Pk.slotsC.eq_6) (@Go.Pk.slotsC.eq_7)) (I (@Go.Pk.slotsC.eq_8) (@Go.Pk.slotsC.eq_9))) (I (I (@Go.Pk.slotsC.eq_10) (@Go.Pk.slotsCs.eq_1)) (I (@Go.Pk.slotsCs.eq_2) (@Go.Pk.slotsA.eq_1))))) (I (I (I (@Go.Pk.slotsA.eq_2) (I (@Go.Pk.slotsA.eq_3) (@Go.Pk.slotsA.eq_4))) (I (I (@Go.Pk.slotsAs.eq_1) (@Go.Pk.slotsAs.eq_2)) (I (@Go.Pk.opSls.eq_1) (@Go.Pk.opSls.eq_2)))) (I (I (I (@Go.Pk.hdSl.eq_1) (@Go.Pk.hdSl.eq_2)) (I (@Go.Pk.offB.eq_1) (@Go.Pk.offB.eq_2))) (I (I (@Go.Pk.moveAs.eq_1) (@Go.Pk.moveAs.eq_2)) (I (@Go.Pk.moveAs.eq_3) (@Go.Pk.splitOwn.eq_1)))))):=I (I (I (I (@Go.Pk.eqVs.eq_1) (I (@Go.Pk.eqVs.eq_2) (@Go.Pk.slotsC.eq_1))) (I (I (@Go.Pk.slotsC.eq_2) (@Go.Pk.slotsC.eq_3)) (I (@Go.Pk.slotsC.eq_4) (@Go.Pk.slotsC.eq_5)))) (I (I (I (@Go.Pk.slotsC.eq_6) (@Go.Pk.slotsC.eq_7)) (I (@Go.Pk.slotsC.eq_8) (@Go.Pk.slotsC.eq_9))) (I (I (@Go.Pk.slotsC.eq_10) (@Go.Pk.slotsCs.eq_1)) (I (@Go.Pk.slotsCs.eq_2) (@Go.Pk.slotsA.eq_1))))) (I (I (I (@Go.Pk.slotsA.eq_2) (I (@Go.Pk.slotsA.eq_3) (@Go.Pk.slotsA.eq_4))) (I (I (@Go.Pk.slotsAs.eq_1) (@Go.Pk.slotsAs.eq_2)) (I (@Go.Pk.opSls.eq_1) (@Go.Pk.opSls.eq_2)))) (I (I (I (@Go.Pk.hdSl.eq_1) (@Go.Pk.hdSl.eq_2)) (I (@Go.Pk.offB.eq_1) (@Go.Pk.offB.eq_2))) (I (I (@Go.Pk.moveAs.eq_1) (@Go.Pk.moveAs.eq_2)) (I (@Go.Pk.moveAs.eq_3) (@Go.Pk.splitOwn.eq_1)))))
theorem pk7:type_of% (I (I (I (I (@Go.Pk.splitOwn.eq_2) (I (@Go.Pk.lentSl.eq_1) (@Go.Pk.lentSl.eq_2))) (I (I (@Go.Pk.lentSl.eq_3) (@Go.Pk.homeB.eq_1)) (I (@Go.Pk.homeB.eq_2) (@Go.Pk.roCs.eq_1)))) (I (I (I (@Go.Pk.roCs.eq_2) (@Go.Pk.ownHs.eq_1)) (I (@Go.Pk.ownHs.eq_2) (@List.getElem?_cons_zero.{0}))) (I (I (@List.getElem?_cons_succ.{0}) (@List.length_cons.{0})) (I (@List.length_nil.{0}) (@List.drop_zero.{0}))))) (I (I (I (@List.drop_succ_cons.{0}) (I (@List.drop_nil.{0}) (@List.take_zero.{0}))) (I (I (@List.take_succ_cons.{0}) (@List.take_nil.{0})) (I (@List.append_nil.{0}) (@List.nil_append.{0})))) (I (I (I (@List.cons_append.{0}) (@List.replicate_succ.{0})) (I (@List.replicate_zero.{0}) (@List.getElem?_toArray.{0}))) (I (I (@List.map_cons.{0,0}) (@List.map_nil.{0,0})) (I (@List.flatMap_cons.{0,0}) (@List.flatMap_nil.{0,0})))))):=I (I (I (I (@Go.Pk.splitOwn.eq_2) (I (@Go.Pk.lentSl.eq_1) (@Go.Pk.lentSl.eq_2))) (I (I (@Go.Pk.lentSl.eq_3) (@Go.Pk.homeB.eq_1)) (I (@Go.Pk.homeB.eq_2) (@Go.Pk.roCs.eq_1)))) (I (I (I (@Go.Pk.roCs.eq_2) (@Go.Pk.ownHs.eq_1)) (I (@Go.Pk.ownHs.eq_2) (@List.getElem?_cons_zero.{0}))) (I (I (@List.getElem?_cons_succ.{0}) (@List.length_cons.{0})) (I (@List.length_nil.{0}) (@List.drop_zero.{0}))))) (I (I (I (@List.drop_succ_cons.{0}) (I (@List.drop_nil.{0}) (@List.take_zero.{0}))) (I (I (@List.take_succ_cons.{0}) (@List.take_nil.{0})) (I (@List.append_nil.{0}) (@List.nil_append.{0})))) (I (I (I (@List.cons_append.{0}) (@List.replicate_succ.{0})) (I (@List.replicate_zero.{0}) (@List.getElem?_toArray.{0}))) (I (I (@List.map_cons.{0,0}) (@List.map_nil.{0,0})) (I (@List.flatMap_cons.{0,0}) (@List.flatMap_nil.{0,0})))))
theorem pk8:type_of% (I (I (I (I (@List.zip_cons_cons.{0,0}) (I (@List.foldl_cons.{0,0}) (@List.foldl_nil.{0,0}))) (I (I (@List.filterMap_cons.{0,0}) (@List.filterMap_nil.{0,0})) (I (@Option.bind_some.{0,0}) (@Option.bind_none.{0,0})))) (I (I (I (@Go.Pk.gd0) (@Go.Pk.st0)) (I (@Go.Pk.gd1) (@Go.Pk.st1))) (I (I (@Go.Pk.gd2) (@Go.Pk.st2)) (I (@Go.Pk.gd3) (@Go.Pk.st3))))) (I (I (I (@Go.Pk.gd4) (I (@Go.Pk.st4) (@Go.Pk.gd5))) (I (I (@Go.Pk.st5) (@Go.Pk.gd6)) (I (@Go.Pk.st6) (@Go.Pk.gd7)))) (I (I (I (@Go.Pk.st7) (@Go.Pk.gd8)) (I (@Go.Pk.st8) (@Go.Pk.gd9))) (I (I (@Go.Pk.st9) (@Go.Pk.gd10)) (I (@Go.Pk.st10) (@Go.Pk.gd11)))))):=I (I (I (I (@List.zip_cons_cons.{0,0}) (I (@List.foldl_cons.{0,0}) (@List.foldl_nil.{0,0}))) (I (I (@List.filterMap_cons.{0,0}) (@List.filterMap_nil.{0,0})) (I (@Option.bind_some.{0,0}) (@Option.bind_none.{0,0})))) (I (I (I (@Go.Pk.gd0) (@Go.Pk.st0)) (I (@Go.Pk.gd1) (@Go.Pk.st1))) (I (I (@Go.Pk.gd2) (@Go.Pk.st2)) (I (@Go.Pk.gd3) (@Go.Pk.st3))))) (I (I (I (@Go.Pk.gd4) (I (@Go.Pk.st4) (@Go.Pk.gd5))) (I (I (@Go.Pk.st5) (@Go.Pk.gd6)) (I (@Go.Pk.st6) (@Go.Pk.gd7)))) (I (I (I (@Go.Pk.st7) (@Go.Pk.gd8)) (I (@Go.Pk.st8) (@Go.Pk.gd9))) (I (I (@Go.Pk.st9) (@Go.Pk.gd10)) (I (@Go.Pk.st10) (@Go.Pk.gd11)))))
theorem pk9:type_of% (I (I (I (I (@Go.Pk.st11) (I (@Go.Pk.gd12) (@Go.Pk.st12))) (I (I (@Go.Pk.gd13) (@Go.Pk.st13)) (I (@Go.Pk.gd14) (@Go.Pk.st14)))) (I (I (I (@Go.Pk.gd15) (@Go.Pk.st15)) (I (@Go.Pk.gd16) (@Go.Pk.st16))) (I (I (@Go.Pk.gd17) (@Go.Pk.st17)) (I (@Go.Pk.gd18) (@Go.Pk.st18))))) (I (I (I (@Go.Pk.gd19) (I (@Go.Pk.st19) (@Go.Pk.gd20))) (I (I (@Go.Pk.st20) (@Go.Pk.gd21)) (I (@Go.Pk.st21) (@Go.Pk.gd22)))) (I (I (I (@Go.Pk.st22) (@Go.Pk.gd23)) (I (@Go.Pk.st23) (@Go.Pk.gd24))) (I (I (@Go.Pk.st24) (@Go.Pk.gd25)) (I (@Go.Pk.st25) (@Go.Pk.gd26)))))):=I (I (I (I (@Go.Pk.st11) (I (@Go.Pk.gd12) (@Go.Pk.st12))) (I (I (@Go.Pk.gd13) (@Go.Pk.st13)) (I (@Go.Pk.gd14) (@Go.Pk.st14)))) (I (I (I (@Go.Pk.gd15) (@Go.Pk.st15)) (I (@Go.Pk.gd16) (@Go.Pk.st16))) (I (I (@Go.Pk.gd17) (@Go.Pk.st17)) (I (@Go.Pk.gd18) (@Go.Pk.st18))))) (I (I (I (@Go.Pk.gd19) (I (@Go.Pk.st19) (@Go.Pk.gd20))) (I (I (@Go.Pk.st20) (@Go.Pk.gd21)) (I (@Go.Pk.st21) (@Go.Pk.gd22)))) (I (I (I (@Go.Pk.st22) (@Go.Pk.gd23)) (I (@Go.Pk.st23) (@Go.Pk.gd24))) (I (I (@Go.Pk.st24) (@Go.Pk.gd25)) (I (@Go.Pk.st25) (@Go.Pk.gd26)))))
theorem zya:type_of% (I (I (I (@Go.Pk.st26) (I (@Go.Pk.gd27) (@Go.Pk.st27))) (I (@Go.Pk.gd28) (I (@Go.Pk.st28) (@Go.Pk.gd29)))) (I (I (@Go.Pk.st29) (I (@Go.Pk.gd30) (@Go.Pk.st30))) (I (I (@Go.Pk.gd31) (@Go.Pk.st31)) (I (@Go.Pk.gdN) (@Go.Pk.stN))))):=I (I (I (@Go.Pk.st26) (I (@Go.Pk.gd27) (@Go.Pk.st27))) (I (@Go.Pk.gd28) (I (@Go.Pk.st28) (@Go.Pk.gd29)))) (I (I (@Go.Pk.st29) (I (@Go.Pk.gd30) (@Go.Pk.st30))) (I (I (@Go.Pk.gd31) (@Go.Pk.st31)) (I (@Go.Pk.gdN) (@Go.Pk.stN))))
end Go.Pk
