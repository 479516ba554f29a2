import Derived.Calls
import Derived.Orders
import Derived.Still
import Derived.Laws.Sem
import Derived.Laws.Cells
import Derived.Laws.World
import Derived.Laws.Rows
import Derived.Laws.Append
set_option linter.unusedVariables false
set_option linter.unusedSimpArgs false
set_option linter.unusedSectionVars false
namespace Go.Pk
theorem lM:type_of% @And.imp_right:=@And.imp_right
theorem er:type_of% @Array.ext':=@Array.ext'
theorem gw:type_of% @Array.getElem?_toList:=@Array.getElem?_toList
theorem js:type_of% @Array.length_toList:=@Array.length_toList
theorem lJ:type_of% @Array.toArray_toList:=@Array.toArray_toList
theorem lG:type_of% @Array.toList_map:=@Array.toList_map
theorem oQ:type_of% @Bool.and_eq_false_iff:=@Bool.and_eq_false_iff
theorem cg:type_of% @Bool.and_eq_true:=@Bool.and_eq_true
theorem eI:type_of% @Bool.false_and:=@Bool.false_and
theorem lP:type_of% @Bool.false_eq_true:=@Bool.false_eq_true
theorem gX:type_of% @Bool.not_and:=@Bool.not_and
theorem mG:type_of% @Bool.not_eq_true':=@Bool.not_eq_true'
theorem mJ:type_of% @Bool.not_false:=@Bool.not_false
theorem lF:type_of% @Bool.not_true:=@Bool.not_true
theorem jl:type_of% @Bool.or_eq_true:=@Bool.or_eq_true
theorem iF:type_of% @Bool.true_and:=@Bool.true_and
theorem cJ:type_of% @Int.cast_ofNat_Int:=@Int.cast_ofNat_Int
theorem cA:type_of% @Int.natCast_zero:=@Int.natCast_zero
theorem jS:type_of% @Int.tmod_eq_emod_of_nonneg:=@Int.tmod_eq_emod_of_nonneg
theorem dP:type_of% @List.all_cons:=@List.all_cons
theorem gT:type_of% @List.all_eq_true:=@List.all_eq_true
theorem i6:type_of% @List.append_assoc:=@List.append_assoc
theorem dz:type_of% @List.append_nil:=@List.append_nil
theorem iE:type_of% @List.cons_append:=@List.cons_append
theorem mR:type_of% @List.contains_eq_mem:=@List.contains_eq_mem
theorem lL:type_of% @List.drop_succ_cons:=@List.drop_succ_cons
theorem jX:type_of% @List.drop_zero:=@List.drop_zero
theorem fW:type_of% @List.eq_nil_of_length_eq_zero:=@List.eq_nil_of_length_eq_zero
theorem lD:type_of% @List.ext_getElem?:=@List.ext_getElem?
theorem dA:type_of% @List.flatMap_cons:=@List.flatMap_cons
theorem fl:type_of% @List.flatten_cons:=@List.flatten_cons
theorem kD:type_of% @List.flatten_nil:=@List.flatten_nil
theorem lE:type_of% @List.foldl_cons:=@List.foldl_cons
theorem fe:type_of% @List.getD_eq_getElem?_getD:=@List.getD_eq_getElem?_getD
theorem bJ:type_of% @List.getElem?_append_left:=@List.getElem?_append_left
theorem bT:type_of% @List.getElem?_append_right:=@List.getElem?_append_right
theorem fI:type_of% @List.getElem?_cons_succ:=@List.getElem?_cons_succ
theorem bG:type_of% @List.getElem?_cons_zero:=@List.getElem?_cons_zero
theorem kG:type_of% @List.getElem?_drop:=@List.getElem?_drop
theorem gy:type_of% @List.getElem?_eq_getElem:=@List.getElem?_eq_getElem
theorem mO:type_of% @List.getElem?_eq_none:=@List.getElem?_eq_none
theorem bq:type_of% @List.getElem?_eq_some_iff:=@List.getElem?_eq_some_iff
theorem eK:type_of% @List.getElem?_map:=@List.getElem?_map
theorem o6:type_of% @List.getElem?_replicate:=@List.getElem?_replicate
theorem kJ:type_of% @List.getElem?_set:=@List.getElem?_set
theorem fV:type_of% @List.getElem?_set_ne:=@List.getElem?_set_ne
theorem lI:type_of% @List.getElem?_set_self:=@List.getElem?_set_self
theorem jR:type_of% @List.getElem?_toArray:=@List.getElem?_toArray
theorem eh:type_of% @List.length_append:=@List.length_append
theorem dK:type_of% @List.length_cons:=@List.length_cons
theorem lC:type_of% @List.length_drop:=@List.length_drop
theorem fG:type_of% @List.length_map:=@List.length_map
theorem jq:type_of% @List.length_nil:=@List.length_nil
theorem jn:type_of% @List.length_take:=@List.length_take
theorem fF:type_of% @List.map_cons:=@List.map_cons
theorem eQ:type_of% @List.mem_append:=@List.mem_append
theorem jV:type_of% @List.mem_append_left:=@List.mem_append_left
theorem kE:type_of% @List.mem_append_right:=@List.mem_append_right
theorem dw:type_of% @List.mem_cons:=@List.mem_cons
theorem kF:type_of% @List.mem_of_getElem?:=@List.mem_of_getElem?
theorem iZ:type_of% @List.mem_singleton:=@List.mem_singleton
theorem mF:type_of% @List.mem_zipIdx_iff_getElem?:=@List.mem_zipIdx_iff_getElem?
theorem kx:type_of% @List.nil_append:=@List.nil_append
theorem cn:type_of% @List.set_cons_succ:=@List.set_cons_succ
theorem cm:type_of% @List.set_cons_zero:=@List.set_cons_zero
theorem lK:type_of% @List.take_append_drop:=@List.take_append_drop
theorem oY:type_of% @List.take_of_length_le:=@List.take_of_length_le
theorem mS:type_of% @List.take_succ_cons:=@List.take_succ_cons
theorem cq:type_of% @Nat.add_assoc:=@Nat.add_assoc
theorem gW:type_of% @Nat.add_comm:=@Nat.add_comm
theorem cV:type_of% @Nat.add_mul:=@Nat.add_mul
theorem eo:type_of% @Nat.add_zero:=@Nat.add_zero
theorem ej:type_of% @Nat.le_add_right:=@Nat.le_add_right
theorem kB:type_of% @Nat.le_succ:=@Nat.le_succ
theorem eR:type_of% @Nat.le_trans:=@Nat.le_trans
theorem c9:type_of% @Nat.lt_of_lt_of_le:=@Nat.lt_of_lt_of_le
theorem fg:type_of% @Nat.lt_or_ge:=@Nat.lt_or_ge
theorem eH:type_of% @Nat.lt_succ_self:=@Nat.lt_succ_self
theorem fk:type_of% @Nat.mul_le_mul_right:=@Nat.mul_le_mul_right
theorem bu:type_of% @Nat.zero_add:=@Nat.zero_add
theorem kC:type_of% @Nat.zero_le:=@Nat.zero_le
theorem du:type_of% @Ne.symm:=@Ne.symm
theorem mU:type_of% @Oper.upon_enter:=@Oper.upon_enter
theorem ky:type_of% @Option.bind_eq_some_iff:=@Option.bind_eq_some_iff
theorem fj:type_of% @Option.map_eq_some_iff:=@Option.map_eq_some_iff
theorem fZ:type_of% @Option.map_some:=@Option.map_some
theorem aF:type_of% @Option.some.injEq:=@Option.some.injEq
theorem gU:type_of% @Prod.mk.injEq:=@Prod.mk.injEq
theorem dZ:type_of% @Result.andThen_ok:=@Result.andThen_ok
theorem eS:type_of% @Sem.run_bind:=@Sem.run_bind
theorem iJ:type_of% @Sem.run_pure:=@Sem.run_pure
theorem cH:type_of% @Value.int.injEq:=@Value.int.injEq
theorem cc:type_of% @and_true:=@and_true
theorem gx:type_of% @beq_iff_eq:=@beq_iff_eq
theorem iK:type_of% @decide_eq_false_iff_not:=@decide_eq_false_iff_not
theorem mH:type_of% @decide_eq_true:=@decide_eq_true
theorem dQ:type_of% @decide_eq_true_eq:=@decide_eq_true_eq
theorem jm:type_of% @if_false:=@if_false
theorem aj:type_of% @if_neg:=@if_neg
theorem ao:type_of% @if_pos:=@if_pos
theorem eP:type_of% @if_true:=@if_true
theorem mT:type_of% @run_underlying:=@run_underlying
theorem ca:type_of% @true_and:=@true_and
theorem I {p q:Prop} (a:p) (b:q):p/\q:=⟨a,b⟩
def flat:Value->Bool
 | .agg _=>false
 | .tuple _=>false
 |_=>true
inductive D where
 |v (x:Value)
 |sl (n:Nat) (ds:List D)
 |raw (x:Value) -- a value,whatever memory it leads to
 |any -- a value of which nothing is known
 |pt (ds:List D) -- a pointer at cells that nobody changes any more
mutual
def Rd (w:World) (A:Nat->Prop):D->Value->Prop
 | .v x,u=>u=x/\flat x=true
 | .sl n ds,u=>∃a cap,u= .slice a n cap/\n≤cap/\ek w A ds a
 | .raw x,u=>u=x/\flat x=true
 | .any,u=>flat u=true
 | .pt ds,u=>∃b o,u= .pointer (some ⟨b,o,none⟩)/\ek w A ds (some ⟨b,o,none⟩)
def ek (w:World) (A:Nat->Prop):List D->Option Addr->Prop
 |[],_=>True
 |d::ds,a=>∃b o u,a=some ⟨b,o,none⟩/\¬A b/\w.cell? ⟨b,o,none⟩=some u/\Rd w A d u/\ek w A ds (some ⟨b,o+1,none⟩)
end
def ba (w:World) (A T:Nat->Prop):List D->Option Addr->Prop
 |[],_=>True
 |d::ds,a=>∃b o u,a=some ⟨b,o,none⟩/\T b/\w.cell? ⟨b,o,none⟩=some u/\Rd w A d u/\ba w A T ds (some ⟨b,o+1,none⟩)
theorem fS {w:World} {A:Nat->Prop}:∀{ds:List D} {a:Option Addr},ek w A ds a↔ba w A (λ b=>¬A b) ds a
 |[],_=>Iff.rfl
 |d::ds,a=>by
  simp only[ek,ba];constructor
  .rintro⟨b,o,u,h1,h2,h3,h4,h5⟩;exact⟨b,o,u,h1,h2,h3,h4,fS.1 h5⟩
  .rintro⟨b,o,u,h1,h2,h3,h4,h5⟩;exact⟨b,o,u,h1,h2,h3,h4,fS.2 h5⟩
structure eV (w:World) (A:Nat->Prop) (w':World) (A':Nat->Prop):Prop where
 hp:∀b,b<w.heap.size->¬A b->w'.heap[b]? =w.heap[b]?
 av:∀b,b<w.heap.size->A' b->A b
theorem eV.rfl {w:World} {A:Nat->Prop}:eV w A w A:=⟨λ _ _ _=>Eq.refl _,λ _ _ h=>h⟩
theorem nz {w:World} {b o:Nat} {u:Value} (h:w.cell? ⟨b,o,none⟩=some u):b<w.heap.size:=by
 unfold World.cell? at h;rcases fg b w.heap.size with h'|h'
 .exact h'
 .simp[Array.getElem?_eq_none h']at h
theorem pT {w w':World} {b o:Nat} (h:w'.heap[b]? =w.heap[b]?):w'.cell? ⟨b,o,none⟩=w.cell? ⟨b,o,none⟩:=by simp[World.cell?,h]
mutual
theorem Rd.bC {w w':World} {A A':Nat->Prop} (s:eV w A w' A'):∀{d:D} {u:Value},Rd w A d u->Rd w' A' d u
 | .v _,_,h=>by simpa[Rd]using h
 | .raw _,_,h=>by simpa[Rd]using h
 | .any,_,h=>by simpa[Rd]using h
 | .pt ds,u,h=>by simp only[Rd]at h⊢;obtain⟨b,o,h1,h2⟩:=h;exact⟨b,o,h1,ek.bC s h2⟩
 | .sl n ds,u,h=>by simp only[Rd]at h⊢;obtain⟨a,cap,h1,h2,h3⟩:=h;exact⟨a,cap,h1,h2,ek.bC s h3⟩
theorem ek.bC {w w':World} {A A':Nat->Prop} (s:eV w A w' A'):∀{ds:List D} {a:Option Addr},ek w A ds a->ek w' A' ds a
 |[],_,_=>by simp[ek]
 |d::ds,a,h=>by simp only[ek]at h⊢;obtain⟨b,o,u,h1,h2,h3,h4,h5⟩:=h;have hb:=nz h3;exact⟨b,o,u,h1,λ h'=>h2 (s.av b hb h'),by rw[pT (s.hp b hb h2)];exact h3,Rd.bC s h4,ek.bC s h5⟩
end
theorem Rd.flat {w:World} {A:Nat->Prop} {d:D} {u:Value} (h:Rd w A d u):flat u=true:=by
 cases d with
 |v x=>simp only[Rd]at h;obtain⟨rfl,h⟩:=h;exact h
 |sl n ds=>simp only[Rd]at h;obtain⟨a,c,rfl,_⟩:=h;rfl
 |raw x=>simp only[Rd]at h;obtain⟨rfl,h⟩:=h;exact h
 |any=>simpa only[Rd]using h
 |pt ds=>simp only[Rd]at h;obtain⟨b,o,rfl,_⟩:=h;rfl
theorem ba.bC {w w':World} {A A' T T':Nat->Prop} (s:eV w A w' A') (hT:∀b,b<w.heap.size->T b->T' b/\w'.heap[b]? =w.heap[b]?):
  ∀{ds:List D} {a:Option Addr},ba w A T ds a->ba w' A' T' ds a
 |[],_,_=>trivial
 |d::ds,a,h=>by simp only[ba]at h⊢;obtain⟨b,o,u,h1,h2,h3,h4,h5⟩:=h;have hb:=nz h3;exact⟨b,o,u,h1,(hT b hb h2).1,by rw[pT (hT b hb h2).2];exact h3,h4.bC s,h5.bC s hT⟩
theorem ba.imp {w:World} {A T T':Nat->Prop} (hT:∀b,T b->T' b):∀{ds:List D} {a:Option Addr},ba w A T ds a->ba w A T' ds a
 |[],_,_=>trivial
 |d::ds,a,h=>by simp only[ba]at h⊢;obtain⟨b,o,u,h1,h2,h3,h4,h5⟩:=h;exact⟨b,o,u,h1,hT _ h2,h3,h4,h5.imp hT⟩
theorem ba.drop {w:World} {A T:Nat->Prop}:∀{k:Nat} {ds:List D} {b o:Nat},ba w A T ds (some ⟨b,o,none⟩)->ba w A T (ds.drop k) (some ⟨b,o+k,none⟩)
 |0,ds,b,o,h=>by simpa using h
 |k+1,[],b,o,h=>by simp[ba]
 |k+1,d::ds,b,o,h=>by simp only[ba]at h;obtain⟨b',o',u,h1,_,_,_,h5⟩:=h;cases h1;have:=ba.drop (k:=k) h5;simpa[cq,gW 1 k]using this
theorem ba.take {w:World} {A T:Nat->Prop}:∀{k:Nat} {ds:List D} {a:Option Addr},ba w A T ds a->ba w A T (ds.take k) a
 |0,ds,a,h=>by simp[ba]
 |k+1,[],a,h=>by simp[ba]
 |k+1,d::ds,a,h=>by simp only[ba,mS]at h⊢;obtain⟨b',o',u,h1,h2,h3,h4,h5⟩:=h;exact⟨b',o',u,h1,h2,h3,h4,h5.take⟩
theorem ba.addr {w:World} {A T:Nat->Prop} {ds:List D} {a:Option Addr} (h:ba w A T ds a) (hne:ds≠[]):∃b o,a=some ⟨b,o,none⟩:=by
 cases ds with
 |nil=>exact absurd rfl hne
 |cons d ds=>obtain⟨b,o,u,h1,_⟩:=h;exact⟨b,o,h1⟩
theorem ba.get {w:World} {A T:Nat->Prop}:∀{ds:List D} {b o k:Nat} {d:D},ba w A T ds (some ⟨b,o,none⟩)->ds[k]? =some d->
  T b/\∃u,w.cell? ⟨b,o+k,none⟩=some u/\Rd w A d u
 |[],_,_,k,_,_,hk=>by simp at hk
 |d'::ds,b,o,0,d,h,hk=>by obtain⟨b',o',u,h1,h2,h3,h4,_⟩:=h;cases h1;simp only[bG,aF]at hk;exact⟨h2,u,h3,hk▸h4⟩
 |d'::ds,b,o,k+1,d,h,hk=>by obtain⟨b',o',u,h1,h2,h3,h4,h5⟩:=h;cases h1;have:=ba.get (k:=k) h5 (by simpa using hk);simpa[cq,gW 1 k]using this
theorem ba.mk {w:World} {A T:Nat->Prop} {b:Nat} (hT:T b):∀{ds:List D} {o:Nat},
  (∀k d,ds[k]? =some d->∃u,w.cell? ⟨b,o+k,none⟩=some u/\Rd w A d u)->ba w A T ds (some ⟨b,o,none⟩)
 |[],_,_=>trivial
 |d::ds,o,h=>by
  obtain⟨u,h1,h2⟩:=h 0 d (by simp)
  exact⟨b,o,u,rfl,hT,by simpa using h1,h2,ba.mk hT λ k d' hk=>by have:=h (k+1) d' (by simpa using hk);simpa[cq,gW 1 k]using this⟩
structure Hd where
 s:Nat
 j:Nat
 e:Nat
inductive C where
 |d (x:D) -- data
 |aI (n:Nat) (ds:List D) -- a slice that is looked at alone
 |own (h:Hd) (lo n:Nat) -- a slice of a row that is this frame's own
 |ptr (h:Hd) (off:Nat) -- a pointer into memory that is this frame's own
 |cZ (ds:List D) -- a pointer at cells that are looked at alone
 |dF (f:FuncId) (caps:List C) -- a function literal and what it captured
 |ab -- a bool of which nothing is known
 |dead
 |cN (cs:List C) -- a pointer at cells that are looked at alone,slices that are looked at alone among them
 |cP (h:Hd) (lo n k:Nat) -- a slice of a row of one's own with room for k elements,not all of them known
 |lk (h:Hd) (n:Nat) (x:Value) -- no value:x is the slice of n elements at the handle
inductive AV where
 |one (x:C)
 |agg (l:List C)
 |eW (l:List AV)
 |gd (c:Bool) (x:AV) -- a value that is there if c
structure aM where
 e:Nat
 var:Bool
 fz:Bool
 cf:Bool:=false -- it came with an object that was handed in
 sz:Nat
 cells:List C
structure RS where
 next:Nat
 l:List (Option aM)
abbrev Rs:=List (Nat×RS)
def aa (s:Nat):Rs->Option RS
 |[]=>none
 |(t,x)::l=>if t=s then some x else aa s l
def az (s:Nat) (y:RS):Rs->Rs
 |[]=>[(s,y)]
 |(t,x)::l=>if t=s then(t,y)::l else(t,x)::az s y l
theorem bX (s t:Nat) (y:RS):∀(r:Rs),aa t (az s y r)=if s=t then some y else aa t r
 |[]=>by simp[az,aa]
 |(u,x)::l=>by
  simp only[az];by_cases h:u=s
  .rw[ao h];simp only[aa];by_cases h2:u=t
   .rw[ao h2,ao (by omega)]
   .rw[aj h2,aj (by omega),aj h2]
  .rw[aj h];simp only[aa];by_cases h2:u=t
   .rw[ao h2,aj (by omega),ao h2]
   .rw[aj h2,aj h2,bX s t y l]
structure G where
 v:List AV
 r:Rs
def aq (r:Rs) (s j:Nat):Option aM:=
 match aa s r with
 |some rs=>match rs.l[j]? with
  |some (some res)=>some res
  |_=>none
 |none=>none
def ax (r:Rs) (h:Hd):Option aM:=
 match aq r h.s h.j with
 |some res=>if res.e=h.e then some res else none
 |none=>none
def af (r:Rs) (s:Nat):Nat:=match aa s r with|some rs=>rs.next|none=>0
theorem bh {r:Rs} {h:Hd} {res:aM} (hg:ax r h=some res):aq r h.s h.j=some res/\res.e=h.e:=by
 unfold ax at hg;cases hl:aq r h.s h.j with
 |none=>simp[hl]at hg
 |some r'=>
  simp only[hl]at hg;split at hg
  .rename_i he;simp only[aF]at hg;subst hg;exact⟨rfl,he⟩
  .cases hg
theorem dH {r:Rs} {h:Hd} {res:aM} (hl:aq r h.s h.j=some res) (he:res.e=h.e):ax r h=some res:=by simp[ax,hl,he]
structure Pl where
 base:Option (Nat×Nat)
 cap:Nat
structure Cx where
 P:Program
 w0:World
 A0:Nat->Prop
 aH:Nat->Prop
 Obj:List (Nat×Nat):=[] -- the objects that were handed in:slot and block
 Row:List (Nat×Nat×Value):=[] -- the rows that were handed in:slot,number,value
 ds:List Deferred:=[] -- what is deferred
def Cx.n0 (cx:Cx):Nat:=cx.w0.heap.size
def OB (r:Rs) (β:Nat->Nat->Pl) (b:Nat):Prop:=
 ∃s j res o,aq r s j=some res/\res.fz=false/\(β s j).base=some (b,o)
def Av (cx:Cx) (r:Rs) (β:Nat->Nat->Pl) (b:Nat):Prop:=cx.A0 b∨OB r β b
def ib (cx:Cx) (A:Nat->Prop) (b:Nat):Prop:=¬A b∨(b<cx.n0/\¬cx.aH b)
def hE (pl:Pl) (res:aM) (lo n:Nat) (u:Value):Prop:=
 res.var=false/\lo*res.sz+n*res.sz≤res.cells.length/\lo+n≤pl.cap/\
 ∃a,u= .slice a n (pl.cap - lo)/\(pl.cap - lo=0∨∃b o,pl.base=some (b,o)/\a=some ⟨b,o+lo*res.sz,none⟩)
mutual
def ae (cx:Cx) (w:World) (r:Rs) (β:Nat->Nat->Pl):C->Value->Prop
 | .d x,u=>Rd w (Av cx r β) x u
 | .aI n ds,u=>∃a cap,u= .slice a n cap/\n≤cap/\ba w (Av cx r β) (ib cx (Av cx r β)) ds a
 | .own h lo n,u=>flat u=true/\h.e<af r h.s/\∀res,ax r h=some res->hE (β h.s h.j) res lo n u
 | .ptr h off,u=>flat u=true/\h.e<af r h.s/\∀res,ax r h=some res->∃b o,(β h.s h.j).base=some (b,o)/\u= .pointer (some ⟨b,o+off,none⟩)
 | .cZ ds,u=>∃b o,u= .pointer (some ⟨b,o,none⟩)/\ba w (Av cx r β) (ib cx (Av cx r β)) ds (some ⟨b,o,none⟩)
 | .dF f caps,u=>∃us,u= .func (.func f) #[] us/\ar cx w r β caps us.toList
 | .ab,u=>∃b,u= .bool b
 | .dead,_=>True
 | .cN cs,u=>∃b o us,u= .pointer (some ⟨b,o,none⟩)/\b<w.heap.size/\ib cx (Av cx r β) b/\(∀k v,us[k]? =some v->w.cell? ⟨b,o+k,none⟩=some v/\flat v=true)/\ar cx w r β cs us
 | .cP h lo n k,u=>flat u=true/\h.e<af r h.s/\lo+n≤k/\∃a,u= .slice a n (k - lo)/\∀res,ax r h=some res->res.var=false/\(β h.s h.j).cap=k/\
   (k - lo=0∨∃b o,(β h.s h.j).base=some (b,o)/\a=some ⟨b,o+lo*res.sz,none⟩)
 | .lk h n x,_=>flat x=true/\h.e<af r h.s/\∀res,ax r h=some res->hE (β h.s h.j) res 0 n x
def ar (cx:Cx) (w:World) (r:Rs) (β:Nat->Nat->Pl):List C->List Value->Prop
 |[],us=>us=[]
 |c::cs,us=>∃u us',us=u::us'/\ae cx w r β c u/\ar cx w r β cs us'
end
mutual
def ak (cx:Cx) (w:World) (r:Rs) (β:Nat->Nat->Pl):AV->Value->Prop
 | .one x,u=>ae cx w r β x u
 | .agg l,u=>∃us,u= .agg us/\ar cx w r β l us.toList
 | .eW l,u=>∃us,u= .tuple us/\aL cx w r β l us.toList
 | .gd c x,u=>(c=true->ak cx w r β x u)/\(c=false->u=undef)
def aL (cx:Cx) (w:World) (r:Rs) (β:Nat->Nat->Pl):List AV->List Value->Prop
 |[],us=>us=[]
 |c::cs,us=>∃u us',us=u::us'/\ak cx w r β c u/\aL cx w r β cs us'
end
def bL (w:World) (A:Nat->Prop) (pl:Pl) (sz:Nat) (ds:List D):Prop:=
 match pl.base with
 |none=>ds=[]/\pl.cap=0
 |some (b,o)=>∃c e,w.heap[b]? =some (.cells c e (0,0))/\o+pl.cap*sz≤c.size/\ds.length≤pl.cap*sz/\
   ∀(k:Nat) (d:D),ds[k]? =some d->∃u,c[o+k]? =some u/\Rd w A d u
def bn (cx:Cx) (w:World) (r:Rs) (β:Nat->Nat->Pl) (pl:Pl) (res:aM):Prop:=
 if res.var then res.fz=false/\∃b c e,pl.base=some (b,0)/\w.heap[b]? =some (.cells c e (0,0))/\ar cx w r β res.cells c.toList/\(∀u∈c.toList,flat u=true)
 else∃ds:List D,res.cells=ds.map C.d/\bL w (Av cx r β) pl res.sz ds/\
  (res.fz=true->∀b o,pl.base=some (b,o)->¬Av cx r β b)
structure aw (cx:Cx) (g:G) (a:Act) (w:World) (β:Nat->Nat->Pl):Prop where
 sz:a.tmps.size=g.v.length
 df:a.defers=cx.ds
 sl:∀(i:Nat) (x:AV),g.v[i]? =some x->∃u,a.tmps[i]? =some u/\ak cx w g.r β x u
 rs:∀s j res,aq g.r s j=some res->bn cx w g.r β (β s j) res/\res.e<af g.r s
 inj:∀s j res s' j' res' b o o',aq g.r s j=some res->res.fz=false->aq g.r s' j'=some res'->res'.fz=false->
  (β s j).base=some (b,o)->(β s' j').base=some (b,o')->s=s'/\j=j'
 fr:∀s j res b o,aq g.r s j=some res->res.fz=false->(β s j).base=some (b,o)->(cx.n0≤b∨cx.aH b)/\(res.cf=false->cx.n0≤b)
 n0:cx.n0≤w.heap.size
 aP:∀b,b<cx.n0->¬cx.aH b->w.heap[b]? =cx.w0.heap[b]?
 a0:∀b,cx.A0 b->b<cx.n0
 cf:∀b,cx.aH b->cx.A0 b
 ob:∀p b,(p,b)∈cx.Obj->0<af g.r p/\∀res,ax g.r ⟨p,0,0⟩=some res->(β p 0).base=some (b,0)
 rw:∀p n u,(p,n,u)∈cx.Row->ae cx w g.r β (.own ⟨p,1,0⟩ 0 n) u
 os:w.os=cx.w0.os
 out:w.output=cx.w0.output
def cU (cx:Cx) (g:G) (a:Act) (w:World):Prop:=∃β,aw cx g a w β
structure Ext (cx:Cx) (w:World) (r:Rs) (β:Nat->Nat->Pl) (w':World) (r':Rs) (β':Nat->Nat->Pl):Prop where
 nx:∀s,af r s≤af r' s
 aP:∀(h:Hd) (res':aM),h.e<af r h.s->ax r' h=some res'->
  ∃res,ax r h=some res/\β' h.s h.j=β h.s h.j/\res'.var=res.var/\res'.sz=res.sz/\res.cells.length≤res'.cells.length
 st:eV w (Av cx r β) w' (Av cx r' β')
 tp:∀b,b<cx.n0->¬cx.aH b->w'.heap[b]? =w.heap[b]?
 os:w'.os=w.os
 out:w'.output=w.output
theorem Ext.top {cx:Cx} {w w':World} {r r':Rs} {β β':Nat->Nat->Pl} (x:Ext cx w r β w' r' β'):
  ∀b,b<w.heap.size->ib cx (Av cx r β) b->ib cx (Av cx r' β') b/\w'.heap[b]? =w.heap[b]? :=by
 intro b hb h;rcases h with h|⟨h1,h2⟩
 .exact⟨.inl λ h'=>h (x.st.av b hb h'),x.st.hp b hb h⟩
 .exact⟨.inr ⟨h1,h2⟩,x.tp b h1 h2⟩
theorem hE.same {pl:Pl} {res res':aM} {lo n:Nat} {u:Value} (h:hE pl res lo n u) (h1:res'.var=res.var) (h2:res'.sz=res.sz)
  (h3:res.cells.length≤res'.cells.length):hE pl res' lo n u:=by
 unfold hE at*;rw[h1,h2];exact⟨h.1,eR h.2.1 h3,h.2.2⟩
mutual
theorem ae.ext {cx:Cx} {w w':World} {r r':Rs} {β β':Nat->Nat->Pl} (x:Ext cx w r β w' r' β'):∀{c:C} {u:Value},ae cx w r β c u->ae cx w' r' β' c u
 | .d _,_,h=>by simp only[ae]at h⊢;exact h.bC x.st
 | .aI n ds,_,h=>by simp only[ae]at h⊢;obtain⟨a,cap,h1,h2,h3⟩:=h;exact⟨a,cap,h1,h2,h3.bC x.st x.top⟩
 | .own hd lo n,u,h=>by simp only[ae]at h⊢;obtain⟨h1,h2,h3⟩:=h;refine⟨h1,c9 h2 (x.nx _),λ res' hr=> ?_⟩;obtain⟨res,g1,g2,g3,g4,g5⟩:=x.aP hd res' h2 hr;rw[g2];exact(h3 res g1).same g3 g4 g5
 | .ptr hd off,u,h=>by simp only[ae]at h⊢;obtain⟨h1,h2,h3⟩:=h;refine⟨h1,c9 h2 (x.nx _),λ res' hr=> ?_⟩;obtain⟨res,g1,g2,_⟩:=x.aP hd res' h2 hr;rw[g2];exact h3 res g1
 | .cZ ds,_,h=>by simp only[ae]at h⊢;obtain⟨b,o,h1,h2⟩:=h;exact⟨b,o,h1,h2.bC x.st x.top⟩
 | .dF f caps,_,h=>by simp only[ae]at h⊢;obtain⟨us,h1,h2⟩:=h;exact⟨us,h1,ar.ext x h2⟩
 | .ab,_,h=>by simpa only[ae]using h
 | .dead,_,_=>by simp[ae]
 | .cN cs,u,h=>by
  simp only[ae]at h⊢;obtain⟨b,o,us,h1,h2,h3,h4,h5⟩:=h;obtain⟨t1,t2⟩:=x.top b h2 h3;refine⟨b,o,us,h1, ?_,t1,λ k v hk=>by rw[pT t2];exact h4 k v hk,ar.ext x h5⟩;rcases fg b w'.heap.size with hb|hb
  .exact hb
  .rw[Array.getElem?_eq_none hb,Array.getElem?_eq_getElem h2]at t2;cases t2
 | .cP hd lo n k,u,h=>by simp only[ae]at h⊢;obtain⟨h1,h2,h3,a,h4,h5⟩:=h;refine⟨h1,c9 h2 (x.nx _),h3,a,h4,λ res' hr=> ?_⟩;obtain⟨res,g1,g2,g3,g4,g5⟩:=x.aP hd res' h2 hr;rw[g2,g3,g4];exact h5 res g1
 | .lk hd n x',u,h=>by simp only[ae]at h⊢;obtain⟨h1,h2,h3⟩:=h;refine⟨h1,c9 h2 (x.nx _),λ res' hr=> ?_⟩;obtain⟨res,g1,g2,g3,g4,g5⟩:=x.aP hd res' h2 hr;rw[g2];exact(h3 res g1).same g3 g4 g5
theorem ar.ext {cx:Cx} {w w':World} {r r':Rs} {β β':Nat->Nat->Pl} (x:Ext cx w r β w' r' β'):∀{c:List C} {u:List Value},ar cx w r β c u->ar cx w' r' β' c u
 |[],_,h=>by simpa[ar]using h
 |c::cs,_,h=>by simp only[ar]at h⊢;obtain⟨u,us,h1,h2,h3⟩:=h;exact⟨u,us,h1,ae.ext x h2,ar.ext x h3⟩
end
mutual
theorem ak.ext {cx:Cx} {w w':World} {r r':Rs} {β β':Nat->Nat->Pl} (x:Ext cx w r β w' r' β'):∀{c:AV} {u:Value},ak cx w r β c u->ak cx w' r' β' c u
 | .one _,_,h=>by simp only[ak]at h⊢;exact h.ext x
 | .agg l,_,h=>by simp only[ak]at h⊢;obtain⟨us,h1,h2⟩:=h;exact⟨us,h1,h2.ext x⟩
 | .eW l,_,h=>by simp only[ak]at h⊢;obtain⟨us,h1,h2⟩:=h;exact⟨us,h1,aL.ext x h2⟩
 | .gd c y,_,h=>by simp only[ak]at h⊢;exact⟨λ hc=>ak.ext x (h.1 hc),h.2⟩
theorem aL.ext {cx:Cx} {w w':World} {r r':Rs} {β β':Nat->Nat->Pl} (x:Ext cx w r β w' r' β'):∀{c:List AV} {u:List Value},aL cx w r β c u->aL cx w' r' β' c u
 |[],_,h=>by simpa[aL]using h
 |c::cs,_,h=>by simp only[aL]at h⊢;obtain⟨u,us,h1,h2,h3⟩:=h;exact⟨u,us,h1,ak.ext x h2,aL.ext x h3⟩
end
theorem bL.bC {w w':World} {A A':Nat->Prop} (s:eV w A w' A') {pl:Pl} {sz:Nat} {ds:List D}
  (hb:∀b o,pl.base=some (b,o)->w'.heap[b]? =w.heap[b]?) (h:bL w A pl sz ds):bL w' A' pl sz ds:=by
 unfold bL at*;split at h
 .exact h
 .rename_i b o hbase;obtain⟨c,e,h1,h2,h3,h4⟩:=h;refine⟨c,e,by rw[hb b o hbase];exact h1,h2,h3,λ k d hk=> ?_⟩;obtain⟨u,g1,g2⟩:=h4 k d hk;exact⟨u,g1,g2.bC s⟩
theorem bn.ext {cx:Cx} {w w':World} {r r':Rs} {β β':Nat->Nat->Pl} (x:Ext cx w r β w' r' β') {pl:Pl} {res:aM}
  (hb:∀b o,pl.base=some (b,o)->w'.heap[b]? =w.heap[b]?)
  (hs:∀b o,pl.base=some (b,o)->b<w.heap.size) (h:bn cx w r β pl res):bn cx w' r' β' pl res:=by
 unfold bn at*;split
 .rename_i hv;rw[ao hv]at h;obtain⟨h0,b,c,e,h1,h2,h3,h4⟩:=h;exact⟨h0,b,c,e,h1,by rw[hb b 0 h1];exact h2,h3.ext x,h4⟩
 .rename_i hv;rw[aj hv]at h;obtain⟨ds,h1,h2,h3⟩:=h;exact⟨ds,h1,h2.bC x.st hb,λ hf b o hbase hA=>h3 hf b o hbase (x.st.av b (hs b o hbase) hA)⟩
theorem bn.lt {cx:Cx} {w:World} {r:Rs} {β:Nat->Nat->Pl} {pl:Pl} {res:aM} (h:bn cx w r β pl res) {b o:Nat} (hb:pl.base=some (b,o)):b<w.heap.size:=by
 have key:∀{c e},w.heap[b]? =some (Obj.cells c e (0,0))->b<w.heap.size:=λ h1=>by
  rcases fg b w.heap.size with h'|h'
  .exact h'
  .simp[Array.getElem?_eq_none h']at h1
 unfold bn at h;split at h
 .obtain⟨_,b',c,e,h1,h2,_⟩:=h;rw[hb]at h1;cases h1;exact key h2
 .obtain⟨ds,_,h2,_⟩:=h;simp only[bL,hb]at h2;obtain⟨c,e,h3,_⟩:=h2;exact key h3
def G.put (g:G) (dst:Option Nat) (x:AV):G:=
 match dst with
 |some d=>{g with v:=g.v.set d x}
 |none=>g
theorem aw.put {cx:Cx} {g:G} {a:Act} {w:World} {β:Nat->Nat->Pl} (h:aw cx g a w β) (dst:Option Nat) {x:AV} {u:Value} (hx:ak cx w g.r β x u):
  aw cx (g.put dst x) (a.put dst u) w β:=by
 cases dst with
 |none=>exact h
 |some d=>
  refine {h with sz:=by simpa[G.put,Act.put]using h.sz,df:=h.df,sl:=λ i y hi=> ?_};simp only[G.put,Act.put,kJ,Array.getElem?_setIfInBounds]at hi⊢;by_cases hd:d=i
  .subst hd;rw[ao rfl]at hi⊢;split at hi
   .rename_i hlt;rw[ao (by rw[h.sz];exact hlt)];cases hi;exact⟨u,rfl,hx⟩
   .cases hi
  .rw[aj hd]at hi⊢;exact h.sl i y hi
theorem aw.Ew {cx:Cx} {g:G} {a:Act} {w w':World} {r':Rs} {β β':Nat->Nat->Pl} (h:aw cx g a w β) (x:Ext cx w g.r β w' r' β'):
  ∀(i:Nat) (y:AV),g.v[i]? =some y->∃u,a.tmps[i]? =some u/\ak cx w' r' β' y u:=λ i y hi=>
 let ⟨u,h1,h2⟩:=h.sl i y hi
 ⟨u,h1,h2.ext x⟩
inductive TD where
 |bool|int (k:IntKind)|string|slice (e:Nat)|struct (fs:List (Nat×Nat))|array (n e:Nat)|pointer (e:Nat)|other
structure TI where
 size:Nat
 bytes:Nat
 zero:List Value
 desc:TD
 eq:Bool:=false
def cK:TypeDesc->TD
 | .bool=> .bool
 | .int k=> .int k
 | .string=> .string
 | .slice e=> .slice e
 | .struct fs=> .struct (fs.toList.map λ f=>(f.offset,f.type))
 | .array n e=> .array n e
 | .pointer e=> .pointer e
 |_=> .other
def kO (P:Program) (eqs:List Nat) (t:Nat):Option TI:=
 match P.info? t,P.underlying t with
 |some i,some d=>match i.zero with
  |some z=>if z.cells.toList.all flat&&z.cells.toList.length==i.size then some {size:=i.size,bytes:=i.bytes,zero:=z.cells.toList,desc:=cK d,eq:=eqs.contains t}else none
  |none=>none
 |_,_=>none
def lX:TD->Bool
 | .struct _=>true
 | .array _ _=>true
 |_=>false
def aW (v:List AV):Operand->AV
 | .tmp t=>v.getD t (.one .dead)
 | .const x=> .one (if flat x=true then .d (.v x)else .dead)
 | .func f=> .one (.d (.v (.func (.func f) #[] #[])))
 | .global _=> .one .dead
def ev (v:List AV) (x:Operand):AV:=
 match aW v x with
 | .gd _ y=>y
 | .one y=> .one y
 | .agg y=> .agg y
 | .eW y=> .eW y
def aO (c:Bool) (v:List AV) (x:Operand):Prop:=
 match aW v x with
 | .gd c' _=>c=true->c'=true
 |_=>True
def cj (v:List AV):List Operand->List AV
 |[]=>[]
 |x::xs=>ev v x::cj v xs
def cr (c:Bool) (v:List AV):List Operand->Prop
 |[]=>True
 |x::xs=>aO c v x/\cr c v xs
structure Out where
 sc:Prop
 x:AV
 r:Rs
def bad:Out:=⟨False, .one .dead,[]⟩
def live:C->Bool
 | .dead=>false
 | .lk _ _ _=>false
 |_=>true
def gP:List C->Bool
 |[]=>true
 |c::cs=>live c&&gP cs
def cellsOf:AV->List C
 | .one x=>if live x=true then [x]else []
 | .agg l=>l
 |_=>[]
def iW:List AV->Option (List C)
 |[]=>some []
 |y::ys=>match y,iW ys with
  | .one x,some xs=>some (x::xs)
  |_,_=>none
theorem sK:iW []=some []:=rfl
theorem su {x:C} {ys:List AV}:iW (.one x::ys)=(match iW ys with|some xs=>some (x::xs)|none=>none):=by cases h:iW ys<;>simp[iW,h]
def C.jC:C->Option D
 | .d x=>some x
 |_=>none
def lQ:D->D
 | .v (.slice none 0 0)=> .sl 0 []
 |x=>x
def cQ:List C->Option (List D)
 |[]=>some []
 |c::cs=>match c.jC,cQ cs with
  |some d,some ds=>some (d::ds)
  |_,_=>none
def sub (lo n sz:Nat) (l:List C):List C:=(l.drop (lo*sz)).take (n*sz)
def rowOf (r:Rs):C->Option (Nat×List D)
 | .d (.sl n ds)=>some (n,ds)
 | .d (.v (.slice none 0 0))=>some (0,[])
 | .aI n ds=>some (n,ds)
 | .own h lo n=>match ax r h with
  |some res=>match cQ (sub lo n res.sz res.cells)with
   |some ds=>some (n,ds)
   |none=>none
  |none=>none
 | .cP h lo n _=>match ax r h with
  |some res=>match cQ (sub lo n res.sz res.cells)with
   |some ds=>some (n,ds)
   |none=>none
  |none=>none
 |_=>none
def gV (r:Rs):C->Option (D×Rs)
 | .d x=>some (lQ x,r)
 | .own h lo n=>match ax r h,aa h.s r with
  |some res,some rs=>if res.cf then none else
   match cQ (sub lo n res.sz res.cells)with
   |some ds=>some (.sl n ds,az h.s {rs with l:=rs.l.set h.j (some {res with fz:=true})} r)
   |none=>none
  |_,_=>none
 |_=>none
def eG:Rs->List C->Option (List D×Rs)
 |r,[]=>some ([],r)
 |r,c::cs=>match gV r c with
  |some (d,r')=>match eG r' cs with
   |some (ds,r'')=>some (d::ds,r'')
   |none=>none
  |none=>none
def mV (op:BinOp):Value->Value->Option Value
 | .int k a, .int k' b=>
  if k=k' then
   match op with
   | .add=>some (.int k (k.wrap (a+b)))
   | .sub=>some (.int k (k.wrap (a - b)))
   | .mul=>some (.int k (k.wrap (a*b)))
   | .quo=>if b=0 then none else some (.int k (k.wrap (a.tdiv b)))
   | .rem=>if b=0 then none else some (.int k (a.tmod b))
   | .and=>some (.int k (k.wrap (BitVec.ofInt k.bits a&&&BitVec.ofInt k.bits b).toNat))
   | .or=>some (.int k (k.wrap (BitVec.ofInt k.bits a|||BitVec.ofInt k.bits b).toNat))
   | .xor=>some (.int k (k.wrap (BitVec.ofInt k.bits a^^^BitVec.ofInt k.bits b).toNat))
   | .shr=>if b<0 then none else some (.int k (a.fdiv (2^(min b.toNat k.bits))))
   | .shl=>if b<0 then none else some (.int k (k.wrap (a*2^(min b.toNat k.bits))))
   | .eql=>some (.bool (a==b))
   | .neq=>some (.bool (a !=b))
   | .lss=>some (.bool (decide (a<b)))
   | .leq=>some (.bool (decide (a≤b)))
   | .gtr=>some (.bool (decide (a>b)))
   | .geq=>some (.bool (decide (a≥b)))
   |_=>none
  else match op with
   | .shr=>if b<0 then none else some (.int k (a.fdiv (2^(min b.toNat k.bits))))
   | .shl=>if b<0 then none else some (.int k (k.wrap (a*2^(min b.toNat k.bits))))
   |_=>none
 | .string a, .string b=>
  match op with
  | .eql=>some (.bool (a.toList==b.toList))
  | .neq=>some (.bool (!(a.toList==b.toList)))
  | .lss=>some (.bool (Op.bytesLess a.toList b.toList))
  | .leq=>some (.bool (Op.bytesLess a.toList b.toList||a.toList==b.toList))
  | .gtr=>some (.bool !(Op.bytesLess a.toList b.toList||a.toList==b.toList))
  | .geq=>some (.bool !(Op.bytesLess a.toList b.toList))
  |_=>none
 |_,_=>none
def jo:AV->Option (Bool×Bool)
 | .one (.d (.v (.bool p)))=>some (true,p)
 | .gd c (.one (.d (.v (.bool p))))=>some (c,p)
 | .gd false _=>some (false,false)
 |_=>none
theorem Ak:(true==false)=false:=rfl
theorem z8:(false==true)=false:=rfl
def jP (b p q:Bool):Bool:=if b then p else q
theorem sa (b p:Bool):jP b p false=(b&&p):=by cases b<;>simp[jP]
theorem s8 (b q:Bool):jP b true q=(b||q):=by cases b<;>simp[jP]
def l6:Value->Value->Bool
 | .int _ a, .int _ b=>a==b
 | .bool a, .bool b=>a==b
 | .string a, .string b=>a.toList==b.toList
 |_,_=>false
def cb:Value->Nat
 | .int .i8 _=>1| .int .i16 _=>2| .int .i32 _=>3| .int .i64 _=>4| .int .u8 _=>5| .int .u16 _=>6| .int .u32 _=>7| .int .u64 _=>8
 | .bool _=>9
 | .string _=>10
 |_=>0
def dx:List Value->List Value->Bool
 |[],[]=>true
 |x::xs,y::ys=>l6 x y&&dx xs ys
 |_,_=>false
def o5:C->Option Value
 | .d (.v x)=>some x
 |_=>none
def ix:List C->Option (List Value)
 |[]=>some []
 |c::cs=>match o5 c,ix cs with
  |some x,some xs=>some (x::xs)
  |_,_=>none
inductive RO where
 |d (x:D)
 |own (sz n:Nat) (ds:List D) (bo:Bool)
inductive RF where
 |one (x:RO)
 |agg (l:List RO)
inductive Arg where
 |f (x:AV)
 |ob (o:Option FuncId) (l:List RO)
 |row (sz n:Nat) (ds:List D)
 |cW (pre post:List C) (sz n:Nat) (ds:List D)
abbrev Arg.obj (l:List RO):Arg:= .ob none l
def nn:Option FuncId->Value->Value
 |none,u=>u
 |some f,u=> .func (.func f) #[] #[u]
def j5:Option FuncId->C->C
 |none,x=>x
 |some f,x=> .dF f [x]
inductive ct where
 |bP (b:Nat)
 |val (u:Value)
def bI:List ct->List Nat
 |[]=>[]
 | .bP b::l=>b::bI l
 | .val _::l=>bI l
def RF.cells:RF->List RO
 | .one x=>[x]
 | .agg l=>l
def cy (A:Nat->Prop) (w:World) (pl:Pl):RO->Value->Prop
 | .d x,u=>Rd w A x u
 | .own sz n ds _,u=>n*sz≤ds.length/\n≤pl.cap/\bL w A pl sz ds/\
   (∃a,u= .slice a n pl.cap/\(pl.cap=0∨∃b o,pl.base=some (b,o)/\a=some ⟨b,o,none⟩))
def bM (A:Nat->Prop) (w:World) (γ:Nat->Pl):Nat->List RO->List Value->Prop
 |_,[],us=>us=[]
 |k,x::xs,us=>∃u us',us=u::us'/\cy A w (γ k) x u/\bM A w γ (k+1) xs us'
def NB (γ:Nat->Pl):Nat->List RO->Nat->Prop
 |_,[],_=>False
 |k, .own _ _ _ _::xs,b=>(∃o,(γ k).base=some (b,o))∨NB γ (k+1) xs b
 |k, .d _::xs,b=>NB γ (k+1) xs b
def fP (A:Nat->Prop) (w:World) (γ:Nat->Pl) (k:Nat):RF->Value->Prop
 | .one x,u=>cy A w (γ k) x u
 | .agg l,u=>∃us,u= .agg us/\bM A w γ k l us.toList
def cM (A:Nat->Prop) (w:World) (γ:Nat->Pl):Nat->List RF->List Value->Prop
 |_,[],us=>us=[]
 |k,x::xs,us=>∃u us',us=u::us'/\fP A w γ k x u/\cM A w γ (k+x.cells.length) xs us'
def bA (rfs:List RF) (objs:List (List RO)):List RO:=rfs.flatMap RF.cells++objs.flatten
def dO (A:Nat->Prop) (w:World) (γ:Nat->Pl):Nat->List (List RO)->List ct->Prop
 |_,[],bs=>bs=[]
 |_,_::_,[]=>False
 |k,l::ls, .bP b::bs=>(∃c e,w.heap[b]? =some (.cells c e (0,0))/\bM A w γ k l c.toList/\(∀u∈c.toList,flat u=true))/\dO A w γ (k+l.length) ls bs
 |k,l::ls, .val u::bs=>(l=[]∨bM A w γ k l [u])/\dO A w γ (k+l.length) ls bs
def jW (γ:Nat->Pl) (l:List RO):Prop:=
 ∀(i j b o o':Nat) (sz n:Nat) (ds:List D) (bo:Bool) (sz' n':Nat) (ds':List D) (bo':Bool),l[i]? =some (.own sz n ds bo)->l[j]? =some (.own sz' n' ds' bo')->
  (γ i).base=some (b,o)->(γ j).base=some (b,o')->i=j
structure dT (w:World) (A0 aH:Nat->Prop) (w':World) (bs:List ct) (rfs:List RF) (objs:List (List RO)) (u:Value):Prop where
 mem:∃γ:Nat->Pl,∃us:List Value,
  u=(match us with|[x]=>x|us=> .tuple us.toArray)/\
  cM (λ b=>A0 b∨NB γ 0 (bA rfs objs) b) w' γ 0 rfs us/\
  dO (λ b=>A0 b∨NB γ 0 (bA rfs objs) b) w' γ (rfs.flatMap RF.cells).length objs bs/\
  (∀b,NB γ 0 (bA rfs objs) b->(w.heap.size≤b∨aH b)/\b ∉ bI bs)/\
  (∀(i sz n:Nat) (ds:List D) (b o:Nat),(bA rfs objs)[i]? =some (.own sz n ds false)->(γ i).base=some (b,o)->w.heap.size≤b)/\
  jW γ (bA rfs objs)
 size:w.heap.size≤w'.heap.size
 aP:∀b,b<w.heap.size->¬aH b->w'.heap[b]? =w.heap[b]?
 os:w'.os=w.os
 out:w'.output=w.output
def bV (P:Program) (w:World) (A0 aH:Nat->Prop):Cx:={P,w0:=w,A0,aH}
def aV (P:Program) (w:World) (A0 aH:Nat->Prop) (γ:Nat->Pl):Nat->List Arg->List ct->List Value->Prop
 |_,[],bs,us=>us=[]/\bs=[]
 |k, .f x::xs,bs,us=>∃u us',us=u::us'/\ak (bV P w A0 aH) w [] (λ _ _=>⟨none,0⟩) x u/\aV P w A0 aH γ k xs bs us'
 |k, .ob o l::xs,bs,us=>∃b bs' us' c e,us=nn o (.pointer (some ⟨b,0,none⟩))::us'/\bs= .bP b::bs'/\aH b/\w.heap[b]? =some (.cells c e (0,0))/\
   bM A0 w γ k l c.toList/\(∀v∈c.toList,flat v=true)/\aV P w A0 aH γ (k+l.length) xs bs' us'
 |k, .row sz n ds::xs,bs,us=>∃u bs' us',us=u::us'/\bs= .val u::bs'/\cy A0 w (γ k) (.own sz n ds true) u/\aV P w A0 aH γ (k+1) xs bs' us'
 |k, .cW pre post sz n ds::xs,bs,us=>∃vs u ws bs' us',us= .agg (vs++u::ws).toArray::us'/\bs= .val u::bs'/\ar (bV P w A0 aH) w [] (λ _ _=>⟨none,0⟩) pre vs/\ar (bV P w A0 aH) w [] (λ _ _=>⟨none,0⟩) post ws/\
   cy A0 w (γ k) (.own sz n ds true) u/\aV P w A0 aH γ (k+1) xs bs' us'
def br:List Arg->List RO
 |[]=>[]
 | .f _::xs=>br xs
 | .ob _ l::xs=>l++br xs
 | .row sz n ds::xs=> .own sz n ds true::br xs
 | .cW _ _ sz n ds::xs=> .own sz n ds true::br xs
def ag (P:Program) (f:FuncId) (args:List Arg) (post:List RF->List (List RO)->Prop):Prop:=
 (∀(us:Array Value) (w:World),(callFunc f us).run P w= .ok (.enter f us) w)/\
 ∀(w:World) (A0 aH:Nat->Prop) (γ:Nat->Pl) (bs:List ct) (us:List Value),(∀b,A0 b->b<w.heap.size)->(∀b,aH b->A0 b)->
  aV P w A0 aH γ 0 args bs us->(∀b,NB γ 0 (br args) b->aH b/\b ∉ bI bs)->(bI bs).Nodup->jW γ (br args)->
  Calls P f us.toArray w λ e w'=>∃rfs objs u,post rfs objs/\e= .returned u/\dT w A0 aH w' bs rfs objs u
theorem ag.mono {P:Program} {f:FuncId} {args:List Arg} {post post':List RF->List (List RO)->Prop} (h:ag P f args post)
  (hp:∀r o,post r o->post' r o):ag P f args post':=⟨h.1,λ w A0 aH γ bs us h1 h2 h3 h4 h5 h6=>
 (h.2 w A0 aH γ bs us h1 h2 h3 h4 h5 h6).mono λ _ _ ⟨r,o,u,g1,g2,g3⟩=>⟨r,o,u,hp _ _ g1,g2,g3⟩⟩
def cX (s e:Nat):Nat->List RO->List C
 |_,[]=>[]
 |k, .d x::xs=> .d x::cX s e (k+1) xs
 |k, .own _ n _ _::xs=> .own ⟨s,k+1,e⟩ 0 n::cX s e (k+1) xs
def cT (B:Bool) (e:Nat):List RO->List (Option aM)
 |[]=>[]
 | .d _::xs=>none::cT B e xs
 | .own sz _ ds bo::xs=>some {e,var:=false,fz:=false,cf:=bo&&B,sz,cells:=ds.map C.d}::cT B e xs
def mI (s e k:Nat):RF->AV
 | .one x=>match cX s e k [x]with|[c]=> .one c|_=> .one .dead
 | .agg l=> .agg (cX s e k l)
def ed (s e:Nat):Nat->List RF->List AV
 |_,[]=>[]
 |k,x::xs=>mI s e k x::ed s e (k+x.cells.length) xs
def fb:List AV->AV
 |[x]=>x
 |l=> .eW l
def eu:List RO->Bool
 |[]=>true
 | .d _::xs=>eu xs
 | .own _ _ _ _::_=>false
def eD (B:Bool) (r:Rs) (dst:Option Nat) (rfs:List RF):AV×Rs:=
 let cells:=rfs.flatMap RF.cells
 if eu cells then(fb (ed 0 0 0 rfs),r)
 else match dst with
  |some d=>(fb (ed d (af r d) 0 rfs),az d {next:=af r d+1,l:=none::cT B (af r d) cells} r)
  |none=>(.one .dead,r)
abbrev cS (r:Rs) (dst:Option Nat) (rfs:List RF):AV×Rs:=eD false r dst rfs
def fh (r:Rs) (s:Nat):C->Option C
 | .d x=>some (.d (lQ x))
 | .aI n ds=>some (.aI n ds)
 | .own h lo n=>if h.s=s then(match rowOf r (.own h lo n)with
  |some (n,ds)=>some (.aI n ds)
  |none=>none)else none
 |_=>none
def fC (r:Rs) (s:Nat):List C->Option (List C)
 |[]=>some []
 |c::cs=>match fh r s c,fC r s cs with
  |some x,some xs=>some (x::xs)
  |_,_=>none
def aN (r:Rs):C->Option C
 | .d x=>some (.d x)
 | .aI n ds=>some (.aI n ds)
 | .own h lo n=>match rowOf r (.own h lo n)with
  |some (n,ds)=>some (.aI n ds)
  |none=>none
 | .cZ ds=>some (.cZ ds)
 | .ptr h off=>match ax r h with
  |some res=>match cQ (res.cells.drop off)with
   |some ds=>some (.cZ ds)
   |none=>(match fC r h.s (res.cells.drop off)with|some cs=>some (.cN cs)|none=>none)
  |none=>none
 | .dF f caps=>match lendCs r caps with
  |some cs=>some (.dF f cs)
  |none=>none
 | .ab=>none
 | .dead=>none
 | .cN cs=>match lendCs r cs with
  |some ys=>some (.cN ys)
  |none=>none
 | .cP h lo n k=>match rowOf r (.cP h lo n k)with
  |some (n,ds)=>some (.aI n ds)
  |none=>none
 | .lk _ _ _=>none
where lendCs (r:Rs):List C->Option (List C)
 |[]=>some []
 |c::cs=>match aN r c,lendCs r cs with
  |some x,some xs=>some (x::xs)
  |_,_=>none
def iA (r:Rs):AV->Option AV
 | .one x=>match aN r x with|some y=>some (.one y)|none=>none
 | .agg l=>match aN.lendCs r l with|some y=>some (.agg y)|none=>none
 |_=>none
def ef (r:Rs):List AV->Option (List Arg)
 |[]=>some []
 |x::xs=>match iA r x,ef r xs with
  |some y,some ys=>some (.f y::ys)
  |_,_=>none
def oU (P:Program) (c:Bool) (f:FuncId) (args:List Arg) (K:List RF->Prop):Prop:=
 ∃rfs,(c=true->ag P f args (λ r o=>r=rfs/\o=[]))/\K rfs
theorem oU.congr {P:Program} {c:Bool} {f:FuncId} {args args':List Arg} {K:List RF->Prop} (h:args=args'):oU P c f args K=oU P c f args' K:=by rw[h]
def gn:AV->Option (FuncId×List C)
 | .one (.d (.v (.func (.func f) ⟨[]⟩ ⟨[]⟩)))=>some (f,[])
 | .one (.dF f caps)=>some (f,caps)
 |_=>none
def gB (r:Rs):C->Option RO
 | .d x=>some (.d x)
 | .own h lo n=>match ax r h with
  |some res=>if res.fz=true then(match cQ (sub lo n res.sz res.cells)with|some ds=>some (.d (.sl n ds))|none=>none)
   else match lo,cQ res.cells with
    |0,some ds=>some (.own res.sz n ds res.cf)
    |_,_=>none
  |none=>none
 |_=>none
def ch (r:Rs):List C->Option (List RO)
 |[]=>some []
 |x::xs=>match gB r x,ch r xs with
  |some y,some ys=>some (y::ys)
  |_,_=>none
def e9 (r:Rs):List (List C)->Option (List (List RO))
 |[]=>some []
 |x::xs=>match ch r x,e9 r xs with
  |some y,some ys=>some (y::ys)
  |_,_=>none
def i9 (r:Rs):C->List (Nat×Nat)
 | .own h _ _=>match ax r h with
  |some res=>if res.fz=true then []else [(h.s,h.j)]
  |none=>[]
 |_=>[]
def dJ (r:Rs):List C->List (Nat×Nat)
 |[]=>[]
 |x::xs=>i9 r x++dJ r xs
def gg:List (Nat×Nat)->Bool
 |[]=>true
 |x::xs=> !xs.contains x&&gg xs
def iX (r:Rs) (d:Nat):AV->AV×Rs
 | .one (.own h lo n)=>
  if h.s=d then(.one (.own h lo n),r)else
  match ax r h with
  |some res=>
   if res.fz=true then(.one (.own h lo n),r)
   else match aa h.s r with
    |some rs=>(.one (.own ⟨d,1,af r d⟩ lo n),az d {next:=af r d+1,l:=[none,some {res with e:=af r d}]} (az h.s {rs with l:=rs.l.set h.j none} r))
    |none=>(.one .dead,r)
  |none=>(.one .dead,r)
 |x=>(x,r)
def jc (d:Nat):AV->AV
 | .one (.cP h lo n k)=>if h.s=d then .one (.cP h lo n k)else .one (.own h lo n)
 |x=>x
def jw (r:Rs) (d:Nat):AV->Prop
 | .one (.cP h lo n _)=>if h.s=d then True else(match ax r h with
  |some res=>(lo+n)*res.sz≤res.cells.length
  |none=>False)
 |_=>True
def dL (d e k:Nat) (c:C) (r:Rs):C×Option aM×Rs:=
 match c with
 | .own h lo n=>
  match (if h.s=d then none else ax r h),aa h.s r with
  |some res,some rs=>
   if res.fz=true then(c,none,r)
   else(.own ⟨d,k+1,e⟩ lo n,some {res with e:=e},az h.s {rs with l:=rs.l.set h.j none} r)
  |_,_=>(.dead,none,r)
 | .cP _ _ _ _=>(.dead,none,r)
 | .lk _ _ _=>(.dead,none,r)
 |c=>(c,none,r)
def b8 (d:Nat):Nat->Nat->List C->Rs->List C×List (Option aM)×Rs
 |_,_,[],r=>([],[],r)
 |e,k,c::cs,r=>((dL d e k c r).1::(b8 d (e+1) (k+1) cs (dL d e k c r).2.2).1,
   (dL d e k c r).2.1::(b8 d (e+1) (k+1) cs (dL d e k c r).2.2).2.1,(b8 d (e+1) (k+1) cs (dL d e k c r).2.2).2.2)
def bz {α:Type} (i:Nat):List α->List α->List α
 |[],l=>l
 |x::xs,l=>bz (i+1) xs (l.set i x)
def lN (ti:TI):List C:=ti.zero.map λ v=>C.d (.v v)
def sliceB (o:Option AV) (dflt:Int):Option Int:=
 match o with
 |none=>some dflt
 |some (.one (.d (.v (.int _ n))))=>some n
 |_=>none
def dM (v:List AV):Option Operand->Option AV
 |none=>none
 |some y=>some (ev v y)
def ew (c:Bool) (v:List AV):Option Operand->Prop
 |none=>True
 |some y=>aO c v y
section
variable (T:Nat->Option TI) (P:Program)
def mj (t f:Nat):Option Nat:=
 match T t with
 |some ti=>match ti.desc with
  | .struct fs=>match fs[f]? with
   |some (o,ft)=>match T ft with
    |some fi=>if fi.size=0 then none else some o
    |none=>none
   |none=>none
  |_=>none
 |none=>none
def kl (t f:Nat):Option (Nat×Nat):=
 match T t with
 |some ti=>match ti.desc with
  | .struct fs=>match fs[f]? with
   |some (o,ft)=>match T ft with
    |some fi=>some (o,fi.size)
    |none=>none
   |none=>none
  | .array _ e=>match T e with
   |some ei=>some (f*ei.size,ei.size)
   |none=>none
  |_=>none
 |none=>none
def j2:List (Nat×Nat)->Bool
 |[]=>true
 |(_,ft)::l=>(match T ft with|some _=>true|none=>false)&&j2 l
def mw (t:Nat):Bool:=
 match T t with
 |some ti=>match ti.desc with
  | .struct fs=>j2 T fs
  | .array _ e=>(match T e with|some _=>true|none=>false)
  |_=>false
 |none=>false
def jj (t:Nat):List (Nat×AV)->List C->Option (List C)
 |[],l=>some l
 |(i,y)::ps,l=>match kl T t i with
  |some (o,n)=>if(cellsOf y).length=n/\n≠0/\o+n≤l.length then jj t ps (bz o (cellsOf y) l)else none
  |none=>none
def dI (t:Nat):Option (Nat×TI):=
 match T t with
 |some ti=>match ti.desc with
  | .slice e=>match T e with
   |some ei=>some (e,ei)
   |none=>none
  |_=>none
 |none=>none
def fK (t:Nat) (l:List C):Prop×AV:=
 match T t with
 |some ti=>if lX ti.desc=true then(ti.size≤l.length, .agg (l.take ti.size))else match l with
  |x::_=>(True, .one x)
  |[]=>(False, .one .dead)
 |none=>(False, .one .dead)
def cO (t:Option Nat):Bool:=
 match t.bind T with
 |some ti=>(match ti.desc with| .slice _=>true|_=>false)
 |none=>false
def isStr (t:Option Nat):Bool:=
 match t.bind T with
 |some ti=>(match ti.desc with| .string=>true|_=>false)
 |none=>false
def isInt (t:Nat):Bool:=
 match T t with
 |some ti=>(match ti.desc with| .int _=>true|_=>false)
 |none=>false
def gf (o:BinOp) (x:Option Bool):Option C:=
 match o,x with
 | .eql,some b=>some (.d (.v (.bool b)))
 | .neq,some b=>some (.d (.v (.bool !b)))
 | .eql,none=>some .ab
 | .neq,none=>some .ab
 |_,_=>none
def jr (t:Nat):Bool:=
 match T t with
 |some ti=>(match ti.desc with| .pointer _=>true|_=>false)
 |none=>false
def isBool (t:Nat):Bool:=
 match T t with
 |some ti=>(match ti.desc with| .bool=>true|_=>false)
 |none=>false
def iN (r:Rs) (o:BinOp) (t:Nat) (x y:C):Option (Prop×C):=
 match x,y with
 | .d (.v (.bool p)), .d (.v (.bool q))=>match o with
  | .eql=>some (isBool T t=true, .d (.v (.bool (p==q))))
  | .neq=>some (isBool T t=true, .d (.v (.bool (p !=q))))
  |_=>none
 | .d (.v (.slice none 0 0)), .d (.v (.slice none 0 0))=>(gf o (some true)).map λ z=>(cO T (some t)=true,z)
 | .aI n ds, .d (.v (.slice none 0 0))=>(gf o (if n=0 then none else some false)).map λ z=>(cO T (some t)=true/\(n≠0->ds≠[]),z)
 | .d (.sl n ds), .d (.v (.slice none 0 0))=>(gf o (if n=0 then none else some false)).map λ z=>(cO T (some t)=true/\(n≠0->ds≠[]),z)
 | .own h _ n, .d (.v (.slice none 0 0))=>match ax r h with
  |some _=>(gf o (if n=0 then none else some false)).map λ z=>(cO T (some t)=true,z)
  |none=>none
 | .d (.v (.pointer none)), .d (.v (.pointer none))=>(gf o (some true)).map λ z=>(jr T t=true,z)
 | .ptr h _, .d (.v (.pointer none))=>match ax r h with
  |some _=>(gf o (some false)).map λ z=>(jr T t=true,z)
  |none=>none
 | .cZ _, .d (.v (.pointer none))=>(gf o (some false)).map λ z=>(jr T t=true,z)
 | .cN _, .d (.v (.pointer none))=>(gf o (some false)).map λ z=>(jr T t=true,z)
 |_,_=>none
def hC (r:Rs) (o:BinOp) (t:Nat) (a b:AV):Out:=
 match a,b with
 | .one (.d (.v x)), .one (.d (.v y))=>match mV o x y with
  |some z=>⟨True, .one (.d (.v z)),r⟩
  |none=>match iN T r o t (.d (.v x)) (.d (.v y))with
   |some (p,z)=>⟨p, .one z,r⟩
   |none=>bad
 | .one x, .one y=>match iN T r o t x y with
  |some (p,z)=>⟨p, .one z,r⟩
  |none=>bad
 | .agg l, .agg m=>match T t,ix l,ix m with
  |some ti,some xs,some ys=>
   (match o with
    | .eql=>⟨ti.eq=true/\xs.map cb=ti.zero.map cb/\ys.map cb=ti.zero.map cb, .one (.d (.v (.bool (dx xs ys)))),r⟩
    | .neq=>⟨ti.eq=true/\xs.map cb=ti.zero.map cb/\ys.map cb=ti.zero.map cb, .one (.d (.v (.bool !(dx xs ys)))),r⟩
    |_=>bad)
  |_,_,_=>bad
 |_,_=>bad
def i2 (t:Nat):Option (Nat×TI):=
 match T t with
 |some ti=>match ti.desc with
  | .array n e=>match T e with
   |some ei=>some (n,ei)
   |none=>none
  |_=>none
 |none=>none
def gY (r:Rs) (c:Bool) (t:Nat) (y iv:AV):Out:=
 match dI T t,iv,y with
 |some (_,ei), .one (.d (.v (.int _ n))), .one (.own h lo m)=>match ax r h with
  |some res=>⟨res.sz=ei.size/\ei.size≠0/\(c=true->0≤n/\n<m), .one (.ptr h ((lo+n.toNat)*ei.size)),r⟩
  |none=>bad
 |some (_,ei), .one (.d (.v (.int _ n))), .one (.aI m ds)=>⟨ei.size≠0/\ds.length=m*ei.size/\(c=true->0≤n/\n<m), .one (.cZ (ds.drop (n.toNat*ei.size))),r⟩
 |some (_,ei), .one (.d (.v (.int _ n))), .one (.d (.sl m ds))=>⟨ei.size≠0/\ds.length=m*ei.size/\(c=true->0≤n/\n<m), .one (.cZ (ds.drop (n.toNat*ei.size))),r⟩
 |none, .one (.d (.v (.int _ n))), .one (.ptr h off)=>match i2 T t,ax r h with
  |some (m,ei),some _=>⟨c=true->0≤n/\n<m, .one (.ptr h (off+n.toNat*ei.size)),r⟩
  |_,_=>bad
 |none, .one (.d (.v (.int _ n))), .one (.cZ ds)=>match i2 T t with
  |some (m,ei)=>⟨c=true->0≤n/\n<m, .one (.cZ (ds.drop (n.toNat*ei.size))),r⟩
  |none=>bad
 |_,_,_=>bad
def gO (r:Rs) (t f:Nat) (y:AV):Out:=
 match y,T t with
 | .agg l,some ti=>match ti.desc with
  | .struct fs=>match fs[f]? with
   |some (o,ft)=>⟨(fK T ft (l.drop o)).1,(fK T ft (l.drop o)).2,r⟩
   |none=>bad
  |_=>bad
 |_,_=>bad
def mr (ei:TI):Bool:=match ei.desc with
 | .int _=>ei.size==1
 | .pointer _=>ei.size==1
 |_=>false
def bytesOf:List D->Option (List UInt8)
 |[]=>some []
 | .v (.int .u8 n)::ds=>match bytesOf ds with
  |some l=>some (UInt8.ofNat n.toNat::l)
  |none=>none
 |_=>none
def oO (s:Nat):Bool:=match dI T s with
 |some (_,ei)=>match ei.desc with
  | .int .u8=>true
  |_=>false
 |none=>false
def fX (r:Rs) (s t:Nat) (y:AV):Out:=
 match T t with
 |some ti=>match ti.desc,y with
  | .int k, .one (.d (.v (.int _ n)))=>⟨isInt T s=true, .one (.d (.v (.int k (k.wrap n)))),r⟩
  | .string, .one x=>match rowOf r x with
   |some (n,ds)=>match bytesOf ds with
    |some l=>⟨oO T s=true/\ds.length=n, .one (.d (.v (.string ⟨l.toArray⟩))),r⟩
    |none=>bad
   |none=>bad
  |_,_=>bad
 |none=>bad
def fT (r:Rs) (t:Nat) (y:AV):Out:=
 match T t with
 |some ti=>match ti.desc,y with
  | .struct _, .agg l=>match ix l with
   |some vs=>⟨True, .one (.d (.v (.iface t (.agg vs.toArray)))),r⟩
   |none=>bad
  | .int _, .one (.d (.v (.int k n)))=>⟨True, .one (.d (.v (.iface t (.int k n)))),r⟩
  |_,_=>bad
 |none=>bad
def gR (r:Rs) (c:Bool) (t:Nat) (y:AV) (l h:Option AV):Out:=
 match y with
 | .one (.d (.v (.string s)))=>match isStr T (some t),sliceB l 0,sliceB h s.size with
  |true,some i,some j=>⟨c=true->0≤i/\i≤j/\j≤s.size, .one (.d (.v (.string (s.extract i.toNat j.toNat)))),r⟩
  |_,_,_=>bad
 | .one (.own hd lo n)=>match dI T t,sliceB l 0,sliceB h n,ax r hd with
  |some (_,ei),some i,some j,some res=>⟨res.sz=ei.size/\(c=true->0≤i/\i≤j/\j≤n), .one (.own hd (lo+i.toNat) (j.toNat - i.toNat)),r⟩
  |_,_,_,_=>bad
 | .one (.cP hd lo n k)=>match dI T t,sliceB l 0,sliceB h n,ax r hd with
  |some (_,ei),some i,some j,some res=>⟨res.sz=ei.size/\(c=true->0≤i/\i≤j/\lo+j≤k), .one (.cP hd (lo+i.toNat) (j.toNat - i.toNat) k),r⟩
  |_,_,_,_=>bad
 | .one (.aI n ds)=>match dI T t,sliceB l 0,sliceB h n with
  |some (_,ei),some i,some j=>⟨ds.length=n*ei.size/\(c=true->0≤i/\i≤j/\j≤n),
    .one (.aI (j.toNat - i.toNat) ((ds.drop (i.toNat*ei.size)).take ((j.toNat - i.toNat)*ei.size))),r⟩
  |_,_,_=>bad
 | .one (.d (.sl n ds))=>match dI T t,sliceB l 0,sliceB h n with
  |some (_,ei),some i,some j=>⟨ds.length=n*ei.size/\(c=true->0≤i/\i≤j/\j≤n),
    .one (.d (.sl (j.toNat - i.toNat) ((ds.drop (i.toNat*ei.size)).take ((j.toNat - i.toNat)*ei.size)))),r⟩
  |_,_,_=>bad
 |_=>bad
def gL (r:Rs) (c:Bool) (t:Nat) (y:AV) (l h m:Option AV):Out:=
 match y with
 | .one (.cP hd lo n k)=>match dI T t,sliceB l 0,(match h with|some _=>sliceB h n|none=>none),sliceB m n,ax r hd with
  |some _,some i,some j,some q,some _=>⟨c=true->0≤i/\i≤j/\j≤q/\lo+q≤k, .one .dead,r⟩
  |_,_,_,_,_=>bad
 |_=>bad
def qd (d off:Nat) (l:List C):Bool:=
 match l with
 |[.own hd _ _]=>hd.s==d&&hd.j==off+1
 |_=>false
def iy (r:Rs) (t:Nat) (av y:AV):Out:=
 match T t,av with
 |some ti, .one (.ptr h off)=>match ax r h with
  |some res=>
   if res.var=true then
    match aa h.s r with
    |some rs=>match qd h.s off (cellsOf y)with
     |true=>⟨(cellsOf y).length=ti.size/\ti.size≠0/\off+ti.size≤res.cells.length/\h.j=0/\gP (cellsOf y)=true, .one .dead,
       az h.s {rs with l:=rs.l.set 0 (some {res with cells:=bz off (cellsOf y) res.cells})} r⟩
     |false=>⟨(cellsOf y).length=ti.size/\ti.size≠0/\off+ti.size≤res.cells.length/\off+ti.size<rs.l.length/\h.j=0/\gP (cellsOf y)=true, .one .dead,
      az h.s {next:=rs.next+(cellsOf y).length,l:=bz (off+1) (b8 h.s rs.next off (cellsOf y) r).2.1 (rs.l.set 0 (some {res with cells:=bz off (b8 h.s rs.next off (cellsOf y) r).1 res.cells}))} (b8 h.s rs.next off (cellsOf y) r).2.2⟩
    |none=>bad
   else match eG r (cellsOf y)with
    |some (ds,r')=>match ax r' h,aa h.s r' with
     |some res',some rs=>⟨(cellsOf y).length=ti.size/\ti.size≠0/\off+ti.size≤res'.cells.length/\res'.fz=false, .one .dead,
       az h.s {rs with l:=rs.l.set h.j (some {res' with cells:=bz off (ds.map C.d) res'.cells})} r'⟩
     |_,_=>bad
    |none=>bad
  |none=>bad
 |_,_=>bad
def iC (r:Rs):AV->Option (Nat×List D)
 | .one (.d (.v (.string b)))=>some (b.size,b.data.toList.map λ (x:UInt8)=>D.v (.int .u8 x.toNat))
 | .one y=>rowOf r y
 |_=>none
def dY (z:List Value) (n:Nat):List D:=(List.replicate n (z.map D.v)).flatten
theorem nK {z:List Value} {n:Nat}:(dY z n).length=n*z.length:=by simp[dY]
def jU:AV->Option (Hd×Nat×Nat)
 | .one (.own h lo n)=>some (h,lo,n)
 | .one (.cP h lo n _)=>some (h,lo,n)
 |_=>none
def ji (r:Rs) (h:Hd) (lo:Nat) (ds:List D):Option Rs:=
 match ax r h,aa h.s r with
 |some res,some rs=>some (az h.s {rs with l:=rs.l.set h.j (some {res with cells:=res.cells.take (lo*res.sz)++ds.map C.d++res.cells.drop (lo*res.sz+ds.length)})} r)
 |_,_=>none
def m9 (r:Rs) (c:Bool) (dst:Option Nat) (ei:TI) (m:Nat) (ds2:List D) (h:Hd) (lo n k:Nat):Out:=
 match ax r h,aa h.s r with
 |some res,some rs=>match cQ (sub lo n res.sz res.cells)with
  |some ds1=>
   if lo+n+m≤k then
    ⟨ei.size≠0/\ds2.length=m*ei.size/\res.fz=false/\res.sz=ei.size/\(lo+n)*res.sz≤res.cells.length, .one (.cP ⟨h.s,h.j,rs.next⟩ 0 (n+m) (k - lo)),
     az h.s {next:=rs.next+1,l:=rs.l.set h.j (some {res with e:=rs.next,sz:=ei.size,cells:=(ds1++ds2).map C.d})} r⟩
   else match dst with
    |some d=>⟨ei.size≠0/\ei.bytes≠0/\ds2.length=m*ei.size/\res.sz=ei.size/\(lo+n)*res.sz≤res.cells.length/\(c=true->(n+m)*ei.bytes≤2^47), .one (.own ⟨d,1,af r d⟩ 0 (n+m)),
      az d {next:=af r d+1,l:=[none,some {e:=af r d,var:=false,fz:=false,sz:=ei.size,cells:=(ds1++ds2).map C.d}]} r⟩
    |none=>bad
  |none=>bad
 |_,_=>bad
def kH (r:Rs) (c:Bool) (dst:Option Nat) (t:Nat) (x y:AV):Out:=
 match dI T t,x,y,dst with
 |some (_,ei), .one (.d (.v (.int _ n))), .one (.d (.v (.int _ m))),some d=>
  ⟨c=true->0≤n/\n=m/\n<2^62/\ei.bytes*n≤2^47, .one (.own ⟨d,1,af r d⟩ 0 n.toNat),
   az d {next:=af r d+1,l:=[none,some {e:=af r d,var:=false,fz:=false,sz:=ei.size,cells:=(dY ei.zero n.toNat).map C.d}]} r⟩
 |_,_,_,_=>bad
def nb (r:Rs) (c:Bool) (dst:Option Nat) (ts:Array Nat) (s x:AV):Out:=
 match ts[0]?.bind (dI T),(match ts[1]? with|some t1=>isInt T t1|none=>false),x,s with
 |some (_,ei),true, .one (.d (.v (.int _ l))), .one (.cP h lo n k)=>match ax r h,dst with
  |some res,some d=>match cQ (sub lo n res.sz res.cells)with
   |some ds1=>⟨ei.size≠0/\ei.bytes≠0/\res.sz=ei.size/\(lo+n)*res.sz≤res.cells.length/\(c=true->0≤l/\l<2^62/\k<lo+n+l.toNat/\(n+l.toNat)*ei.bytes≤2^47), .one (.own ⟨d,1,af r d⟩ 0 (n+l.toNat)),
     az d {next:=af r d+1,l:=[none,some {e:=af r d,var:=false,fz:=false,sz:=ei.size,cells:=(ds1++dY ei.zero l.toNat).map C.d}]} r⟩
   |none=>bad
  |_,_=>bad
 |_,_,_,_=>bad
def ku (r:Rs):AV->Option (Nat×List D)
 | .one x=>rowOf r x
 |_=>none
def iI (r:Rs) (ts:Array Nat) (y x:AV):Out:=
 match ts[0]?.bind (dI T),jU y,ku r x with
 |some (_,ei),some (h,lo,n),some (m,ds2)=>match ax r h,ji r h lo (ds2.take (min m n*ei.size))with
  |some res,some r'=>⟨ei.size≠0/\res.sz=ei.size/\res.fz=false/\min m n*ei.size≤ds2.length/\lo*res.sz≤res.cells.length, .one (.d (.v (.int .i64 (min m n:Nat)))),r'⟩
  |_,_=>bad
 |_,_,_=>bad
def ir (r:Rs) (ts:Array Nat) (y:AV):Out:=
 match ts[0]?.bind (dI T),jU y with
 |some (_,ei),some (h,lo,n)=>match ax r h,ji r h lo (dY ei.zero n)with
  |some res,some r'=>⟨ei.size≠0/\res.sz=ei.size/\res.fz=false/\lo*res.sz≤res.cells.length, .one .dead,r'⟩
  |_,_=>bad
 |_,_=>bad
def iM (r:Rs) (c:Bool) (dst:Option Nat) (ts:Array Nat) (s x:AV):Out:=
 match ts[0]?.bind (dI T),(cO T ts[1]? ||isStr T ts[1]?),iC r x,s with
 |some (_,ei),true,some (m,ds2), .one (.own h lo n)=>match ax r h,aa h.s r with
  |some res,some rs=>match cQ (sub lo n res.sz res.cells)with
   |some ds1=>⟨ei.size≠0/\ei.bytes≠0/\ds2.length=m*ei.size/\res.fz=false/\res.sz=ei.size/\(c=true->(n+m)*ei.bytes≤2^47),
     .one (.own ⟨h.s,h.j,rs.next⟩ 0 (n+m)),
     az h.s {next:=rs.next+1,l:=rs.l.set h.j (some {res with e:=rs.next,sz:=ei.size,cells:=(ds1++ds2).map C.d})} r⟩
   |none=>bad
  |_,_=>bad
 |some (_,ei),true,some (m,ds2), .one (.d (.v (.slice none 0 0)))=>match dst with
  |some d=>⟨ei.size≠0/\ei.bytes≠0/\ds2.length=m*ei.size/\(c=true->m*ei.bytes≤2^47), .one (.own ⟨d,1,af r d⟩ 0 m),
    az d {next:=af r d+1,l:=[none,some {e:=af r d,var:=false,fz:=false,sz:=ei.size,cells:=ds2.map C.d}]} r⟩
  |none=>bad
 |some (_,ei),true,some (m,ds2), .one (.cP h lo n k)=>m9 r c dst ei m ds2 h lo n k
 |_,_,_,_=>nb T r c dst ts s x
def gZ (r:Rs) (t:Option Nat):AV->Out
 | .one (.cP hd lo _ k)=>match ax r hd with
  |some _=>⟨cO T t=true, .one (.d (.v (.int .i64 (k - lo:Nat)))),r⟩
  |none=>bad
 |_=>bad
def hU (r:Rs) (t:Option Nat):AV->Out
 | .one (.own hd _ n)=>match ax r hd with
  |some _=>⟨cO T t=true, .one (.d (.v (.int .i64 n))),r⟩
  |none=>bad
 | .one (.cP hd _ n _)=>match ax r hd with
  |some _=>⟨cO T t=true, .one (.d (.v (.int .i64 n))),r⟩
  |none=>bad
 | .one (.aI n _)=>⟨cO T t=true, .one (.d (.v (.int .i64 n))),r⟩
 | .one (.d (.sl n _))=>⟨cO T t=true, .one (.d (.v (.int .i64 n))),r⟩
 | .one (.d (.v (.slice none 0 0)))=>⟨cO T t=true, .one (.d (.v (.int .i64 0))),r⟩
 | .one (.d (.raw (.slice _ n _)))=>⟨cO T t=true, .one (.d (.v (.int .i64 n))),r⟩
 | .one (.d (.v (.string s)))=>⟨isStr T t=true, .one (.d (.v (.int .i64 s.size))),r⟩
 |_=>bad
def fu (r:Rs) (mx:Bool):List AV->Out
 |[.one (.d (.v (.int k a))), .one (.d (.v (.int _ b)))]=>⟨True, .one (.d (.v (.int k (if mx then max a b else min a b)))),r⟩
 |_=>bad
def Out.with (o:Out) (p:Prop):Out:=⟨p/\o.sc,o.x,o.r⟩
def ah (c:Bool) (v:List AV) (r:Rs) (dst:Option Nat) (op:Op):Out:=
 match op with
 | .move x=>⟨aO c v x,ev v x,r⟩
 | .assign x=>match dst with
  |some d=>⟨aO c v x/\jw r d (ev v x),(iX r d (jc d (ev v x))).1,(iX r d (jc d (ev v x))).2⟩
  |none=>bad
 | .pick t x z=>match ev v t,jo (aW v x),jo (aW v z)with
  | .one (.d (.v (.bool b))),some (cx,p),some (cz,q)=>
   ⟨aO c v t/\(c=true->b=true->cx=true)/\(c=true->b=false->cz=true), .one (.d (.v (.bool (jP b p q)))),r⟩
  |_,_,_=>bad
 | .unOp .not _ x=>match ev v x with
  | .one (.d (.v (.bool b)))=>⟨aO c v x, .one (.d (.v (.bool !b))),r⟩
  |_=>bad
 | .binOp o t x y _=>(hC T r o t (ev v x) (ev v y)).with (aO c v x/\aO c v y)
 | .convert s t x=>(fX T r s t (ev v x)).with (aO c v x)
 | .makeInterface t x=>(fT T r t (ev v x)).with (aO c v x)
 | .extract x i=>match ev v x with
  | .eW l=>match l[i]? with
   |some z=>⟨aO c v x,z,r⟩
   |none=>bad
  |_=>bad
 | .alloc t=>match T t,dst with
  |some ti,some d=>⟨True, .one (.ptr ⟨d,0,af r d⟩ 0),
    az d {next:=af r d+1,l:=some {e:=af r d,var:=true,fz:=false,sz:=0,cells:=lN ti}::List.replicate ti.zero.length none} r⟩
  |_,_=>bad
 | .load t x=>match ev v x with
  | .one (.ptr h off)=>match ax r h with
   |some res=>⟨aO c v x/\off≤res.cells.length/\(fK T t (res.cells.drop off)).1,(fK T t (res.cells.drop off)).2,r⟩
   |none=>bad
  | .one (.cZ ds)=>⟨aO c v x/\(fK T t (ds.map C.d)).1,(fK T t (ds.map C.d)).2,r⟩
  | .one (.cN cs)=>⟨aO c v x/\(fK T t cs).1,(fK T t cs).2,r⟩
  |_=>bad
 | .fieldAddr t x f=>match mj T t f,ev v x with
  |some o, .one (.ptr h off)=>match ax r h with
   |some _=>⟨aO c v x, .one (.ptr h (off+o)),r⟩
   |none=>bad
  |some o, .one (.cZ ds)=>⟨aO c v x/\o<ds.length, .one (.cZ (ds.drop o)),r⟩
  |some o, .one (.cN cs)=>⟨aO c v x/\o<cs.length, .one (.cN (cs.drop o)),r⟩
  |_,_=>bad
 | .indexAddr t x i=>(gY T r c t (ev v x) (ev v i)).with (aO c v x/\aO c v i)
 | .field t x f=>(gO T r t f (ev v x)).with (aO c v x)
 | .index t x i=>match ev v i,ev v x with
  | .one (.d (.v (.int _ n))), .one (.d (.v (.string s)))=>⟨aO c v x/\aO c v i/\isStr T (some t)=true/\(c=true->0≤n/\n<s.size),
    .one (.d (.v (.int .u8 (s.data.getD n.toNat 0).toNat))),r⟩
  | .one (.d (.v (.int _ n))), .agg l=>match i2 T t,l[n.toNat]? with
   |some (m,ei),some y=>⟨aO c v x/\aO c v i/\mr ei=true/\(c=true->0≤n/\n<m), .one y,r⟩
   |_,_=>bad
  |_,_=>bad
 | .slice t x lo hi none=>(gR T r c t (ev v x) (dM v lo) (dM v hi)).with (aO c v x/\ew c v lo/\ew c v hi)
 | .slice t x lo hi (some mx)=>(gL T r c t (ev v x) (dM v lo) (dM v hi) (dM v (some mx))).with (aO c v x/\ew c v lo/\ew c v hi/\aO c v mx)
 | .makeFunc (.func f) ⟨[]⟩ caps=>match iW (cj v caps.toList)with
  |some xs=>⟨cr c v caps.toList, .one (.dF f xs),r⟩
  |none=>bad
 | .makeFunc (.func _) ⟨_::_⟩ _=>⟨True, .one (.d .any),r⟩
 | .nilCheck x=>match ev v x with
  | .one (.ptr h off)=>match ax r h with
   |some _=>⟨aO c v x, .one (.ptr h off),r⟩
   |none=>bad
  | .one (.cZ ds)=>⟨aO c v x, .one (.cZ ds),r⟩
  | .one (.cN cs)=>⟨aO c v x, .one (.cN cs),r⟩
  | .one (.dF f caps)=>⟨aO c v x, .one (.dF f caps),r⟩
  |_=>bad
 | .box t x=>match T t,dst with
  |some ti,some d=>
   ⟨aO c v x/\(cellsOf (ev v x)).length=ti.size/\ti.size≠0/\gP (cellsOf (ev v x))=true, .one (.ptr ⟨d,0,af r d⟩ 0),
    az d {next:=af r d+1+(cellsOf (ev v x)).length,
             l:=some {e:=af r d,var:=true,fz:=false,sz:=0,cells:=(b8 d (af r d+1) 0 (cellsOf (ev v x)) (az d {next:=af r d,l:=[]} r)).1}::
               (b8 d (af r d+1) 0 (cellsOf (ev v x)) (az d {next:=af r d,l:=[]} r)).2.1}
     (b8 d (af r d+1) 0 (cellsOf (ev v x)) (az d {next:=af r d,l:=[]} r)).2.2⟩
  |_,_=>bad
 | .store t ad x=>(iy T r t (ev v ad) (ev v x)).with (aO c v ad/\aO c v x)
 | .build t ps=>match T t with
  |some ti=>match jj T t ((ps.toList.map (·.1)).zip (cj v (ps.toList.map (·.2)))) (lN ti)with
   |some l=>⟨cr c v (ps.toList.map (·.2))/\mw T t=true, .agg l,r⟩
   |none=>bad
  |none=>bad
 | .buildSlice t n ps=>match dI T t,dst with
  |some (_,ei),some d=>
   let r0:=az d {next:=af r d,l:=[]} r
   let ys:=cj v (ps.toList.map (·.2))
   match eG r0 (ys.flatMap cellsOf)with
   |some (ds,r')=>⟨cr c v (ps.toList.map (·.2))/\ps.toList.map (·.1)=List.range n/\ei.size≠0/\n*ei.size≤2^24/\(∀y∈ys,(cellsOf y).length=ei.size),
     .one (.own ⟨d,1,af r d⟩ 0 n),
     az d {next:=af r d+1,l:=[none,some {e:=af r d,var:=false,fz:=false,sz:=ei.size,cells:=ds.map C.d}]} r'⟩
   |none=>bad
  |_,_=>bad
 | .makeSlice t l k=>(kH T r c dst t (ev v l) (ev v k)).with (aO c v l/\aO c v k)
 | .makeMap _ none=>⟨True, .one (.d .any),r⟩
 | .call {callee:= .builtin .append,args:=args,argTypes:=ts}=>match args.toList with
  |[s,x]=>(iM T r c dst ts (ev v s) (ev v x)).with (aO c v s/\aO c v x)
  |_=>bad
 | .call {callee:= .builtin .len,args:=args,argTypes:=ts}=>match args.toList with
  |[x]=>(hU T r ts[0]? (ev v x)).with (aO c v x)
  |_=>bad
 | .call {callee:= .builtin .cap,args:=args,argTypes:=ts}=>match args.toList with
  |[x]=>(gZ T r ts[0]? (ev v x)).with (aO c v x)
  |_=>bad
 | .call {callee:= .builtin .copy,args:=args,argTypes:=ts}=>match args.toList with
  |[y,x]=>(iI T r ts (ev v y) (ev v x)).with (aO c v y/\aO c v x)
  |_=>bad
 | .call {callee:= .builtin .clear,args:=args,argTypes:=ts}=>match args.toList with
  |[y]=>(ir T r ts (ev v y)).with (aO c v y)
  |_=>bad
 | .call {callee:= .builtin .max,args:=args,argTypes:=_}=>(fu r true (cj v args.toList)).with (cr c v args.toList)
 | .call {callee:= .builtin .min,args:=args,argTypes:=_}=>(fu r false (cj v args.toList)).with (cr c v args.toList)
 |_=>bad
def bY (v:List AV) (r:Rs) (f:Operand) (args:Array Operand):Option (FuncId×List Arg):=
 match gn (ev v f),ef r (cj v args.toList)with
 |some (n,caps),some as=>match ef r (caps.map AV.one)with
  |some cs=>some (n,as++cs)
  |none=>none
 |_,_=>none
def oz:Op->Bool
 | .move _| .pick .. | .unOp .. | .binOp .. | .convert .. | .extract .. | .load .. | .fieldAddr .. | .field .. | .indexAddr .. | .index .. | .slice .. | .makeFunc .. | .nilCheck _| .build .. | .makeInterface .. =>true
 | .call {callee:= .builtin .len, .. }=>true
 | .call {callee:= .builtin .max, .. }=>true
 | .call {callee:= .builtin .min, .. }=>true
 |_=>false
def de (ops:List Oper) (v:List AV) (j:Nat):Option (Bool×Bool):=
 match ops[j]? with
 |some o=>match o.dst with
  |some d=>jo (v.getD d (.one .dead))
  |none=>none
 |none=>none
def bf (v:List AV) (dst:Option Nat) (x:AV):List AV:=
 match dst with
 |some d=>v.set d x
 |none=>v
def ni (o:Out) (k:AV->Rs->Prop):Prop:=o.sc/\k o.x o.r
def iP (c:Bool) (p:Prop):Prop:=c=true->p
theorem uv {c:Bool}:iP c True=True:=by simp[iP]
theorem wi {c:Bool} {p:Prop} (h:p):iP c p:=λ _=>h
theorem vR {p:Prop}:iP true p=p:=by simp[iP]
theorem vY {p:Prop}:iP false p=True:=by simp[iP]
def oN (c:Bool) (o:Out) (k:AV->Rs->Prop):Prop:=iP c o.sc/\k o.x o.r
theorem oN.congr {c:Bool} {o o':Out} {k:AV->Rs->Prop} (h:o=o'):oN c o k=oN c o' k:=by rw[h]
theorem ni.congr {o o':Out} {k:AV->Rs->Prop} (h:o=o'):ni o k=ni o' k:=by rw[h]
def fa (P:Program) (c:Bool) (a:Option (FuncId×List Arg)) (K:List RF->Prop):Prop:=
 match a with
 |some (n,as)=>oU P c n as K
 |none=>False
theorem fa.congr {P:Program} {c:Bool} {a a':Option (FuncId×List Arg)} {K:List RF->Prop} (h:a=a'):fa P c a K=fa P c a' K:=by rw[h]
mutual
def aX:C->List Nat
 | .own h _ _=>[h.s]
 | .ptr h _=>[h.s]
 | .dF _ caps=>bp caps
 | .d _=>[]
 | .aI _ _=>[]
 | .cZ _=>[]
 | .ab=>[]
 | .dead=>[]
 | .cN cs=>bp cs
 | .cP h _ _ _=>[h.s]
 | .lk h _ _=>[h.s]
def bp:List C->List Nat
 |[]=>[]
 |c::cs=>aX c++bp cs
end
mutual
def aY:AV->List Nat
 | .one x=>aX x
 | .agg l=>bp l
 | .eW l=>dq l
 | .gd _ x=>aY x
def dq:List AV->List Nat
 |[]=>[]
 |x::xs=>aY x++dq xs
end
def dg (v:List AV) (x:Operand):List Nat:=aY (aW v x)
def dt (v:List AV):List Operand->List Nat
 |[]=>[]
 |x::xs=>dg v x++dt v xs
def hY (v:List AV):List Operand->List Nat
 |[]=>[]
 |x::_=>dg v x
inductive Mv where
 |o (h:Hd)
 |r (h:Hd) (n:Nat)
def Mv.s:Mv->Nat
 | .o h=>h.s
 | .r h _=>h.s
def jk (s:Nat):List (Nat×Nat)->Bool
 |[]=>true
 |p::l=>p.1==s&&jk s l
def mK:C->Option (Hd×Nat×Nat)
 | .own h lo n=>some (h,lo,n)
 |_=>none
def gH:List C->Option (List C×(Hd×Nat×Nat)×List C)
 |[]=>none
 |x::xs=>match mK x with
  |some q=>some ([],q,xs)
  |none=>match gH xs with
   |some (a,q,b)=>some (x::a,q,b)
   |none=>none
def jz (r:Rs) (h:Hd) (off:Nat):Option (List RO):=
 match ax r h with
 |some res=>match ch r res.cells with
  |some l=>if res.var=true/\h.j=0/\off=0/\((bp res.cells).all (·==h.s)&&(jk h.s (dJ r res.cells)&&gg (dJ r res.cells)))=true then some l else none
  |none=>none
 |none=>none
def dE (r:Rs):AV->Option (Arg×Mv)
 | .agg l=>match gH l with
  |some (a,(h,lo,n),b)=>match aN.lendCs r a,aN.lendCs r b,ax r h with
   |some a',some b',some res=>match cQ res.cells with
    |some ds=>if res.var=false/\res.fz=false/\lo=0/\(bp a++bp b).contains h.s=false then some (.cW a' b' res.sz n ds, .r h n)else none
    |none=>none
   |_,_,_=>none
  |none=>none
 | .one (.ptr h off)=>match jz r h off with
  |some l=>some (.ob none l, .o h)
  |none=>none
 | .one (.dF f [.ptr h off])=>match jz r h off with
  |some l=>some (.ob (some f) l, .o h)
  |none=>none
 | .one (.own h lo n)=>match ax r h with
  |some res=>match cQ res.cells with
   |some ds=>if res.var=false/\res.fz=false/\lo=0 then some (.row res.sz n ds, .r h n)else none
   |none=>none
  |none=>none
 |_=>none
def eO (r:Rs):Nat->List AV->Option (List Arg×Mv)
 |_,[]=>none
 |0,x::xs=>match dE r x,ef r xs with
  |some (y,mv),some ys=>some (y::ys,mv)
  |_,_=>none
 |i+1,x::xs=>match iA r x,eO r i xs with
  |some y,some (ys,mv)=>some (.f y::ys,mv)
  |_,_=>none
def dl:Option Nat->List Nat
 |none=>[]
 |some d=>[d]
def fE:Nat->List AV->List Nat
 |_,[]=>[]
 |0,_::xs=>dq xs
 |i+1,x::xs=>aY x++fE i xs
def dv (i:Nat) (v:List AV) (r:Rs) (f:Operand) (args:Array Operand):Option (FuncId×List Arg×Mv×List Nat):=
 match gn (ev v f)with
 |some (n,caps)=>match eO r i (cj v args.toList++caps.map AV.one)with
  |some (as,mv)=>some (n,as,mv,fE i (cj v args.toList++caps.map AV.one))
  |none=>none
 |none=>none
def dB (r:Rs) (dst:Option Nat) (mv:Mv) (aI:List Nat) (l':List RO):Prop:=
 match mv with
 | .o h=>match ax r h with
  |some res=>(dl dst++aI).contains h.s=false/\l'.length=res.cells.length
  |none=>False
 | .r h n=>match ax r h with
  |some res=>(dl dst++aI).contains h.s=false/\(match l' with
   |[]=>True
   |[.own sz n' ds' _]=>n'=n/\0<n/\sz=res.sz/\ds'.length=res.cells.length
   |_=>False)
  |none=>False
def hG (r:Rs) (mv:Mv):Bool:=
 match aa mv.s r with
 |some rs=>rs.l.any λ x=>match x with|some res=>res.cf|none=>false
 |none=>false
def fJ (r:Rs) (mv:Mv) (l':List RO):Rs:=
 match mv with
 | .o h=>match ax r h with
  |some res=>az h.s {next:=af r h.s+1,l:=some {res with cells:=cX h.s (af r h.s) 0 l'}::cT (hG r (.o h)) (af r h.s) l'} r
  |none=>r
 | .r h _=>match ax r h,aa h.s r with
  |some res,some rs=>(match l' with
   |[.own _ _ ds' _]=>az h.s {rs with l:=rs.l.set h.j (some {res with cells:=ds'.map C.d})} r
   |_=>az h.s {rs with l:=rs.l.set h.j none} r)
  |_,_=>r
def bindM (r:Rs) (dst:Option Nat) (mv:Mv) (rfs:List RF) (l':List RO):AV×Rs:=eD (hG r mv) (fJ r mv l') dst rfs
abbrev pK:Nat:=1000000
def cI (r:Rs) (d:Nat) (rfs:List RF) (l:List RO):AV×Rs:=
 if eu (rfs.flatMap RF.cells)=true then
  (fb (.one (.ptr ⟨d,0,af r d⟩ 0)::ed 0 0 0 rfs),az d {next:=af r d+1,l:=some {e:=af r d,var:=true,fz:=false,sz:=0,cells:=cX d (af r d) 0 l}::cT false (af r d) l} r)
 else(fb (.one (.ptr ⟨d,0,af r d⟩ 0)::ed (d+pK) (af r (d+pK)) 0 rfs),
  az (d+pK) {next:=af r (d+pK)+1,l:=none::cT false (af r (d+pK)) (rfs.flatMap RF.cells)}
   (az d {next:=af r d+1,l:=some {e:=af r d,var:=true,fz:=false,sz:=0,cells:=cX d (af r d) 0 l}::cT false (af r d) l} r))
def wJ (P:Program) (f:FuncId) (args:List Arg) (post:List ct->List RF->List (List RO)->Prop):Prop:=
 (∀(us:Array Value) (w:World),(callFunc f us).run P w= .ok (.enter f us) w)/\
 ∀(w:World) (A0:Nat->Prop) (us:List Value),(∀b,A0 b->b<w.heap.size)->aV P w A0 (λ _=>False) (λ _=>⟨none,0⟩) 0 args [] us->
  Calls P f us.toArray w λ e w'=>∃bs rfs objs u,post bs rfs objs/\e= .returned u/\(∀b∈bI bs,w.heap.size≤b)/\dT w (λ b=>A0 b∨b∈bI bs) (λ _=>False) w' bs rfs objs u
abbrev eb (b:Nat):Value:= .pointer (some ⟨b,0,none⟩)
def c8 (P:Program) (f:FuncId) (args:List Arg) (rfs:List RF) (l:List RO):Prop:=
 wJ P f args λ bs r o=>∃b,bs=[.bP b]/\r= .one (.d (.v (eb b)))::rfs/\o=[l]
def iV (P:Program) (a:Option (FuncId×List Arg)) (K:List RF->List RO->Prop):Prop:=
 match a with
 |some (n,as)=>∃rfs l,c8 P n as rfs l/\K rfs l
 |none=>False
def iU (P:Program) (r:Rs) (dst:Option Nat) (a:Option (FuncId×List Arg×Mv×List Nat)) (K:Mv->List RF->List RO->Prop):Prop:=
 match a with
 |some (n,as,mv,aI)=>∃rfs l',ag P n as (λ r o=>r=rfs/\o=[l'])/\dB r dst mv aI l'/\K mv rfs l'
 |none=>False
structure FP where
 t:List Nat
 w:List Nat
def FP.both (l:List Nat):FP:=⟨l,l⟩
def bK (v:List AV) (dst:Option Nat) (op:Op):FP:=
 match op with
 | .load _ x=>⟨dg v x,[]⟩
 | .convert _ _ x=>⟨dg v x,[]⟩
 | .fieldAddr _ x _=>⟨dg v x,[]⟩
 | .indexAddr _ x _=>⟨dg v x,[]⟩
 | .slice _ x _ _ _=>⟨dg v x,[]⟩
 | .nilCheck x=>⟨dg v x,[]⟩
 | .binOp _ _ x y _=>⟨dg v x++dg v y,[]⟩
 | .alloc _=> .both (dl dst)
 | .makeSlice _ l k=> .both (dg v l++(dg v k++dl dst))
 | .assign x=> .both (dg v x++dl dst)
 | .box _ x=> .both (dg v x++dl dst)
 | .store _ a x=> .both (dg v a++dg v x)
 | .buildSlice _ _ ps=> .both (dt v (ps.toList.map (·.2))++dl dst)
 | .call {callee:= .value f,args:=args,argTypes:=_}=>⟨dg v f++(dt v args.toList++dl dst),dl dst⟩
 | .call {callee:= .builtin .append,args:=args,argTypes:=_}=>⟨dt v args.toList++dl dst,hY v args.toList++dl dst⟩
 | .call {callee:= .builtin .copy,args:=args,argTypes:=_}=>⟨dt v args.toList,hY v args.toList⟩
 | .call {callee:= .builtin .clear,args:=args,argTypes:=_}=>⟨dt v args.toList,hY v args.toList⟩
 | .call {callee:= .builtin .cap,args:=args,argTypes:=_}=>⟨dt v args.toList,[]⟩
 | .call {callee:= .builtin .len,args:=args,argTypes:=_}=>⟨dt v args.toList,[]⟩
 |_=>⟨[],[]⟩
def FO (v:List AV) (dst:Option Nat) (op:Op) (s:Nat):FP:=⟨(bK v dst op).t++[s],s::dl dst⟩
structure M where
 fp:Option (List FP)
 off:List (Nat×Bool)
def eA (dst:Option Nat) (s:Nat):M->M
 |⟨some (fp::l),off⟩=>⟨some (⟨fp.t++[s],s::dl dst⟩::l),off⟩
 |x=>x
def bS (m:M) (v:List AV) (dst:Option Nat) (op:Op):M:=
 match m with
 |⟨none,off⟩=>⟨none,off⟩
 |⟨some l,off⟩=>⟨some (bK v dst op::l),off⟩
def kM:List (Nat×Bool)->Nat->Bool->Bool
 |[],_,_=>false
 |(a,b)::l,j,w=>(a==j&&b==w)||kM l j w
abbrev i4:AV:= .gd false (.one (.d (.v (.bool false))))
def pf (want:Bool):Option (Bool×Bool)->Prop
 |some (c',b)=>(c'&&(b==want))=false
 |none=>False
def jg (ops:List Oper):List Nat:=
 ops.foldl (λ acc o=>acc++[o.after.foldl (λ s e=>if Region.binds .any e then s|||2^e.on|||acc.getD e.on 0 else s) 0]) []
def nk (a b:List Nat):Bool:=a.all λ x=> !b.contains x
def FP.apart (x y:FP):Bool:=nk x.w y.t&&nk x.t y.w&&nk x.w y.w
def kv (all:List Oper) (recs:List FP):Bool:=
 recs.zipIdx.all λ y=>recs.zipIdx.all λ x=> !decide (x.2<y.2)||((jg all).getD y.2 0).testBit x.2||FP.apart x.1 y.1
def na (all:List Oper) (m:M):Prop:=
 match m.fp with
 |none=>True
 |some l=>kv all l.reverse=true
def mM (P:Program) (v:List AV) (r:Rs) (f:Operand) (args:Array Operand) (d:Value):Prop:=
 flat d=true/\∃n,gn (ev v f)=some (n,[])/\∀(cx:Cx) (v':List AV) (r':Rs) (a:Act) (w:World) (β:Nat->Nat->Pl),cx.P=P->(∀s∈dt v args.toList,aa s r'=aa s r)->
  aw cx ⟨v',r'⟩ a w β->∀us,aL cx w r' β (cj v args.toList) us->(callFunc n us.toArray).run P w= .ok (.value d) w
inductive Ex where
 |normal
 |exit (id:Nat)
 |ret
 |panic (x:Value)
def lR:Ex->Exit
 | .normal=> .normal
 | .exit id=> .exit id
 | .ret=> .ret
 | .panic x=> .panic [{v:=x,recovered:=false}]
def xk (P:Program) (y:Code) (g:G) (Q:Ex->G->Prop):Prop:=
 ∀(cx:Cx),cx.P=P->∀(R:Exit->Act->World->Prop),(∀e g a w,cU cx g a w->Q e g->R (lR e) a w)->∀(a:Act) (w:World),cU cx g a w->y.wp P R a w
structure l0 (w:World) (aH:Nat->Prop) (w':World):Prop where
 size:w.heap.size≤w'.heap.size
 aP:∀b,b<w.heap.size->¬aH b->w'.heap[b]? =w.heap[b]?
 os:w'.os=w.os
 out:w'.output=w.output
def oE (P:Program) (f:FuncId) (args:List Arg) (x:Value):Prop:=
 (∀(us:Array Value) (w:World),(callFunc f us).run P w= .ok (.enter f us) w)/\
 ∀(w:World) (A0 aH:Nat->Prop) (γ:Nat->Pl) (bs:List ct) (us:List Value),(∀b,A0 b->b<w.heap.size)->(∀b,aH b->A0 b)->
  aV P w A0 aH γ 0 args bs us->(∀b,NB γ 0 (br args) b->aH b/\b ∉ bI bs)->(bI bs).Nodup->jW γ (br args)->
  Calls P f us.toArray w λ e w'=>e= .panicked [{v:=x,recovered:=false}]/\l0 w aH w'
def jZ (r:Rs) (mv:Mv):Rs:=
 match aa mv.s r with
 |some rs=>az mv.s {rs with l:=[]} r
 |none=>r
def ng (P:Program) (m:M) (v:List AV) (r:Rs) (f:Operand) (args:Array Operand) (a:Option (FuncId×List Arg)) (K:Ex->G->Prop):Prop:=
 m.fp=none/\∃n as x,oE P n as x/\((a=some (n,as)/\K (.panic x) ⟨v,r⟩)∨(∃i mv aI l',dv i v r f args=some (n,as,mv,aI)/\dB r none mv aI l'/\K (.panic x) ⟨v,jZ r mv⟩))
def oT (m:M) (v:List AV) (r:Rs) (C:List AV->Rs->Prop):Prop:=
 m.fp=none/\∃i h lo n k ds r',v[i]? =some (.one (.own h lo n))/\
  (∀(cx:Cx) (a:Act) (w:World),cU cx ⟨v,r⟩ a w->cU cx ⟨v.set i (.one (.d (.sl k ds))),r'⟩ a w)/\C (v.set i (.one (.d (.sl k ds)))) r'
def nd (m:M) (v:List AV) (r:Rs) (K:Ex->G->Prop) (y:AV):Prop:=
 m.fp=none/\match y with
  | .one (.d (.v (.iface t z)))=>K (.panic (.iface t z)) ⟨v,r⟩
  |_=>False
def aZ (all:List Oper):M->List Oper->List AV->Rs->(Ex->G->Prop)->Prop
 |m,[],v,r,K=>na all m/\K .normal ⟨v,r⟩
 |m,o::rest,v,r,K=>
  match o.guard with
  |none=>match o.op with
   | .call {callee:= .value f,args:=args,argTypes:=_}=>aO true v f/\cr true v args.toList/\
     ((fa P true (bY v r f args) λ rfs=>aZ all (bS m v o.dst o.op) rest (bf v o.dst (cS r o.dst rfs).1) (cS r o.dst rfs).2 K)∨
      (∃i,iU P r o.dst (dv i v r f args) λ mv rfs l'=>aZ all (eA o.dst mv.s (bS m v o.dst o.op)) rest (bf v o.dst (bindM r o.dst mv rfs l').1) (bindM r o.dst mv rfs l').2 K)∨
      (∃d,mM P v r f args d/\aZ all (bS m v o.dst o.op) rest (bf v o.dst (.one (.d (.v d)))) r K)∨
      (∃d,o.dst=some d/\iV P (bY v r f args) λ rfs l=>aZ all (eA o.dst (d+pK) (bS m v o.dst o.op)) rest (bf v o.dst (cI r d rfs l).1) (cI r d rfs l).2 K)∨
      ng P (bS m v o.dst o.op) v r f args (bY v r f args) K∨
      oT (bS m v o.dst o.op) v r λ v' r'=>aO true v' f/\cr true v' args.toList/\
      ((fa P true (bY v' r' f args) λ rfs=>aZ all (bS m v o.dst o.op) rest (bf v' o.dst (cS r' o.dst rfs).1) (cS r' o.dst rfs).2 K)∨
       (∃i,iU P r' o.dst (dv i v' r' f args) λ mv rfs l'=>aZ all (eA o.dst mv.s (bS m v o.dst o.op)) rest (bf v' o.dst (bindM r' o.dst mv rfs l').1) (bindM r' o.dst mv rfs l').2 K)∨
       (∃d,o.dst=some d/\iV P (bY v' r' f args) λ rfs l=>aZ all (eA o.dst (d+pK) (bS m v o.dst o.op)) rest (bf v' o.dst (cI r' d rfs l).1) (cI r' d rfs l).2 K)))
   | .panic y=>aO true v y/\nd (bS m v o.dst o.op) v r K (ev v y)
   |op=>ni (ah T true v r o.dst op) λ x r'=>aZ all (bS m v o.dst o.op) rest (bf v o.dst x) r' K
  |some (j,want)=>
   match kM (bS m v o.dst o.op).off j want with
   |true=>pf want (de all v j)/\aZ all (bS m v o.dst o.op) rest (bf v o.dst i4) r K
   |false=>match de all v j with
   |some (c',b)=>
    match o.op with
    | .call {callee:= .value f,args:=args,argTypes:=_}=>aO (c'&&(b==want)) v f/\cr (c'&&(b==want)) v args.toList/\
      ((fa P (c'&&(b==want)) (bY v r f args) λ rfs=>eu (rfs.flatMap RF.cells)=true/\
       aZ all (bS m v o.dst o.op) rest (bf v o.dst (.gd (c'&&(b==want)) (fb (ed 0 0 0 rfs)))) r K)∨
       ((c'&&(b==want))=false/\aZ all (bS m v o.dst o.op) rest (bf v o.dst i4) r K)∨
       (((c'&&(b==want))=true->(fa P true (bY v r f args) λ rfs=>aZ all (bS m v o.dst o.op) rest (bf v o.dst (cS r o.dst rfs).1) (cS r o.dst rfs).2 K)∨
        (∃i,iU P r o.dst (dv i v r f args) λ mv rfs l'=>aZ all (eA o.dst mv.s (bS m v o.dst o.op)) rest (bf v o.dst (bindM r o.dst mv rfs l').1) (bindM r o.dst mv rfs l').2 K)∨
        (∃d,mM P v r f args d/\aZ all (bS m v o.dst o.op) rest (bf v o.dst (.one (.d (.v d)))) r K)∨
        (∃d,o.dst=some d/\iV P (bY v r f args) λ rfs l=>aZ all (eA o.dst (d+pK) (bS m v o.dst o.op)) rest (bf v o.dst (cI r d rfs l).1) (cI r d rfs l).2 K)∨
        ng P (bS m v o.dst o.op) v r f args (bY v r f args) K∨
        oT (bS m v o.dst o.op) v r λ v' r'=>aO true v' f/\cr true v' args.toList/\
         ((fa P true (bY v' r' f args) λ rfs=>aZ all (bS m v o.dst o.op) rest (bf v' o.dst (cS r' o.dst rfs).1) (cS r' o.dst rfs).2 K)∨
          (∃i,iU P r' o.dst (dv i v' r' f args) λ mv rfs l'=>aZ all (eA o.dst mv.s (bS m v o.dst o.op)) rest (bf v' o.dst (bindM r' o.dst mv rfs l').1) (bindM r' o.dst mv rfs l').2 K)∨
          (∃d,o.dst=some d/\iV P (bY v' r' f args) λ rfs l=>aZ all (eA o.dst (d+pK) (bS m v o.dst o.op)) rest (bf v' o.dst (cI r' d rfs l).1) (cI r' d rfs l).2 K)))/\
        ((c'&&(b==want))=false->aZ all ⟨(bS m v o.dst o.op).fp,(j,want)::(bS m v o.dst o.op).off⟩ rest (bf v o.dst i4) r K)))
    |op=>if oz op=true then oN (c'&&(b==want)) (ah T (c'&&(b==want)) v r o.dst op) λ x _=>aZ all (bS m v o.dst o.op) rest (bf v o.dst (.gd (c'&&(b==want)) x)) r K
     else((c'&&(b==want))=true->ni (ah T true v r o.dst op) λ x r'=>aZ all (bS m v o.dst o.op) rest (bf v o.dst x) r' K)/\
      ((c'&&(b==want))=false->aZ all ⟨(bS m v o.dst o.op).fp,(j,want)::(bS m v o.dst o.op).off⟩ rest (bf v o.dst i4) r K)
   |none=>False
theorem aZ.congr {all ops:List Oper} {m:M} {v v':List AV} {r r':Rs} {K:Ex->G->Prop} (h1:v=v') (h2:r=r'):aZ T P all m ops v r K=aZ T P all m ops v' r' K:=by rw[h1,h2]
def pe (f:G->Prop) (g:G):Prop:=f g
theorem pe.congr {f:G->Prop} {g g':G} (h:g=g'):pe f g=pe f g':=by rw[h]
def Gh (g g':G):Prop:=∀(cx:Cx) (a:Act) (w:World),cU cx g a w->cU cx g' a w
def E1 (round:G->(Ex->G->Prop)->Prop) (g:G) (Q:Ex->G->Prop):Prop:=
 ∃(I:Nat->G->Prop) (n0:Nat),(∃g0,Gh g g0/\I n0 g0)/\∀n g',I n g'->round g' λ e g''=>match e with
  | .normal=>∃n' g0,n'<n/\Gh g'' g0/\I n' g0
  |e=>Q e g''
def mY (l:List Oper):Bool:=
 Region.noSelect l.toArray&&
 l.zipIdx.all λ y=>y.1.after.all (λ e=> !Region.binds .any e||decide (e.on<y.2))&&
  l.zipIdx.all λ x=> !decide (x.2<y.2)||((jg l).getD y.2 0).testBit x.2||x.1.apart l.toArray y.1
def oL (l:List Oper):Prop:=mY l=true
def bZ:Code->G->(Ex->G->Prop)->Prop
 | .skip,g,Q=>Q .normal g
 | .region _ ops d,g,Q=>match d with
  |true=>oL ops.toList/\aZ T P ops.toList ⟨some [],[]⟩ ops.toList g.v g.r Q
  |false=>aZ T P ops.toList ⟨none,[]⟩ ops.toList g.v g.r Q
 | .seq x y,g,Q=>bZ x g λ e g'=>match e with
  | .normal=>(∃g'',Gh g' g''/\pe (λ g=>bZ y g Q) g'')∨xk P y g' Q
  |e=>Q e g'
 | .cond c x y,g,Q=>match ev g.v c with
  | .one (.d (.v (.bool b)))=>aO true g.v c/\(b=true->bZ x g Q)/\(b=false->bZ y g Q)
  | .one .ab=>aO true g.v c/\bZ x g Q/\bZ y g Q
  |_=>False
 | .block id x,g,Q=>bZ x g λ e g'=>match e with
  | .exit id'=>if id'=id then Q .normal g' else Q (.exit id') g'
  |e=>Q e g'
 | .loop x,g,Q=>E1 (λ g Q=>bZ x g Q) g Q
 | .exit id,g,Q=>Q (.exit id) g
 | .ret,g,Q=>Q .ret g
 | .scope x,g,Q=>bZ x g Q
 | .label _,g,Q=>Q .normal g
 |_,_,_=>False
def ga (y:Code) (Q:Ex->G->Prop) (e:Ex) (g:G):Prop:=
 match e with
 | .normal=>(∃g',Gh g g'/\bZ T P y g' Q)∨xk P y g Q
 |e=>Q e g
def mW (id:Nat) (Q:Ex->G->Prop) (e:Ex) (g:G):Prop:=
 match e with
 | .exit id'=>if id'=id then Q .normal g else Q (.exit id') g
 |e=>Q e g
def wQ (x:Code) (g:G) (Q:Ex->G->Prop):Prop:=
 ∃(I:Nat->G->Prop) (n0:Nat),(∃g0,Gh g g0/\I n0 g0)/\∀n g',I n g'->bZ T P x g' λ e g''=>match e with
  | .normal=>∃n' g0,n'<n/\Gh g'' g0/\I n' g0
  |e=>Q e g''
def oX (v:AV) (s:Prop) (x y:Code) (g:G) (Q:Ex->G->Prop):Prop:=
 match v with
 | .one (.d (.v (.bool b)))=>s/\(b=true->bZ T P x g Q)/\(b=false->bZ T P y g Q)
 | .one .ab=>s/\bZ T P x g Q/\bZ T P y g Q
 |_=>False
def rB (all:List Oper) (m:M) (rest:List Oper) (dst:Option Nat) (v:List AV) (K:Ex->G->Prop) (o:Out):Prop:=o.sc/\aZ T P all m rest (bf v dst o.x) o.r K
def ea (all:List Oper) (m:M) (rest:List Oper) (c:Bool) (dst:Option Nat) (v:List AV) (r:Rs) (K:Ex->G->Prop) (o:Out):Prop:=iP c o.sc/\aZ T P all m rest (bf v dst (.gd c o.x)) r K
def mN (all:List Oper) (m:M) (rest:List Oper) (dst:Option Nat) (v:List AV) (r:Rs) (K:Ex->G->Prop) (f:Operand) (args:Array Operand) (a:Option (FuncId×List Arg)):Prop:=
 (fa P true a λ rfs=>aZ T P all m rest (bf v dst (cS r dst rfs).1) (cS r dst rfs).2 K)∨
  (∃i,iU P r dst (dv i v r f args) λ mv rfs l'=>aZ T P all (eA dst mv.s m) rest (bf v dst (bindM r dst mv rfs l').1) (bindM r dst mv rfs l').2 K)∨
  (∃d,mM P v r f args d/\aZ T P all m rest (bf v dst (.one (.d (.v d)))) r K)∨
  (∃d,dst=some d/\iV P a λ rfs l=>aZ T P all (eA dst (d+pK) m) rest (bf v dst (cI r d rfs l).1) (cI r d rfs l).2 K)∨
  ng P m v r f args a K∨
  oT m v r λ v' r'=>aO true v' f/\cr true v' args.toList/\
   ((fa P true (bY v' r' f args) λ rfs=>aZ T P all m rest (bf v' dst (cS r' dst rfs).1) (cS r' dst rfs).2 K)∨
    (∃i,iU P r' dst (dv i v' r' f args) λ mv rfs l'=>aZ T P all (eA dst mv.s m) rest (bf v' dst (bindM r' dst mv rfs l').1) (bindM r' dst mv rfs l').2 K)∨
    (∃d,dst=some d/\iV P (bY v' r' f args) λ rfs l=>aZ T P all (eA dst (d+pK) m) rest (bf v' dst (cI r' d rfs l).1) (cI r' d rfs l).2 K))
def oF (all:List Oper) (m:M) (rest:List Oper) (c:Bool) (dst:Option Nat) (v:List AV) (r:Rs) (K:Ex->G->Prop) (f:Operand) (args:Array Operand) (j:Nat) (want:Bool) (a:Option (FuncId×List Arg)):Prop:=
 (fa P c a λ rfs=>eu (rfs.flatMap RF.cells)=true/\aZ T P all m rest (bf v dst (.gd c (fb (ed 0 0 0 rfs)))) r K)∨
  (c=false/\aZ T P all m rest (bf v dst i4) r K)∨
  ((c=true->mN T P all m rest dst v r K f args a)/\(c=false->aZ T P all ⟨m.fp,(j,want)::m.off⟩ rest (bf v dst i4) r K))
def pd (all:List Oper) (m:M) (rest:List Oper) (v:List AV) (r:Rs) (K:Ex->G->Prop) (dst:Option Nat) (op:Op):Prop:=
 match op with
 | .call {callee:= .value f,args:=args,argTypes:=_}=>aO true v f/\cr true v args.toList/\mN T P all m rest dst v r K f args (bY v r f args)
 | .panic y=>aO true v y/\nd m v r K (ev v y)
 |op=>rB T P all m rest dst v K (ah T true v r dst op)
def EK (all:List Oper) (m:M) (rest:List Oper) (v:List AV) (r:Rs) (K:Ex->G->Prop) (dst:Option Nat) (op:Op) (c:Bool) (j:Nat) (want:Bool):Prop:=
 (c=true->rB T P all m rest dst v K (ah T true v r dst op))/\(c=false->aZ T P all ⟨m.fp,(j,want)::m.off⟩ rest (bf v dst i4) r K)
def o9 (all:List Oper) (m:M) (rest:List Oper) (v:List AV) (r:Rs) (K:Ex->G->Prop) (dst:Option Nat) (op:Op) (c:Bool) (j:Nat) (want:Bool):Prop:=
 match op with
 | .call {callee:= .value f,args:=args,argTypes:=_}=>aO c v f/\cr c v args.toList/\oF T P all m rest c dst v r K f args j want (bY v r f args)
 | .move _=>ea T P all m rest c dst v r K (ah T c v r dst op)
 | .pick .. =>ea T P all m rest c dst v r K (ah T c v r dst op)
 | .unOp .. =>ea T P all m rest c dst v r K (ah T c v r dst op)
 | .binOp .. =>ea T P all m rest c dst v r K (ah T c v r dst op)
 | .convert .. =>ea T P all m rest c dst v r K (ah T c v r dst op)
 | .makeInterface .. =>ea T P all m rest c dst v r K (ah T c v r dst op)
 | .extract .. =>ea T P all m rest c dst v r K (ah T c v r dst op)
 | .load .. =>ea T P all m rest c dst v r K (ah T c v r dst op)
 | .fieldAddr .. =>ea T P all m rest c dst v r K (ah T c v r dst op)
 | .indexAddr .. =>ea T P all m rest c dst v r K (ah T c v r dst op)
 | .index .. =>ea T P all m rest c dst v r K (ah T c v r dst op)
 | .field .. =>ea T P all m rest c dst v r K (ah T c v r dst op)
 | .slice .. =>ea T P all m rest c dst v r K (ah T c v r dst op)
 | .makeFunc .. =>ea T P all m rest c dst v r K (ah T c v r dst op)
 | .nilCheck _=>ea T P all m rest c dst v r K (ah T c v r dst op)
 | .build .. =>ea T P all m rest c dst v r K (ah T c v r dst op)
 | .call {callee:= .builtin .len, .. }=>ea T P all m rest c dst v r K (ah T c v r dst op)
 | .call {callee:= .builtin .max, .. }=>ea T P all m rest c dst v r K (ah T c v r dst op)
 | .call {callee:= .builtin .min, .. }=>ea T P all m rest c dst v r K (ah T c v r dst op)
 |_=>EK T P all m rest v r K dst op c j want
def pg (all:List Oper) (m:M) (rest:List Oper) (v:List AV) (r:Rs) (K:Ex->G->Prop) (dst:Option Nat) (op:Op) (j:Nat) (want:Bool) (gd:Option (Bool×Bool)):Prop:=
 match kM m.off j want with
 |true=>pf want gd/\aZ T P all m rest (bf v dst i4) r K
 |false=>match gd with
  |some (c',b)=>o9 T P all m rest v r K dst op (c'&&(b==want)) j want
  |none=>False
theorem vc {all:List Oper} {m:M} {v:List AV} {r:Rs} {K:Ex->G->Prop}:aZ T P all m [] v r K=(na all m/\K .normal ⟨v,r⟩):=rfl
theorem uh {all:List Oper} {m:M} {rest:List Oper} {v:List AV} {r:Rs} {K:Ex->G->Prop} {dst:Option Nat} {op:Op} {ty:Nat} {pos:String} {after:Array Edge}:
  aZ T P all m (⟨dst,op,ty,pos,after,none⟩::rest) v r K=pd T P all (bS m v dst op) rest v r K dst op:=by
 unfold aZ pd;dsimp only;split<;>rfl
theorem sR {all:List Oper} {m:M} {rest:List Oper} {v:List AV} {r:Rs} {K:Ex->G->Prop} {dst:Option Nat} {op:Op} {ty:Nat} {pos:String} {after:Array Edge} {j:Nat} {want:Bool}:
  aZ T P all m (⟨dst,op,ty,pos,after,some (j,want)⟩::rest) v r K=pg T P all (bS m v dst op) rest v r K dst op j want (de all v j):=by
 unfold aZ pg;dsimp only;split
 .rfl
 split
 .unfold o9;cases op with
  |call k=>
   obtain⟨callee,args,ts⟩:=k;cases callee with
   |builtin bi=>cases bi<;>rfl
   |value _=>rfl
   |invoke _ _=>rfl
  |_=>rfl
 .rfl
theorem vx {all:List Oper} {m:M} {rest:List Oper} {dst:Option Nat} {v:List AV} {K:Ex->G->Prop} {p:Prop} {x:AV} {r:Rs}:
  rB T P all m rest dst v K ⟨p,x,r⟩=(p/\aZ T P all m rest (bf v dst x) r K):=rfl
theorem vM {all:List Oper} {m:M} {rest:List Oper} {c:Bool} {dst:Option Nat} {v:List AV} {r:Rs} {K:Ex->G->Prop} {p:Prop} {x:AV} {r':Rs}:
  ea T P all m rest c dst v r K ⟨p,x,r'⟩=(iP c p/\aZ T P all m rest (bf v dst (.gd c x)) r K):=rfl
theorem ur {all:List Oper} {m:M} {rest:List Oper} {c:Bool} {dst:Option Nat} {v:List AV} {r:Rs} {K:Ex->G->Prop}:
  ea T P all m rest c dst v r K bad=(iP c False/\aZ T P all m rest (bf v dst (.gd c (.one .dead))) r K):=rfl
theorem u5 {g:G} {Q:Ex->G->Prop}:bZ T P .skip g Q=Q .normal g:=rfl
theorem uL {id:Nat} {g:G} {Q:Ex->G->Prop}:bZ T P (.exit id) g Q=Q (.exit id) g:=rfl
theorem ve {g:G} {Q:Ex->G->Prop}:bZ T P .ret g Q=Q .ret g:=rfl
theorem vm {id:Nat} {ops:List Oper} {v:List AV} {r:Rs} {Q:Ex->G->Prop}:bZ T P (.region id ops.toArray false) ⟨v,r⟩ Q=aZ T P ops ⟨none,[]⟩ ops v r Q:=by simp[bZ]
theorem u7 {id:Nat} {ops:List Oper} {v:List AV} {r:Rs} {Q:Ex->G->Prop}:bZ T P (.region id ops.toArray true) ⟨v,r⟩ Q=
  (oL ops/\aZ T P ops ⟨some [],[]⟩ ops v r Q):=by
 simp[bZ]
theorem aB {x y:Code} {g:G} {Q:Ex->G->Prop}:bZ T P (.seq x y) g Q=bZ T P x g (ga T P y Q):=rfl
theorem uA {c:Operand} {x y:Code} {v:List AV} {r:Rs} {Q:Ex->G->Prop}:bZ T P (.cond c x y) ⟨v,r⟩ Q=oX T P (ev v c) (aO true v c) x y ⟨v,r⟩ Q:=by rfl
theorem tg {l:Nat} {g:G} {Q:Ex->G->Prop}:bZ T P (.label l) g Q=Q .normal g:=rfl
theorem tj {x:Code} {g:G} {Q:Ex->G->Prop}:bZ T P (.scope x) g Q=bZ T P x g Q:=rfl
theorem tP {id:Nat} {x:Code} {g:G} {Q:Ex->G->Prop}:bZ T P (.block id x) g Q=bZ T P x g (mW id Q):=rfl
def lT (K:G->Prop) (Q:Ex->G->Prop) (e:Ex) (g:G):Prop:=
 match e with
 | .normal=>K g
 |e=>Q e g
theorem sk {K:G->Prop} {Q:Ex->G->Prop} {g:G}:lT K Q .normal g=K g:=rfl
theorem tn {K:G->Prop} {Q:Ex->G->Prop} {g:G} {id:Nat}:lT K Q (.exit id) g=Q (.exit id) g:=rfl
theorem ta {K:G->Prop} {Q:Ex->G->Prop} {g:G} {x:Value}:lT K Q (.panic x) g=Q (.panic x) g:=rfl
theorem uH {K:G->Prop} {Q:Ex->G->Prop} {g:G}:lT K Q .ret g=Q .ret g:=rfl
theorem gI {x:Code} {g:G} {Q:Ex->G->Prop} {τ:Type} (S:τ->G) (J:τ->Prop) (m:τ->Nat) (t0:τ) (h0:Gh g (S t0)) (h1:J t0)
  (h2:∀t,J t->∀K:G->Prop,(∀g t',Gh g (S t')->J t'->m t'<m t->K g)->bZ T P x (S t) (lT K Q)):wQ T P x g Q:=by
 refine⟨λ n g'=>∃t,g'=S t/\J t/\m t=n,m t0,⟨S t0,h0,t0,rfl,h1,rfl⟩,λ n g' hI=> ?_⟩;obtain⟨t,rfl,e2,rfl⟩:=hI;exact h2 t e2 (λ g=>∃n' g0,n'<m t/\Gh g g0/\∃t',g0=S t'/\J t'/\m t'=n') (λ g t' k1 k2 k3=>⟨m t',S t',k3,k1,t',rfl,k2,rfl⟩)
theorem ay {y:Code} {Q:Ex->G->Prop} {g:G} (h:bZ T P y g Q):ga T P y Q .normal g:= .inl ⟨g,λ _ _ _ h=>h,h⟩
theorem tU {y:Code} {Q:Ex->G->Prop} {g:G} {id:Nat}:ga T P y Q (.exit id) g=Q (.exit id) g:=rfl
theorem sC {y:Code} {Q:Ex->G->Prop} {g:G} {x:Value}:ga T P y Q (.panic x) g=Q (.panic x) g:=rfl
theorem uC {y:Code} {Q:Ex->G->Prop} {g:G}:ga T P y Q .ret g=Q .ret g:=rfl
theorem sj {id:Nat} {Q:Ex->G->Prop} {g:G}:mW id Q .normal g=Q .normal g:=rfl
theorem tG {id id':Nat} {Q:Ex->G->Prop} {g:G}:mW id Q (.exit id') g=if id'=id then Q .normal g else Q (.exit id') g:=rfl
theorem sE {id:Nat} {Q:Ex->G->Prop} {g:G} {x:Value}:mW id Q (.panic x) g=Q (.panic x) g:=rfl
theorem uO {id:Nat} {Q:Ex->G->Prop} {g:G}:mW id Q .ret g=Q .ret g:=rfl
end
set_option maxRecDepth 100000
theorem zZ {α:Type} {a0:α} {l:List α} {d:α}:List.getD (a0::l) 0 d=a0:=rfl
theorem zL {α:Type} {a0 x:α} {l:List α}:List.set (a0::l) 0 x=x::l:=rfl
theorem z0 {α:Type} {a0 a1:α} {l:List α} {d:α}:List.getD (a0::a1::l) 1 d=a1:=rfl
theorem Ap {α:Type} {a0 a1 x:α} {l:List α}:List.set (a0::a1::l) 1 x=a0::x::l:=rfl
theorem zk {α:Type} {a0 a1 a2:α} {l:List α} {d:α}:List.getD (a0::a1::a2::l) 2 d=a2:=rfl
theorem zP {α:Type} {a0 a1 a2 x:α} {l:List α}:List.set (a0::a1::a2::l) 2 x=a0::a1::x::l:=rfl
theorem zX {α:Type} {a0 a1 a2 a3:α} {l:List α} {d:α}:List.getD (a0::a1::a2::a3::l) 3 d=a3:=rfl
theorem zp {α:Type} {a0 a1 a2 a3 x:α} {l:List α}:List.set (a0::a1::a2::a3::l) 3 x=a0::a1::a2::x::l:=rfl
theorem zl {α:Type} {a0 a1 a2 a3 a4:α} {l:List α} {d:α}:List.getD (a0::a1::a2::a3::a4::l) 4 d=a4:=rfl
theorem Ah {α:Type} {a0 a1 a2 a3 a4 x:α} {l:List α}:List.set (a0::a1::a2::a3::a4::l) 4 x=a0::a1::a2::a3::x::l:=rfl
theorem zf {α:Type} {a0 a1 a2 a3 a4 a5:α} {l:List α} {d:α}:List.getD (a0::a1::a2::a3::a4::a5::l) 5 d=a5:=rfl
theorem zv {α:Type} {a0 a1 a2 a3 a4 a5 x:α} {l:List α}:List.set (a0::a1::a2::a3::a4::a5::l) 5 x=a0::a1::a2::a3::a4::x::l:=rfl
theorem zw {α:Type} {a0 a1 a2 a3 a4 a5 a6:α} {l:List α} {d:α}:List.getD (a0::a1::a2::a3::a4::a5::a6::l) 6 d=a6:=rfl
theorem zG {α:Type} {a0 a1 a2 a3 a4 a5 a6 x:α} {l:List α}:List.set (a0::a1::a2::a3::a4::a5::a6::l) 6 x=a0::a1::a2::a3::a4::a5::x::l:=rfl
theorem zD {α:Type} {a0 a1 a2 a3 a4 a5 a6 a7:α} {l:List α} {d:α}:List.getD (a0::a1::a2::a3::a4::a5::a6::a7::l) 7 d=a7:=rfl
theorem zQ {α:Type} {a0 a1 a2 a3 a4 a5 a6 a7 x:α} {l:List α}:List.set (a0::a1::a2::a3::a4::a5::a6::a7::l) 7 x=a0::a1::a2::a3::a4::a5::a6::x::l:=rfl
theorem zr {α:Type} {a0 a1 a2 a3 a4 a5 a6 a7 a8:α} {l:List α} {d:α}:List.getD (a0::a1::a2::a3::a4::a5::a6::a7::a8::l) 8 d=a8:=rfl
theorem ze {α:Type} {a0 a1 a2 a3 a4 a5 a6 a7 a8 x:α} {l:List α}:List.set (a0::a1::a2::a3::a4::a5::a6::a7::a8::l) 8 x=a0::a1::a2::a3::a4::a5::a6::a7::x::l:=rfl
theorem Ac {α:Type} {a0 a1 a2 a3 a4 a5 a6 a7 a8 a9:α} {l:List α} {d:α}:List.getD (a0::a1::a2::a3::a4::a5::a6::a7::a8::a9::l) 9 d=a9:=rfl
theorem Ai {α:Type} {a0 a1 a2 a3 a4 a5 a6 a7 a8 a9 x:α} {l:List α}:List.set (a0::a1::a2::a3::a4::a5::a6::a7::a8::a9::l) 9 x=a0::a1::a2::a3::a4::a5::a6::a7::a8::x::l:=rfl
theorem yK {α:Type} {a0 a1 a2 a3 a4 a5 a6 a7 a8 a9 a10:α} {l:List α} {d:α}:List.getD (a0::a1::a2::a3::a4::a5::a6::a7::a8::a9::a10::l) 10 d=a10:=rfl
theorem xr {α:Type} {a0 a1 a2 a3 a4 a5 a6 a7 a8 a9 a10 x:α} {l:List α}:List.set (a0::a1::a2::a3::a4::a5::a6::a7::a8::a9::a10::l) 10 x=a0::a1::a2::a3::a4::a5::a6::a7::a8::a9::x::l:=rfl
theorem w7 {α:Type} {a0 a1 a2 a3 a4 a5 a6 a7 a8 a9 a10 a11:α} {l:List α} {d:α}:List.getD (a0::a1::a2::a3::a4::a5::a6::a7::a8::a9::a10::a11::l) 11 d=a11:=rfl
theorem wY {α:Type} {a0 a1 a2 a3 a4 a5 a6 a7 a8 a9 a10 a11 x:α} {l:List α}:List.set (a0::a1::a2::a3::a4::a5::a6::a7::a8::a9::a10::a11::l) 11 x=a0::a1::a2::a3::a4::a5::a6::a7::a8::a9::a10::x::l:=rfl
theorem yP {α:Type} {a0 a1 a2 a3 a4 a5 a6 a7 a8 a9 a10 a11 a12:α} {l:List α} {d:α}:List.getD (a0::a1::a2::a3::a4::a5::a6::a7::a8::a9::a10::a11::a12::l) 12 d=a12:=rfl
theorem xv {α:Type} {a0 a1 a2 a3 a4 a5 a6 a7 a8 a9 a10 a11 a12 x:α} {l:List α}:List.set (a0::a1::a2::a3::a4::a5::a6::a7::a8::a9::a10::a11::a12::l) 12 x=a0::a1::a2::a3::a4::a5::a6::a7::a8::a9::a10::a11::x::l:=rfl
theorem zd {α:Type} {a0 a1 a2 a3 a4 a5 a6 a7 a8 a9 a10 a11 a12 a13:α} {l:List α} {d:α}:List.getD (a0::a1::a2::a3::a4::a5::a6::a7::a8::a9::a10::a11::a12::a13::l) 13 d=a13:=rfl
theorem xG {α:Type} {a0 a1 a2 a3 a4 a5 a6 a7 a8 a9 a10 a11 a12 a13 x:α} {l:List α}:List.set (a0::a1::a2::a3::a4::a5::a6::a7::a8::a9::a10::a11::a12::a13::l) 13 x=a0::a1::a2::a3::a4::a5::a6::a7::a8::a9::a10::a11::a12::x::l:=rfl
theorem ye {α:Type} {a0 a1 a2 a3 a4 a5 a6 a7 a8 a9 a10 a11 a12 a13 a14:α} {l:List α} {d:α}:List.getD (a0::a1::a2::a3::a4::a5::a6::a7::a8::a9::a10::a11::a12::a13::a14::l) 14 d=a14:=rfl
theorem yA {α:Type} {a0 a1 a2 a3 a4 a5 a6 a7 a8 a9 a10 a11 a12 a13 a14 x:α} {l:List α}:List.set (a0::a1::a2::a3::a4::a5::a6::a7::a8::a9::a10::a11::a12::a13::a14::l) 14 x=a0::a1::a2::a3::a4::a5::a6::a7::a8::a9::a10::a11::a12::a13::x::l:=rfl
theorem xS {α:Type} {a0 a1 a2 a3 a4 a5 a6 a7 a8 a9 a10 a11 a12 a13 a14 a15:α} {l:List α} {d:α}:List.getD (a0::a1::a2::a3::a4::a5::a6::a7::a8::a9::a10::a11::a12::a13::a14::a15::l) 15 d=a15:=rfl
theorem xy {α:Type} {a0 a1 a2 a3 a4 a5 a6 a7 a8 a9 a10 a11 a12 a13 a14 a15 x:α} {l:List α}:List.set (a0::a1::a2::a3::a4::a5::a6::a7::a8::a9::a10::a11::a12::a13::a14::a15::l) 15 x=a0::a1::a2::a3::a4::a5::a6::a7::a8::a9::a10::a11::a12::a13::a14::x::l:=rfl
theorem xQ {α:Type} {a0 a1 a2 a3 a4 a5 a6 a7 a8 a9 a10 a11 a12 a13 a14 a15 a16:α} {l:List α} {d:α}:List.getD (a0::a1::a2::a3::a4::a5::a6::a7::a8::a9::a10::a11::a12::a13::a14::a15::a16::l) 16 d=a16:=rfl
theorem yY {α:Type} {a0 a1 a2 a3 a4 a5 a6 a7 a8 a9 a10 a11 a12 a13 a14 a15 a16 x:α} {l:List α}:List.set (a0::a1::a2::a3::a4::a5::a6::a7::a8::a9::a10::a11::a12::a13::a14::a15::a16::l) 16 x=a0::a1::a2::a3::a4::a5::a6::a7::a8::a9::a10::a11::a12::a13::a14::a15::x::l:=rfl
theorem yF {α:Type} {a0 a1 a2 a3 a4 a5 a6 a7 a8 a9 a10 a11 a12 a13 a14 a15 a16 a17:α} {l:List α} {d:α}:List.getD (a0::a1::a2::a3::a4::a5::a6::a7::a8::a9::a10::a11::a12::a13::a14::a15::a16::a17::l) 17 d=a17:=rfl
theorem xd {α:Type} {a0 a1 a2 a3 a4 a5 a6 a7 a8 a9 a10 a11 a12 a13 a14 a15 a16 a17 x:α} {l:List α}:List.set (a0::a1::a2::a3::a4::a5::a6::a7::a8::a9::a10::a11::a12::a13::a14::a15::a16::a17::l) 17 x=a0::a1::a2::a3::a4::a5::a6::a7::a8::a9::a10::a11::a12::a13::a14::a15::a16::x::l:=rfl
theorem x8 {α:Type} {a0 a1 a2 a3 a4 a5 a6 a7 a8 a9 a10 a11 a12 a13 a14 a15 a16 a17 a18:α} {l:List α} {d:α}:List.getD (a0::a1::a2::a3::a4::a5::a6::a7::a8::a9::a10::a11::a12::a13::a14::a15::a16::a17::a18::l) 18 d=a18:=rfl
theorem xf {α:Type} {a0 a1 a2 a3 a4 a5 a6 a7 a8 a9 a10 a11 a12 a13 a14 a15 a16 a17 a18 x:α} {l:List α}:List.set (a0::a1::a2::a3::a4::a5::a6::a7::a8::a9::a10::a11::a12::a13::a14::a15::a16::a17::a18::l) 18 x=a0::a1::a2::a3::a4::a5::a6::a7::a8::a9::a10::a11::a12::a13::a14::a15::a16::a17::x::l:=rfl
theorem xi {α:Type} {a0 a1 a2 a3 a4 a5 a6 a7 a8 a9 a10 a11 a12 a13 a14 a15 a16 a17 a18 a19:α} {l:List α} {d:α}:List.getD (a0::a1::a2::a3::a4::a5::a6::a7::a8::a9::a10::a11::a12::a13::a14::a15::a16::a17::a18::a19::l) 19 d=a19:=rfl
theorem yk {α:Type} {a0 a1 a2 a3 a4 a5 a6 a7 a8 a9 a10 a11 a12 a13 a14 a15 a16 a17 a18 a19 x:α} {l:List α}:List.set (a0::a1::a2::a3::a4::a5::a6::a7::a8::a9::a10::a11::a12::a13::a14::a15::a16::a17::a18::a19::l) 19 x=a0::a1::a2::a3::a4::a5::a6::a7::a8::a9::a10::a11::a12::a13::a14::a15::a16::a17::a18::x::l:=rfl
theorem yO {α:Type} {a0 a1 a2 a3 a4 a5 a6 a7 a8 a9 a10 a11 a12 a13 a14 a15 a16 a17 a18 a19 a20:α} {l:List α} {d:α}:List.getD (a0::a1::a2::a3::a4::a5::a6::a7::a8::a9::a10::a11::a12::a13::a14::a15::a16::a17::a18::a19::a20::l) 20 d=a20:=rfl
theorem yr {α:Type} {a0 a1 a2 a3 a4 a5 a6 a7 a8 a9 a10 a11 a12 a13 a14 a15 a16 a17 a18 a19 a20 x:α} {l:List α}:List.set (a0::a1::a2::a3::a4::a5::a6::a7::a8::a9::a10::a11::a12::a13::a14::a15::a16::a17::a18::a19::a20::l) 20 x=a0::a1::a2::a3::a4::a5::a6::a7::a8::a9::a10::a11::a12::a13::a14::a15::a16::a17::a18::a19::x::l:=rfl
theorem xF {α:Type} {a0 a1 a2 a3 a4 a5 a6 a7 a8 a9 a10 a11 a12 a13 a14 a15 a16 a17 a18 a19 a20 a21:α} {l:List α} {d:α}:List.getD (a0::a1::a2::a3::a4::a5::a6::a7::a8::a9::a10::a11::a12::a13::a14::a15::a16::a17::a18::a19::a20::a21::l) 21 d=a21:=rfl
theorem y6 {α:Type} {a0 a1 a2 a3 a4 a5 a6 a7 a8 a9 a10 a11 a12 a13 a14 a15 a16 a17 a18 a19 a20 a21 x:α} {l:List α}:List.set (a0::a1::a2::a3::a4::a5::a6::a7::a8::a9::a10::a11::a12::a13::a14::a15::a16::a17::a18::a19::a20::a21::l) 21 x=a0::a1::a2::a3::a4::a5::a6::a7::a8::a9::a10::a11::a12::a13::a14::a15::a16::a17::a18::a19::a20::x::l:=rfl
theorem yJ {α:Type} {a0 a1 a2 a3 a4 a5 a6 a7 a8 a9 a10 a11 a12 a13 a14 a15 a16 a17 a18 a19 a20 a21 a22:α} {l:List α} {d:α}:List.getD (a0::a1::a2::a3::a4::a5::a6::a7::a8::a9::a10::a11::a12::a13::a14::a15::a16::a17::a18::a19::a20::a21::a22::l) 22 d=a22:=rfl
theorem xN {α:Type} {a0 a1 a2 a3 a4 a5 a6 a7 a8 a9 a10 a11 a12 a13 a14 a15 a16 a17 a18 a19 a20 a21 a22 x:α} {l:List α}:List.set (a0::a1::a2::a3::a4::a5::a6::a7::a8::a9::a10::a11::a12::a13::a14::a15::a16::a17::a18::a19::a20::a21::a22::l) 22 x=a0::a1::a2::a3::a4::a5::a6::a7::a8::a9::a10::a11::a12::a13::a14::a15::a16::a17::a18::a19::a20::a21::x::l:=rfl
theorem xO {α:Type} {a0 a1 a2 a3 a4 a5 a6 a7 a8 a9 a10 a11 a12 a13 a14 a15 a16 a17 a18 a19 a20 a21 a22 a23:α} {l:List α} {d:α}:List.getD (a0::a1::a2::a3::a4::a5::a6::a7::a8::a9::a10::a11::a12::a13::a14::a15::a16::a17::a18::a19::a20::a21::a22::a23::l) 23 d=a23:=rfl
theorem xT {α:Type} {a0 a1 a2 a3 a4 a5 a6 a7 a8 a9 a10 a11 a12 a13 a14 a15 a16 a17 a18 a19 a20 a21 a22 a23 x:α} {l:List α}:List.set (a0::a1::a2::a3::a4::a5::a6::a7::a8::a9::a10::a11::a12::a13::a14::a15::a16::a17::a18::a19::a20::a21::a22::a23::l) 23 x=a0::a1::a2::a3::a4::a5::a6::a7::a8::a9::a10::a11::a12::a13::a14::a15::a16::a17::a18::a19::a20::a21::a22::x::l:=rfl
theorem xZ {α:Type} {a0 a1 a2 a3 a4 a5 a6 a7 a8 a9 a10 a11 a12 a13 a14 a15 a16 a17 a18 a19 a20 a21 a22 a23 a24:α} {l:List α} {d:α}:List.getD (a0::a1::a2::a3::a4::a5::a6::a7::a8::a9::a10::a11::a12::a13::a14::a15::a16::a17::a18::a19::a20::a21::a22::a23::a24::l) 24 d=a24:=rfl
theorem yE {α:Type} {a0 a1 a2 a3 a4 a5 a6 a7 a8 a9 a10 a11 a12 a13 a14 a15 a16 a17 a18 a19 a20 a21 a22 a23 a24 x:α} {l:List α}:List.set (a0::a1::a2::a3::a4::a5::a6::a7::a8::a9::a10::a11::a12::a13::a14::a15::a16::a17::a18::a19::a20::a21::a22::a23::a24::l) 24 x=a0::a1::a2::a3::a4::a5::a6::a7::a8::a9::a10::a11::a12::a13::a14::a15::a16::a17::a18::a19::a20::a21::a22::a23::x::l:=rfl
theorem yW {α:Type} {a0 a1 a2 a3 a4 a5 a6 a7 a8 a9 a10 a11 a12 a13 a14 a15 a16 a17 a18 a19 a20 a21 a22 a23 a24 a25:α} {l:List α} {d:α}:List.getD (a0::a1::a2::a3::a4::a5::a6::a7::a8::a9::a10::a11::a12::a13::a14::a15::a16::a17::a18::a19::a20::a21::a22::a23::a24::a25::l) 25 d=a25:=rfl
theorem yw {α:Type} {a0 a1 a2 a3 a4 a5 a6 a7 a8 a9 a10 a11 a12 a13 a14 a15 a16 a17 a18 a19 a20 a21 a22 a23 a24 a25 x:α} {l:List α}:List.set (a0::a1::a2::a3::a4::a5::a6::a7::a8::a9::a10::a11::a12::a13::a14::a15::a16::a17::a18::a19::a20::a21::a22::a23::a24::a25::l) 25 x=a0::a1::a2::a3::a4::a5::a6::a7::a8::a9::a10::a11::a12::a13::a14::a15::a16::a17::a18::a19::a20::a21::a22::a23::a24::x::l:=rfl
theorem xm {α:Type} {a0 a1 a2 a3 a4 a5 a6 a7 a8 a9 a10 a11 a12 a13 a14 a15 a16 a17 a18 a19 a20 a21 a22 a23 a24 a25 a26:α} {l:List α} {d:α}:List.getD (a0::a1::a2::a3::a4::a5::a6::a7::a8::a9::a10::a11::a12::a13::a14::a15::a16::a17::a18::a19::a20::a21::a22::a23::a24::a25::a26::l) 26 d=a26:=rfl
theorem xI {α:Type} {a0 a1 a2 a3 a4 a5 a6 a7 a8 a9 a10 a11 a12 a13 a14 a15 a16 a17 a18 a19 a20 a21 a22 a23 a24 a25 a26 x:α} {l:List α}:List.set (a0::a1::a2::a3::a4::a5::a6::a7::a8::a9::a10::a11::a12::a13::a14::a15::a16::a17::a18::a19::a20::a21::a22::a23::a24::a25::a26::l) 26 x=a0::a1::a2::a3::a4::a5::a6::a7::a8::a9::a10::a11::a12::a13::a14::a15::a16::a17::a18::a19::a20::a21::a22::a23::a24::a25::x::l:=rfl
theorem ya {α:Type} {a0 a1 a2 a3 a4 a5 a6 a7 a8 a9 a10 a11 a12 a13 a14 a15 a16 a17 a18 a19 a20 a21 a22 a23 a24 a25 a26 a27:α} {l:List α} {d:α}:List.getD (a0::a1::a2::a3::a4::a5::a6::a7::a8::a9::a10::a11::a12::a13::a14::a15::a16::a17::a18::a19::a20::a21::a22::a23::a24::a25::a26::a27::l) 27 d=a27:=rfl
theorem xJ {α:Type} {a0 a1 a2 a3 a4 a5 a6 a7 a8 a9 a10 a11 a12 a13 a14 a15 a16 a17 a18 a19 a20 a21 a22 a23 a24 a25 a26 a27 x:α} {l:List α}:List.set (a0::a1::a2::a3::a4::a5::a6::a7::a8::a9::a10::a11::a12::a13::a14::a15::a16::a17::a18::a19::a20::a21::a22::a23::a24::a25::a26::a27::l) 27 x=a0::a1::a2::a3::a4::a5::a6::a7::a8::a9::a10::a11::a12::a13::a14::a15::a16::a17::a18::a19::a20::a21::a22::a23::a24::a25::a26::x::l:=rfl
theorem yv {α:Type} {a0 a1 a2 a3 a4 a5 a6 a7 a8 a9 a10 a11 a12 a13 a14 a15 a16 a17 a18 a19 a20 a21 a22 a23 a24 a25 a26 a27 a28:α} {l:List α} {d:α}:List.getD (a0::a1::a2::a3::a4::a5::a6::a7::a8::a9::a10::a11::a12::a13::a14::a15::a16::a17::a18::a19::a20::a21::a22::a23::a24::a25::a26::a27::a28::l) 28 d=a28:=rfl
theorem xj {α:Type} {a0 a1 a2 a3 a4 a5 a6 a7 a8 a9 a10 a11 a12 a13 a14 a15 a16 a17 a18 a19 a20 a21 a22 a23 a24 a25 a26 a27 a28 x:α} {l:List α}:List.set (a0::a1::a2::a3::a4::a5::a6::a7::a8::a9::a10::a11::a12::a13::a14::a15::a16::a17::a18::a19::a20::a21::a22::a23::a24::a25::a26::a27::a28::l) 28 x=a0::a1::a2::a3::a4::a5::a6::a7::a8::a9::a10::a11::a12::a13::a14::a15::a16::a17::a18::a19::a20::a21::a22::a23::a24::a25::a26::a27::x::l:=rfl
theorem yM {α:Type} {a0 a1 a2 a3 a4 a5 a6 a7 a8 a9 a10 a11 a12 a13 a14 a15 a16 a17 a18 a19 a20 a21 a22 a23 a24 a25 a26 a27 a28 a29:α} {l:List α} {d:α}:List.getD (a0::a1::a2::a3::a4::a5::a6::a7::a8::a9::a10::a11::a12::a13::a14::a15::a16::a17::a18::a19::a20::a21::a22::a23::a24::a25::a26::a27::a28::a29::l) 29 d=a29:=rfl
theorem y8 {α:Type} {a0 a1 a2 a3 a4 a5 a6 a7 a8 a9 a10 a11 a12 a13 a14 a15 a16 a17 a18 a19 a20 a21 a22 a23 a24 a25 a26 a27 a28 a29 x:α} {l:List α}:List.set (a0::a1::a2::a3::a4::a5::a6::a7::a8::a9::a10::a11::a12::a13::a14::a15::a16::a17::a18::a19::a20::a21::a22::a23::a24::a25::a26::a27::a28::a29::l) 29 x=a0::a1::a2::a3::a4::a5::a6::a7::a8::a9::a10::a11::a12::a13::a14::a15::a16::a17::a18::a19::a20::a21::a22::a23::a24::a25::a26::a27::a28::x::l:=rfl
theorem xb {α:Type} {a0 a1 a2 a3 a4 a5 a6 a7 a8 a9 a10 a11 a12 a13 a14 a15 a16 a17 a18 a19 a20 a21 a22 a23 a24 a25 a26 a27 a28 a29 a30:α} {l:List α} {d:α}:List.getD (a0::a1::a2::a3::a4::a5::a6::a7::a8::a9::a10::a11::a12::a13::a14::a15::a16::a17::a18::a19::a20::a21::a22::a23::a24::a25::a26::a27::a28::a29::a30::l) 30 d=a30:=rfl
theorem y7 {α:Type} {a0 a1 a2 a3 a4 a5 a6 a7 a8 a9 a10 a11 a12 a13 a14 a15 a16 a17 a18 a19 a20 a21 a22 a23 a24 a25 a26 a27 a28 a29 a30 x:α} {l:List α}:List.set (a0::a1::a2::a3::a4::a5::a6::a7::a8::a9::a10::a11::a12::a13::a14::a15::a16::a17::a18::a19::a20::a21::a22::a23::a24::a25::a26::a27::a28::a29::a30::l) 30 x=a0::a1::a2::a3::a4::a5::a6::a7::a8::a9::a10::a11::a12::a13::a14::a15::a16::a17::a18::a19::a20::a21::a22::a23::a24::a25::a26::a27::a28::a29::x::l:=rfl
theorem yb {α:Type} {a0 a1 a2 a3 a4 a5 a6 a7 a8 a9 a10 a11 a12 a13 a14 a15 a16 a17 a18 a19 a20 a21 a22 a23 a24 a25 a26 a27 a28 a29 a30 a31:α} {l:List α} {d:α}:List.getD (a0::a1::a2::a3::a4::a5::a6::a7::a8::a9::a10::a11::a12::a13::a14::a15::a16::a17::a18::a19::a20::a21::a22::a23::a24::a25::a26::a27::a28::a29::a30::a31::l) 31 d=a31:=rfl
theorem xB {α:Type} {a0 a1 a2 a3 a4 a5 a6 a7 a8 a9 a10 a11 a12 a13 a14 a15 a16 a17 a18 a19 a20 a21 a22 a23 a24 a25 a26 a27 a28 a29 a30 a31 x:α} {l:List α}:List.set (a0::a1::a2::a3::a4::a5::a6::a7::a8::a9::a10::a11::a12::a13::a14::a15::a16::a17::a18::a19::a20::a21::a22::a23::a24::a25::a26::a27::a28::a29::a30::a31::l) 31 x=a0::a1::a2::a3::a4::a5::a6::a7::a8::a9::a10::a11::a12::a13::a14::a15::a16::a17::a18::a19::a20::a21::a22::a23::a24::a25::a26::a27::a28::a29::a30::x::l:=rfl
theorem zE {α:Type} {a0 a1 a2 a3 a4 a5 a6 a7 a8 a9 a10 a11 a12 a13 a14 a15 a16 a17 a18 a19 a20 a21 a22 a23 a24 a25 a26 a27 a28 a29 a30 a31:α} {l:List α} {d:α} {n:Nat}:List.getD (a0::a1::a2::a3::a4::a5::a6::a7::a8::a9::a10::a11::a12::a13::a14::a15::a16::a17::a18::a19::a20::a21::a22::a23::a24::a25::a26::a27::a28::a29::a30::a31::l) (n+32) d=List.getD l n d:=rfl
theorem zA {α:Type} {a0 a1 a2 a3 a4 a5 a6 a7 a8 a9 a10 a11 a12 a13 a14 a15 a16 a17 a18 a19 a20 a21 a22 a23 a24 a25 a26 a27 a28 a29 a30 a31 x:α} {l:List α} {n:Nat}:List.set (a0::a1::a2::a3::a4::a5::a6::a7::a8::a9::a10::a11::a12::a13::a14::a15::a16::a17::a18::a19::a20::a21::a22::a23::a24::a25::a26::a27::a28::a29::a30::a31::l) (n+32) x=a0::a1::a2::a3::a4::a5::a6::a7::a8::a9::a10::a11::a12::a13::a14::a15::a16::a17::a18::a19::a20::a21::a22::a23::a24::a25::a26::a27::a28::a29::a30::a31::List.set l n x:=rfl
theorem zy:type_of% (I (I (I (I (@Go.Pk.u5) (I (@Go.Pk.uL) (@Go.Pk.ve))) (I (I (@Go.Pk.vm) (@Go.Pk.u7)) (I (@Go.Pk.uA) (@Go.Pk.tP)))) (I (I (I (@Go.Pk.tj) (@Go.Pk.tg)) (I (@Go.Pk.vc) (@Go.Pk.uh))) (I (I (@Go.Pk.sR) (@Go.Pk.vM)) (I (@Go.Pk.ur) (@Go.Pk.uv))))) (I (I (I (@Go.Pk.vR) (I (@Go.Pk.vY) (@Go.Pk.Ak))) (I (I (@Go.Pk.z8) (@Go.Pk.vx)) (I (@Go.Pk.sa) (@Go.Pk.s8)))) (I (I (I (@Go.Pk.sK) (@Go.Pk.su)) (I (@Go.Pk.gO.eq_def) (@Go.Pk.fT.eq_def))) (I (I (@Go.Pk.nd.eq_def) (@Go.Pk.i2.eq_def)) (I (@Go.Pk.mr.eq_def) (@Go.Pk.kH.eq_def)))))):=I (I (I (I (@Go.Pk.u5) (I (@Go.Pk.uL) (@Go.Pk.ve))) (I (I (@Go.Pk.vm) (@Go.Pk.u7)) (I (@Go.Pk.uA) (@Go.Pk.tP)))) (I (I (I (@Go.Pk.tj) (@Go.Pk.tg)) (I (@Go.Pk.vc) (@Go.Pk.uh))) (I (I (@Go.Pk.sR) (@Go.Pk.vM)) (I (@Go.Pk.ur) (@Go.Pk.uv))))) (I (I (I (@Go.Pk.vR) (I (@Go.Pk.vY) (@Go.Pk.Ak))) (I (I (@Go.Pk.z8) (@Go.Pk.vx)) (I (@Go.Pk.sa) (@Go.Pk.s8)))) (I (I (I (@Go.Pk.sK) (@Go.Pk.su)) (I (@Go.Pk.gO.eq_def) (@Go.Pk.fT.eq_def))) (I (I (@Go.Pk.nd.eq_def) (@Go.Pk.i2.eq_def)) (I (@Go.Pk.mr.eq_def) (@Go.Pk.kH.eq_def)))))
theorem zV:type_of% (I (I (I (I (@Go.Pk.fX.eq_def) (I (@Go.Pk.oO.eq_def) (@Go.Pk.ah.eq_def))) (I (I (@Go.Pk.pd.eq_def) (@Go.Pk.o9.eq_def)) (I (@Go.Pk.pg.eq_def) (@Go.Pk.ev.eq_def)))) (I (I (I (@Go.Pk.aO.eq_def) (@Go.Pk.dM.eq_def)) (I (@Go.Pk.ew.eq_def) (@Go.Pk.aW.eq_def))) (I (I (@Go.Pk.bf.eq_def) (@Go.Pk.cellsOf.eq_def)) (I (@Go.Pk.live.eq_def) (@Go.Pk.af.eq_def))))) (I (I (I (@Go.Pk.iX.eq_def) (I (@Go.Pk.qd.eq_def) (@Go.Pk.dL.eq_def))) (I (I (@Go.Pk.flat.eq_def) (@Go.Pk.mj.eq_def)) (I (@Go.Pk.kl.eq_def) (@Go.Pk.mw.eq_def)))) (I (I (I (@Go.Pk.dI.eq_def) (@Go.Pk.ax.eq_def)) (I (@Go.Pk.aq.eq_def) (@Go.Pk.fK.eq_def))) (I (I (@Go.Pk.Out.with.eq_def) (@Go.Pk.hC.eq_def)) (I (@Go.Pk.gf.eq_def) (@Go.Pk.jr.eq_def)))))):=I (I (I (I (@Go.Pk.fX.eq_def) (I (@Go.Pk.oO.eq_def) (@Go.Pk.ah.eq_def))) (I (I (@Go.Pk.pd.eq_def) (@Go.Pk.o9.eq_def)) (I (@Go.Pk.pg.eq_def) (@Go.Pk.ev.eq_def)))) (I (I (I (@Go.Pk.aO.eq_def) (@Go.Pk.dM.eq_def)) (I (@Go.Pk.ew.eq_def) (@Go.Pk.aW.eq_def))) (I (I (@Go.Pk.bf.eq_def) (@Go.Pk.cellsOf.eq_def)) (I (@Go.Pk.live.eq_def) (@Go.Pk.af.eq_def))))) (I (I (I (@Go.Pk.iX.eq_def) (I (@Go.Pk.qd.eq_def) (@Go.Pk.dL.eq_def))) (I (I (@Go.Pk.flat.eq_def) (@Go.Pk.mj.eq_def)) (I (@Go.Pk.kl.eq_def) (@Go.Pk.mw.eq_def)))) (I (I (I (@Go.Pk.dI.eq_def) (@Go.Pk.ax.eq_def)) (I (@Go.Pk.aq.eq_def) (@Go.Pk.fK.eq_def))) (I (I (@Go.Pk.Out.with.eq_def) (@Go.Pk.hC.eq_def)) (I (@Go.Pk.gf.eq_def) (@Go.Pk.jr.eq_def)))))
theorem zo:type_of% (I (I (I (I (@Go.Pk.isBool.eq_def) (I (@Go.Pk.iN.eq_def) (@Go.Pk.mV.eq_def))) (I (I (@Go.Pk.jo.eq_def) (@Go.Pk.de.eq_def)) (I (@Go.Pk.lX.eq_def) (@Go.Pk.cO.eq_def)))) (I (I (I (@Go.Pk.isStr.eq_def) (@Go.Pk.isInt.eq_def)) (I (@Go.Pk.gY.eq_def) (@Go.Pk.gR.eq_def))) (I (I (@Go.Pk.sliceB.eq_def) (@Go.Pk.iy.eq_def)) (I (@Go.Pk.iC.eq_def) (@Go.Pk.iM.eq_def))))) (I (I (I (@Go.Pk.hU.eq_def) (I (@Go.Pk.fu.eq_def) (@Go.Pk.gV.eq_def))) (I (I (@Go.Pk.lQ.eq_def) (@Go.Pk.C.jC.eq_def)) (I (@Go.Pk.rowOf.eq_def) (@Go.Pk.lN.eq_def)))) (I (I (I (@Go.Pk.gn.eq_def) (@Go.Pk.bY.eq_def)) (I (@Go.Pk.iA.eq_def) (@Go.Pk.eD.eq_def))) (I (I (@Go.Pk.cS.eq_def) (@Go.Pk.mI.eq_def)) (I (@Go.Pk.fb.eq_def) (@Go.Pk.RF.cells.eq_def)))))):=I (I (I (I (@Go.Pk.isBool.eq_def) (I (@Go.Pk.iN.eq_def) (@Go.Pk.mV.eq_def))) (I (I (@Go.Pk.jo.eq_def) (@Go.Pk.de.eq_def)) (I (@Go.Pk.lX.eq_def) (@Go.Pk.cO.eq_def)))) (I (I (I (@Go.Pk.isStr.eq_def) (@Go.Pk.isInt.eq_def)) (I (@Go.Pk.gY.eq_def) (@Go.Pk.gR.eq_def))) (I (I (@Go.Pk.sliceB.eq_def) (@Go.Pk.iy.eq_def)) (I (@Go.Pk.iC.eq_def) (@Go.Pk.iM.eq_def))))) (I (I (I (@Go.Pk.hU.eq_def) (I (@Go.Pk.fu.eq_def) (@Go.Pk.gV.eq_def))) (I (I (@Go.Pk.lQ.eq_def) (@Go.Pk.C.jC.eq_def)) (I (@Go.Pk.rowOf.eq_def) (@Go.Pk.lN.eq_def)))) (I (I (I (@Go.Pk.gn.eq_def) (@Go.Pk.bY.eq_def)) (I (@Go.Pk.iA.eq_def) (@Go.Pk.eD.eq_def))) (I (I (@Go.Pk.cS.eq_def) (@Go.Pk.mI.eq_def)) (I (@Go.Pk.fb.eq_def) (@Go.Pk.RF.cells.eq_def)))))
theorem zz:type_of% (I (I (I (I (@Go.Pk.bS.eq_def) (I (@Go.Pk.na.eq_def) (@Go.Pk.bK.eq_def))) (I (I (@Go.Pk.dg.eq_def) (@Go.Pk.dl.eq_def)) (I (@Go.Pk.FP.both.eq_def) (@Go.Pk.l6.eq_def)))) (I (I (I (@Go.Pk.cb.eq_def) (@Go.Pk.o5.eq_def)) (I (@Go.Pk.dv.eq_def) (@Go.Pk.dE.eq_def))) (I (I (@Go.Pk.mK.eq_def) (@Go.Pk.dB.eq_def)) (I (@Go.Pk.fJ.eq_def) (@Go.Pk.hG.eq_def))))) (I (I (I (@Go.Pk.bindM.eq_def) (I (@Go.Pk.eA.eq_def) (@Go.Pk.pf.eq_def))) (I (I (@Go.Pk.Mv.s.eq_def) (@Go.Pk.gB.eq_def)) (I (@Go.Pk.i9.eq_def) (@Go.Pk.gL.eq_def)))) (I (I (I (@Go.Pk.jU.eq_def) (@Go.Pk.ji.eq_def)) (I (@Go.Pk.cI.eq_def) (@Go.Pk.m9.eq_def))) (I (I (@Go.Pk.nb.eq_def) (@Go.Pk.iI.eq_def)) (I (@Go.Pk.ir.eq_def) (@Go.Pk.gZ.eq_def)))))):=I (I (I (I (@Go.Pk.bS.eq_def) (I (@Go.Pk.na.eq_def) (@Go.Pk.bK.eq_def))) (I (I (@Go.Pk.dg.eq_def) (@Go.Pk.dl.eq_def)) (I (@Go.Pk.FP.both.eq_def) (@Go.Pk.l6.eq_def)))) (I (I (I (@Go.Pk.cb.eq_def) (@Go.Pk.o5.eq_def)) (I (@Go.Pk.dv.eq_def) (@Go.Pk.dE.eq_def))) (I (I (@Go.Pk.mK.eq_def) (@Go.Pk.dB.eq_def)) (I (@Go.Pk.fJ.eq_def) (@Go.Pk.hG.eq_def))))) (I (I (I (@Go.Pk.bindM.eq_def) (I (@Go.Pk.eA.eq_def) (@Go.Pk.pf.eq_def))) (I (I (@Go.Pk.Mv.s.eq_def) (@Go.Pk.gB.eq_def)) (I (@Go.Pk.i9.eq_def) (@Go.Pk.gL.eq_def)))) (I (I (I (@Go.Pk.jU.eq_def) (@Go.Pk.ji.eq_def)) (I (@Go.Pk.cI.eq_def) (@Go.Pk.m9.eq_def))) (I (I (@Go.Pk.nb.eq_def) (@Go.Pk.iI.eq_def)) (I (@Go.Pk.ir.eq_def) (@Go.Pk.gZ.eq_def)))))
theorem zn:type_of% (I (I (I (I (@Go.Pk.ku.eq_def) (I (@Go.Pk.jc.eq_def) (@Go.Pk.jw.eq_def))) (I (I (@Go.Pk.jz.eq_def) (@Go.Pk.bytesOf.eq_1)) (I (@Go.Pk.bytesOf.eq_2) (@Go.Pk.cj.eq_1)))) (I (I (I (@Go.Pk.cj.eq_2) (@Go.Pk.gP.eq_1)) (I (@Go.Pk.gP.eq_2) (@Go.Pk.cr.eq_1))) (I (I (@Go.Pk.cr.eq_2) (@Go.Pk.b8.eq_1)) (I (@Go.Pk.b8.eq_2) (@Go.Pk.aa.eq_1))))) (I (I (I (@Go.Pk.aa.eq_2) (I (@Go.Pk.az.eq_1) (@Go.Pk.az.eq_2))) (I (I (@Go.Pk.jj.eq_1) (@Go.Pk.jj.eq_2)) (I (@Go.Pk.j2.eq_1) (@Go.Pk.j2.eq_2)))) (I (I (I (@Go.Pk.bz.eq_1) (@Go.Pk.bz.eq_2)) (I (@Go.Pk.eG.eq_1) (@Go.Pk.eG.eq_2))) (I (I (@Go.Pk.cQ.eq_1) (@Go.Pk.cQ.eq_2)) (I (@Go.Pk.ef.eq_1) (@Go.Pk.ef.eq_2)))))):=I (I (I (I (@Go.Pk.ku.eq_def) (I (@Go.Pk.jc.eq_def) (@Go.Pk.jw.eq_def))) (I (I (@Go.Pk.jz.eq_def) (@Go.Pk.bytesOf.eq_1)) (I (@Go.Pk.bytesOf.eq_2) (@Go.Pk.cj.eq_1)))) (I (I (I (@Go.Pk.cj.eq_2) (@Go.Pk.gP.eq_1)) (I (@Go.Pk.gP.eq_2) (@Go.Pk.cr.eq_1))) (I (I (@Go.Pk.cr.eq_2) (@Go.Pk.b8.eq_1)) (I (@Go.Pk.b8.eq_2) (@Go.Pk.aa.eq_1))))) (I (I (I (@Go.Pk.aa.eq_2) (I (@Go.Pk.az.eq_1) (@Go.Pk.az.eq_2))) (I (I (@Go.Pk.jj.eq_1) (@Go.Pk.jj.eq_2)) (I (@Go.Pk.j2.eq_1) (@Go.Pk.j2.eq_2)))) (I (I (I (@Go.Pk.bz.eq_1) (@Go.Pk.bz.eq_2)) (I (@Go.Pk.eG.eq_1) (@Go.Pk.eG.eq_2))) (I (I (@Go.Pk.cQ.eq_1) (@Go.Pk.cQ.eq_2)) (I (@Go.Pk.ef.eq_1) (@Go.Pk.ef.eq_2)))))
theorem zU:type_of% (I (I (I (I (@Go.Pk.aN.eq_1) (I (@Go.Pk.aN.eq_2) (@Go.Pk.aN.eq_3))) (I (I (@Go.Pk.aN.eq_4) (@Go.Pk.aN.eq_5)) (I (@Go.Pk.aN.eq_6) (@Go.Pk.aN.eq_7)))) (I (I (I (@Go.Pk.aN.eq_8) (@Go.Pk.aN.eq_9)) (I (@Go.Pk.aN.eq_10) (@Go.Pk.fh.eq_1))) (I (I (@Go.Pk.fh.eq_2) (@Go.Pk.fh.eq_3)) (I (@Go.Pk.fh.eq_4) (@Go.Pk.fC.eq_1))))) (I (I (I (@Go.Pk.fC.eq_2) (I (@Go.Pk.aN.lendCs.eq_1) (@Go.Pk.aN.lendCs.eq_2))) (I (I (@Go.Pk.ed.eq_1) (@Go.Pk.ed.eq_2)) (I (@Go.Pk.cX.eq_1) (@Go.Pk.cX.eq_2)))) (I (I (I (@Go.Pk.cX.eq_3) (@Go.Pk.cT.eq_1)) (I (@Go.Pk.cT.eq_2) (@Go.Pk.cT.eq_3))) (I (I (@Go.Pk.eu.eq_1) (@Go.Pk.eu.eq_2)) (I (@Go.Pk.eu.eq_3) (@Go.Pk.ix.eq_1)))))):=I (I (I (I (@Go.Pk.aN.eq_1) (I (@Go.Pk.aN.eq_2) (@Go.Pk.aN.eq_3))) (I (I (@Go.Pk.aN.eq_4) (@Go.Pk.aN.eq_5)) (I (@Go.Pk.aN.eq_6) (@Go.Pk.aN.eq_7)))) (I (I (I (@Go.Pk.aN.eq_8) (@Go.Pk.aN.eq_9)) (I (@Go.Pk.aN.eq_10) (@Go.Pk.fh.eq_1))) (I (I (@Go.Pk.fh.eq_2) (@Go.Pk.fh.eq_3)) (I (@Go.Pk.fh.eq_4) (@Go.Pk.fC.eq_1))))) (I (I (I (@Go.Pk.fC.eq_2) (I (@Go.Pk.aN.lendCs.eq_1) (@Go.Pk.aN.lendCs.eq_2))) (I (I (@Go.Pk.ed.eq_1) (@Go.Pk.ed.eq_2)) (I (@Go.Pk.cX.eq_1) (@Go.Pk.cX.eq_2)))) (I (I (I (@Go.Pk.cX.eq_3) (@Go.Pk.cT.eq_1)) (I (@Go.Pk.cT.eq_2) (@Go.Pk.cT.eq_3))) (I (I (@Go.Pk.eu.eq_1) (@Go.Pk.eu.eq_2)) (I (@Go.Pk.eu.eq_3) (@Go.Pk.ix.eq_1)))))
theorem z9:type_of% (I (I (I (I (@Go.Pk.ix.eq_2) (I (@Go.Pk.dx.eq_1) (@Go.Pk.dx.eq_2))) (I (I (@Go.Pk.aX.eq_1) (@Go.Pk.aX.eq_2)) (I (@Go.Pk.aX.eq_3) (@Go.Pk.aX.eq_4)))) (I (I (I (@Go.Pk.aX.eq_5) (@Go.Pk.aX.eq_6)) (I (@Go.Pk.aX.eq_7) (@Go.Pk.aX.eq_8))) (I (I (@Go.Pk.aX.eq_9) (@Go.Pk.aX.eq_10)) (I (@Go.Pk.bp.eq_1) (@Go.Pk.bp.eq_2))))) (I (I (I (@Go.Pk.aY.eq_1) (I (@Go.Pk.aY.eq_2) (@Go.Pk.aY.eq_3))) (I (I (@Go.Pk.aY.eq_4) (@Go.Pk.dq.eq_1)) (I (@Go.Pk.dq.eq_2) (@Go.Pk.dt.eq_1)))) (I (I (I (@Go.Pk.dt.eq_2) (@Go.Pk.hY.eq_1)) (I (@Go.Pk.hY.eq_2) (@Go.Pk.kM.eq_1))) (I (I (@Go.Pk.kM.eq_2) (@Go.Pk.eO.eq_1)) (I (@Go.Pk.eO.eq_2) (@Go.Pk.eO.eq_3)))))):=I (I (I (I (@Go.Pk.ix.eq_2) (I (@Go.Pk.dx.eq_1) (@Go.Pk.dx.eq_2))) (I (I (@Go.Pk.aX.eq_1) (@Go.Pk.aX.eq_2)) (I (@Go.Pk.aX.eq_3) (@Go.Pk.aX.eq_4)))) (I (I (I (@Go.Pk.aX.eq_5) (@Go.Pk.aX.eq_6)) (I (@Go.Pk.aX.eq_7) (@Go.Pk.aX.eq_8))) (I (I (@Go.Pk.aX.eq_9) (@Go.Pk.aX.eq_10)) (I (@Go.Pk.bp.eq_1) (@Go.Pk.bp.eq_2))))) (I (I (I (@Go.Pk.aY.eq_1) (I (@Go.Pk.aY.eq_2) (@Go.Pk.aY.eq_3))) (I (I (@Go.Pk.aY.eq_4) (@Go.Pk.dq.eq_1)) (I (@Go.Pk.dq.eq_2) (@Go.Pk.dt.eq_1)))) (I (I (I (@Go.Pk.dt.eq_2) (@Go.Pk.hY.eq_1)) (I (@Go.Pk.hY.eq_2) (@Go.Pk.kM.eq_1))) (I (I (@Go.Pk.kM.eq_2) (@Go.Pk.eO.eq_1)) (I (@Go.Pk.eO.eq_2) (@Go.Pk.eO.eq_3)))))
theorem zR:type_of% (I (I (I (I (@Go.Pk.gH.eq_1) (I (@Go.Pk.gH.eq_2) (@Go.Pk.fE.eq_1))) (I (I (@Go.Pk.fE.eq_2) (@Go.Pk.fE.eq_3)) (I (@Go.Pk.jk.eq_1) (@Go.Pk.jk.eq_2)))) (I (I (I (@Go.Pk.ch.eq_1) (@Go.Pk.ch.eq_2)) (I (@Go.Pk.dJ.eq_1) (@Go.Pk.dJ.eq_2))) (I (I (@bG.{0}) (@fI.{0})) (I (@dK.{0}) (@jq.{0}))))) (I (I (I (@jX.{0}) (I (@lL.{0}) (@List.drop_nil.{0}))) (I (I (@List.take_zero.{0}) (@mS.{0})) (I (@List.take_nil.{0}) (@dz.{0})))) (I (I (I (@kx.{0}) (@iE.{0})) (I (@List.replicate_succ.{0}) (@List.replicate_zero.{0}))) (I (I (@jR.{0}) (@fF.{0,0})) (I (@List.map_nil.{0,0}) (@dA.{0,0})))))):=I (I (I (I (@Go.Pk.gH.eq_1) (I (@Go.Pk.gH.eq_2) (@Go.Pk.fE.eq_1))) (I (I (@Go.Pk.fE.eq_2) (@Go.Pk.fE.eq_3)) (I (@Go.Pk.jk.eq_1) (@Go.Pk.jk.eq_2)))) (I (I (I (@Go.Pk.ch.eq_1) (@Go.Pk.ch.eq_2)) (I (@Go.Pk.dJ.eq_1) (@Go.Pk.dJ.eq_2))) (I (I (@bG.{0}) (@fI.{0})) (I (@dK.{0}) (@jq.{0}))))) (I (I (I (@jX.{0}) (I (@lL.{0}) (@List.drop_nil.{0}))) (I (I (@List.take_zero.{0}) (@mS.{0})) (I (@List.take_nil.{0}) (@dz.{0})))) (I (I (I (@kx.{0}) (@iE.{0})) (I (@List.replicate_succ.{0}) (@List.replicate_zero.{0}))) (I (I (@jR.{0}) (@fF.{0,0})) (I (@List.map_nil.{0,0}) (@dA.{0,0})))))
theorem Ao:type_of% (I (I (I (I (@List.flatMap_nil.{0,0}) (I (@List.zip_cons_cons.{0,0}) (@lE.{0,0}))) (I (I (@List.foldl_nil.{0,0}) (@List.filterMap_cons.{0,0})) (I (@List.filterMap_nil.{0,0}) (@Option.bind_some.{0,0})))) (I (I (I (@Option.bind_none.{0,0}) (@Go.Pk.zZ)) (I (@Go.Pk.zL) (@Go.Pk.z0))) (I (I (@Go.Pk.Ap) (@Go.Pk.zk)) (I (@Go.Pk.zP) (@Go.Pk.zX))))) (I (I (I (@Go.Pk.zp) (I (@Go.Pk.zl) (@Go.Pk.Ah))) (I (I (@Go.Pk.zf) (@Go.Pk.zv)) (I (@Go.Pk.zw) (@Go.Pk.zG)))) (I (I (I (@Go.Pk.zD) (@Go.Pk.zQ)) (I (@Go.Pk.zr) (@Go.Pk.ze))) (I (I (@Go.Pk.Ac) (@Go.Pk.Ai)) (I (@Go.Pk.yK) (@Go.Pk.xr)))))):=I (I (I (I (@List.flatMap_nil.{0,0}) (I (@List.zip_cons_cons.{0,0}) (@lE.{0,0}))) (I (I (@List.foldl_nil.{0,0}) (@List.filterMap_cons.{0,0})) (I (@List.filterMap_nil.{0,0}) (@Option.bind_some.{0,0})))) (I (I (I (@Option.bind_none.{0,0}) (@Go.Pk.zZ)) (I (@Go.Pk.zL) (@Go.Pk.z0))) (I (I (@Go.Pk.Ap) (@Go.Pk.zk)) (I (@Go.Pk.zP) (@Go.Pk.zX))))) (I (I (I (@Go.Pk.zp) (I (@Go.Pk.zl) (@Go.Pk.Ah))) (I (I (@Go.Pk.zf) (@Go.Pk.zv)) (I (@Go.Pk.zw) (@Go.Pk.zG)))) (I (I (I (@Go.Pk.zD) (@Go.Pk.zQ)) (I (@Go.Pk.zr) (@Go.Pk.ze))) (I (I (@Go.Pk.Ac) (@Go.Pk.Ai)) (I (@Go.Pk.yK) (@Go.Pk.xr)))))
theorem Ad:type_of% (I (I (I (I (@Go.Pk.w7) (I (@Go.Pk.wY) (@Go.Pk.yP))) (I (I (@Go.Pk.xv) (@Go.Pk.zd)) (I (@Go.Pk.xG) (@Go.Pk.ye)))) (I (I (I (@Go.Pk.yA) (@Go.Pk.xS)) (I (@Go.Pk.xy) (@Go.Pk.xQ))) (I (I (@Go.Pk.yY) (@Go.Pk.yF)) (I (@Go.Pk.xd) (@Go.Pk.x8))))) (I (I (I (@Go.Pk.xf) (I (@Go.Pk.xi) (@Go.Pk.yk))) (I (I (@Go.Pk.yO) (@Go.Pk.yr)) (I (@Go.Pk.xF) (@Go.Pk.y6)))) (I (I (I (@Go.Pk.yJ) (@Go.Pk.xN)) (I (@Go.Pk.xO) (@Go.Pk.xT))) (I (I (@Go.Pk.xZ) (@Go.Pk.yE)) (I (@Go.Pk.yW) (@Go.Pk.yw)))))):=I (I (I (I (@Go.Pk.w7) (I (@Go.Pk.wY) (@Go.Pk.yP))) (I (I (@Go.Pk.xv) (@Go.Pk.zd)) (I (@Go.Pk.xG) (@Go.Pk.ye)))) (I (I (I (@Go.Pk.yA) (@Go.Pk.xS)) (I (@Go.Pk.xy) (@Go.Pk.xQ))) (I (I (@Go.Pk.yY) (@Go.Pk.yF)) (I (@Go.Pk.xd) (@Go.Pk.x8))))) (I (I (I (@Go.Pk.xf) (I (@Go.Pk.xi) (@Go.Pk.yk))) (I (I (@Go.Pk.yO) (@Go.Pk.yr)) (I (@Go.Pk.xF) (@Go.Pk.y6)))) (I (I (I (@Go.Pk.yJ) (@Go.Pk.xN)) (I (@Go.Pk.xO) (@Go.Pk.xT))) (I (I (@Go.Pk.xZ) (@Go.Pk.yE)) (I (@Go.Pk.yW) (@Go.Pk.yw)))))
theorem xh:type_of% (I (I (I (@Go.Pk.xm) (I (@Go.Pk.xI) (@Go.Pk.ya))) (I (I (@Go.Pk.xJ) (@Go.Pk.yv)) (I (@Go.Pk.xj) (@Go.Pk.yM)))) (I (I (@Go.Pk.y8) (I (@Go.Pk.xb) (@Go.Pk.y7))) (I (I (@Go.Pk.yb) (@Go.Pk.xB)) (I (@Go.Pk.zE) (@Go.Pk.zA))))):=I (I (I (@Go.Pk.xm) (I (@Go.Pk.xI) (@Go.Pk.ya))) (I (I (@Go.Pk.xJ) (@Go.Pk.yv)) (I (@Go.Pk.xj) (@Go.Pk.yM)))) (I (I (@Go.Pk.y8) (I (@Go.Pk.xb) (@Go.Pk.y7))) (I (I (@Go.Pk.yb) (@Go.Pk.xB)) (I (@Go.Pk.zE) (@Go.Pk.zA))))
end Go.Pk
