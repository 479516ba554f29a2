import Derived.Calls
import Derived.Orders
import Derived.Still
import Derived.Laws.Sem
import Derived.Laws.Cells
import Derived.Laws.World
import Derived.Laws.Rows
import Derived.Laws.Append
set_option linter.unusedVariables false
set_option linter.unusedSimpArgs false
set_option linter.unusedSectionVars false
namespace Go.Pk
theorem ax:type_of% @And.imp_right:=@And.imp_right
theorem gk:type_of% @Array.ext':=@Array.ext'
theorem jG:type_of% @Array.getElem?_toList:=@Array.getElem?_toList
theorem iM:type_of% @Array.length_toList:=@Array.length_toList
theorem nD:type_of% @Array.toArray_toList:=@Array.toArray_toList
theorem pe:type_of% @Array.toList_map:=@Array.toList_map
theorem cu:type_of% @Bool.and_eq_true:=@Bool.and_eq_true
theorem oY:type_of% @Bool.and_false:=@Bool.and_false
theorem iQ:type_of% @Bool.and_true:=@Bool.and_true
theorem ko:type_of% @Bool.false_and:=@Bool.false_and
theorem np:type_of% @Bool.false_eq_true:=@Bool.false_eq_true
theorem nJ:type_of% @Bool.false_or:=@Bool.false_or
theorem jF:type_of% @Bool.not_eq_true':=@Bool.not_eq_true'
theorem oS:type_of% @Bool.not_true:=@Bool.not_true
theorem kU:type_of% @Bool.or_eq_false_iff:=@Bool.or_eq_false_iff
theorem nq:type_of% @Bool.or_eq_true:=@Bool.or_eq_true
theorem kh:type_of% @Bool.true_and:=@Bool.true_and
theorem bX:type_of% @Int.cast_ofNat_Int:=@Int.cast_ofNat_Int
theorem qH:type_of% @Int.emod_lt_of_pos:=@Int.emod_lt_of_pos
theorem qJ:type_of% @Int.emod_nonneg:=@Int.emod_nonneg
theorem o8:type_of% @Int.eq_ofNat_of_zero_le:=@Int.eq_ofNat_of_zero_le
theorem oX:type_of% @Int.fdiv_eq_ediv_of_nonneg:=@Int.fdiv_eq_ediv_of_nonneg
theorem bK:type_of% @Int.natCast_zero:=@Int.natCast_zero
theorem nt:type_of% @Int.pow_nonneg:=@Int.pow_nonneg
theorem nC:type_of% @Int.tmod_eq_emod_of_nonneg:=@Int.tmod_eq_emod_of_nonneg
theorem gQ:type_of% @Int.toNat_natCast:=@Int.toNat_natCast
theorem iu:type_of% @List.all_eq_true:=@List.all_eq_true
theorem jg:type_of% @List.append_assoc:=@List.append_assoc
theorem eU:type_of% @List.append_nil:=@List.append_nil
theorem eD:type_of% @List.cons_append:=@List.cons_append
theorem qG:type_of% @List.contains_eq_mem:=@List.contains_eq_mem
theorem kn:type_of% @List.drop_eq_getElem_cons:=@List.drop_eq_getElem_cons
theorem pb:type_of% @List.drop_length:=@List.drop_length
theorem nF:type_of% @List.drop_succ_cons:=@List.drop_succ_cons
theorem gB:type_of% @List.drop_zero:=@List.drop_zero
theorem gT:type_of% @List.eq_nil_of_length_eq_zero:=@List.eq_nil_of_length_eq_zero
theorem oT:type_of% @List.ext_getElem?:=@List.ext_getElem?
theorem fm:type_of% @List.flatMap_cons:=@List.flatMap_cons
theorem gC:type_of% @List.flatten_cons:=@List.flatten_cons
theorem nE:type_of% @List.foldl_cons:=@List.foldl_cons
theorem fC:type_of% @List.getD_eq_getElem?_getD:=@List.getD_eq_getElem?_getD
theorem cj:type_of% @List.getElem?_append_left:=@List.getElem?_append_left
theorem ct:type_of% @List.getElem?_append_right:=@List.getElem?_append_right
theorem gS:type_of% @List.getElem?_cons_succ:=@List.getElem?_cons_succ
theorem bZ:type_of% @List.getElem?_cons_zero:=@List.getElem?_cons_zero
theorem kR:type_of% @List.getElem?_drop:=@List.getElem?_drop
theorem eC:type_of% @List.getElem?_eq_getElem:=@List.getElem?_eq_getElem
theorem tf:type_of% @List.getElem?_eq_none:=@List.getElem?_eq_none
theorem bJ:type_of% @List.getElem?_eq_some_iff:=@List.getElem?_eq_some_iff
theorem fl:type_of% @List.getElem?_map:=@List.getElem?_map
theorem tr:type_of% @List.getElem?_replicate:=@List.getElem?_replicate
theorem kl:type_of% @List.getElem?_set:=@List.getElem?_set
theorem il:type_of% @List.getElem?_set_ne:=@List.getElem?_set_ne
theorem o7:type_of% @List.getElem?_set_self:=@List.getElem?_set_self
theorem mi:type_of% @List.getElem?_toArray:=@List.getElem?_toArray
theorem ix:type_of% @List.getElem_mem:=@List.getElem_mem
theorem b6:type_of% @List.length_append:=@List.length_append
theorem de:type_of% @List.length_cons:=@List.length_cons
theorem jE:type_of% @List.length_drop:=@List.length_drop
theorem cF:type_of% @List.length_map:=@List.length_map
theorem iq:type_of% @List.length_nil:=@List.length_nil
theorem qu:type_of% @List.length_range:=@List.length_range
theorem gD:type_of% @List.length_singleton:=@List.length_singleton
theorem gR:type_of% @List.length_take:=@List.length_take
theorem cJ:type_of% @List.map_cons:=@List.map_cons
theorem lF:type_of% @List.map_drop:=@List.map_drop
theorem oW:type_of% @List.map_map:=@List.map_map
theorem ff:type_of% @List.map_nil:=@List.map_nil
theorem nL:type_of% @List.map_take:=@List.map_take
theorem eE:type_of% @List.mem_append:=@List.mem_append
theorem me:type_of% @List.mem_append_left:=@List.mem_append_left
theorem nI:type_of% @List.mem_append_right:=@List.mem_append_right
theorem cL:type_of% @List.mem_cons:=@List.mem_cons
theorem kM:type_of% @List.mem_map:=@List.mem_map
theorem lH:type_of% @List.mem_of_getElem?:=@List.mem_of_getElem?
theorem qw:type_of% @List.mem_of_mem_take:=@List.mem_of_mem_take
theorem qv:type_of% @List.mem_range:=@List.mem_range
theorem ji:type_of% @List.mem_singleton:=@List.mem_singleton
theorem qt:type_of% @List.mem_zipIdx_iff_getElem?:=@List.mem_zipIdx_iff_getElem?
theorem eJ:type_of% @List.nil_append:=@List.nil_append
theorem qF:type_of% @List.nodup_nil:=@List.nodup_nil
theorem kY:type_of% @List.not_mem_nil:=@List.not_mem_nil
theorem qx:type_of% @List.range'_succ:=@List.range'_succ
theorem bO:type_of% @List.set_cons_succ:=@List.set_cons_succ
theorem bM:type_of% @List.set_cons_zero:=@List.set_cons_zero
theorem qp:type_of% @List.size_toArray:=@List.size_toArray
theorem oU:type_of% @List.take_append_drop:=@List.take_append_drop
theorem ml:type_of% @List.take_length:=@List.take_length
theorem dX:type_of% @List.take_of_length_le:=@List.take_of_length_le
theorem qK:type_of% @List.take_succ_cons:=@List.take_succ_cons
theorem qB:type_of% @List.zip_cons_cons:=@List.zip_cons_cons
theorem cS:type_of% @Nat.add_assoc:=@Nat.add_assoc
theorem iz:type_of% @Nat.add_comm:=@Nat.add_comm
theorem cQ:type_of% @Nat.add_mul:=@Nat.add_mul
theorem eV:type_of% @Nat.add_zero:=@Nat.add_zero
theorem fD:type_of% @Nat.le_add_right:=@Nat.le_add_right
theorem lN:type_of% @Nat.le_succ:=@Nat.le_succ
theorem gl:type_of% @Nat.le_trans:=@Nat.le_trans
theorem dI:type_of% @Nat.lt_of_lt_of_le:=@Nat.lt_of_lt_of_le
theorem gW:type_of% @Nat.lt_or_ge:=@Nat.lt_or_ge
theorem eX:type_of% @Nat.lt_succ_self:=@Nat.lt_succ_self
theorem fe:type_of% @Nat.mul_le_mul_right:=@Nat.mul_le_mul_right
theorem oZ:type_of% @Nat.mul_one:=@Nat.mul_one
theorem nr:type_of% @Nat.one_mul:=@Nat.one_mul
theorem nv:type_of% @Nat.sub_zero:=@Nat.sub_zero
theorem bC:type_of% @Nat.zero_add:=@Nat.zero_add
theorem dA:type_of% @Nat.zero_le:=@Nat.zero_le
theorem nK:type_of% @Nat.zero_mul:=@Nat.zero_mul
theorem dU:type_of% @Ne.symm:=@Ne.symm
theorem qI:type_of% @Oper.upon_enter:=@Oper.upon_enter
theorem nz:type_of% @Option.bind_eq_some_iff:=@Option.bind_eq_some_iff
theorem gE:type_of% @Option.map_eq_some_iff:=@Option.map_eq_some_iff
theorem fE:type_of% @Option.map_some:=@Option.map_some
theorem aQ:type_of% @Option.some.injEq:=@Option.some.injEq
theorem jI:type_of% @Prod.mk.injEq:=@Prod.mk.injEq
theorem fo:type_of% @Result.andThen_ok:=@Result.andThen_ok
theorem gA:type_of% @Sem.run_bind:=@Sem.run_bind
theorem ke:type_of% @Sem.run_pure:=@Sem.run_pure
theorem bY:type_of% @Value.int.injEq:=@Value.int.injEq
theorem bL:type_of% @and_true:=@and_true
theorem kN:type_of% @beq_iff_eq:=@beq_iff_eq
theorem km:type_of% @beq_self_eq_true:=@beq_self_eq_true
theorem qz:type_of% @bne_self_eq_false:=@bne_self_eq_false
theorem iP:type_of% @decide_eq_false_iff_not:=@decide_eq_false_iff_not
theorem eo:type_of% @decide_eq_true_eq:=@decide_eq_true_eq
theorem eN:type_of% @eq_true:=@eq_true
theorem eB:type_of% @if_false:=@if_false
theorem ar:type_of% @if_neg:=@if_neg
theorem ay:type_of% @if_pos:=@if_pos
theorem fB:type_of% @if_true:=@if_true
theorem gw:type_of% @ne_eq:=@ne_eq
theorem jh:type_of% @not_or:=@not_or
theorem iw:type_of% @not_true_eq_false:=@not_true_eq_false
theorem kS:type_of% @or_false:=@or_false
theorem qA:type_of% @run_underlying:=@run_underlying
theorem bH:type_of% @true_and:=@true_and
theorem I {p q:Prop} (a:p) (b:q):p/\q:=⟨a,b⟩
def flat:Value->Bool
 | .agg _=>false
 | .tuple _=>false
 |_=>true
inductive D where
 |v (x:Value)
 |sl (n:Nat) (ds:List D)
 |raw (x:Value) -- a value,whatever memory it leads to
mutual
def Rd (w:World) (A:Nat->Prop):D->Value->Prop
 | .v x,u=>u=x/\flat x=true
 | .sl n ds,u=>∃a cap,u= .slice a n cap/\n≤cap/\gn w A ds a
 | .raw x,u=>u=x/\flat x=true
def gn (w:World) (A:Nat->Prop):List D->Option Addr->Prop
 |[],_=>True
 |d::ds,a=>∃b o u,a=some ⟨b,o,none⟩/\¬A b/\w.cell? ⟨b,o,none⟩=some u/\Rd w A d u/\gn w A ds (some ⟨b,o+1,none⟩)
end
def bu (w:World) (A T:Nat->Prop):List D->Option Addr->Prop
 |[],_=>True
 |d::ds,a=>∃b o u,a=some ⟨b,o,none⟩/\T b/\w.cell? ⟨b,o,none⟩=some u/\Rd w A d u/\bu w A T ds (some ⟨b,o+1,none⟩)
theorem jv {w:World} {A:Nat->Prop}:∀{ds:List D} {a:Option Addr},gn w A ds a↔bu w A (λ b=>¬A b) ds a
 |[],_=>Iff.rfl
 |d::ds,a=>by
  simp only[gn,bu];constructor
  .rintro⟨b,o,u,h1,h2,h3,h4,h5⟩;exact⟨b,o,u,h1,h2,h3,h4,jv.1 h5⟩
  .rintro⟨b,o,u,h1,h2,h3,h4,h5⟩;exact⟨b,o,u,h1,h2,h3,h4,jv.2 h5⟩
structure gJ (w:World) (A:Nat->Prop) (w':World) (A':Nat->Prop):Prop where
 hp:∀b,b<w.heap.size->¬A b->w'.heap[b]? =w.heap[b]?
 av:∀b,b<w.heap.size->A' b->A b
theorem gJ.rfl {w:World} {A:Nat->Prop}:gJ w A w A:=⟨λ _ _ _=>Eq.refl _,λ _ _ h=>h⟩
theorem rz {w:World} {b o:Nat} {u:Value} (h:w.cell? ⟨b,o,none⟩=some u):b<w.heap.size:=by
 unfold World.cell? at h;rcases gW b w.heap.size with h'|h'
 .exact h'
 .simp[Array.getElem?_eq_none h']at h
theorem uJ {w w':World} {b o:Nat} (h:w'.heap[b]? =w.heap[b]?):w'.cell? ⟨b,o,none⟩=w.cell? ⟨b,o,none⟩:=by simp[World.cell?,h]
mutual
theorem Rd.cg {w w':World} {A A':Nat->Prop} (s:gJ w A w' A'):∀{d:D} {u:Value},Rd w A d u->Rd w' A' d u
 | .v _,_,h=>by simpa[Rd]using h
 | .raw _,_,h=>by simpa[Rd]using h
 | .sl n ds,u,h=>by simp only[Rd]at h⊢;obtain⟨a,cap,h1,h2,h3⟩:=h;exact⟨a,cap,h1,h2,gn.cg s h3⟩
theorem gn.cg {w w':World} {A A':Nat->Prop} (s:gJ w A w' A'):∀{ds:List D} {a:Option Addr},gn w A ds a->gn w' A' ds a
 |[],_,_=>by simp[gn]
 |d::ds,a,h=>by simp only[gn]at h⊢;obtain⟨b,o,u,h1,h2,h3,h4,h5⟩:=h;have hb:=rz h3;exact⟨b,o,u,h1,λ h'=>h2 (s.av b hb h'),by rw[uJ (s.hp b hb h2)];exact h3,Rd.cg s h4,gn.cg s h5⟩
end
theorem Rd.flat {w:World} {A:Nat->Prop} {d:D} {u:Value} (h:Rd w A d u):flat u=true:=by
 cases d with
 |v x=>simp only[Rd]at h;obtain⟨rfl,h⟩:=h;exact h
 |sl n ds=>simp only[Rd]at h;obtain⟨a,c,rfl,_⟩:=h;rfl
 |raw x=>simp only[Rd]at h;obtain⟨rfl,h⟩:=h;exact h
theorem bu.cg {w w':World} {A A' T T':Nat->Prop} (s:gJ w A w' A') (hT:∀b,b<w.heap.size->T b->T' b/\w'.heap[b]? =w.heap[b]?):
  ∀{ds:List D} {a:Option Addr},bu w A T ds a->bu w' A' T' ds a
 |[],_,_=>trivial
 |d::ds,a,h=>by simp only[bu]at h⊢;obtain⟨b,o,u,h1,h2,h3,h4,h5⟩:=h;have hb:=rz h3;exact⟨b,o,u,h1,(hT b hb h2).1,by rw[uJ (hT b hb h2).2];exact h3,h4.cg s,h5.cg s hT⟩
theorem bu.imp {w:World} {A T T':Nat->Prop} (hT:∀b,T b->T' b):∀{ds:List D} {a:Option Addr},bu w A T ds a->bu w A T' ds a
 |[],_,_=>trivial
 |d::ds,a,h=>by simp only[bu]at h⊢;obtain⟨b,o,u,h1,h2,h3,h4,h5⟩:=h;exact⟨b,o,u,h1,hT _ h2,h3,h4,h5.imp hT⟩
theorem bu.drop {w:World} {A T:Nat->Prop}:∀{k:Nat} {ds:List D} {b o:Nat},bu w A T ds (some ⟨b,o,none⟩)->bu w A T (ds.drop k) (some ⟨b,o+k,none⟩)
 |0,ds,b,o,h=>by simpa using h
 |k+1,[],b,o,h=>by simp[bu]
 |k+1,d::ds,b,o,h=>by simp only[bu]at h;obtain⟨b',o',u,h1,_,_,_,h5⟩:=h;cases h1;have:=bu.drop (k:=k) h5;simpa[cS,iz 1 k]using this
theorem bu.take {w:World} {A T:Nat->Prop}:∀{k:Nat} {ds:List D} {a:Option Addr},bu w A T ds a->bu w A T (ds.take k) a
 |0,ds,a,h=>by simp[bu]
 |k+1,[],a,h=>by simp[bu]
 |k+1,d::ds,a,h=>by simp only[bu,qK]at h⊢;obtain⟨b',o',u,h1,h2,h3,h4,h5⟩:=h;exact⟨b',o',u,h1,h2,h3,h4,h5.take⟩
theorem bu.addr {w:World} {A T:Nat->Prop} {ds:List D} {a:Option Addr} (h:bu w A T ds a) (hne:ds≠[]):∃b o,a=some ⟨b,o,none⟩:=by
 cases ds with
 |nil=>exact absurd rfl hne
 |cons d ds=>obtain⟨b,o,u,h1,_⟩:=h;exact⟨b,o,h1⟩
theorem bu.get {w:World} {A T:Nat->Prop}:∀{ds:List D} {b o k:Nat} {d:D},bu w A T ds (some ⟨b,o,none⟩)->ds[k]? =some d->
  T b/\∃u,w.cell? ⟨b,o+k,none⟩=some u/\Rd w A d u
 |[],_,_,k,_,_,hk=>by simp at hk
 |d'::ds,b,o,0,d,h,hk=>by obtain⟨b',o',u,h1,h2,h3,h4,_⟩:=h;cases h1;simp only[bZ,aQ]at hk;exact⟨h2,u,h3,hk▸h4⟩
 |d'::ds,b,o,k+1,d,h,hk=>by obtain⟨b',o',u,h1,h2,h3,h4,h5⟩:=h;cases h1;have:=bu.get (k:=k) h5 (by simpa using hk);simpa[cS,iz 1 k]using this
theorem bu.mk {w:World} {A T:Nat->Prop} {b:Nat} (hT:T b):∀{ds:List D} {o:Nat},
  (∀k d,ds[k]? =some d->∃u,w.cell? ⟨b,o+k,none⟩=some u/\Rd w A d u)->bu w A T ds (some ⟨b,o,none⟩)
 |[],_,_=>trivial
 |d::ds,o,h=>by
  obtain⟨u,h1,h2⟩:=h 0 d (by simp)
  exact⟨b,o,u,rfl,hT,by simpa using h1,h2,bu.mk hT λ k d' hk=>by have:=h (k+1) d' (by simpa using hk);simpa[cS,iz 1 k]using this⟩
structure Hd where
 s:Nat
 j:Nat
 e:Nat
inductive C where
 |d (x:D) -- data
 |aJ (n:Nat) (ds:List D) -- a slice that is looked at alone
 |own (h:Hd) (lo n:Nat) -- a slice of a row that is this frame's own
 |ptr (h:Hd) (off:Nat) -- a pointer into memory that is this frame's own
 |dP (ds:List D) -- a pointer at cells that are looked at alone
 |eP (f:FuncId) (caps:List C) -- a function literal and what it captured
 |ab -- a bool of which nothing is known
 |dead
 |dZ (cs:List C) -- a pointer at cells that are looked at alone,slices that are looked at alone among them
 |cZ (h:Hd) (lo n k:Nat) -- a slice of a row of one's own with room for k elements,not all of them known
 |lk (h:Hd) (n:Nat) (x:Value) -- no value:x is the slice of n elements at the handle
inductive AV where
 |one (x:C)
 |agg (l:List C)
 |eY (l:List AV)
 |gd (c:Bool) (x:AV) -- a value that is there if c
structure aY where
 e:Nat
 var:Bool
 fz:Bool
 cw:Bool:=false -- it came with an object that was handed in
 sz:Nat
 cells:List C
structure RS where
 next:Nat
 l:List (Option aY)
abbrev Rs:=List (Nat×RS)
def ah (s:Nat):Rs->Option RS
 |[]=>none
 |(t,x)::l=>if t=s then some x else ah s l
def aM (s:Nat) (y:RS):Rs->Rs
 |[]=>[(s,y)]
 |(t,x)::l=>if t=s then(t,y)::l else(t,x)::aM s y l
theorem cp (s t:Nat) (y:RS):∀(r:Rs),ah t (aM s y r)=if s=t then some y else ah t r
 |[]=>by simp[aM,ah]
 |(u,x)::l=>by
  simp only[aM];by_cases h:u=s
  .rw[ay h];simp only[ah];by_cases h2:u=t
   .rw[ay h2,ay (by omega)]
   .rw[ar h2,ar (by omega),ar h2]
  .rw[ar h];simp only[ah];by_cases h2:u=t
   .rw[ay h2,ar (by omega),ay h2]
   .rw[ar h2,ar h2,cp s t y l]
structure G where
 v:List AV
 r:Rs
def aB (r:Rs) (s j:Nat):Option aY:=
 match ah s r with
 |some rs=>match rs.l[j]? with
  |some (some res)=>some res
  |_=>none
 |none=>none
def aK (r:Rs) (h:Hd):Option aY:=
 match aB r h.s h.j with
 |some res=>if res.e=h.e then some res else none
 |none=>none
def aq (r:Rs) (s:Nat):Nat:=match ah s r with|some rs=>rs.next|none=>0
theorem bq {r:Rs} {h:Hd} {res:aY} (hg:aK r h=some res):aB r h.s h.j=some res/\res.e=h.e:=by
 unfold aK at hg;cases hl:aB r h.s h.j with
 |none=>simp[hl]at hg
 |some r'=>
  simp only[hl]at hg;split at hg
  .rename_i he;simp only[aQ]at hg;subst hg;exact⟨rfl,he⟩
  .cases hg
theorem ed {r:Rs} {h:Hd} {res:aY} (hl:aB r h.s h.j=some res) (he:res.e=h.e):aK r h=some res:=by simp[aK,hl,he]
structure Pl where
 base:Option (Nat×Nat)
 cap:Nat
structure Cx where
 P:Program
 w0:World
 A0:Nat->Prop
 aL:Nat->Prop
 Obj:List (Nat×Nat):=[] -- the objects that were handed in:slot and block
 Row:List (Nat×Nat×Value):=[] -- the rows that were handed in:slot,number,value
 ds:List Deferred:=[] -- what is deferred
def Cx.n0 (cx:Cx):Nat:=cx.w0.heap.size
def OB (r:Rs) (β:Nat->Nat->Pl) (b:Nat):Prop:=
 ∃s j res o,aB r s j=some res/\res.fz=false/\(β s j).base=some (b,o)
def Av (cx:Cx) (r:Rs) (β:Nat->Nat->Pl) (b:Nat):Prop:=cx.A0 b∨OB r β b
def lh (cx:Cx) (A:Nat->Prop) (b:Nat):Prop:=¬A b∨(b<cx.n0/\¬cx.aL b)
def jR (pl:Pl) (res:aY) (lo n:Nat) (u:Value):Prop:=
 res.var=false/\lo*res.sz+n*res.sz≤res.cells.length/\lo+n≤pl.cap/\
 ∃a,u= .slice a n (pl.cap - lo)/\(pl.cap - lo=0∨∃b o,pl.base=some (b,o)/\a=some ⟨b,o+lo*res.sz,none⟩)
mutual
def aw (cx:Cx) (w:World) (r:Rs) (β:Nat->Nat->Pl):C->Value->Prop
 | .d x,u=>Rd w (Av cx r β) x u
 | .aJ n ds,u=>∃a cap,u= .slice a n cap/\n≤cap/\bu w (Av cx r β) (lh cx (Av cx r β)) ds a
 | .own h lo n,u=>flat u=true/\h.e<aq r h.s/\∀res,aK r h=some res->jR (β h.s h.j) res lo n u
 | .ptr h off,u=>flat u=true/\h.e<aq r h.s/\∀res,aK r h=some res->∃b o,(β h.s h.j).base=some (b,o)/\u= .pointer (some ⟨b,o+off,none⟩)
 | .dP ds,u=>∃b o,u= .pointer (some ⟨b,o,none⟩)/\bu w (Av cx r β) (lh cx (Av cx r β)) ds (some ⟨b,o,none⟩)
 | .eP f caps,u=>∃us,u= .func (.func f) #[] us/\aC cx w r β caps us.toList
 | .ab,u=>∃b,u= .bool b
 | .dead,_=>True
 | .dZ cs,u=>∃b o us,u= .pointer (some ⟨b,o,none⟩)/\b<w.heap.size/\lh cx (Av cx r β) b/\(∀k v,us[k]? =some v->w.cell? ⟨b,o+k,none⟩=some v/\flat v=true)/\aC cx w r β cs us
 | .cZ h lo n k,u=>flat u=true/\h.e<aq r h.s/\lo+n≤k/\∃a,u= .slice a n (k - lo)/\∀res,aK r h=some res->res.var=false/\(β h.s h.j).cap=k/\
   (k - lo=0∨∃b o,(β h.s h.j).base=some (b,o)/\a=some ⟨b,o+lo*res.sz,none⟩)
 | .lk h n x,_=>flat x=true/\h.e<aq r h.s/\∀res,aK r h=some res->jR (β h.s h.j) res 0 n x
def aC (cx:Cx) (w:World) (r:Rs) (β:Nat->Nat->Pl):List C->List Value->Prop
 |[],us=>us=[]
 |c::cs,us=>∃u us',us=u::us'/\aw cx w r β c u/\aC cx w r β cs us'
end
mutual
def aA (cx:Cx) (w:World) (r:Rs) (β:Nat->Nat->Pl):AV->Value->Prop
 | .one x,u=>aw cx w r β x u
 | .agg l,u=>∃us,u= .agg us/\aC cx w r β l us.toList
 | .eY l,u=>∃us,u= .tuple us/\aZ cx w r β l us.toList
 | .gd c x,u=>(c=true->aA cx w r β x u)/\(c=false->u=undef)
def aZ (cx:Cx) (w:World) (r:Rs) (β:Nat->Nat->Pl):List AV->List Value->Prop
 |[],us=>us=[]
 |c::cs,us=>∃u us',us=u::us'/\aA cx w r β c u/\aZ cx w r β cs us'
end
def b5 (w:World) (A:Nat->Prop) (pl:Pl) (sz:Nat) (ds:List D):Prop:=
 match pl.base with
 |none=>ds=[]/\pl.cap=0
 |some (b,o)=>∃c e,w.heap[b]? =some (.cells c e (0,0))/\o+pl.cap*sz≤c.size/\ds.length≤pl.cap*sz/\
   ∀(k:Nat) (d:D),ds[k]? =some d->∃u,c[o+k]? =some u/\Rd w A d u
def bB (cx:Cx) (w:World) (r:Rs) (β:Nat->Nat->Pl) (pl:Pl) (res:aY):Prop:=
 if res.var then res.fz=false/\∃b c e,pl.base=some (b,0)/\w.heap[b]? =some (.cells c e (0,0))/\aC cx w r β res.cells c.toList/\(∀u∈c.toList,flat u=true)
 else∃ds:List D,res.cells=ds.map C.d/\b5 w (Av cx r β) pl res.sz ds/\
  (res.fz=true->∀b o,pl.base=some (b,o)->¬Av cx r β b)
structure aH (cx:Cx) (g:G) (a:Act) (w:World) (β:Nat->Nat->Pl):Prop where
 sz:a.tmps.size=g.v.length
 df:a.defers=cx.ds
 sl:∀(i:Nat) (x:AV),g.v[i]? =some x->∃u,a.tmps[i]? =some u/\aA cx w g.r β x u
 rs:∀s j res,aB g.r s j=some res->bB cx w g.r β (β s j) res/\res.e<aq g.r s
 inj:∀s j res s' j' res' b o o',aB g.r s j=some res->res.fz=false->aB g.r s' j'=some res'->res'.fz=false->
  (β s j).base=some (b,o)->(β s' j').base=some (b,o')->s=s'/\j=j'
 fr:∀s j res b o,aB g.r s j=some res->res.fz=false->(β s j).base=some (b,o)->(cx.n0≤b∨cx.aL b)/\(res.cw=false->cx.n0≤b)
 n0:cx.n0≤w.heap.size
 ba:∀b,b<cx.n0->¬cx.aL b->w.heap[b]? =cx.w0.heap[b]?
 a0:∀b,cx.A0 b->b<cx.n0
 cw:∀b,cx.aL b->cx.A0 b
 ob:∀p b,(p,b)∈cx.Obj->0<aq g.r p/\∀res,aK g.r ⟨p,0,0⟩=some res->(β p 0).base=some (b,0)
 rw:∀p n u,(p,n,u)∈cx.Row->aw cx w g.r β (.own ⟨p,1,0⟩ 0 n) u
 os:w.os=cx.w0.os
 out:w.output=cx.w0.output
def cP (cx:Cx) (g:G) (a:Act) (w:World):Prop:=∃β,aH cx g a w β
structure Ext (cx:Cx) (w:World) (r:Rs) (β:Nat->Nat->Pl) (w':World) (r':Rs) (β':Nat->Nat->Pl):Prop where
 nx:∀s,aq r s≤aq r' s
 ba:∀(h:Hd) (res':aY),h.e<aq r h.s->aK r' h=some res'->
  ∃res,aK r h=some res/\β' h.s h.j=β h.s h.j/\res'.var=res.var/\res'.sz=res.sz/\res.cells.length≤res'.cells.length
 st:gJ w (Av cx r β) w' (Av cx r' β')
 tp:∀b,b<cx.n0->¬cx.aL b->w'.heap[b]? =w.heap[b]?
 os:w'.os=w.os
 out:w'.output=w.output
theorem Ext.top {cx:Cx} {w w':World} {r r':Rs} {β β':Nat->Nat->Pl} (x:Ext cx w r β w' r' β'):
  ∀b,b<w.heap.size->lh cx (Av cx r β) b->lh cx (Av cx r' β') b/\w'.heap[b]? =w.heap[b]? :=by
 intro b hb h;rcases h with h|⟨h1,h2⟩
 .exact⟨.inl λ h'=>h (x.st.av b hb h'),x.st.hp b hb h⟩
 .exact⟨.inr ⟨h1,h2⟩,x.tp b h1 h2⟩
theorem jR.same {pl:Pl} {res res':aY} {lo n:Nat} {u:Value} (h:jR pl res lo n u) (h1:res'.var=res.var) (h2:res'.sz=res.sz)
  (h3:res.cells.length≤res'.cells.length):jR pl res' lo n u:=by
 unfold jR at*;rw[h1,h2];exact⟨h.1,gl h.2.1 h3,h.2.2⟩
mutual
theorem aw.ext {cx:Cx} {w w':World} {r r':Rs} {β β':Nat->Nat->Pl} (x:Ext cx w r β w' r' β'):∀{c:C} {u:Value},aw cx w r β c u->aw cx w' r' β' c u
 | .d _,_,h=>by simp only[aw]at h⊢;exact h.cg x.st
 | .aJ n ds,_,h=>by simp only[aw]at h⊢;obtain⟨a,cap,h1,h2,h3⟩:=h;exact⟨a,cap,h1,h2,h3.cg x.st x.top⟩
 | .own hd lo n,u,h=>by simp only[aw]at h⊢;obtain⟨h1,h2,h3⟩:=h;refine⟨h1,dI h2 (x.nx _),λ res' hr=> ?_⟩;obtain⟨res,g1,g2,g3,g4,g5⟩:=x.ba hd res' h2 hr;rw[g2];exact(h3 res g1).same g3 g4 g5
 | .ptr hd off,u,h=>by simp only[aw]at h⊢;obtain⟨h1,h2,h3⟩:=h;refine⟨h1,dI h2 (x.nx _),λ res' hr=> ?_⟩;obtain⟨res,g1,g2,_⟩:=x.ba hd res' h2 hr;rw[g2];exact h3 res g1
 | .dP ds,_,h=>by simp only[aw]at h⊢;obtain⟨b,o,h1,h2⟩:=h;exact⟨b,o,h1,h2.cg x.st x.top⟩
 | .eP f caps,_,h=>by simp only[aw]at h⊢;obtain⟨us,h1,h2⟩:=h;exact⟨us,h1,aC.ext x h2⟩
 | .ab,_,h=>by simpa only[aw]using h
 | .dead,_,_=>by simp[aw]
 | .dZ cs,u,h=>by
  simp only[aw]at h⊢;obtain⟨b,o,us,h1,h2,h3,h4,h5⟩:=h;obtain⟨t1,t2⟩:=x.top b h2 h3;refine⟨b,o,us,h1, ?_,t1,λ k v hk=>by rw[uJ t2];exact h4 k v hk,aC.ext x h5⟩;rcases gW b w'.heap.size with hb|hb
  .exact hb
  .rw[Array.getElem?_eq_none hb,Array.getElem?_eq_getElem h2]at t2;cases t2
 | .cZ hd lo n k,u,h=>by simp only[aw]at h⊢;obtain⟨h1,h2,h3,a,h4,h5⟩:=h;refine⟨h1,dI h2 (x.nx _),h3,a,h4,λ res' hr=> ?_⟩;obtain⟨res,g1,g2,g3,g4,g5⟩:=x.ba hd res' h2 hr;rw[g2,g3,g4];exact h5 res g1
 | .lk hd n x',u,h=>by simp only[aw]at h⊢;obtain⟨h1,h2,h3⟩:=h;refine⟨h1,dI h2 (x.nx _),λ res' hr=> ?_⟩;obtain⟨res,g1,g2,g3,g4,g5⟩:=x.ba hd res' h2 hr;rw[g2];exact(h3 res g1).same g3 g4 g5
theorem aC.ext {cx:Cx} {w w':World} {r r':Rs} {β β':Nat->Nat->Pl} (x:Ext cx w r β w' r' β'):∀{c:List C} {u:List Value},aC cx w r β c u->aC cx w' r' β' c u
 |[],_,h=>by simpa[aC]using h
 |c::cs,_,h=>by simp only[aC]at h⊢;obtain⟨u,us,h1,h2,h3⟩:=h;exact⟨u,us,h1,aw.ext x h2,aC.ext x h3⟩
end
mutual
theorem aA.ext {cx:Cx} {w w':World} {r r':Rs} {β β':Nat->Nat->Pl} (x:Ext cx w r β w' r' β'):∀{c:AV} {u:Value},aA cx w r β c u->aA cx w' r' β' c u
 | .one _,_,h=>by simp only[aA]at h⊢;exact h.ext x
 | .agg l,_,h=>by simp only[aA]at h⊢;obtain⟨us,h1,h2⟩:=h;exact⟨us,h1,h2.ext x⟩
 | .eY l,_,h=>by simp only[aA]at h⊢;obtain⟨us,h1,h2⟩:=h;exact⟨us,h1,aZ.ext x h2⟩
 | .gd c y,_,h=>by simp only[aA]at h⊢;exact⟨λ hc=>aA.ext x (h.1 hc),h.2⟩
theorem aZ.ext {cx:Cx} {w w':World} {r r':Rs} {β β':Nat->Nat->Pl} (x:Ext cx w r β w' r' β'):∀{c:List AV} {u:List Value},aZ cx w r β c u->aZ cx w' r' β' c u
 |[],_,h=>by simpa[aZ]using h
 |c::cs,_,h=>by simp only[aZ]at h⊢;obtain⟨u,us,h1,h2,h3⟩:=h;exact⟨u,us,h1,aA.ext x h2,aZ.ext x h3⟩
end
theorem b5.cg {w w':World} {A A':Nat->Prop} (s:gJ w A w' A') {pl:Pl} {sz:Nat} {ds:List D}
  (hb:∀b o,pl.base=some (b,o)->w'.heap[b]? =w.heap[b]?) (h:b5 w A pl sz ds):b5 w' A' pl sz ds:=by
 unfold b5 at*;split at h
 .exact h
 .rename_i b o hbase;obtain⟨c,e,h1,h2,h3,h4⟩:=h;refine⟨c,e,by rw[hb b o hbase];exact h1,h2,h3,λ k d hk=> ?_⟩;obtain⟨u,g1,g2⟩:=h4 k d hk;exact⟨u,g1,g2.cg s⟩
theorem bB.ext {cx:Cx} {w w':World} {r r':Rs} {β β':Nat->Nat->Pl} (x:Ext cx w r β w' r' β') {pl:Pl} {res:aY}
  (hb:∀b o,pl.base=some (b,o)->w'.heap[b]? =w.heap[b]?)
  (hs:∀b o,pl.base=some (b,o)->b<w.heap.size) (h:bB cx w r β pl res):bB cx w' r' β' pl res:=by
 unfold bB at*;split
 .rename_i hv;rw[ay hv]at h;obtain⟨h0,b,c,e,h1,h2,h3,h4⟩:=h;exact⟨h0,b,c,e,h1,by rw[hb b 0 h1];exact h2,h3.ext x,h4⟩
 .rename_i hv;rw[ar hv]at h;obtain⟨ds,h1,h2,h3⟩:=h;exact⟨ds,h1,h2.cg x.st hb,λ hf b o hbase hA=>h3 hf b o hbase (x.st.av b (hs b o hbase) hA)⟩
theorem bB.lt {cx:Cx} {w:World} {r:Rs} {β:Nat->Nat->Pl} {pl:Pl} {res:aY} (h:bB cx w r β pl res) {b o:Nat} (hb:pl.base=some (b,o)):b<w.heap.size:=by
 have key:∀{c e},w.heap[b]? =some (Obj.cells c e (0,0))->b<w.heap.size:=λ h1=>by
  rcases gW b w.heap.size with h'|h'
  .exact h'
  .simp[Array.getElem?_eq_none h']at h1
 unfold bB at h;split at h
 .obtain⟨_,b',c,e,h1,h2,_⟩:=h;rw[hb]at h1;cases h1;exact key h2
 .obtain⟨ds,_,h2,_⟩:=h;simp only[b5,hb]at h2;obtain⟨c,e,h3,_⟩:=h2;exact key h3
def G.put (g:G) (dst:Option Nat) (x:AV):G:=
 match dst with
 |some d=>{g with v:=g.v.set d x}
 |none=>g
theorem aH.put {cx:Cx} {g:G} {a:Act} {w:World} {β:Nat->Nat->Pl} (h:aH cx g a w β) (dst:Option Nat) {x:AV} {u:Value} (hx:aA cx w g.r β x u):
  aH cx (g.put dst x) (a.put dst u) w β:=by
 cases dst with
 |none=>exact h
 |some d=>
  refine {h with sz:=by simpa[G.put,Act.put]using h.sz,df:=h.df,sl:=λ i y hi=> ?_};simp only[G.put,Act.put,kl,Array.getElem?_setIfInBounds]at hi⊢;by_cases hd:d=i
  .subst hd;rw[ay rfl]at hi⊢;split at hi
   .rename_i hlt;rw[ay (by rw[h.sz];exact hlt)];cases hi;exact⟨u,rfl,hx⟩
   .cases hi
  .rw[ar hd]at hi⊢;exact h.sl i y hi
theorem aH.NH {cx:Cx} {g:G} {a:Act} {w w':World} {r':Rs} {β β':Nat->Nat->Pl} (h:aH cx g a w β) (x:Ext cx w g.r β w' r' β'):
  ∀(i:Nat) (y:AV),g.v[i]? =some y->∃u,a.tmps[i]? =some u/\aA cx w' r' β' y u:=λ i y hi=>
 let ⟨u,h1,h2⟩:=h.sl i y hi
 ⟨u,h1,h2.ext x⟩
inductive TD where
 |bool|int (k:IntKind)|string|slice (e:Nat)|struct (fs:List (Nat×Nat))|array (n e:Nat)|pointer (e:Nat)|other
structure TI where
 size:Nat
 bytes:Nat
 zero:List Value
 desc:TD
 eq:Bool:=false
def c8:TypeDesc->TD
 | .bool=> .bool
 | .int k=> .int k
 | .string=> .string
 | .slice e=> .slice e
 | .struct fs=> .struct (fs.toList.map λ f=>(f.offset,f.type))
 | .array n e=> .array n e
 | .pointer e=> .pointer e
 |_=> .other
def nN (P:Program) (eqs:List Nat) (t:Nat):Option TI:=
 match P.info? t,P.underlying t with
 |some i,some d=>match i.zero with
  |some z=>if z.cells.toList.all flat&&z.cells.toList.length==i.size then some {size:=i.size,bytes:=i.bytes,zero:=z.cells.toList,desc:=c8 d,eq:=eqs.contains t}else none
  |none=>none
 |_,_=>none
def ph:TD->Bool
 | .struct _=>true
 | .array _ _=>true
 |_=>false
def bg (v:List AV):Operand->AV
 | .tmp t=>v.getD t (.one .dead)
 | .const x=> .one (if flat x=true then .d (.v x)else .dead)
 | .func f=> .one (.d (.v (.func (.func f) #[] #[])))
 | .global _=> .one .dead
def ev (v:List AV) (x:Operand):AV:=
 match bg v x with
 | .gd _ y=>y
 | .one y=> .one y
 | .agg y=> .agg y
 | .eY y=> .eY y
def bf (c:Bool) (v:List AV) (x:Operand):Prop:=
 match bg v x with
 | .gd c' _=>c=true->c'=true
 |_=>True
def cO (v:List AV):List Operand->List AV
 |[]=>[]
 |x::xs=>ev v x::cO v xs
def cT (c:Bool) (v:List AV):List Operand->Prop
 |[]=>True
 |x::xs=>bf c v x/\cT c v xs
structure Out where
 sc:Prop
 x:AV
 r:Rs
def bad:Out:=⟨False, .one .dead,[]⟩
def live:C->Bool
 | .dead=>false
 | .lk _ _ _=>false
 |_=>true
def jD:List C->Bool
 |[]=>true
 |c::cs=>live c&&jD cs
def cellsOf:AV->List C
 | .one x=>if live x=true then [x]else []
 | .agg l=>l
 |_=>[]
def kH:List AV->Option (List C)
 |[]=>some []
 |y::ys=>match y,kH ys with
  | .one x,some xs=>some (x::xs)
  |_,_=>none
theorem yK:kH []=some []:=rfl
theorem xx {x:C} {ys:List AV}:kH (.one x::ys)=(match kH ys with|some xs=>some (x::xs)|none=>none):=by cases h:kH ys<;>simp[kH,h]
def C.pq:C->Option D
 | .d x=>some x
 |_=>none
def pd:D->D
 | .v (.slice none 0 0)=> .sl 0 []
 |x=>x
def cX:List C->Option (List D)
 |[]=>some []
 |c::cs=>match c.pq,cX cs with
  |some d,some ds=>some (d::ds)
  |_,_=>none
def sub (lo n sz:Nat) (l:List C):List C:=(l.drop (lo*sz)).take (n*sz)
def rowOf (r:Rs):C->Option (Nat×List D)
 | .d (.sl n ds)=>some (n,ds)
 | .d (.v (.slice none 0 0))=>some (0,[])
 | .aJ n ds=>some (n,ds)
 | .own h lo n=>match aK r h with
  |some res=>match cX (sub lo n res.sz res.cells)with
   |some ds=>some (n,ds)
   |none=>none
  |none=>none
 | .cZ h lo n _=>match aK r h with
  |some res=>match cX (sub lo n res.sz res.cells)with
   |some ds=>some (n,ds)
   |none=>none
  |none=>none
 |_=>none
def jj (r:Rs):C->Option (D×Rs)
 | .d x=>some (pd x,r)
 | .own h lo n=>match aK r h,ah h.s r with
  |some res,some rs=>if res.cw then none else
   match cX (sub lo n res.sz res.cells)with
   |some ds=>some (.sl n ds,aM h.s {rs with l:=rs.l.set h.j (some {res with fz:=true})} r)
   |none=>none
  |_,_=>none
 |_=>none
def gh:Rs->List C->Option (List D×Rs)
 |r,[]=>some ([],r)
 |r,c::cs=>match jj r c with
  |some (d,r')=>match gh r' cs with
   |some (ds,r'')=>some (d::ds,r'')
   |none=>none
  |none=>none
def qP (op:BinOp):Value->Value->Option Value
 | .int k a, .int k' b=>
  if k=k' then
   match op with
   | .add=>some (.int k (k.wrap (a+b)))
   | .sub=>some (.int k (k.wrap (a - b)))
   | .mul=>some (.int k (k.wrap (a*b)))
   | .quo=>if b=0 then none else some (.int k (k.wrap (a.tdiv b)))
   | .rem=>if b=0 then none else some (.int k (a.tmod b))
   | .and=>some (.int k (k.wrap (BitVec.ofInt k.bits a&&&BitVec.ofInt k.bits b).toNat))
   | .or=>some (.int k (k.wrap (BitVec.ofInt k.bits a|||BitVec.ofInt k.bits b).toNat))
   | .xor=>some (.int k (k.wrap (BitVec.ofInt k.bits a^^^BitVec.ofInt k.bits b).toNat))
   | .shr=>if b<0 then none else some (.int k (a.fdiv (2^(min b.toNat k.bits))))
   | .shl=>if b<0 then none else some (.int k (k.wrap (a*2^(min b.toNat k.bits))))
   | .eql=>some (.bool (a==b))
   | .neq=>some (.bool (a !=b))
   | .lss=>some (.bool (decide (a<b)))
   | .leq=>some (.bool (decide (a≤b)))
   | .gtr=>some (.bool (decide (a>b)))
   | .geq=>some (.bool (decide (a≥b)))
   |_=>none
  else match op with
   | .shr=>if b<0 then none else some (.int k (a.fdiv (2^(min b.toNat k.bits))))
   | .shl=>if b<0 then none else some (.int k (k.wrap (a*2^(min b.toNat k.bits))))
   |_=>none
 | .string a, .string b=>
  match op with
  | .eql=>some (.bool (a.toList==b.toList))
  | .neq=>some (.bool (!(a.toList==b.toList)))
  | .lss=>some (.bool (Op.bytesLess a.toList b.toList))
  | .leq=>some (.bool (Op.bytesLess a.toList b.toList||a.toList==b.toList))
  | .gtr=>some (.bool !(Op.bytesLess a.toList b.toList||a.toList==b.toList))
  | .geq=>some (.bool !(Op.bytesLess a.toList b.toList))
  |_=>none
 |_,_=>none
def lM:AV->Option (Bool×Bool)
 | .one (.d (.v (.bool p)))=>some (true,p)
 | .gd c (.one (.d (.v (.bool p))))=>some (c,p)
 | .gd false _=>some (false,false)
 |_=>none
theorem Gy:(true==false)=false:=rfl
theorem Ik:(false==true)=false:=rfl
def md (b p q:Bool):Bool:=if b then p else q
theorem xK (b p:Bool):md b p false=(b&&p):=by cases b<;>simp[md]
theorem yH (b q:Bool):md b true q=(b||q):=by cases b<;>simp[md]
def pv:Value->Value->Bool
 | .int _ a, .int _ b=>a==b
 | .bool a, .bool b=>a==b
 | .string a, .string b=>a.toList==b.toList
 |_,_=>false
def cI:Value->Nat
 | .int .i8 _=>1| .int .i16 _=>2| .int .i32 _=>3| .int .i64 _=>4| .int .u8 _=>5| .int .u16 _=>6| .int .u32 _=>7| .int .u64 _=>8
 | .bool _=>9
 | .string _=>10
 |_=>0
def ek:List Value->List Value->Bool
 |[],[]=>true
 |x::xs,y::ys=>pv x y&&ek xs ys
 |_,_=>false
def tz:C->Option Value
 | .d (.v x)=>some x
 |_=>none
def ka:List C->Option (List Value)
 |[]=>some []
 |c::cs=>match tz c,ka cs with
  |some x,some xs=>some (x::xs)
  |_,_=>none
inductive RO where
 |d (x:D)
 |own (sz n:Nat) (ds:List D) (bo:Bool)
inductive RF where
 |one (x:RO)
 |agg (l:List RO)
inductive Arg where
 |f (x:AV)
 |obj (l:List RO)
 |row (sz n:Nat) (ds:List D)
 |dC (pre post:List C) (sz n:Nat) (ds:List D)
inductive cr where
 |cb (b:Nat)
 |val (u:Value)
def b9:List cr->List Nat
 |[]=>[]
 | .cb b::l=>b::b9 l
 | .val _::l=>b9 l
def RF.cells:RF->List RO
 | .one x=>[x]
 | .agg l=>l
def cA (A:Nat->Prop) (w:World) (pl:Pl):RO->Value->Prop
 | .d x,u=>Rd w A x u
 | .own sz n ds _,u=>n*sz≤ds.length/\n≤pl.cap/\b5 w A pl sz ds/\
   (∃a,u= .slice a n pl.cap/\(pl.cap=0∨∃b o,pl.base=some (b,o)/\a=some ⟨b,o,none⟩))
def bP (A:Nat->Prop) (w:World) (γ:Nat->Pl):Nat->List RO->List Value->Prop
 |_,[],us=>us=[]
 |k,x::xs,us=>∃u us',us=u::us'/\cA A w (γ k) x u/\bP A w γ (k+1) xs us'
def NB (γ:Nat->Pl):Nat->List RO->Nat->Prop
 |_,[],_=>False
 |k, .own _ _ _ _::xs,b=>(∃o,(γ k).base=some (b,o))∨NB γ (k+1) xs b
 |k, .d _::xs,b=>NB γ (k+1) xs b
def iG (A:Nat->Prop) (w:World) (γ:Nat->Pl) (k:Nat):RF->Value->Prop
 | .one x,u=>cA A w (γ k) x u
 | .agg l,u=>∃us,u= .agg us/\bP A w γ k l us.toList
def dp (A:Nat->Prop) (w:World) (γ:Nat->Pl):Nat->List RF->List Value->Prop
 |_,[],us=>us=[]
 |k,x::xs,us=>∃u us',us=u::us'/\iG A w γ k x u/\dp A w γ (k+x.cells.length) xs us'
def cn (rfs:List RF) (objs:List (List RO)):List RO:=rfs.flatMap RF.cells++objs.flatten
def eA (A:Nat->Prop) (w:World) (γ:Nat->Pl):Nat->List (List RO)->List cr->Prop
 |_,[],bs=>bs=[]
 |_,_::_,[]=>False
 |k,l::ls, .cb b::bs=>(∃c e,w.heap[b]? =some (.cells c e (0,0))/\bP A w γ k l c.toList/\(∀u∈c.toList,flat u=true))/\eA A w γ (k+l.length) ls bs
 |k,l::ls, .val u::bs=>(l=[]∨bP A w γ k l [u])/\eA A w γ (k+l.length) ls bs
def mn (γ:Nat->Pl) (l:List RO):Prop:=
 ∀(i j b o o':Nat) (sz n:Nat) (ds:List D) (bo:Bool) (sz' n':Nat) (ds':List D) (bo':Bool),l[i]? =some (.own sz n ds bo)->l[j]? =some (.own sz' n' ds' bo')->
  (γ i).base=some (b,o)->(γ j).base=some (b,o')->i=j
structure dc (w:World) (A0 aL:Nat->Prop) (w':World) (bs:List cr) (rfs:List RF) (objs:List (List RO)) (u:Value):Prop where
 mem:∃γ:Nat->Pl,∃us:List Value,
  u=(match us with|[x]=>x|us=> .tuple us.toArray)/\
  dp (λ b=>A0 b∨NB γ 0 (cn rfs objs) b) w' γ 0 rfs us/\
  eA (λ b=>A0 b∨NB γ 0 (cn rfs objs) b) w' γ (rfs.flatMap RF.cells).length objs bs/\
  (∀b,NB γ 0 (cn rfs objs) b->(w.heap.size≤b∨aL b)/\b ∉ b9 bs)/\
  (∀(i sz n:Nat) (ds:List D) (b o:Nat),(cn rfs objs)[i]? =some (.own sz n ds false)->(γ i).base=some (b,o)->w.heap.size≤b)/\
  mn γ (cn rfs objs)
 size:w.heap.size≤w'.heap.size
 ba:∀b,b<w.heap.size->¬aL b->w'.heap[b]? =w.heap[b]?
 os:w'.os=w.os
 out:w'.output=w.output
def dt (P:Program) (w:World) (A0 aL:Nat->Prop):Cx:={P,w0:=w,A0,aL}
def aW (P:Program) (w:World) (A0 aL:Nat->Prop) (γ:Nat->Pl):Nat->List Arg->List cr->List Value->Prop
 |_,[],bs,us=>us=[]/\bs=[]
 |k, .f x::xs,bs,us=>∃u us',us=u::us'/\aA (dt P w A0 aL) w [] (λ _ _=>⟨none,0⟩) x u/\aW P w A0 aL γ k xs bs us'
 |k, .obj l::xs,bs,us=>∃b bs' us' c e,us= .pointer (some ⟨b,0,none⟩)::us'/\bs= .cb b::bs'/\aL b/\w.heap[b]? =some (.cells c e (0,0))/\
   bP A0 w γ k l c.toList/\(∀v∈c.toList,flat v=true)/\aW P w A0 aL γ (k+l.length) xs bs' us'
 |k, .row sz n ds::xs,bs,us=>∃u bs' us',us=u::us'/\bs= .val u::bs'/\cA A0 w (γ k) (.own sz n ds true) u/\aW P w A0 aL γ (k+1) xs bs' us'
 |k, .dC pre post sz n ds::xs,bs,us=>∃vs u ws bs' us',us= .agg (vs++u::ws).toArray::us'/\bs= .val u::bs'/\aC (dt P w A0 aL) w [] (λ _ _=>⟨none,0⟩) pre vs/\aC (dt P w A0 aL) w [] (λ _ _=>⟨none,0⟩) post ws/\
   cA A0 w (γ k) (.own sz n ds true) u/\aW P w A0 aL γ (k+1) xs bs' us'
def bn:List Arg->List RO
 |[]=>[]
 | .f _::xs=>bn xs
 | .obj l::xs=>l++bn xs
 | .row sz n ds::xs=> .own sz n ds true::bn xs
 | .dC _ _ sz n ds::xs=> .own sz n ds true::bn xs
def ae (P:Program) (f:FuncId) (args:List Arg) (post:List RF->List (List RO)->Prop):Prop:=
 (∀(us:Array Value) (w:World),(callFunc f us).run P w= .ok (.enter f us) w)/\
 ∀(w:World) (A0 aL:Nat->Prop) (γ:Nat->Pl) (bs:List cr) (us:List Value),(∀b,A0 b->b<w.heap.size)->(∀b,aL b->A0 b)->
  aW P w A0 aL γ 0 args bs us->(∀b,NB γ 0 (bn args) b->aL b/\b ∉ b9 bs)->(b9 bs).Nodup->mn γ (bn args)->
  Calls P f us.toArray w λ e w'=>∃rfs objs u,post rfs objs/\e= .returned u/\dc w A0 aL w' bs rfs objs u
theorem ae.mono {P:Program} {f:FuncId} {args:List Arg} {post post':List RF->List (List RO)->Prop} (h:ae P f args post)
  (hp:∀r o,post r o->post' r o):ae P f args post':=⟨h.1,λ w A0 aL γ bs us h1 h2 h3 h4 h5 h6=>
 (h.2 w A0 aL γ bs us h1 h2 h3 h4 h5 h6).mono λ _ _ ⟨r,o,u,g1,g2,g3⟩=>⟨r,o,u,hp _ _ g1,g2,g3⟩⟩
def dD (s e:Nat):Nat->List RO->List C
 |_,[]=>[]
 |k, .d x::xs=> .d x::dD s e (k+1) xs
 |k, .own _ n _ _::xs=> .own ⟨s,k+1,e⟩ 0 n::dD s e (k+1) xs
def dy (B:Bool) (e:Nat):List RO->List (Option aY)
 |[]=>[]
 | .d _::xs=>none::dy B e xs
 | .own sz _ ds bo::xs=>some {e,var:=false,fz:=false,cw:=bo&&B,sz,cells:=ds.map C.d}::dy B e xs
def qq (s e k:Nat):RF->AV
 | .one x=>match dD s e k [x]with|[c]=> .one c|_=> .one .dead
 | .agg l=> .agg (dD s e k l)
def fx (s e:Nat):Nat->List RF->List AV
 |_,[]=>[]
 |k,x::xs=>qq s e k x::fx s e (k+x.cells.length) xs
def hP:List AV->AV
 |[x]=>x
 |l=> .eY l
def fR:List RO->Bool
 |[]=>true
 | .d _::xs=>fR xs
 | .own _ _ _ _::_=>false
def gb (B:Bool) (r:Rs) (dst:Option Nat) (rfs:List RF):AV×Rs:=
 let cells:=rfs.flatMap RF.cells
 if fR cells then(hP (fx 0 0 0 rfs),r)
 else match dst with
  |some d=>(hP (fx d (aq r d) 0 rfs),aM d {next:=aq r d+1,l:=none::dy B (aq r d) cells} r)
  |none=>(.one .dead,r)
abbrev dx (r:Rs) (dst:Option Nat) (rfs:List RF):AV×Rs:=gb false r dst rfs
def gV (r:Rs) (s:Nat):C->Option C
 | .d x=>some (.d (pd x))
 | .aJ n ds=>some (.aJ n ds)
 | .own h lo n=>if h.s=s then(match rowOf r (.own h lo n)with
  |some (n,ds)=>some (.aJ n ds)
  |none=>none)else none
 |_=>none
def ig (r:Rs) (s:Nat):List C->Option (List C)
 |[]=>some []
 |c::cs=>match gV r s c,ig r s cs with
  |some x,some xs=>some (x::xs)
  |_,_=>none
def bd (r:Rs):C->Option C
 | .d x=>some (.d x)
 | .aJ n ds=>some (.aJ n ds)
 | .own h lo n=>match rowOf r (.own h lo n)with
  |some (n,ds)=>some (.aJ n ds)
  |none=>none
 | .dP ds=>some (.dP ds)
 | .ptr h off=>match aK r h with
  |some res=>match cX (res.cells.drop off)with
   |some ds=>some (.dP ds)
   |none=>(match ig r h.s (res.cells.drop off)with|some cs=>some (.dZ cs)|none=>none)
  |none=>none
 | .eP f caps=>match lendCs r caps with
  |some cs=>some (.eP f cs)
  |none=>none
 | .ab=>none
 | .dead=>none
 | .dZ cs=>match lendCs r cs with
  |some ys=>some (.dZ ys)
  |none=>none
 | .cZ h lo n k=>match rowOf r (.cZ h lo n k)with
  |some (n,ds)=>some (.aJ n ds)
  |none=>none
 | .lk _ _ _=>none
where lendCs (r:Rs):List C->Option (List C)
 |[]=>some []
 |c::cs=>match bd r c,lendCs r cs with
  |some x,some xs=>some (x::xs)
  |_,_=>none
def kj (r:Rs):AV->Option AV
 | .one x=>match bd r x with|some y=>some (.one y)|none=>none
 | .agg l=>match bd.lendCs r l with|some y=>some (.agg y)|none=>none
 |_=>none
def eT (r:Rs):List AV->Option (List Arg)
 |[]=>some []
 |x::xs=>match kj r x,eT r xs with
  |some y,some ys=>some (.f y::ys)
  |_,_=>none
def s9 (P:Program) (c:Bool) (f:FuncId) (args:List Arg) (K:List RF->Prop):Prop:=
 ∃rfs,(c=true->ae P f args (λ r o=>r=rfs/\o=[]))/\K rfs
theorem s9.congr {P:Program} {c:Bool} {f:FuncId} {args args':List Arg} {K:List RF->Prop} (h:args=args'):s9 P c f args K=s9 P c f args' K:=by rw[h]
def jb:AV->Option (FuncId×List C)
 | .one (.d (.v (.func (.func f) ⟨[]⟩ ⟨[]⟩)))=>some (f,[])
 | .one (.eP f caps)=>some (f,caps)
 |_=>none
def jq (r:Rs):C->Option RO
 | .d x=>some (.d x)
 | .own h lo n=>match aK r h with
  |some res=>if res.fz=true then(match cX (sub lo n res.sz res.cells)with|some ds=>some (.d (.sl n ds))|none=>none)
   else match lo,cX res.cells with
    |0,some ds=>some (.own res.sz n ds res.cw)
    |_,_=>none
  |none=>none
 |_=>none
def cM (r:Rs):List C->Option (List RO)
 |[]=>some []
 |x::xs=>match jq r x,cM r xs with
  |some y,some ys=>some (y::ys)
  |_,_=>none
def gZ (r:Rs):List (List C)->Option (List (List RO))
 |[]=>some []
 |x::xs=>match cM r x,gZ r xs with
  |some y,some ys=>some (y::ys)
  |_,_=>none
def lg (r:Rs):C->List (Nat×Nat)
 | .own h _ _=>match aK r h with
  |some res=>if res.fz=true then []else [(h.s,h.j)]
  |none=>[]
 |_=>[]
def eL (r:Rs):List C->List (Nat×Nat)
 |[]=>[]
 |x::xs=>lg r x++eL r xs
def iV:List (Nat×Nat)->Bool
 |[]=>true
 |x::xs=> !xs.contains x&&iV xs
def kJ (r:Rs) (d:Nat):AV->AV×Rs
 | .one (.own h lo n)=>
  if h.s=d then(.one (.own h lo n),r)else
  match aK r h with
  |some res=>
   if res.fz=true then(.one (.own h lo n),r)
   else match ah h.s r with
    |some rs=>(.one (.own ⟨d,1,aq r d⟩ lo n),aM d {next:=aq r d+1,l:=[none,some {res with e:=aq r d}]} (aM h.s {rs with l:=rs.l.set h.j none} r))
    |none=>(.one .dead,r)
  |none=>(.one .dead,r)
 |x=>(x,r)
def ld (d:Nat):AV->AV
 | .one (.cZ h lo n k)=>if h.s=d then .one (.cZ h lo n k)else .one (.own h lo n)
 |x=>x
def lS (r:Rs) (d:Nat):AV->Prop
 | .one (.cZ h lo n _)=>if h.s=d then True else(match aK r h with
  |some res=>(lo+n)*res.sz≤res.cells.length
  |none=>False)
 |_=>True
def eM (d e k:Nat) (c:C) (r:Rs):C×Option aY×Rs:=
 match c with
 | .own h lo n=>
  match (if h.s=d then none else aK r h),ah h.s r with
  |some res,some rs=>
   if res.fz=true then(c,none,r)
   else(.own ⟨d,k+1,e⟩ lo n,some {res with e:=e},aM h.s {rs with l:=rs.l.set h.j none} r)
  |_,_=>(.dead,none,r)
 | .cZ _ _ _ _=>(.dead,none,r)
 | .lk _ _ _=>(.dead,none,r)
 |c=>(c,none,r)
def cE (d:Nat):Nat->Nat->List C->Rs->List C×List (Option aY)×Rs
 |_,_,[],r=>([],[],r)
 |e,k,c::cs,r=>((eM d e k c r).1::(cE d (e+1) (k+1) cs (eM d e k c r).2.2).1,
   (eM d e k c r).2.1::(cE d (e+1) (k+1) cs (eM d e k c r).2.2).2.1,(cE d (e+1) (k+1) cs (eM d e k c r).2.2).2.2)
def ca {α:Type} (i:Nat):List α->List α->List α
 |[],l=>l
 |x::xs,l=>ca (i+1) xs (l.set i x)
def oV (ti:TI):List C:=ti.zero.map λ v=>C.d (.v v)
def sliceB (o:Option AV) (dflt:Int):Option Int:=
 match o with
 |none=>some dflt
 |some (.one (.d (.v (.int _ n))))=>some n
 |_=>none
def eQ (v:List AV):Option Operand->Option AV
 |none=>none
 |some y=>some (ev v y)
def fS (c:Bool) (v:List AV):Option Operand->Prop
 |none=>True
 |some y=>bf c v y
section
variable (T:Nat->Option TI) (P:Program)
def pX (t f:Nat):Option Nat:=
 match T t with
 |some ti=>match ti.desc with
  | .struct fs=>match fs[f]? with
   |some (o,ft)=>match T ft with
    |some fi=>if fi.size=0 then none else some o
    |none=>none
   |none=>none
  |_=>none
 |none=>none
def nd (t f:Nat):Option (Nat×Nat):=
 match T t with
 |some ti=>match ti.desc with
  | .struct fs=>match fs[f]? with
   |some (o,ft)=>match T ft with
    |some fi=>some (o,fi.size)
    |none=>none
   |none=>none
  | .array _ e=>match T e with
   |some ei=>some (f*ei.size,ei.size)
   |none=>none
  |_=>none
 |none=>none
def mB:List (Nat×Nat)->Bool
 |[]=>true
 |(_,ft)::l=>(match T ft with|some _=>true|none=>false)&&mB l
def p' (t:Nat):Bool:=
 match T t with
 |some ti=>match ti.desc with
  | .struct fs=>mB T fs
  | .array _ e=>(match T e with|some _=>true|none=>false)
  |_=>false
 |none=>false
def ly (t:Nat):List (Nat×AV)->List C->Option (List C)
 |[],l=>some l
 |(i,y)::ps,l=>match nd T t i with
  |some (o,n)=>if(cellsOf y).length=n/\n≠0/\o+n≤l.length then ly t ps (ca o (cellsOf y) l)else none
  |none=>none
def eI (t:Nat):Option (Nat×TI):=
 match T t with
 |some ti=>match ti.desc with
  | .slice e=>match T e with
   |some ei=>some (e,ei)
   |none=>none
  |_=>none
 |none=>none
def iy (t:Nat) (l:List C):Prop×AV:=
 match T t with
 |some ti=>if ph ti.desc=true then(ti.size≤l.length, .agg (l.take ti.size))else match l with
  |x::_=>(True, .one x)
  |[]=>(False, .one .dead)
 |none=>(False, .one .dead)
def dh (t:Option Nat):Bool:=
 match t.bind T with
 |some ti=>(match ti.desc with| .slice _=>true|_=>false)
 |none=>false
def isStr (t:Option Nat):Bool:=
 match t.bind T with
 |some ti=>(match ti.desc with| .string=>true|_=>false)
 |none=>false
def isInt (t:Nat):Bool:=
 match T t with
 |some ti=>(match ti.desc with| .int _=>true|_=>false)
 |none=>false
def iR (o:BinOp) (x:Option Bool):Option C:=
 match o,x with
 | .eql,some b=>some (.d (.v (.bool b)))
 | .neq,some b=>some (.d (.v (.bool !b)))
 | .eql,none=>some .ab
 | .neq,none=>some .ab
 |_,_=>none
def lJ (t:Nat):Bool:=
 match T t with
 |some ti=>(match ti.desc with| .pointer _=>true|_=>false)
 |none=>false
def isBool (t:Nat):Bool:=
 match T t with
 |some ti=>(match ti.desc with| .bool=>true|_=>false)
 |none=>false
def kr (r:Rs) (o:BinOp) (t:Nat) (x y:C):Option (Prop×C):=
 match x,y with
 | .d (.v (.bool p)), .d (.v (.bool q))=>match o with
  | .eql=>some (isBool T t=true, .d (.v (.bool (p==q))))
  | .neq=>some (isBool T t=true, .d (.v (.bool (p !=q))))
  |_=>none
 | .d (.v (.slice none 0 0)), .d (.v (.slice none 0 0))=>(iR o (some true)).map λ z=>(dh T (some t)=true,z)
 | .aJ n ds, .d (.v (.slice none 0 0))=>(iR o (if n=0 then none else some false)).map λ z=>(dh T (some t)=true/\(n≠0->ds≠[]),z)
 | .d (.sl n ds), .d (.v (.slice none 0 0))=>(iR o (if n=0 then none else some false)).map λ z=>(dh T (some t)=true/\(n≠0->ds≠[]),z)
 | .own h _ n, .d (.v (.slice none 0 0))=>match aK r h with
  |some _=>(iR o (if n=0 then none else some false)).map λ z=>(dh T (some t)=true,z)
  |none=>none
 | .d (.v (.pointer none)), .d (.v (.pointer none))=>(iR o (some true)).map λ z=>(lJ T t=true,z)
 | .ptr h _, .d (.v (.pointer none))=>match aK r h with
  |some _=>(iR o (some false)).map λ z=>(lJ T t=true,z)
  |none=>none
 | .dP _, .d (.v (.pointer none))=>(iR o (some false)).map λ z=>(lJ T t=true,z)
 | .dZ _, .d (.v (.pointer none))=>(iR o (some false)).map λ z=>(lJ T t=true,z)
 |_,_=>none
def jQ (r:Rs) (o:BinOp) (t:Nat) (a b:AV):Out:=
 match a,b with
 | .one (.d (.v x)), .one (.d (.v y))=>match qP o x y with
  |some z=>⟨True, .one (.d (.v z)),r⟩
  |none=>match kr T r o t (.d (.v x)) (.d (.v y))with
   |some (p,z)=>⟨p, .one z,r⟩
   |none=>bad
 | .one x, .one y=>match kr T r o t x y with
  |some (p,z)=>⟨p, .one z,r⟩
  |none=>bad
 | .agg l, .agg m=>match T t,ka l,ka m with
  |some ti,some xs,some ys=>
   (match o with
    | .eql=>⟨ti.eq=true/\xs.map cI=ti.zero.map cI/\ys.map cI=ti.zero.map cI, .one (.d (.v (.bool (ek xs ys)))),r⟩
    | .neq=>⟨ti.eq=true/\xs.map cI=ti.zero.map cI/\ys.map cI=ti.zero.map cI, .one (.d (.v (.bool !(ek xs ys)))),r⟩
    |_=>bad)
  |_,_,_=>bad
 |_,_=>bad
def kL (t:Nat):Option (Nat×TI):=
 match T t with
 |some ti=>match ti.desc with
  | .array n e=>match T e with
   |some ei=>some (n,ei)
   |none=>none
  |_=>none
 |none=>none
def jU (r:Rs) (c:Bool) (t:Nat) (y iv:AV):Out:=
 match eI T t,iv,y with
 |some (_,ei), .one (.d (.v (.int _ n))), .one (.own h lo m)=>match aK r h with
  |some res=>⟨res.sz=ei.size/\ei.size≠0/\(c=true->0≤n/\n<m), .one (.ptr h ((lo+n.toNat)*ei.size)),r⟩
  |none=>bad
 |some (_,ei), .one (.d (.v (.int _ n))), .one (.aJ m ds)=>⟨ei.size≠0/\ds.length=m*ei.size/\(c=true->0≤n/\n<m), .one (.dP (ds.drop (n.toNat*ei.size))),r⟩
 |some (_,ei), .one (.d (.v (.int _ n))), .one (.d (.sl m ds))=>⟨ei.size≠0/\ds.length=m*ei.size/\(c=true->0≤n/\n<m), .one (.dP (ds.drop (n.toNat*ei.size))),r⟩
 |none, .one (.d (.v (.int _ n))), .one (.ptr h off)=>match kL T t,aK r h with
  |some (m,ei),some _=>⟨c=true->0≤n/\n<m, .one (.ptr h (off+n.toNat*ei.size)),r⟩
  |_,_=>bad
 |none, .one (.d (.v (.int _ n))), .one (.dP ds)=>match kL T t with
  |some (m,ei)=>⟨c=true->0≤n/\n<m, .one (.dP (ds.drop (n.toNat*ei.size))),r⟩
  |none=>bad
 |_,_,_=>bad
def jy (r:Rs) (t f:Nat) (y:AV):Out:=
 match y,T t with
 | .agg l,some ti=>match ti.desc with
  | .struct fs=>match fs[f]? with
   |some (o,ft)=>⟨(iy T ft (l.drop o)).1,(iy T ft (l.drop o)).2,r⟩
   |none=>bad
  |_=>bad
 |_,_=>bad
def qc (ei:TI):Bool:=match ei.desc with
 | .int _=>ei.size==1
 | .pointer _=>ei.size==1
 |_=>false
def bytesOf:List D->Option (List UInt8)
 |[]=>some []
 | .v (.int .u8 n)::ds=>match bytesOf ds with
  |some l=>some (UInt8.ofNat n.toNat::l)
  |none=>none
 |_=>none
def te (s:Nat):Bool:=match eI T s with
 |some (_,ei)=>match ei.desc with
  | .int .u8=>true
  |_=>false
 |none=>false
def iL (r:Rs) (s t:Nat) (y:AV):Out:=
 match T t with
 |some ti=>match ti.desc,y with
  | .int k, .one (.d (.v (.int _ n)))=>⟨isInt T s=true, .one (.d (.v (.int k (k.wrap n)))),r⟩
  | .string, .one x=>match rowOf r x with
   |some (n,ds)=>match bytesOf ds with
    |some l=>⟨te T s=true/\ds.length=n, .one (.d (.v (.string ⟨l.toArray⟩))),r⟩
    |none=>bad
   |none=>bad
  |_,_=>bad
 |none=>bad
def iK (r:Rs) (t:Nat) (y:AV):Out:=
 match T t with
 |some ti=>match ti.desc,y with
  | .struct _, .agg l=>match ka l with
   |some vs=>⟨True, .one (.d (.v (.iface t (.agg vs.toArray)))),r⟩
   |none=>bad
  | .int _, .one (.d (.v (.int k n)))=>⟨True, .one (.d (.v (.iface t (.int k n)))),r⟩
  |_,_=>bad
 |none=>bad
def jA (r:Rs) (c:Bool) (t:Nat) (y:AV) (l h:Option AV):Out:=
 match y with
 | .one (.d (.v (.string s)))=>match isStr T (some t),sliceB l 0,sliceB h s.size with
  |true,some i,some j=>⟨c=true->0≤i/\i≤j/\j≤s.size, .one (.d (.v (.string (s.extract i.toNat j.toNat)))),r⟩
  |_,_,_=>bad
 | .one (.own hd lo n)=>match eI T t,sliceB l 0,sliceB h n,aK r hd with
  |some (_,ei),some i,some j,some res=>⟨res.sz=ei.size/\(c=true->0≤i/\i≤j/\j≤n), .one (.own hd (lo+i.toNat) (j.toNat - i.toNat)),r⟩
  |_,_,_,_=>bad
 | .one (.cZ hd lo n k)=>match eI T t,sliceB l 0,sliceB h n,aK r hd with
  |some (_,ei),some i,some j,some res=>⟨res.sz=ei.size/\(c=true->0≤i/\i≤j/\lo+j≤k), .one (.cZ hd (lo+i.toNat) (j.toNat - i.toNat) k),r⟩
  |_,_,_,_=>bad
 | .one (.aJ n ds)=>match eI T t,sliceB l 0,sliceB h n with
  |some (_,ei),some i,some j=>⟨ds.length=n*ei.size/\(c=true->0≤i/\i≤j/\j≤n),
    .one (.aJ (j.toNat - i.toNat) ((ds.drop (i.toNat*ei.size)).take ((j.toNat - i.toNat)*ei.size))),r⟩
  |_,_,_=>bad
 | .one (.d (.sl n ds))=>match eI T t,sliceB l 0,sliceB h n with
  |some (_,ei),some i,some j=>⟨ds.length=n*ei.size/\(c=true->0≤i/\i≤j/\j≤n),
    .one (.d (.sl (j.toNat - i.toNat) ((ds.drop (i.toNat*ei.size)).take ((j.toNat - i.toNat)*ei.size)))),r⟩
  |_,_,_=>bad
 |_=>bad
def jw (r:Rs) (c:Bool) (t:Nat) (y:AV) (l h m:Option AV):Out:=
 match y with
 | .one (.cZ hd lo n k)=>match eI T t,sliceB l 0,(match h with|some _=>sliceB h n|none=>none),sliceB m n,aK r hd with
  |some _,some i,some j,some q,some _=>⟨c=true->0≤i/\i≤j/\j≤q/\lo+q≤k, .one .dead,r⟩
  |_,_,_,_,_=>bad
 |_=>bad
def u6 (d off:Nat) (l:List C):Bool:=
 match l with
 |[.own hd _ _]=>hd.s==d&&hd.j==off+1
 |_=>false
def j6 (r:Rs) (t:Nat) (av y:AV):Out:=
 match T t,av with
 |some ti, .one (.ptr h off)=>match aK r h with
  |some res=>
   if res.var=true then
    match ah h.s r with
    |some rs=>match u6 h.s off (cellsOf y)with
     |true=>⟨(cellsOf y).length=ti.size/\ti.size≠0/\off+ti.size≤res.cells.length/\h.j=0/\jD (cellsOf y)=true, .one .dead,
       aM h.s {rs with l:=rs.l.set 0 (some {res with cells:=ca off (cellsOf y) res.cells})} r⟩
     |false=>⟨(cellsOf y).length=ti.size/\ti.size≠0/\off+ti.size≤res.cells.length/\off+ti.size<rs.l.length/\h.j=0/\jD (cellsOf y)=true, .one .dead,
      aM h.s {next:=rs.next+(cellsOf y).length,l:=ca (off+1) (cE h.s rs.next off (cellsOf y) r).2.1 (rs.l.set 0 (some {res with cells:=ca off (cE h.s rs.next off (cellsOf y) r).1 res.cells}))} (cE h.s rs.next off (cellsOf y) r).2.2⟩
    |none=>bad
   else match gh r (cellsOf y)with
    |some (ds,r')=>match aK r' h,ah h.s r' with
     |some res',some rs=>⟨(cellsOf y).length=ti.size/\ti.size≠0/\off+ti.size≤res'.cells.length/\res'.fz=false, .one .dead,
       aM h.s {rs with l:=rs.l.set h.j (some {res' with cells:=ca off (ds.map C.d) res'.cells})} r'⟩
     |_,_=>bad
    |none=>bad
  |none=>bad
 |_,_=>bad
def ki (r:Rs):AV->Option (Nat×List D)
 | .one (.d (.v (.string b)))=>some (b.size,b.data.toList.map λ (x:UInt8)=>D.v (.int .u8 x.toNat))
 | .one y=>rowOf r y
 |_=>none
def gv (z:List Value) (n:Nat):List D:=(List.replicate n (z.map D.v)).flatten
theorem r5 {z:List Value} {n:Nat}:(gv z n).length=n*z.length:=by simp[gv]
def mh:AV->Option (Hd×Nat×Nat)
 | .one (.own h lo n)=>some (h,lo,n)
 | .one (.cZ h lo n _)=>some (h,lo,n)
 |_=>none
def lz (r:Rs) (h:Hd) (lo:Nat) (ds:List D):Option Rs:=
 match aK r h,ah h.s r with
 |some res,some rs=>some (aM h.s {rs with l:=rs.l.set h.j (some {res with cells:=res.cells.take (lo*res.sz)++ds.map C.d++res.cells.drop (lo*res.sz+ds.length)})} r)
 |_,_=>none
def qX (r:Rs) (c:Bool) (dst:Option Nat) (ei:TI) (m:Nat) (ds2:List D) (h:Hd) (lo n k:Nat):Out:=
 match aK r h,ah h.s r with
 |some res,some rs=>match cX (sub lo n res.sz res.cells)with
  |some ds1=>
   if lo+n+m≤k then
    ⟨ei.size≠0/\ds2.length=m*ei.size/\res.fz=false/\res.sz=ei.size/\(lo+n)*res.sz≤res.cells.length, .one (.cZ ⟨h.s,h.j,rs.next⟩ 0 (n+m) (k - lo)),
     aM h.s {next:=rs.next+1,l:=rs.l.set h.j (some {res with e:=rs.next,sz:=ei.size,cells:=(ds1++ds2).map C.d})} r⟩
   else match dst with
    |some d=>⟨ei.size≠0/\ei.bytes≠0/\ds2.length=m*ei.size/\res.sz=ei.size/\(lo+n)*res.sz≤res.cells.length/\(c=true->(n+m)*ei.bytes≤2^47), .one (.own ⟨d,1,aq r d⟩ 0 (n+m)),
      aM d {next:=aq r d+1,l:=[none,some {e:=aq r d,var:=false,fz:=false,sz:=ei.size,cells:=(ds1++ds2).map C.d}]} r⟩
    |none=>bad
  |none=>bad
 |_,_=>bad
def nu (r:Rs) (c:Bool) (dst:Option Nat) (t:Nat) (x y:AV):Out:=
 match eI T t,x,y,dst with
 |some (_,ei), .one (.d (.v (.int _ n))), .one (.d (.v (.int _ m))),some d=>
  ⟨c=true->0≤n/\n=m/\n<2^62/\ei.bytes*n≤2^47, .one (.own ⟨d,1,aq r d⟩ 0 n.toNat),
   aM d {next:=aq r d+1,l:=[none,some {e:=aq r d,var:=false,fz:=false,sz:=ei.size,cells:=(gv ei.zero n.toNat).map C.d}]} r⟩
 |_,_,_,_=>bad
def q9 (r:Rs) (c:Bool) (dst:Option Nat) (ts:Array Nat) (s x:AV):Out:=
 match ts[0]?.bind (eI T),(match ts[1]? with|some t1=>isInt T t1|none=>false),x,s with
 |some (_,ei),true, .one (.d (.v (.int _ l))), .one (.cZ h lo n k)=>match aK r h,dst with
  |some res,some d=>match cX (sub lo n res.sz res.cells)with
   |some ds1=>⟨ei.size≠0/\ei.bytes≠0/\res.sz=ei.size/\(lo+n)*res.sz≤res.cells.length/\(c=true->0≤l/\l<2^62/\k<lo+n+l.toNat/\(n+l.toNat)*ei.bytes≤2^47), .one (.own ⟨d,1,aq r d⟩ 0 (n+l.toNat)),
     aM d {next:=aq r d+1,l:=[none,some {e:=aq r d,var:=false,fz:=false,sz:=ei.size,cells:=(ds1++gv ei.zero l.toNat).map C.d}]} r⟩
   |none=>bad
  |_,_=>bad
 |_,_,_,_=>bad
def ng (r:Rs):AV->Option (Nat×List D)
 | .one x=>rowOf r x
 |_=>none
def kf (r:Rs) (ts:Array Nat) (y x:AV):Out:=
 match ts[0]?.bind (eI T),mh y,ng r x with
 |some (_,ei),some (h,lo,n),some (m,ds2)=>match aK r h,lz r h lo (ds2.take (min m n*ei.size))with
  |some res,some r'=>⟨ei.size≠0/\res.sz=ei.size/\res.fz=false/\min m n*ei.size≤ds2.length/\lo*res.sz≤res.cells.length, .one (.d (.v (.int .i64 (min m n:Nat)))),r'⟩
  |_,_=>bad
 |_,_,_=>bad
def kb (r:Rs) (ts:Array Nat) (y:AV):Out:=
 match ts[0]?.bind (eI T),mh y with
 |some (_,ei),some (h,lo,n)=>match aK r h,lz r h lo (gv ei.zero n)with
  |some res,some r'=>⟨ei.size≠0/\res.sz=ei.size/\res.fz=false/\lo*res.sz≤res.cells.length, .one .dead,r'⟩
  |_,_=>bad
 |_,_=>bad
def kq (r:Rs) (c:Bool) (dst:Option Nat) (ts:Array Nat) (s x:AV):Out:=
 match ts[0]?.bind (eI T),(dh T ts[1]? ||isStr T ts[1]?),ki r x,s with
 |some (_,ei),true,some (m,ds2), .one (.own h lo n)=>match aK r h,ah h.s r with
  |some res,some rs=>match cX (sub lo n res.sz res.cells)with
   |some ds1=>⟨ei.size≠0/\ei.bytes≠0/\ds2.length=m*ei.size/\res.fz=false/\res.sz=ei.size/\(c=true->(n+m)*ei.bytes≤2^47),
     .one (.own ⟨h.s,h.j,rs.next⟩ 0 (n+m)),
     aM h.s {next:=rs.next+1,l:=rs.l.set h.j (some {res with e:=rs.next,sz:=ei.size,cells:=(ds1++ds2).map C.d})} r⟩
   |none=>bad
  |_,_=>bad
 |some (_,ei),true,some (m,ds2), .one (.d (.v (.slice none 0 0)))=>match dst with
  |some d=>⟨ei.size≠0/\ei.bytes≠0/\ds2.length=m*ei.size/\(c=true->m*ei.bytes≤2^47), .one (.own ⟨d,1,aq r d⟩ 0 m),
    aM d {next:=aq r d+1,l:=[none,some {e:=aq r d,var:=false,fz:=false,sz:=ei.size,cells:=ds2.map C.d}]} r⟩
  |none=>bad
 |some (_,ei),true,some (m,ds2), .one (.cZ h lo n k)=>qX r c dst ei m ds2 h lo n k
 |_,_,_,_=>q9 T r c dst ts s x
def jT (r:Rs) (t:Option Nat):AV->Out
 | .one (.cZ hd lo _ k)=>match aK r hd with
  |some _=>⟨dh T t=true, .one (.d (.v (.int .i64 (k - lo:Nat)))),r⟩
  |none=>bad
 |_=>bad
def jM (r:Rs) (t:Option Nat):AV->Out
 | .one (.own hd _ n)=>match aK r hd with
  |some _=>⟨dh T t=true, .one (.d (.v (.int .i64 n))),r⟩
  |none=>bad
 | .one (.cZ hd _ n _)=>match aK r hd with
  |some _=>⟨dh T t=true, .one (.d (.v (.int .i64 n))),r⟩
  |none=>bad
 | .one (.aJ n _)=>⟨dh T t=true, .one (.d (.v (.int .i64 n))),r⟩
 | .one (.d (.sl n _))=>⟨dh T t=true, .one (.d (.v (.int .i64 n))),r⟩
 | .one (.d (.v (.slice none 0 0)))=>⟨dh T t=true, .one (.d (.v (.int .i64 0))),r⟩
 | .one (.d (.raw (.slice _ n _)))=>⟨dh T t=true, .one (.d (.v (.int .i64 n))),r⟩
 | .one (.d (.v (.string s)))=>⟨isStr T t=true, .one (.d (.v (.int .i64 s.size))),r⟩
 |_=>bad
def hX (r:Rs) (mx:Bool):List AV->Out
 |[.one (.d (.v (.int k a))), .one (.d (.v (.int _ b)))]=>⟨True, .one (.d (.v (.int k (if mx then max a b else min a b)))),r⟩
 |_=>bad
def Out.with (o:Out) (p:Prop):Out:=⟨p/\o.sc,o.x,o.r⟩
def az (c:Bool) (v:List AV) (r:Rs) (dst:Option Nat) (op:Op):Out:=
 match op with
 | .move x=>⟨bf c v x,ev v x,r⟩
 | .assign x=>match dst with
  |some d=>⟨bf c v x/\lS r d (ev v x),(kJ r d (ld d (ev v x))).1,(kJ r d (ld d (ev v x))).2⟩
  |none=>bad
 | .pick t x z=>match ev v t,lM (bg v x),lM (bg v z)with
  | .one (.d (.v (.bool b))),some (cx,p),some (cz,q)=>
   ⟨bf c v t/\(c=true->b=true->cx=true)/\(c=true->b=false->cz=true), .one (.d (.v (.bool (md b p q)))),r⟩
  |_,_,_=>bad
 | .unOp .not _ x=>match ev v x with
  | .one (.d (.v (.bool b)))=>⟨bf c v x, .one (.d (.v (.bool !b))),r⟩
  |_=>bad
 | .binOp o t x y _=>(jQ T r o t (ev v x) (ev v y)).with (bf c v x/\bf c v y)
 | .convert s t x=>(iL T r s t (ev v x)).with (bf c v x)
 | .makeInterface t x=>(iK T r t (ev v x)).with (bf c v x)
 | .extract x i=>match ev v x with
  | .eY l=>match l[i]? with
   |some z=>⟨bf c v x,z,r⟩
   |none=>bad
  |_=>bad
 | .alloc t=>match T t,dst with
  |some ti,some d=>⟨True, .one (.ptr ⟨d,0,aq r d⟩ 0),
    aM d {next:=aq r d+1,l:=some {e:=aq r d,var:=true,fz:=false,sz:=0,cells:=oV ti}::List.replicate ti.zero.length none} r⟩
  |_,_=>bad
 | .load t x=>match ev v x with
  | .one (.ptr h off)=>match aK r h with
   |some res=>⟨bf c v x/\off≤res.cells.length/\(iy T t (res.cells.drop off)).1,(iy T t (res.cells.drop off)).2,r⟩
   |none=>bad
  | .one (.dP ds)=>⟨bf c v x/\(iy T t (ds.map C.d)).1,(iy T t (ds.map C.d)).2,r⟩
  | .one (.dZ cs)=>⟨bf c v x/\(iy T t cs).1,(iy T t cs).2,r⟩
  |_=>bad
 | .fieldAddr t x f=>match pX T t f,ev v x with
  |some o, .one (.ptr h off)=>match aK r h with
   |some _=>⟨bf c v x, .one (.ptr h (off+o)),r⟩
   |none=>bad
  |some o, .one (.dP ds)=>⟨bf c v x/\o<ds.length, .one (.dP (ds.drop o)),r⟩
  |some o, .one (.dZ cs)=>⟨bf c v x/\o<cs.length, .one (.dZ (cs.drop o)),r⟩
  |_,_=>bad
 | .indexAddr t x i=>(jU T r c t (ev v x) (ev v i)).with (bf c v x/\bf c v i)
 | .field t x f=>(jy T r t f (ev v x)).with (bf c v x)
 | .index t x i=>match ev v i,ev v x with
  | .one (.d (.v (.int _ n))), .one (.d (.v (.string s)))=>⟨bf c v x/\bf c v i/\isStr T (some t)=true/\(c=true->0≤n/\n<s.size),
    .one (.d (.v (.int .u8 (s.data.getD n.toNat 0).toNat))),r⟩
  | .one (.d (.v (.int _ n))), .agg l=>match kL T t,l[n.toNat]? with
   |some (m,ei),some y=>⟨bf c v x/\bf c v i/\qc ei=true/\(c=true->0≤n/\n<m), .one y,r⟩
   |_,_=>bad
  |_,_=>bad
 | .slice t x lo hi none=>(jA T r c t (ev v x) (eQ v lo) (eQ v hi)).with (bf c v x/\fS c v lo/\fS c v hi)
 | .slice t x lo hi (some mx)=>(jw T r c t (ev v x) (eQ v lo) (eQ v hi) (eQ v (some mx))).with (bf c v x/\fS c v lo/\fS c v hi/\bf c v mx)
 | .makeFunc (.func f) ⟨[]⟩ caps=>match kH (cO v caps.toList)with
  |some xs=>⟨cT c v caps.toList, .one (.eP f xs),r⟩
  |none=>bad
 | .nilCheck x=>match ev v x with
  | .one (.ptr h off)=>match aK r h with
   |some _=>⟨bf c v x, .one (.ptr h off),r⟩
   |none=>bad
  | .one (.dP ds)=>⟨bf c v x, .one (.dP ds),r⟩
  | .one (.dZ cs)=>⟨bf c v x, .one (.dZ cs),r⟩
  | .one (.eP f caps)=>⟨bf c v x, .one (.eP f caps),r⟩
  |_=>bad
 | .box t x=>match T t,dst with
  |some ti,some d=>
   ⟨bf c v x/\(cellsOf (ev v x)).length=ti.size/\ti.size≠0/\jD (cellsOf (ev v x))=true, .one (.ptr ⟨d,0,aq r d⟩ 0),
    aM d {next:=aq r d+1+(cellsOf (ev v x)).length,
             l:=some {e:=aq r d,var:=true,fz:=false,sz:=0,cells:=(cE d (aq r d+1) 0 (cellsOf (ev v x)) (aM d {next:=aq r d,l:=[]} r)).1}::
               (cE d (aq r d+1) 0 (cellsOf (ev v x)) (aM d {next:=aq r d,l:=[]} r)).2.1}
     (cE d (aq r d+1) 0 (cellsOf (ev v x)) (aM d {next:=aq r d,l:=[]} r)).2.2⟩
  |_,_=>bad
 | .store t ad x=>(j6 T r t (ev v ad) (ev v x)).with (bf c v ad/\bf c v x)
 | .build t ps=>match T t with
  |some ti=>match ly T t ((ps.toList.map (·.1)).zip (cO v (ps.toList.map (·.2)))) (oV ti)with
   |some l=>⟨cT c v (ps.toList.map (·.2))/\p' T t=true, .agg l,r⟩
   |none=>bad
  |none=>bad
 | .buildSlice t n ps=>match eI T t,dst with
  |some (_,ei),some d=>
   let r0:=aM d {next:=aq r d,l:=[]} r
   let ys:=cO v (ps.toList.map (·.2))
   match gh r0 (ys.flatMap cellsOf)with
   |some (ds,r')=>⟨cT c v (ps.toList.map (·.2))/\ps.toList.map (·.1)=List.range n/\ei.size≠0/\n*ei.size≤2^24/\(∀y∈ys,(cellsOf y).length=ei.size),
     .one (.own ⟨d,1,aq r d⟩ 0 n),
     aM d {next:=aq r d+1,l:=[none,some {e:=aq r d,var:=false,fz:=false,sz:=ei.size,cells:=ds.map C.d}]} r'⟩
   |none=>bad
  |_,_=>bad
 | .makeSlice t l k=>(nu T r c dst t (ev v l) (ev v k)).with (bf c v l/\bf c v k)
 | .call {callee:= .builtin .append,args:=args,argTypes:=ts}=>match args.toList with
  |[s,x]=>(kq T r c dst ts (ev v s) (ev v x)).with (bf c v s/\bf c v x)
  |_=>bad
 | .call {callee:= .builtin .len,args:=args,argTypes:=ts}=>match args.toList with
  |[x]=>(jM T r ts[0]? (ev v x)).with (bf c v x)
  |_=>bad
 | .call {callee:= .builtin .cap,args:=args,argTypes:=ts}=>match args.toList with
  |[x]=>(jT T r ts[0]? (ev v x)).with (bf c v x)
  |_=>bad
 | .call {callee:= .builtin .copy,args:=args,argTypes:=ts}=>match args.toList with
  |[y,x]=>(kf T r ts (ev v y) (ev v x)).with (bf c v y/\bf c v x)
  |_=>bad
 | .call {callee:= .builtin .clear,args:=args,argTypes:=ts}=>match args.toList with
  |[y]=>(kb T r ts (ev v y)).with (bf c v y)
  |_=>bad
 | .call {callee:= .builtin .max,args:=args,argTypes:=_}=>(hX r true (cO v args.toList)).with (cT c v args.toList)
 | .call {callee:= .builtin .min,args:=args,argTypes:=_}=>(hX r false (cO v args.toList)).with (cT c v args.toList)
 |_=>bad
def cC (v:List AV) (r:Rs) (f:Operand) (args:Array Operand):Option (FuncId×List Arg):=
 match jb (ev v f),eT r (cO v args.toList)with
 |some (n,caps),some as=>match eT r (caps.map AV.one)with
  |some cs=>some (n,as++cs)
  |none=>none
 |_,_=>none
def sY:Op->Bool
 | .move _| .pick .. | .unOp .. | .binOp .. | .convert .. | .extract .. | .load .. | .fieldAddr .. | .field .. | .indexAddr .. | .index .. | .slice .. | .makeFunc .. | .nilCheck _| .build .. | .makeInterface .. =>true
 | .call {callee:= .builtin .len, .. }=>true
 | .call {callee:= .builtin .max, .. }=>true
 | .call {callee:= .builtin .min, .. }=>true
 |_=>false
def dN (ops:List Oper) (v:List AV) (j:Nat):Option (Bool×Bool):=
 match ops[j]? with
 |some o=>match o.dst with
  |some d=>lM (v.getD d (.one .dead))
  |none=>none
 |none=>none
def bz (v:List AV) (dst:Option Nat) (x:AV):List AV:=
 match dst with
 |some d=>v.set d x
 |none=>v
def qT (o:Out) (k:AV->Rs->Prop):Prop:=o.sc/\k o.x o.r
def kx (c:Bool) (p:Prop):Prop:=c=true->p
theorem A5 {c:Bool}:kx c True=True:=by simp[kx]
theorem sM {c:Bool} {p:Prop} (h:p):kx c p:=λ _=>h
theorem BU {p:Prop}:kx true p=p:=by simp[kx]
theorem B4 {p:Prop}:kx false p=True:=by simp[kx]
def tj (c:Bool) (o:Out) (k:AV->Rs->Prop):Prop:=kx c o.sc/\k o.x o.r
theorem tj.congr {c:Bool} {o o':Out} {k:AV->Rs->Prop} (h:o=o'):tj c o k=tj c o' k:=by rw[h]
theorem qT.congr {o o':Out} {k:AV->Rs->Prop} (h:o=o'):qT o k=qT o' k:=by rw[h]
def hE (P:Program) (c:Bool) (a:Option (FuncId×List Arg)) (K:List RF->Prop):Prop:=
 match a with
 |some (n,as)=>s9 P c n as K
 |none=>False
theorem hE.congr {P:Program} {c:Bool} {a a':Option (FuncId×List Arg)} {K:List RF->Prop} (h:a=a'):hE P c a K=hE P c a' K:=by rw[h]
mutual
def bm:C->List Nat
 | .own h _ _=>[h.s]
 | .ptr h _=>[h.s]
 | .eP _ caps=>bG caps
 | .d _=>[]
 | .aJ _ _=>[]
 | .dP _=>[]
 | .ab=>[]
 | .dead=>[]
 | .dZ cs=>bG cs
 | .cZ h _ _ _=>[h.s]
 | .lk h _ _=>[h.s]
def bG:List C->List Nat
 |[]=>[]
 |c::cs=>bm c++bG cs
end
mutual
def bj:AV->List Nat
 | .one x=>bm x
 | .agg l=>bG l
 | .eY l=>eR l
 | .gd _ x=>bj x
def eR:List AV->List Nat
 |[]=>[]
 |x::xs=>bj x++eR xs
end
def dM (v:List AV) (x:Operand):List Nat:=bj (bg v x)
def eh (v:List AV):List Operand->List Nat
 |[]=>[]
 |x::xs=>dM v x++eh v xs
def jP (v:List AV):List Operand->List Nat
 |[]=>[]
 |x::_=>dM v x
inductive Mv where
 |o (h:Hd)
 |r (h:Hd) (n:Nat)
def Mv.s:Mv->Nat
 | .o h=>h.s
 | .r h _=>h.s
def lK (s:Nat):List (Nat×Nat)->Bool
 |[]=>true
 |p::l=>p.1==s&&lK s l
def qs:C->Option (Hd×Nat×Nat)
 | .own h lo n=>some (h,lo,n)
 |_=>none
def jt:List C->Option (List C×(Hd×Nat×Nat)×List C)
 |[]=>none
 |x::xs=>match qs x with
  |some q=>some ([],q,xs)
  |none=>match jt xs with
   |some (a,q,b)=>some (x::a,q,b)
   |none=>none
def eO (r:Rs):AV->Option (Arg×Mv)
 | .agg l=>match jt l with
  |some (a,(h,lo,n),b)=>match bd.lendCs r a,bd.lendCs r b,aK r h with
   |some a',some b',some res=>match cX res.cells with
    |some ds=>if res.var=false/\res.fz=false/\lo=0/\(bG a++bG b).contains h.s=false then some (.dC a' b' res.sz n ds, .r h n)else none
    |none=>none
   |_,_,_=>none
  |none=>none
 | .one (.ptr h off)=>match aK r h with
  |some res=>match cM r res.cells with
   |some l=>if res.var=true/\h.j=0/\off=0/\((bG res.cells).all (·==h.s)&&(lK h.s (eL r res.cells)&&iV (eL r res.cells)))=true then some (.obj l, .o h)else none
   |none=>none
  |none=>none
 | .one (.own h lo n)=>match aK r h with
  |some res=>match cX res.cells with
   |some ds=>if res.var=false/\res.fz=false/\lo=0 then some (.row res.sz n ds, .r h n)else none
   |none=>none
  |none=>none
 |_=>none
def gu (r:Rs):Nat->List AV->Option (List Arg×Mv)
 |_,[]=>none
 |0,x::xs=>match eO r x,eT r xs with
  |some (y,mv),some ys=>some (y::ys,mv)
  |_,_=>none
 |i+1,x::xs=>match kj r x,gu r i xs with
  |some y,some (ys,mv)=>some (.f y::ys,mv)
  |_,_=>none
def dl:Option Nat->List Nat
 |none=>[]
 |some d=>[d]
def ic:Nat->List AV->List Nat
 |_,[]=>[]
 |0,_::xs=>eR xs
 |i+1,x::xs=>bj x++ic i xs
def dL (i:Nat) (v:List AV) (r:Rs) (f:Operand) (args:Array Operand):Option (FuncId×List Arg×Mv×List Nat):=
 match jb (ev v f),gu r i (cO v args.toList)with
 |some (n,caps),some (as,mv)=>match eT r (caps.map AV.one)with
  |some cs=>some (n,as++cs,mv,ic i (cO v args.toList)++bG caps)
  |none=>none
 |_,_=>none
def bA (r:Rs) (dst:Option Nat) (mv:Mv) (aJ:List Nat) (l':List RO):Prop:=
 match mv with
 | .o h=>match aK r h with
  |some res=>(dl dst++aJ).contains h.s=false/\l'.length=res.cells.length
  |none=>False
 | .r h n=>match aK r h with
  |some res=>(dl dst++aJ).contains h.s=false/\(match l' with
   |[]=>True
   |[.own sz n' ds' _]=>n'=n/\0<n/\sz=res.sz/\ds'.length=res.cells.length
   |_=>False)
  |none=>False
def jL (r:Rs) (mv:Mv):Bool:=
 match ah mv.s r with
 |some rs=>rs.l.any λ x=>match x with|some res=>res.cw|none=>false
 |none=>false
def iB (r:Rs) (mv:Mv) (l':List RO):Rs:=
 match mv with
 | .o h=>match aK r h with
  |some res=>aM h.s {next:=aq r h.s+1,l:=some {res with cells:=dD h.s (aq r h.s) 0 l'}::dy (jL r (.o h)) (aq r h.s) l'} r
  |none=>r
 | .r h _=>match aK r h,ah h.s r with
  |some res,some rs=>(match l' with
   |[.own _ _ ds' _]=>aM h.s {rs with l:=rs.l.set h.j (some {res with cells:=ds'.map C.d})} r
   |_=>aM h.s {rs with l:=rs.l.set h.j none} r)
  |_,_=>r
def bindM (r:Rs) (dst:Option Nat) (mv:Mv) (rfs:List RF) (l':List RO):AV×Rs:=gb (jL r mv) (iB r mv l') dst rfs
abbrev pK:Nat:=1000000
def c7 (r:Rs) (d:Nat) (rfs:List RF) (l:List RO):AV×Rs:=
 if fR (rfs.flatMap RF.cells)=true then
  (hP (.one (.ptr ⟨d,0,aq r d⟩ 0)::fx 0 0 0 rfs),aM d {next:=aq r d+1,l:=some {e:=aq r d,var:=true,fz:=false,sz:=0,cells:=dD d (aq r d) 0 l}::dy false (aq r d) l} r)
 else(hP (.one (.ptr ⟨d,0,aq r d⟩ 0)::fx (d+pK) (aq r (d+pK)) 0 rfs),
  aM (d+pK) {next:=aq r (d+pK)+1,l:=none::dy false (aq r (d+pK)) (rfs.flatMap RF.cells)}
   (aM d {next:=aq r d+1,l:=some {e:=aq r d,var:=true,fz:=false,sz:=0,cells:=dD d (aq r d) 0 l}::dy false (aq r d) l} r))
def CC (P:Program) (f:FuncId) (args:List Arg) (post:List cr->List RF->List (List RO)->Prop):Prop:=
 (∀(us:Array Value) (w:World),(callFunc f us).run P w= .ok (.enter f us) w)/\
 ∀(w:World) (A0:Nat->Prop) (us:List Value),(∀b,A0 b->b<w.heap.size)->aW P w A0 (λ _=>False) (λ _=>⟨none,0⟩) 0 args [] us->
  Calls P f us.toArray w λ e w'=>∃bs rfs objs u,post bs rfs objs/\e= .returned u/\(∀b∈b9 bs,w.heap.size≤b)/\dc w (λ b=>A0 b∨b∈b9 bs) (λ _=>False) w' bs rfs objs u
abbrev dg (b:Nat):Value:= .pointer (some ⟨b,0,none⟩)
def gy (P:Program) (f:FuncId) (args:List Arg) (rfs:List RF) (l:List RO):Prop:=
 CC P f args λ bs r o=>∃b,bs=[.cb b]/\r= .one (.d (.v (dg b)))::rfs/\o=[l]
def kF (P:Program) (a:Option (FuncId×List Arg)) (K:List RF->List RO->Prop):Prop:=
 match a with
 |some (n,as)=>∃rfs l,gy P n as rfs l/\K rfs l
 |none=>False
def kG (P:Program) (r:Rs) (dst:Option Nat) (a:Option (FuncId×List Arg×Mv×List Nat)) (K:Mv->List RF->List RO->Prop):Prop:=
 match a with
 |some (n,as,mv,aJ)=>∃rfs l',ae P n as (λ r o=>r=rfs/\o=[l'])/\bA r dst mv aJ l'/\K mv rfs l'
 |none=>False
structure FP where
 t:List Nat
 w:List Nat
def FP.both (l:List Nat):FP:=⟨l,l⟩
def ck (v:List AV) (dst:Option Nat) (op:Op):FP:=
 match op with
 | .load _ x=>⟨dM v x,[]⟩
 | .convert _ _ x=>⟨dM v x,[]⟩
 | .fieldAddr _ x _=>⟨dM v x,[]⟩
 | .indexAddr _ x _=>⟨dM v x,[]⟩
 | .slice _ x _ _ _=>⟨dM v x,[]⟩
 | .nilCheck x=>⟨dM v x,[]⟩
 | .binOp _ _ x y _=>⟨dM v x++dM v y,[]⟩
 | .alloc _=> .both (dl dst)
 | .makeSlice _ l k=> .both (dM v l++(dM v k++dl dst))
 | .assign x=> .both (dM v x++dl dst)
 | .box _ x=> .both (dM v x++dl dst)
 | .store _ a x=> .both (dM v a++dM v x)
 | .buildSlice _ _ ps=> .both (eh v (ps.toList.map (·.2))++dl dst)
 | .call {callee:= .value f,args:=args,argTypes:=_}=>⟨dM v f++(eh v args.toList++dl dst),dl dst⟩
 | .call {callee:= .builtin .append,args:=args,argTypes:=_}=>⟨eh v args.toList++dl dst,jP v args.toList++dl dst⟩
 | .call {callee:= .builtin .copy,args:=args,argTypes:=_}=>⟨eh v args.toList,jP v args.toList⟩
 | .call {callee:= .builtin .clear,args:=args,argTypes:=_}=>⟨eh v args.toList,jP v args.toList⟩
 | .call {callee:= .builtin .cap,args:=args,argTypes:=_}=>⟨eh v args.toList,[]⟩
 | .call {callee:= .builtin .len,args:=args,argTypes:=_}=>⟨eh v args.toList,[]⟩
 |_=>⟨[],[]⟩
def OD (v:List AV) (dst:Option Nat) (op:Op) (s:Nat):FP:=⟨(ck v dst op).t++[s],s::dl dst⟩
structure M where
 fp:Option (List FP)
 off:List (Nat×Bool)
def fu (dst:Option Nat) (s:Nat):M->M
 |⟨some (fp::l),off⟩=>⟨some (⟨fp.t++[s],s::dl dst⟩::l),off⟩
 |x=>x
def cq (m:M) (v:List AV) (dst:Option Nat) (op:Op):M:=
 match m with
 |⟨none,off⟩=>⟨none,off⟩
 |⟨some l,off⟩=>⟨some (ck v dst op::l),off⟩
def nU:List (Nat×Bool)->Nat->Bool->Bool
 |[],_,_=>false
 |(a,b)::l,j,w=>(a==j&&b==w)||nU l j w
abbrev kO:AV:= .gd false (.one (.d (.v (.bool false))))
def tP (want:Bool):Option (Bool×Bool)->Prop
 |some (c',b)=>(c'&&(b==want))=false
 |none=>False
def lv (ops:List Oper):List Nat:=
 ops.foldl (λ acc o=>acc++[o.after.foldl (λ s e=>if Region.binds .any e then s|||2^e.on|||acc.getD e.on 0 else s) 0]) []
def rh (a b:List Nat):Bool:=a.all λ x=> !b.contains x
def FP.apart (x y:FP):Bool:=rh x.w y.t&&rh x.t y.w&&rh x.w y.w
def nA (all:List Oper) (recs:List FP):Bool:=
 recs.zipIdx.all λ y=>recs.zipIdx.all λ x=> !decide (x.2<y.2)||((lv all).getD y.2 0).testBit x.2||FP.apart x.1 y.1
def qQ (all:List Oper) (m:M):Prop:=
 match m.fp with
 |none=>True
 |some l=>nA all l.reverse=true
def qL (P:Program) (v:List AV) (r:Rs) (f:Operand) (args:Array Operand) (d:Value):Prop:=
 flat d=true/\∃n,jb (ev v f)=some (n,[])/\∀(cx:Cx) (v':List AV) (r':Rs) (a:Act) (w:World) (β:Nat->Nat->Pl),cx.P=P->(∀s∈eh v args.toList,ah s r'=ah s r)->
  aH cx ⟨v',r'⟩ a w β->∀us,aZ cx w r' β (cO v args.toList) us->(callFunc n us.toArray).run P w= .ok (.value d) w
inductive Ex where
 |normal
 |exit (id:Nat)
 |ret
 |panic (x:Value)
def nP:Ex->Exit
 | .normal=> .normal
 | .exit id=> .exit id
 | .ret=> .ret
 | .panic x=> .panic [{v:=x,recovered:=false}]
def wx (P:Program) (y:Code) (g:G) (Q:Ex->G->Prop):Prop:=
 ∀(cx:Cx),cx.P=P->∀(R:Exit->Act->World->Prop),(∀e g a w,cP cx g a w->Q e g->R (nP e) a w)->∀(a:Act) (w:World),cP cx g a w->y.wp P R a w
structure mE (w:World) (aL:Nat->Prop) (w':World):Prop where
 size:w.heap.size≤w'.heap.size
 ba:∀b,b<w.heap.size->¬aL b->w'.heap[b]? =w.heap[b]?
 os:w'.os=w.os
 out:w'.output=w.output
def ni (P:Program) (f:FuncId) (args:List Arg) (x:Value):Prop:=
 (∀(us:Array Value) (w:World),(callFunc f us).run P w= .ok (.enter f us) w)/\
 ∀(w:World) (A0 aL:Nat->Prop) (γ:Nat->Pl) (bs:List cr) (us:List Value),(∀b,A0 b->b<w.heap.size)->(∀b,aL b->A0 b)->
  aW P w A0 aL γ 0 args bs us->(∀b,NB γ 0 (bn args) b->aL b/\b ∉ b9 bs)->(b9 bs).Nodup->mn γ (bn args)->
  Calls P f us.toArray w λ e w'=>e= .panicked [{v:=x,recovered:=false}]/\mE w aL w'
def lG (r:Rs) (mv:Mv):Rs:=
 match ah mv.s r with
 |some rs=>aM mv.s {rs with l:=[]} r
 |none=>r
def qO (P:Program) (m:M) (v:List AV) (r:Rs) (f:Operand) (args:Array Operand) (a:Option (FuncId×List Arg)) (K:Ex->G->Prop):Prop:=
 m.fp=none/\∃n as x,ni P n as x/\((a=some (n,as)/\K (.panic x) ⟨v,r⟩)∨(∃i mv aJ l',dL i v r f args=some (n,as,mv,aJ)/\bA r none mv aJ l'/\K (.panic x) ⟨v,lG r mv⟩))
def tn (m:M) (v:List AV) (r:Rs) (C:List AV->Rs->Prop):Prop:=
 m.fp=none/\∃i h lo n k ds r',v[i]? =some (.one (.own h lo n))/\
  (∀(cx:Cx) (a:Act) (w:World),cP cx ⟨v,r⟩ a w->cP cx ⟨v.set i (.one (.d (.sl k ds))),r'⟩ a w)/\C (v.set i (.one (.d (.sl k ds)))) r'
def qY (m:M) (v:List AV) (r:Rs) (K:Ex->G->Prop) (y:AV):Prop:=
 m.fp=none/\match y with
  | .one (.d (.v (.iface t z)))=>K (.panic (.iface t z)) ⟨v,r⟩
  |_=>False
def aP (all:List Oper):M->List Oper->List AV->Rs->(Ex->G->Prop)->Prop
 |m,[],v,r,K=>qQ all m/\K .normal ⟨v,r⟩
 |m,o::rest,v,r,K=>
  match o.guard with
  |none=>match o.op with
   | .call {callee:= .value f,args:=args,argTypes:=_}=>bf true v f/\cT true v args.toList/\
     ((hE P true (cC v r f args) λ rfs=>aP all (cq m v o.dst o.op) rest (bz v o.dst (dx r o.dst rfs).1) (dx r o.dst rfs).2 K)∨
      (∃i,kG P r o.dst (dL i v r f args) λ mv rfs l'=>aP all (fu o.dst mv.s (cq m v o.dst o.op)) rest (bz v o.dst (bindM r o.dst mv rfs l').1) (bindM r o.dst mv rfs l').2 K)∨
      (∃d,qL P v r f args d/\aP all (cq m v o.dst o.op) rest (bz v o.dst (.one (.d (.v d)))) r K)∨
      (∃d,o.dst=some d/\kF P (cC v r f args) λ rfs l=>aP all (fu o.dst (d+pK) (cq m v o.dst o.op)) rest (bz v o.dst (c7 r d rfs l).1) (c7 r d rfs l).2 K)∨
      qO P (cq m v o.dst o.op) v r f args (cC v r f args) K∨
      tn (cq m v o.dst o.op) v r λ v' r'=>bf true v' f/\cT true v' args.toList/\
      ((hE P true (cC v' r' f args) λ rfs=>aP all (cq m v o.dst o.op) rest (bz v' o.dst (dx r' o.dst rfs).1) (dx r' o.dst rfs).2 K)∨
       (∃i,kG P r' o.dst (dL i v' r' f args) λ mv rfs l'=>aP all (fu o.dst mv.s (cq m v o.dst o.op)) rest (bz v' o.dst (bindM r' o.dst mv rfs l').1) (bindM r' o.dst mv rfs l').2 K)∨
       (∃d,o.dst=some d/\kF P (cC v' r' f args) λ rfs l=>aP all (fu o.dst (d+pK) (cq m v o.dst o.op)) rest (bz v' o.dst (c7 r' d rfs l).1) (c7 r' d rfs l).2 K)))
   | .panic y=>bf true v y/\qY (cq m v o.dst o.op) v r K (ev v y)
   |op=>qT (az T true v r o.dst op) λ x r'=>aP all (cq m v o.dst o.op) rest (bz v o.dst x) r' K
  |some (j,want)=>
   match nU (cq m v o.dst o.op).off j want with
   |true=>tP want (dN all v j)/\aP all (cq m v o.dst o.op) rest (bz v o.dst kO) r K
   |false=>match dN all v j with
   |some (c',b)=>
    match o.op with
    | .call {callee:= .value f,args:=args,argTypes:=_}=>bf (c'&&(b==want)) v f/\cT (c'&&(b==want)) v args.toList/\
      ((hE P (c'&&(b==want)) (cC v r f args) λ rfs=>fR (rfs.flatMap RF.cells)=true/\
       aP all (cq m v o.dst o.op) rest (bz v o.dst (.gd (c'&&(b==want)) (hP (fx 0 0 0 rfs)))) r K)∨
       ((c'&&(b==want))=false/\aP all (cq m v o.dst o.op) rest (bz v o.dst kO) r K)∨
       (((c'&&(b==want))=true->(hE P true (cC v r f args) λ rfs=>aP all (cq m v o.dst o.op) rest (bz v o.dst (dx r o.dst rfs).1) (dx r o.dst rfs).2 K)∨
        (∃i,kG P r o.dst (dL i v r f args) λ mv rfs l'=>aP all (fu o.dst mv.s (cq m v o.dst o.op)) rest (bz v o.dst (bindM r o.dst mv rfs l').1) (bindM r o.dst mv rfs l').2 K)∨
        (∃d,qL P v r f args d/\aP all (cq m v o.dst o.op) rest (bz v o.dst (.one (.d (.v d)))) r K)∨
        (∃d,o.dst=some d/\kF P (cC v r f args) λ rfs l=>aP all (fu o.dst (d+pK) (cq m v o.dst o.op)) rest (bz v o.dst (c7 r d rfs l).1) (c7 r d rfs l).2 K)∨
        qO P (cq m v o.dst o.op) v r f args (cC v r f args) K∨
        tn (cq m v o.dst o.op) v r λ v' r'=>bf true v' f/\cT true v' args.toList/\
         ((hE P true (cC v' r' f args) λ rfs=>aP all (cq m v o.dst o.op) rest (bz v' o.dst (dx r' o.dst rfs).1) (dx r' o.dst rfs).2 K)∨
          (∃i,kG P r' o.dst (dL i v' r' f args) λ mv rfs l'=>aP all (fu o.dst mv.s (cq m v o.dst o.op)) rest (bz v' o.dst (bindM r' o.dst mv rfs l').1) (bindM r' o.dst mv rfs l').2 K)∨
          (∃d,o.dst=some d/\kF P (cC v' r' f args) λ rfs l=>aP all (fu o.dst (d+pK) (cq m v o.dst o.op)) rest (bz v' o.dst (c7 r' d rfs l).1) (c7 r' d rfs l).2 K)))/\
        ((c'&&(b==want))=false->aP all ⟨(cq m v o.dst o.op).fp,(j,want)::(cq m v o.dst o.op).off⟩ rest (bz v o.dst kO) r K)))
    |op=>if sY op=true then tj (c'&&(b==want)) (az T (c'&&(b==want)) v r o.dst op) λ x _=>aP all (cq m v o.dst o.op) rest (bz v o.dst (.gd (c'&&(b==want)) x)) r K
     else((c'&&(b==want))=true->qT (az T true v r o.dst op) λ x r'=>aP all (cq m v o.dst o.op) rest (bz v o.dst x) r' K)/\
      ((c'&&(b==want))=false->aP all ⟨(cq m v o.dst o.op).fp,(j,want)::(cq m v o.dst o.op).off⟩ rest (bz v o.dst kO) r K)
   |none=>False
theorem aP.congr {all ops:List Oper} {m:M} {v v':List AV} {r r':Rs} {K:Ex->G->Prop} (h1:v=v') (h2:r=r'):aP T P all m ops v r K=aP T P all m ops v' r' K:=by rw[h1,h2]
def tU (f:G->Prop) (g:G):Prop:=f g
theorem tU.congr {f:G->Prop} {g g':G} (h:g=g'):tU f g=tU f g':=by rw[h]
def Gh (g g':G):Prop:=∀(cx:Cx) (a:Act) (w:World),cP cx g a w->cP cx g' a w
def NR (round:G->(Ex->G->Prop)->Prop) (g:G) (Q:Ex->G->Prop):Prop:=
 ∃(I:Nat->G->Prop) (n0:Nat),(∃g0,Gh g g0/\I n0 g0)/\∀n g',I n g'->round g' λ e g''=>match e with
  | .normal=>∃n' g0,n'<n/\Gh g'' g0/\I n' g0
  |e=>Q e g''
def qU (l:List Oper):Bool:=
 Region.noSelect l.toArray&&
 l.zipIdx.all λ y=>y.1.after.all (λ e=> !Region.binds .any e||decide (e.on<y.2))&&
  l.zipIdx.all λ x=> !decide (x.2<y.2)||((lv l).getD y.2 0).testBit x.2||x.1.apart l.toArray y.1
def tB (l:List Oper):Prop:=qU l=true
def bQ:Code->G->(Ex->G->Prop)->Prop
 | .skip,g,Q=>Q .normal g
 | .region _ ops d,g,Q=>match d with
  |true=>tB ops.toList/\aP T P ops.toList ⟨some [],[]⟩ ops.toList g.v g.r Q
  |false=>aP T P ops.toList ⟨none,[]⟩ ops.toList g.v g.r Q
 | .seq x y,g,Q=>bQ x g λ e g'=>match e with
  | .normal=>(∃g'',Gh g' g''/\tU (λ g=>bQ y g Q) g'')∨wx P y g' Q
  |e=>Q e g'
 | .cond c x y,g,Q=>match ev g.v c with
  | .one (.d (.v (.bool b)))=>bf true g.v c/\(b=true->bQ x g Q)/\(b=false->bQ y g Q)
  | .one .ab=>bf true g.v c/\bQ x g Q/\bQ y g Q
  |_=>False
 | .block id x,g,Q=>bQ x g λ e g'=>match e with
  | .exit id'=>if id'=id then Q .normal g' else Q (.exit id') g'
  |e=>Q e g'
 | .loop x,g,Q=>NR (λ g Q=>bQ x g Q) g Q
 | .exit id,g,Q=>Q (.exit id) g
 | .ret,g,Q=>Q .ret g
 | .scope x,g,Q=>bQ x g Q
 | .label _,g,Q=>Q .normal g
 |_,_,_=>False
def fG (y:Code) (Q:Ex->G->Prop) (e:Ex) (g:G):Prop:=
 match e with
 | .normal=>(∃g',Gh g g'/\bQ T P y g' Q)∨wx P y g Q
 |e=>Q e g
def qN (id:Nat) (Q:Ex->G->Prop) (e:Ex) (g:G):Prop:=
 match e with
 | .exit id'=>if id'=id then Q .normal g else Q (.exit id') g
 |e=>Q e g
def CF (x:Code) (g:G) (Q:Ex->G->Prop):Prop:=
 ∃(I:Nat->G->Prop) (n0:Nat),(∃g0,Gh g g0/\I n0 g0)/\∀n g',I n g'->bQ T P x g' λ e g''=>match e with
  | .normal=>∃n' g0,n'<n/\Gh g'' g0/\I n' g0
  |e=>Q e g''
def o9 (v:AV) (s:Prop) (x y:Code) (g:G) (Q:Ex->G->Prop):Prop:=
 match v with
 | .one (.d (.v (.bool b)))=>s/\(b=true->bQ T P x g Q)/\(b=false->bQ T P y g Q)
 | .one .ab=>s/\bQ T P x g Q/\bQ T P y g Q
 |_=>False
def wa (all:List Oper) (m:M) (rest:List Oper) (dst:Option Nat) (v:List AV) (K:Ex->G->Prop) (o:Out):Prop:=o.sc/\aP T P all m rest (bz v dst o.x) o.r K
def fq (all:List Oper) (m:M) (rest:List Oper) (c:Bool) (dst:Option Nat) (v:List AV) (r:Rs) (K:Ex->G->Prop) (o:Out):Prop:=kx c o.sc/\aP T P all m rest (bz v dst (.gd c o.x)) r K
def mg (all:List Oper) (m:M) (rest:List Oper) (dst:Option Nat) (v:List AV) (r:Rs) (K:Ex->G->Prop) (f:Operand) (args:Array Operand) (a:Option (FuncId×List Arg)):Prop:=
 (hE P true a λ rfs=>aP T P all m rest (bz v dst (dx r dst rfs).1) (dx r dst rfs).2 K)∨
  (∃i,kG P r dst (dL i v r f args) λ mv rfs l'=>aP T P all (fu dst mv.s m) rest (bz v dst (bindM r dst mv rfs l').1) (bindM r dst mv rfs l').2 K)∨
  (∃d,qL P v r f args d/\aP T P all m rest (bz v dst (.one (.d (.v d)))) r K)∨
  (∃d,dst=some d/\kF P a λ rfs l=>aP T P all (fu dst (d+pK) m) rest (bz v dst (c7 r d rfs l).1) (c7 r d rfs l).2 K)∨
  qO P m v r f args a K∨
  tn m v r λ v' r'=>bf true v' f/\cT true v' args.toList/\
   ((hE P true (cC v' r' f args) λ rfs=>aP T P all m rest (bz v' dst (dx r' dst rfs).1) (dx r' dst rfs).2 K)∨
    (∃i,kG P r' dst (dL i v' r' f args) λ mv rfs l'=>aP T P all (fu dst mv.s m) rest (bz v' dst (bindM r' dst mv rfs l').1) (bindM r' dst mv rfs l').2 K)∨
    (∃d,dst=some d/\kF P (cC v' r' f args) λ rfs l=>aP T P all (fu dst (d+pK) m) rest (bz v' dst (c7 r' d rfs l).1) (c7 r' d rfs l).2 K))
def sW (all:List Oper) (m:M) (rest:List Oper) (c:Bool) (dst:Option Nat) (v:List AV) (r:Rs) (K:Ex->G->Prop) (f:Operand) (args:Array Operand) (j:Nat) (want:Bool) (a:Option (FuncId×List Arg)):Prop:=
 (hE P c a λ rfs=>fR (rfs.flatMap RF.cells)=true/\aP T P all m rest (bz v dst (.gd c (hP (fx 0 0 0 rfs)))) r K)∨
  (c=false/\aP T P all m rest (bz v dst kO) r K)∨
  ((c=true->mg T P all m rest dst v r K f args a)/\(c=false->aP T P all ⟨m.fp,(j,want)::m.off⟩ rest (bz v dst kO) r K))
def tJ (all:List Oper) (m:M) (rest:List Oper) (v:List AV) (r:Rs) (K:Ex->G->Prop) (dst:Option Nat) (op:Op):Prop:=
 match op with
 | .call {callee:= .value f,args:=args,argTypes:=_}=>bf true v f/\cT true v args.toList/\mg T P all m rest dst v r K f args (cC v r f args)
 | .panic y=>bf true v y/\qY m v r K (ev v y)
 |op=>wa T P all m rest dst v K (az T true v r dst op)
def Nh (all:List Oper) (m:M) (rest:List Oper) (v:List AV) (r:Rs) (K:Ex->G->Prop) (dst:Option Nat) (op:Op) (c:Bool) (j:Nat) (want:Bool):Prop:=
 (c=true->wa T P all m rest dst v K (az T true v r dst op))/\(c=false->aP T P all ⟨m.fp,(j,want)::m.off⟩ rest (bz v dst kO) r K)
def tM (all:List Oper) (m:M) (rest:List Oper) (v:List AV) (r:Rs) (K:Ex->G->Prop) (dst:Option Nat) (op:Op) (c:Bool) (j:Nat) (want:Bool):Prop:=
 match op with
 | .call {callee:= .value f,args:=args,argTypes:=_}=>bf c v f/\cT c v args.toList/\sW T P all m rest c dst v r K f args j want (cC v r f args)
 | .move _=>fq T P all m rest c dst v r K (az T c v r dst op)
 | .pick .. =>fq T P all m rest c dst v r K (az T c v r dst op)
 | .unOp .. =>fq T P all m rest c dst v r K (az T c v r dst op)
 | .binOp .. =>fq T P all m rest c dst v r K (az T c v r dst op)
 | .convert .. =>fq T P all m rest c dst v r K (az T c v r dst op)
 | .makeInterface .. =>fq T P all m rest c dst v r K (az T c v r dst op)
 | .extract .. =>fq T P all m rest c dst v r K (az T c v r dst op)
 | .load .. =>fq T P all m rest c dst v r K (az T c v r dst op)
 | .fieldAddr .. =>fq T P all m rest c dst v r K (az T c v r dst op)
 | .indexAddr .. =>fq T P all m rest c dst v r K (az T c v r dst op)
 | .index .. =>fq T P all m rest c dst v r K (az T c v r dst op)
 | .field .. =>fq T P all m rest c dst v r K (az T c v r dst op)
 | .slice .. =>fq T P all m rest c dst v r K (az T c v r dst op)
 | .makeFunc .. =>fq T P all m rest c dst v r K (az T c v r dst op)
 | .nilCheck _=>fq T P all m rest c dst v r K (az T c v r dst op)
 | .build .. =>fq T P all m rest c dst v r K (az T c v r dst op)
 | .call {callee:= .builtin .len, .. }=>fq T P all m rest c dst v r K (az T c v r dst op)
 | .call {callee:= .builtin .max, .. }=>fq T P all m rest c dst v r K (az T c v r dst op)
 | .call {callee:= .builtin .min, .. }=>fq T P all m rest c dst v r K (az T c v r dst op)
 |_=>Nh T P all m rest v r K dst op c j want
def tT (all:List Oper) (m:M) (rest:List Oper) (v:List AV) (r:Rs) (K:Ex->G->Prop) (dst:Option Nat) (op:Op) (j:Nat) (want:Bool) (gd:Option (Bool×Bool)):Prop:=
 match nU m.off j want with
 |true=>tP want gd/\aP T P all m rest (bz v dst kO) r K
 |false=>match gd with
  |some (c',b)=>tM T P all m rest v r K dst op (c'&&(b==want)) j want
  |none=>False
theorem Am {all:List Oper} {m:M} {v:List AV} {r:Rs} {K:Ex->G->Prop}:aP T P all m [] v r K=(qQ all m/\K .normal ⟨v,r⟩):=rfl
theorem yM {all:List Oper} {m:M} {rest:List Oper} {v:List AV} {r:Rs} {K:Ex->G->Prop} {dst:Option Nat} {op:Op} {ty:Nat} {pos:String} {after:Array Edge}:
  aP T P all m (⟨dst,op,ty,pos,after,none⟩::rest) v r K=tJ T P all (cq m v dst op) rest v r K dst op:=by
 unfold aP tJ;dsimp only;split<;>rfl
theorem yq {all:List Oper} {m:M} {rest:List Oper} {v:List AV} {r:Rs} {K:Ex->G->Prop} {dst:Option Nat} {op:Op} {ty:Nat} {pos:String} {after:Array Edge} {j:Nat} {want:Bool}:
  aP T P all m (⟨dst,op,ty,pos,after,some (j,want)⟩::rest) v r K=tT T P all (cq m v dst op) rest v r K dst op j want (dN all v j):=by
 unfold aP tT;dsimp only;split
 .rfl
 split
 .unfold tM;cases op with
  |call k=>
   obtain⟨callee,args,ts⟩:=k;cases callee with
   |builtin bi=>cases bi<;>rfl
   |value _=>rfl
   |invoke _ _=>rfl
  |_=>rfl
 .rfl
theorem BD {all:List Oper} {m:M} {rest:List Oper} {dst:Option Nat} {v:List AV} {K:Ex->G->Prop} {p:Prop} {x:AV} {r:Rs}:
  wa T P all m rest dst v K ⟨p,x,r⟩=(p/\aP T P all m rest (bz v dst x) r K):=rfl
theorem Bw {all:List Oper} {m:M} {rest:List Oper} {c:Bool} {dst:Option Nat} {v:List AV} {r:Rs} {K:Ex->G->Prop} {p:Prop} {x:AV} {r':Rs}:
  fq T P all m rest c dst v r K ⟨p,x,r'⟩=(kx c p/\aP T P all m rest (bz v dst (.gd c x)) r K):=rfl
theorem Az {all:List Oper} {m:M} {rest:List Oper} {c:Bool} {dst:Option Nat} {v:List AV} {r:Rs} {K:Ex->G->Prop}:
  fq T P all m rest c dst v r K bad=(kx c False/\aP T P all m rest (bz v dst (.gd c (.one .dead))) r K):=rfl
theorem zR {g:G} {Q:Ex->G->Prop}:bQ T P .skip g Q=Q .normal g:=rfl
theorem Ap {id:Nat} {g:G} {Q:Ex->G->Prop}:bQ T P (.exit id) g Q=Q (.exit id) g:=rfl
theorem BL {g:G} {Q:Ex->G->Prop}:bQ T P .ret g Q=Q .ret g:=rfl
theorem BI {id:Nat} {ops:List Oper} {v:List AV} {r:Rs} {Q:Ex->G->Prop}:bQ T P (.region id ops.toArray false) ⟨v,r⟩ Q=aP T P ops ⟨none,[]⟩ ops v r Q:=by simp[bQ]
theorem zX {id:Nat} {ops:List Oper} {v:List AV} {r:Rs} {Q:Ex->G->Prop}:bQ T P (.region id ops.toArray true) ⟨v,r⟩ Q=
  (tB ops/\aP T P ops ⟨some [],[]⟩ ops v r Q):=by
 simp[bQ]
theorem af {x y:Code} {g:G} {Q:Ex->G->Prop}:bQ T P (.seq x y) g Q=bQ T P x g (fG T P y Q):=rfl
theorem AS {c:Operand} {x y:Code} {v:List AV} {r:Rs} {Q:Ex->G->Prop}:bQ T P (.cond c x y) ⟨v,r⟩ Q=o9 T P (ev v c) (bf true v c) x y ⟨v,r⟩ Q:=by rfl
theorem zl {l:Nat} {g:G} {Q:Ex->G->Prop}:bQ T P (.label l) g Q=Q .normal g:=rfl
theorem zO {x:Code} {g:G} {Q:Ex->G->Prop}:bQ T P (.scope x) g Q=bQ T P x g Q:=rfl
theorem zD {id:Nat} {x:Code} {g:G} {Q:Ex->G->Prop}:bQ T P (.block id x) g Q=bQ T P x g (qN id Q):=rfl
theorem vc {s:Prop} {x y:Code} {g:G} {Q:Ex->G->Prop}:o9 T P (.one .ab) s x y g Q=(s/\bQ T P x g Q/\bQ T P y g Q):=rfl
def lP (K:G->Prop) (Q:Ex->G->Prop) (e:Ex) (g:G):Prop:=
 match e with
 | .normal=>K g
 |e=>Q e g
theorem xJ {K:G->Prop} {Q:Ex->G->Prop} {g:G}:lP K Q .normal g=K g:=rfl
theorem zh {K:G->Prop} {Q:Ex->G->Prop} {g:G} {id:Nat}:lP K Q (.exit id) g=Q (.exit id) g:=rfl
theorem l5 {K:G->Prop} {Q:Ex->G->Prop} {g:G} {x:Value}:lP K Q (.panic x) g=Q (.panic x) g:=rfl
theorem z9 {K:G->Prop} {Q:Ex->G->Prop} {g:G}:lP K Q .ret g=Q .ret g:=rfl
theorem fJ {x:Code} {g:G} {Q:Ex->G->Prop} {τ:Type} (S:τ->G) (J:τ->Prop) (m:τ->Nat) (t0:τ) (h0:Gh g (S t0)) (h1:J t0)
  (h2:∀t,J t->∀K:G->Prop,(∀g t',Gh g (S t')->J t'->m t'<m t->K g)->bQ T P x (S t) (lP K Q)):CF T P x g Q:=by
 refine⟨λ n g'=>∃t,g'=S t/\J t/\m t=n,m t0,⟨S t0,h0,t0,rfl,h1,rfl⟩,λ n g' hI=> ?_⟩;obtain⟨t,rfl,e2,rfl⟩:=hI;exact h2 t e2 (λ g=>∃n' g0,n'<m t/\Gh g g0/\∃t',g0=S t'/\J t'/\m t'=n') (λ g t' k1 k2 k3=>⟨m t',S t',k3,k1,t',rfl,k2,rfl⟩)
theorem aa {y:Code} {Q:Ex->G->Prop} {g:G} (h:bQ T P y g Q):fG T P y Q .normal g:= .inl ⟨g,λ _ _ _ h=>h,h⟩
theorem Mo {x y:Code} {g:G} {Q:Ex->G->Prop} {τ:Type} (S:τ->G) (J:τ->Prop) (h1:∀t,J t->bQ T P y (S t) Q)
  (h2:∀K:G->Prop,(∀g t,Gh g (S t)->J t->K g)->bQ T P x g (lP K Q)):bQ T P (.seq x y) g Q:=
 h2 (λ g=>(∃g',Gh g g'/\bQ T P y g' Q)∨wx P y g Q) λ g t h3 h4=> .inl ⟨_,h3,h1 t h4⟩
theorem zA {y:Code} {Q:Ex->G->Prop} {g:G} {id:Nat}:fG T P y Q (.exit id) g=Q (.exit id) g:=rfl
theorem l4 {y:Code} {Q:Ex->G->Prop} {g:G} {x:Value}:fG T P y Q (.panic x) g=Q (.panic x) g:=rfl
theorem Aq {y:Code} {Q:Ex->G->Prop} {g:G}:fG T P y Q .ret g=Q .ret g:=rfl
theorem xD {id:Nat} {Q:Ex->G->Prop} {g:G}:qN id Q .normal g=Q .normal g:=rfl
theorem zm {id id':Nat} {Q:Ex->G->Prop} {g:G}:qN id Q (.exit id') g=if id'=id then Q .normal g else Q (.exit id') g:=rfl
theorem lZ {id:Nat} {Q:Ex->G->Prop} {g:G} {x:Value}:qN id Q (.panic x) g=Q (.panic x) g:=rfl
theorem AM {id:Nat} {Q:Ex->G->Prop} {g:G}:qN id Q .ret g=Q .ret g:=rfl
theorem ur {b:Bool} {s:Prop} {x y:Code} {g:G} {Q:Ex->G->Prop}:
  o9 T P (.one (.d (.v (.bool b)))) s x y g Q=(s/\(b=true->bQ T P x g Q)/\(b=false->bQ T P y g Q)):=rfl
end
set_option maxRecDepth 100000
theorem HZ {α:Type} {a0:α} {l:List α} {d:α}:List.getD (a0::l) 0 d=a0:=rfl
theorem Ie {α:Type} {a0 x:α} {l:List α}:List.set (a0::l) 0 x=x::l:=rfl
theorem Gu {α:Type} {a0 a1:α} {l:List α} {d:α}:List.getD (a0::a1::l) 1 d=a1:=rfl
theorem HY {α:Type} {a0 a1 x:α} {l:List α}:List.set (a0::a1::l) 1 x=a0::x::l:=rfl
theorem Gi {α:Type} {a0 a1 a2:α} {l:List α} {d:α}:List.getD (a0::a1::a2::l) 2 d=a2:=rfl
theorem HO {α:Type} {a0 a1 a2 x:α} {l:List α}:List.set (a0::a1::a2::l) 2 x=a0::a1::x::l:=rfl
theorem Ib {α:Type} {a0 a1 a2 a3:α} {l:List α} {d:α}:List.getD (a0::a1::a2::a3::l) 3 d=a3:=rfl
theorem GW {α:Type} {a0 a1 a2 a3 x:α} {l:List α}:List.set (a0::a1::a2::a3::l) 3 x=a0::a1::a2::x::l:=rfl
theorem H7 {α:Type} {a0 a1 a2 a3 a4:α} {l:List α} {d:α}:List.getD (a0::a1::a2::a3::a4::l) 4 d=a4:=rfl
theorem Hj {α:Type} {a0 a1 a2 a3 a4 x:α} {l:List α}:List.set (a0::a1::a2::a3::a4::l) 4 x=a0::a1::a2::a3::x::l:=rfl
theorem HE {α:Type} {a0 a1 a2 a3 a4 a5:α} {l:List α} {d:α}:List.getD (a0::a1::a2::a3::a4::a5::l) 5 d=a5:=rfl
theorem GG {α:Type} {a0 a1 a2 a3 a4 a5 x:α} {l:List α}:List.set (a0::a1::a2::a3::a4::a5::l) 5 x=a0::a1::a2::a3::a4::x::l:=rfl
theorem F9 {α:Type} {a0 a1 a2 a3 a4 a5 a6:α} {l:List α} {d:α}:List.getD (a0::a1::a2::a3::a4::a5::a6::l) 6 d=a6:=rfl
theorem HX {α:Type} {a0 a1 a2 a3 a4 a5 a6 x:α} {l:List α}:List.set (a0::a1::a2::a3::a4::a5::a6::l) 6 x=a0::a1::a2::a3::a4::a5::x::l:=rfl
theorem G4 {α:Type} {a0 a1 a2 a3 a4 a5 a6 a7:α} {l:List α} {d:α}:List.getD (a0::a1::a2::a3::a4::a5::a6::a7::l) 7 d=a7:=rfl
theorem Gf {α:Type} {a0 a1 a2 a3 a4 a5 a6 a7 x:α} {l:List α}:List.set (a0::a1::a2::a3::a4::a5::a6::a7::l) 7 x=a0::a1::a2::a3::a4::a5::a6::x::l:=rfl
theorem Hu {α:Type} {a0 a1 a2 a3 a4 a5 a6 a7 a8:α} {l:List α} {d:α}:List.getD (a0::a1::a2::a3::a4::a5::a6::a7::a8::l) 8 d=a8:=rfl
theorem Gt {α:Type} {a0 a1 a2 a3 a4 a5 a6 a7 a8 x:α} {l:List α}:List.set (a0::a1::a2::a3::a4::a5::a6::a7::a8::l) 8 x=a0::a1::a2::a3::a4::a5::a6::a7::x::l:=rfl
theorem HG {α:Type} {a0 a1 a2 a3 a4 a5 a6 a7 a8 a9:α} {l:List α} {d:α}:List.getD (a0::a1::a2::a3::a4::a5::a6::a7::a8::a9::l) 9 d=a9:=rfl
theorem G3 {α:Type} {a0 a1 a2 a3 a4 a5 a6 a7 a8 a9 x:α} {l:List α}:List.set (a0::a1::a2::a3::a4::a5::a6::a7::a8::a9::l) 9 x=a0::a1::a2::a3::a4::a5::a6::a7::a8::x::l:=rfl
theorem Fq {α:Type} {a0 a1 a2 a3 a4 a5 a6 a7 a8 a9 a10:α} {l:List α} {d:α}:List.getD (a0::a1::a2::a3::a4::a5::a6::a7::a8::a9::a10::l) 10 d=a10:=rfl
theorem E7 {α:Type} {a0 a1 a2 a3 a4 a5 a6 a7 a8 a9 a10 x:α} {l:List α}:List.set (a0::a1::a2::a3::a4::a5::a6::a7::a8::a9::a10::l) 10 x=a0::a1::a2::a3::a4::a5::a6::a7::a8::a9::x::l:=rfl
theorem Dq {α:Type} {a0 a1 a2 a3 a4 a5 a6 a7 a8 a9 a10 a11:α} {l:List α} {d:α}:List.getD (a0::a1::a2::a3::a4::a5::a6::a7::a8::a9::a10::a11::l) 11 d=a11:=rfl
theorem FG {α:Type} {a0 a1 a2 a3 a4 a5 a6 a7 a8 a9 a10 a11 x:α} {l:List α}:List.set (a0::a1::a2::a3::a4::a5::a6::a7::a8::a9::a10::a11::l) 11 x=a0::a1::a2::a3::a4::a5::a6::a7::a8::a9::a10::x::l:=rfl
theorem EZ {α:Type} {a0 a1 a2 a3 a4 a5 a6 a7 a8 a9 a10 a11 a12:α} {l:List α} {d:α}:List.getD (a0::a1::a2::a3::a4::a5::a6::a7::a8::a9::a10::a11::a12::l) 12 d=a12:=rfl
theorem CM {α:Type} {a0 a1 a2 a3 a4 a5 a6 a7 a8 a9 a10 a11 a12 x:α} {l:List α}:List.set (a0::a1::a2::a3::a4::a5::a6::a7::a8::a9::a10::a11::a12::l) 12 x=a0::a1::a2::a3::a4::a5::a6::a7::a8::a9::a10::a11::x::l:=rfl
theorem DI {α:Type} {a0 a1 a2 a3 a4 a5 a6 a7 a8 a9 a10 a11 a12 a13:α} {l:List α} {d:α}:List.getD (a0::a1::a2::a3::a4::a5::a6::a7::a8::a9::a10::a11::a12::a13::l) 13 d=a13:=rfl
theorem CP {α:Type} {a0 a1 a2 a3 a4 a5 a6 a7 a8 a9 a10 a11 a12 a13 x:α} {l:List α}:List.set (a0::a1::a2::a3::a4::a5::a6::a7::a8::a9::a10::a11::a12::a13::l) 13 x=a0::a1::a2::a3::a4::a5::a6::a7::a8::a9::a10::a11::a12::x::l:=rfl
theorem Ez {α:Type} {a0 a1 a2 a3 a4 a5 a6 a7 a8 a9 a10 a11 a12 a13 a14:α} {l:List α} {d:α}:List.getD (a0::a1::a2::a3::a4::a5::a6::a7::a8::a9::a10::a11::a12::a13::a14::l) 14 d=a14:=rfl
theorem FA {α:Type} {a0 a1 a2 a3 a4 a5 a6 a7 a8 a9 a10 a11 a12 a13 a14 x:α} {l:List α}:List.set (a0::a1::a2::a3::a4::a5::a6::a7::a8::a9::a10::a11::a12::a13::a14::l) 14 x=a0::a1::a2::a3::a4::a5::a6::a7::a8::a9::a10::a11::a12::a13::x::l:=rfl
theorem E9 {α:Type} {a0 a1 a2 a3 a4 a5 a6 a7 a8 a9 a10 a11 a12 a13 a14 a15:α} {l:List α} {d:α}:List.getD (a0::a1::a2::a3::a4::a5::a6::a7::a8::a9::a10::a11::a12::a13::a14::a15::l) 15 d=a15:=rfl
theorem Fe {α:Type} {a0 a1 a2 a3 a4 a5 a6 a7 a8 a9 a10 a11 a12 a13 a14 a15 x:α} {l:List α}:List.set (a0::a1::a2::a3::a4::a5::a6::a7::a8::a9::a10::a11::a12::a13::a14::a15::l) 15 x=a0::a1::a2::a3::a4::a5::a6::a7::a8::a9::a10::a11::a12::a13::a14::x::l:=rfl
theorem FI {α:Type} {a0 a1 a2 a3 a4 a5 a6 a7 a8 a9 a10 a11 a12 a13 a14 a15 a16:α} {l:List α} {d:α}:List.getD (a0::a1::a2::a3::a4::a5::a6::a7::a8::a9::a10::a11::a12::a13::a14::a15::a16::l) 16 d=a16:=rfl
theorem EG {α:Type} {a0 a1 a2 a3 a4 a5 a6 a7 a8 a9 a10 a11 a12 a13 a14 a15 a16 x:α} {l:List α}:List.set (a0::a1::a2::a3::a4::a5::a6::a7::a8::a9::a10::a11::a12::a13::a14::a15::a16::l) 16 x=a0::a1::a2::a3::a4::a5::a6::a7::a8::a9::a10::a11::a12::a13::a14::a15::x::l:=rfl
theorem CW {α:Type} {a0 a1 a2 a3 a4 a5 a6 a7 a8 a9 a10 a11 a12 a13 a14 a15 a16 a17:α} {l:List α} {d:α}:List.getD (a0::a1::a2::a3::a4::a5::a6::a7::a8::a9::a10::a11::a12::a13::a14::a15::a16::a17::l) 17 d=a17:=rfl
theorem EN {α:Type} {a0 a1 a2 a3 a4 a5 a6 a7 a8 a9 a10 a11 a12 a13 a14 a15 a16 a17 x:α} {l:List α}:List.set (a0::a1::a2::a3::a4::a5::a6::a7::a8::a9::a10::a11::a12::a13::a14::a15::a16::a17::l) 17 x=a0::a1::a2::a3::a4::a5::a6::a7::a8::a9::a10::a11::a12::a13::a14::a15::a16::x::l:=rfl
theorem D2 {α:Type} {a0 a1 a2 a3 a4 a5 a6 a7 a8 a9 a10 a11 a12 a13 a14 a15 a16 a17 a18:α} {l:List α} {d:α}:List.getD (a0::a1::a2::a3::a4::a5::a6::a7::a8::a9::a10::a11::a12::a13::a14::a15::a16::a17::a18::l) 18 d=a18:=rfl
theorem Dy {α:Type} {a0 a1 a2 a3 a4 a5 a6 a7 a8 a9 a10 a11 a12 a13 a14 a15 a16 a17 a18 x:α} {l:List α}:List.set (a0::a1::a2::a3::a4::a5::a6::a7::a8::a9::a10::a11::a12::a13::a14::a15::a16::a17::a18::l) 18 x=a0::a1::a2::a3::a4::a5::a6::a7::a8::a9::a10::a11::a12::a13::a14::a15::a16::a17::x::l:=rfl
theorem Du {α:Type} {a0 a1 a2 a3 a4 a5 a6 a7 a8 a9 a10 a11 a12 a13 a14 a15 a16 a17 a18 a19:α} {l:List α} {d:α}:List.getD (a0::a1::a2::a3::a4::a5::a6::a7::a8::a9::a10::a11::a12::a13::a14::a15::a16::a17::a18::a19::l) 19 d=a19:=rfl
theorem EU {α:Type} {a0 a1 a2 a3 a4 a5 a6 a7 a8 a9 a10 a11 a12 a13 a14 a15 a16 a17 a18 a19 x:α} {l:List α}:List.set (a0::a1::a2::a3::a4::a5::a6::a7::a8::a9::a10::a11::a12::a13::a14::a15::a16::a17::a18::a19::l) 19 x=a0::a1::a2::a3::a4::a5::a6::a7::a8::a9::a10::a11::a12::a13::a14::a15::a16::a17::a18::x::l:=rfl
theorem Dv {α:Type} {a0 a1 a2 a3 a4 a5 a6 a7 a8 a9 a10 a11 a12 a13 a14 a15 a16 a17 a18 a19 a20:α} {l:List α} {d:α}:List.getD (a0::a1::a2::a3::a4::a5::a6::a7::a8::a9::a10::a11::a12::a13::a14::a15::a16::a17::a18::a19::a20::l) 20 d=a20:=rfl
theorem DS {α:Type} {a0 a1 a2 a3 a4 a5 a6 a7 a8 a9 a10 a11 a12 a13 a14 a15 a16 a17 a18 a19 a20 x:α} {l:List α}:List.set (a0::a1::a2::a3::a4::a5::a6::a7::a8::a9::a10::a11::a12::a13::a14::a15::a16::a17::a18::a19::a20::l) 20 x=a0::a1::a2::a3::a4::a5::a6::a7::a8::a9::a10::a11::a12::a13::a14::a15::a16::a17::a18::a19::x::l:=rfl
theorem D5 {α:Type} {a0 a1 a2 a3 a4 a5 a6 a7 a8 a9 a10 a11 a12 a13 a14 a15 a16 a17 a18 a19 a20 a21:α} {l:List α} {d:α}:List.getD (a0::a1::a2::a3::a4::a5::a6::a7::a8::a9::a10::a11::a12::a13::a14::a15::a16::a17::a18::a19::a20::a21::l) 21 d=a21:=rfl
theorem Di {α:Type} {a0 a1 a2 a3 a4 a5 a6 a7 a8 a9 a10 a11 a12 a13 a14 a15 a16 a17 a18 a19 a20 a21 x:α} {l:List α}:List.set (a0::a1::a2::a3::a4::a5::a6::a7::a8::a9::a10::a11::a12::a13::a14::a15::a16::a17::a18::a19::a20::a21::l) 21 x=a0::a1::a2::a3::a4::a5::a6::a7::a8::a9::a10::a11::a12::a13::a14::a15::a16::a17::a18::a19::a20::x::l:=rfl
theorem Ft {α:Type} {a0 a1 a2 a3 a4 a5 a6 a7 a8 a9 a10 a11 a12 a13 a14 a15 a16 a17 a18 a19 a20 a21 a22:α} {l:List α} {d:α}:List.getD (a0::a1::a2::a3::a4::a5::a6::a7::a8::a9::a10::a11::a12::a13::a14::a15::a16::a17::a18::a19::a20::a21::a22::l) 22 d=a22:=rfl
theorem ES {α:Type} {a0 a1 a2 a3 a4 a5 a6 a7 a8 a9 a10 a11 a12 a13 a14 a15 a16 a17 a18 a19 a20 a21 a22 x:α} {l:List α}:List.set (a0::a1::a2::a3::a4::a5::a6::a7::a8::a9::a10::a11::a12::a13::a14::a15::a16::a17::a18::a19::a20::a21::a22::l) 22 x=a0::a1::a2::a3::a4::a5::a6::a7::a8::a9::a10::a11::a12::a13::a14::a15::a16::a17::a18::a19::a20::a21::x::l:=rfl
theorem FN {α:Type} {a0 a1 a2 a3 a4 a5 a6 a7 a8 a9 a10 a11 a12 a13 a14 a15 a16 a17 a18 a19 a20 a21 a22 a23:α} {l:List α} {d:α}:List.getD (a0::a1::a2::a3::a4::a5::a6::a7::a8::a9::a10::a11::a12::a13::a14::a15::a16::a17::a18::a19::a20::a21::a22::a23::l) 23 d=a23:=rfl
theorem C7 {α:Type} {a0 a1 a2 a3 a4 a5 a6 a7 a8 a9 a10 a11 a12 a13 a14 a15 a16 a17 a18 a19 a20 a21 a22 a23 x:α} {l:List α}:List.set (a0::a1::a2::a3::a4::a5::a6::a7::a8::a9::a10::a11::a12::a13::a14::a15::a16::a17::a18::a19::a20::a21::a22::a23::l) 23 x=a0::a1::a2::a3::a4::a5::a6::a7::a8::a9::a10::a11::a12::a13::a14::a15::a16::a17::a18::a19::a20::a21::a22::x::l:=rfl
theorem CV {α:Type} {a0 a1 a2 a3 a4 a5 a6 a7 a8 a9 a10 a11 a12 a13 a14 a15 a16 a17 a18 a19 a20 a21 a22 a23 a24:α} {l:List α} {d:α}:List.getD (a0::a1::a2::a3::a4::a5::a6::a7::a8::a9::a10::a11::a12::a13::a14::a15::a16::a17::a18::a19::a20::a21::a22::a23::a24::l) 24 d=a24:=rfl
theorem DB {α:Type} {a0 a1 a2 a3 a4 a5 a6 a7 a8 a9 a10 a11 a12 a13 a14 a15 a16 a17 a18 a19 a20 a21 a22 a23 a24 x:α} {l:List α}:List.set (a0::a1::a2::a3::a4::a5::a6::a7::a8::a9::a10::a11::a12::a13::a14::a15::a16::a17::a18::a19::a20::a21::a22::a23::a24::l) 24 x=a0::a1::a2::a3::a4::a5::a6::a7::a8::a9::a10::a11::a12::a13::a14::a15::a16::a17::a18::a19::a20::a21::a22::a23::x::l:=rfl
theorem Da {α:Type} {a0 a1 a2 a3 a4 a5 a6 a7 a8 a9 a10 a11 a12 a13 a14 a15 a16 a17 a18 a19 a20 a21 a22 a23 a24 a25:α} {l:List α} {d:α}:List.getD (a0::a1::a2::a3::a4::a5::a6::a7::a8::a9::a10::a11::a12::a13::a14::a15::a16::a17::a18::a19::a20::a21::a22::a23::a24::a25::l) 25 d=a25:=rfl
theorem EY {α:Type} {a0 a1 a2 a3 a4 a5 a6 a7 a8 a9 a10 a11 a12 a13 a14 a15 a16 a17 a18 a19 a20 a21 a22 a23 a24 a25 x:α} {l:List α}:List.set (a0::a1::a2::a3::a4::a5::a6::a7::a8::a9::a10::a11::a12::a13::a14::a15::a16::a17::a18::a19::a20::a21::a22::a23::a24::a25::l) 25 x=a0::a1::a2::a3::a4::a5::a6::a7::a8::a9::a10::a11::a12::a13::a14::a15::a16::a17::a18::a19::a20::a21::a22::a23::a24::x::l:=rfl
theorem FY {α:Type} {a0 a1 a2 a3 a4 a5 a6 a7 a8 a9 a10 a11 a12 a13 a14 a15 a16 a17 a18 a19 a20 a21 a22 a23 a24 a25 a26:α} {l:List α} {d:α}:List.getD (a0::a1::a2::a3::a4::a5::a6::a7::a8::a9::a10::a11::a12::a13::a14::a15::a16::a17::a18::a19::a20::a21::a22::a23::a24::a25::a26::l) 26 d=a26:=rfl
theorem D6 {α:Type} {a0 a1 a2 a3 a4 a5 a6 a7 a8 a9 a10 a11 a12 a13 a14 a15 a16 a17 a18 a19 a20 a21 a22 a23 a24 a25 a26 x:α} {l:List α}:List.set (a0::a1::a2::a3::a4::a5::a6::a7::a8::a9::a10::a11::a12::a13::a14::a15::a16::a17::a18::a19::a20::a21::a22::a23::a24::a25::a26::l) 26 x=a0::a1::a2::a3::a4::a5::a6::a7::a8::a9::a10::a11::a12::a13::a14::a15::a16::a17::a18::a19::a20::a21::a22::a23::a24::a25::x::l:=rfl
theorem Fw {α:Type} {a0 a1 a2 a3 a4 a5 a6 a7 a8 a9 a10 a11 a12 a13 a14 a15 a16 a17 a18 a19 a20 a21 a22 a23 a24 a25 a26 a27:α} {l:List α} {d:α}:List.getD (a0::a1::a2::a3::a4::a5::a6::a7::a8::a9::a10::a11::a12::a13::a14::a15::a16::a17::a18::a19::a20::a21::a22::a23::a24::a25::a26::a27::l) 27 d=a27:=rfl
theorem Er {α:Type} {a0 a1 a2 a3 a4 a5 a6 a7 a8 a9 a10 a11 a12 a13 a14 a15 a16 a17 a18 a19 a20 a21 a22 a23 a24 a25 a26 a27 x:α} {l:List α}:List.set (a0::a1::a2::a3::a4::a5::a6::a7::a8::a9::a10::a11::a12::a13::a14::a15::a16::a17::a18::a19::a20::a21::a22::a23::a24::a25::a26::a27::l) 27 x=a0::a1::a2::a3::a4::a5::a6::a7::a8::a9::a10::a11::a12::a13::a14::a15::a16::a17::a18::a19::a20::a21::a22::a23::a24::a25::a26::x::l:=rfl
theorem EA {α:Type} {a0 a1 a2 a3 a4 a5 a6 a7 a8 a9 a10 a11 a12 a13 a14 a15 a16 a17 a18 a19 a20 a21 a22 a23 a24 a25 a26 a27 a28:α} {l:List α} {d:α}:List.getD (a0::a1::a2::a3::a4::a5::a6::a7::a8::a9::a10::a11::a12::a13::a14::a15::a16::a17::a18::a19::a20::a21::a22::a23::a24::a25::a26::a27::a28::l) 28 d=a28:=rfl
theorem EE {α:Type} {a0 a1 a2 a3 a4 a5 a6 a7 a8 a9 a10 a11 a12 a13 a14 a15 a16 a17 a18 a19 a20 a21 a22 a23 a24 a25 a26 a27 a28 x:α} {l:List α}:List.set (a0::a1::a2::a3::a4::a5::a6::a7::a8::a9::a10::a11::a12::a13::a14::a15::a16::a17::a18::a19::a20::a21::a22::a23::a24::a25::a26::a27::a28::l) 28 x=a0::a1::a2::a3::a4::a5::a6::a7::a8::a9::a10::a11::a12::a13::a14::a15::a16::a17::a18::a19::a20::a21::a22::a23::a24::a25::a26::a27::x::l:=rfl
theorem Dw {α:Type} {a0 a1 a2 a3 a4 a5 a6 a7 a8 a9 a10 a11 a12 a13 a14 a15 a16 a17 a18 a19 a20 a21 a22 a23 a24 a25 a26 a27 a28 a29:α} {l:List α} {d:α}:List.getD (a0::a1::a2::a3::a4::a5::a6::a7::a8::a9::a10::a11::a12::a13::a14::a15::a16::a17::a18::a19::a20::a21::a22::a23::a24::a25::a26::a27::a28::a29::l) 29 d=a29:=rfl
theorem DD {α:Type} {a0 a1 a2 a3 a4 a5 a6 a7 a8 a9 a10 a11 a12 a13 a14 a15 a16 a17 a18 a19 a20 a21 a22 a23 a24 a25 a26 a27 a28 a29 x:α} {l:List α}:List.set (a0::a1::a2::a3::a4::a5::a6::a7::a8::a9::a10::a11::a12::a13::a14::a15::a16::a17::a18::a19::a20::a21::a22::a23::a24::a25::a26::a27::a28::a29::l) 29 x=a0::a1::a2::a3::a4::a5::a6::a7::a8::a9::a10::a11::a12::a13::a14::a15::a16::a17::a18::a19::a20::a21::a22::a23::a24::a25::a26::a27::a28::x::l:=rfl
theorem F3 {α:Type} {a0 a1 a2 a3 a4 a5 a6 a7 a8 a9 a10 a11 a12 a13 a14 a15 a16 a17 a18 a19 a20 a21 a22 a23 a24 a25 a26 a27 a28 a29 a30:α} {l:List α} {d:α}:List.getD (a0::a1::a2::a3::a4::a5::a6::a7::a8::a9::a10::a11::a12::a13::a14::a15::a16::a17::a18::a19::a20::a21::a22::a23::a24::a25::a26::a27::a28::a29::a30::l) 30 d=a30:=rfl
theorem F2 {α:Type} {a0 a1 a2 a3 a4 a5 a6 a7 a8 a9 a10 a11 a12 a13 a14 a15 a16 a17 a18 a19 a20 a21 a22 a23 a24 a25 a26 a27 a28 a29 a30 x:α} {l:List α}:List.set (a0::a1::a2::a3::a4::a5::a6::a7::a8::a9::a10::a11::a12::a13::a14::a15::a16::a17::a18::a19::a20::a21::a22::a23::a24::a25::a26::a27::a28::a29::a30::l) 30 x=a0::a1::a2::a3::a4::a5::a6::a7::a8::a9::a10::a11::a12::a13::a14::a15::a16::a17::a18::a19::a20::a21::a22::a23::a24::a25::a26::a27::a28::a29::x::l:=rfl
theorem DP {α:Type} {a0 a1 a2 a3 a4 a5 a6 a7 a8 a9 a10 a11 a12 a13 a14 a15 a16 a17 a18 a19 a20 a21 a22 a23 a24 a25 a26 a27 a28 a29 a30 a31:α} {l:List α} {d:α}:List.getD (a0::a1::a2::a3::a4::a5::a6::a7::a8::a9::a10::a11::a12::a13::a14::a15::a16::a17::a18::a19::a20::a21::a22::a23::a24::a25::a26::a27::a28::a29::a30::a31::l) 31 d=a31:=rfl
theorem Fo {α:Type} {a0 a1 a2 a3 a4 a5 a6 a7 a8 a9 a10 a11 a12 a13 a14 a15 a16 a17 a18 a19 a20 a21 a22 a23 a24 a25 a26 a27 a28 a29 a30 a31 x:α} {l:List α}:List.set (a0::a1::a2::a3::a4::a5::a6::a7::a8::a9::a10::a11::a12::a13::a14::a15::a16::a17::a18::a19::a20::a21::a22::a23::a24::a25::a26::a27::a28::a29::a30::a31::l) 31 x=a0::a1::a2::a3::a4::a5::a6::a7::a8::a9::a10::a11::a12::a13::a14::a15::a16::a17::a18::a19::a20::a21::a22::a23::a24::a25::a26::a27::a28::a29::a30::x::l:=rfl
theorem Hl {α:Type} {a0 a1 a2 a3 a4 a5 a6 a7 a8 a9 a10 a11 a12 a13 a14 a15 a16 a17 a18 a19 a20 a21 a22 a23 a24 a25 a26 a27 a28 a29 a30 a31:α} {l:List α} {d:α} {n:Nat}:List.getD (a0::a1::a2::a3::a4::a5::a6::a7::a8::a9::a10::a11::a12::a13::a14::a15::a16::a17::a18::a19::a20::a21::a22::a23::a24::a25::a26::a27::a28::a29::a30::a31::l) (n+32) d=List.getD l n d:=rfl
theorem Ht {α:Type} {a0 a1 a2 a3 a4 a5 a6 a7 a8 a9 a10 a11 a12 a13 a14 a15 a16 a17 a18 a19 a20 a21 a22 a23 a24 a25 a26 a27 a28 a29 a30 a31 x:α} {l:List α} {n:Nat}:List.set (a0::a1::a2::a3::a4::a5::a6::a7::a8::a9::a10::a11::a12::a13::a14::a15::a16::a17::a18::a19::a20::a21::a22::a23::a24::a25::a26::a27::a28::a29::a30::a31::l) (n+32) x=a0::a1::a2::a3::a4::a5::a6::a7::a8::a9::a10::a11::a12::a13::a14::a15::a16::a17::a18::a19::a20::a21::a22::a23::a24::a25::a26::a27::a28::a29::a30::a31::List.set l n x:=rfl
theorem HQ:type_of% (I (I (I (I (@Go.Pk.zR) (I (@Go.Pk.Ap) (@Go.Pk.BL))) (I (I (@Go.Pk.BI) (@Go.Pk.zX)) (I (@Go.Pk.AS) (@Go.Pk.zD)))) (I (I (I (@Go.Pk.zO) (@Go.Pk.zl)) (I (@Go.Pk.Am) (@Go.Pk.yM))) (I (I (@Go.Pk.yq) (@Go.Pk.Bw)) (I (@Go.Pk.Az) (@Go.Pk.A5))))) (I (I (I (@Go.Pk.BU) (I (@Go.Pk.B4) (@Go.Pk.Gy))) (I (I (@Go.Pk.Ik) (@Go.Pk.BD)) (I (@Go.Pk.xK) (@Go.Pk.yH)))) (I (I (I (@Go.Pk.yK) (@Go.Pk.xx)) (I (@Go.Pk.jy.eq_def) (@Go.Pk.iK.eq_def))) (I (I (@Go.Pk.qY.eq_def) (@Go.Pk.kL.eq_def)) (I (@Go.Pk.qc.eq_def) (@Go.Pk.nu.eq_def)))))):=I (I (I (I (@Go.Pk.zR) (I (@Go.Pk.Ap) (@Go.Pk.BL))) (I (I (@Go.Pk.BI) (@Go.Pk.zX)) (I (@Go.Pk.AS) (@Go.Pk.zD)))) (I (I (I (@Go.Pk.zO) (@Go.Pk.zl)) (I (@Go.Pk.Am) (@Go.Pk.yM))) (I (I (@Go.Pk.yq) (@Go.Pk.Bw)) (I (@Go.Pk.Az) (@Go.Pk.A5))))) (I (I (I (@Go.Pk.BU) (I (@Go.Pk.B4) (@Go.Pk.Gy))) (I (I (@Go.Pk.Ik) (@Go.Pk.BD)) (I (@Go.Pk.xK) (@Go.Pk.yH)))) (I (I (I (@Go.Pk.yK) (@Go.Pk.xx)) (I (@Go.Pk.jy.eq_def) (@Go.Pk.iK.eq_def))) (I (I (@Go.Pk.qY.eq_def) (@Go.Pk.kL.eq_def)) (I (@Go.Pk.qc.eq_def) (@Go.Pk.nu.eq_def)))))
theorem HN:type_of% (I (I (I (I (@Go.Pk.iL.eq_def) (I (@Go.Pk.te.eq_def) (@Go.Pk.az.eq_def))) (I (I (@Go.Pk.tJ.eq_def) (@Go.Pk.tM.eq_def)) (I (@Go.Pk.tT.eq_def) (@Go.Pk.ev.eq_def)))) (I (I (I (@Go.Pk.bf.eq_def) (@Go.Pk.eQ.eq_def)) (I (@Go.Pk.fS.eq_def) (@Go.Pk.bg.eq_def))) (I (I (@Go.Pk.bz.eq_def) (@Go.Pk.cellsOf.eq_def)) (I (@Go.Pk.live.eq_def) (@Go.Pk.aq.eq_def))))) (I (I (I (@Go.Pk.kJ.eq_def) (I (@Go.Pk.u6.eq_def) (@Go.Pk.eM.eq_def))) (I (I (@Go.Pk.flat.eq_def) (@Go.Pk.pX.eq_def)) (I (@Go.Pk.nd.eq_def) (@Go.Pk.p'.eq_def)))) (I (I (I (@Go.Pk.eI.eq_def) (@Go.Pk.aK.eq_def)) (I (@Go.Pk.aB.eq_def) (@Go.Pk.iy.eq_def))) (I (I (@Go.Pk.Out.with.eq_def) (@Go.Pk.jQ.eq_def)) (I (@Go.Pk.iR.eq_def) (@Go.Pk.lJ.eq_def)))))):=I (I (I (I (@Go.Pk.iL.eq_def) (I (@Go.Pk.te.eq_def) (@Go.Pk.az.eq_def))) (I (I (@Go.Pk.tJ.eq_def) (@Go.Pk.tM.eq_def)) (I (@Go.Pk.tT.eq_def) (@Go.Pk.ev.eq_def)))) (I (I (I (@Go.Pk.bf.eq_def) (@Go.Pk.eQ.eq_def)) (I (@Go.Pk.fS.eq_def) (@Go.Pk.bg.eq_def))) (I (I (@Go.Pk.bz.eq_def) (@Go.Pk.cellsOf.eq_def)) (I (@Go.Pk.live.eq_def) (@Go.Pk.aq.eq_def))))) (I (I (I (@Go.Pk.kJ.eq_def) (I (@Go.Pk.u6.eq_def) (@Go.Pk.eM.eq_def))) (I (I (@Go.Pk.flat.eq_def) (@Go.Pk.pX.eq_def)) (I (@Go.Pk.nd.eq_def) (@Go.Pk.p'.eq_def)))) (I (I (I (@Go.Pk.eI.eq_def) (@Go.Pk.aK.eq_def)) (I (@Go.Pk.aB.eq_def) (@Go.Pk.iy.eq_def))) (I (I (@Go.Pk.Out.with.eq_def) (@Go.Pk.jQ.eq_def)) (I (@Go.Pk.iR.eq_def) (@Go.Pk.lJ.eq_def)))))
theorem GJ:type_of% (I (I (I (I (@Go.Pk.isBool.eq_def) (I (@Go.Pk.kr.eq_def) (@Go.Pk.qP.eq_def))) (I (I (@Go.Pk.lM.eq_def) (@Go.Pk.dN.eq_def)) (I (@Go.Pk.ph.eq_def) (@Go.Pk.dh.eq_def)))) (I (I (I (@Go.Pk.isStr.eq_def) (@Go.Pk.isInt.eq_def)) (I (@Go.Pk.jU.eq_def) (@Go.Pk.jA.eq_def))) (I (I (@Go.Pk.sliceB.eq_def) (@Go.Pk.j6.eq_def)) (I (@Go.Pk.ki.eq_def) (@Go.Pk.kq.eq_def))))) (I (I (I (@Go.Pk.jM.eq_def) (I (@Go.Pk.hX.eq_def) (@Go.Pk.jj.eq_def))) (I (I (@Go.Pk.pd.eq_def) (@Go.Pk.C.pq.eq_def)) (I (@Go.Pk.rowOf.eq_def) (@Go.Pk.oV.eq_def)))) (I (I (I (@Go.Pk.jb.eq_def) (@Go.Pk.cC.eq_def)) (I (@Go.Pk.kj.eq_def) (@Go.Pk.gb.eq_def))) (I (I (@Go.Pk.dx.eq_def) (@Go.Pk.qq.eq_def)) (I (@Go.Pk.hP.eq_def) (@Go.Pk.RF.cells.eq_def)))))):=I (I (I (I (@Go.Pk.isBool.eq_def) (I (@Go.Pk.kr.eq_def) (@Go.Pk.qP.eq_def))) (I (I (@Go.Pk.lM.eq_def) (@Go.Pk.dN.eq_def)) (I (@Go.Pk.ph.eq_def) (@Go.Pk.dh.eq_def)))) (I (I (I (@Go.Pk.isStr.eq_def) (@Go.Pk.isInt.eq_def)) (I (@Go.Pk.jU.eq_def) (@Go.Pk.jA.eq_def))) (I (I (@Go.Pk.sliceB.eq_def) (@Go.Pk.j6.eq_def)) (I (@Go.Pk.ki.eq_def) (@Go.Pk.kq.eq_def))))) (I (I (I (@Go.Pk.jM.eq_def) (I (@Go.Pk.hX.eq_def) (@Go.Pk.jj.eq_def))) (I (I (@Go.Pk.pd.eq_def) (@Go.Pk.C.pq.eq_def)) (I (@Go.Pk.rowOf.eq_def) (@Go.Pk.oV.eq_def)))) (I (I (I (@Go.Pk.jb.eq_def) (@Go.Pk.cC.eq_def)) (I (@Go.Pk.kj.eq_def) (@Go.Pk.gb.eq_def))) (I (I (@Go.Pk.dx.eq_def) (@Go.Pk.qq.eq_def)) (I (@Go.Pk.hP.eq_def) (@Go.Pk.RF.cells.eq_def)))))
theorem GU:type_of% (I (I (I (I (@Go.Pk.cq.eq_def) (I (@Go.Pk.qQ.eq_def) (@Go.Pk.ck.eq_def))) (I (I (@Go.Pk.dM.eq_def) (@Go.Pk.dl.eq_def)) (I (@Go.Pk.FP.both.eq_def) (@Go.Pk.pv.eq_def)))) (I (I (I (@Go.Pk.cI.eq_def) (@Go.Pk.tz.eq_def)) (I (@Go.Pk.dL.eq_def) (@Go.Pk.eO.eq_def))) (I (I (@Go.Pk.qs.eq_def) (@Go.Pk.bA.eq_def)) (I (@Go.Pk.iB.eq_def) (@Go.Pk.jL.eq_def))))) (I (I (I (@Go.Pk.bindM.eq_def) (I (@Go.Pk.fu.eq_def) (@Go.Pk.tP.eq_def))) (I (I (@Go.Pk.Mv.s.eq_def) (@Go.Pk.jq.eq_def)) (I (@Go.Pk.lg.eq_def) (@Go.Pk.jw.eq_def)))) (I (I (I (@Go.Pk.mh.eq_def) (@Go.Pk.lz.eq_def)) (I (@Go.Pk.c7.eq_def) (@Go.Pk.qX.eq_def))) (I (I (@Go.Pk.q9.eq_def) (@Go.Pk.kf.eq_def)) (I (@Go.Pk.kb.eq_def) (@Go.Pk.jT.eq_def)))))):=I (I (I (I (@Go.Pk.cq.eq_def) (I (@Go.Pk.qQ.eq_def) (@Go.Pk.ck.eq_def))) (I (I (@Go.Pk.dM.eq_def) (@Go.Pk.dl.eq_def)) (I (@Go.Pk.FP.both.eq_def) (@Go.Pk.pv.eq_def)))) (I (I (I (@Go.Pk.cI.eq_def) (@Go.Pk.tz.eq_def)) (I (@Go.Pk.dL.eq_def) (@Go.Pk.eO.eq_def))) (I (I (@Go.Pk.qs.eq_def) (@Go.Pk.bA.eq_def)) (I (@Go.Pk.iB.eq_def) (@Go.Pk.jL.eq_def))))) (I (I (I (@Go.Pk.bindM.eq_def) (I (@Go.Pk.fu.eq_def) (@Go.Pk.tP.eq_def))) (I (I (@Go.Pk.Mv.s.eq_def) (@Go.Pk.jq.eq_def)) (I (@Go.Pk.lg.eq_def) (@Go.Pk.jw.eq_def)))) (I (I (I (@Go.Pk.mh.eq_def) (@Go.Pk.lz.eq_def)) (I (@Go.Pk.c7.eq_def) (@Go.Pk.qX.eq_def))) (I (I (@Go.Pk.q9.eq_def) (@Go.Pk.kf.eq_def)) (I (@Go.Pk.kb.eq_def) (@Go.Pk.jT.eq_def)))))
theorem G7:type_of% (I (I (I (I (@Go.Pk.ng.eq_def) (I (@Go.Pk.ld.eq_def) (@Go.Pk.lS.eq_def))) (I (I (@Go.Pk.bytesOf.eq_1) (@Go.Pk.bytesOf.eq_2)) (I (@Go.Pk.cO.eq_1) (@Go.Pk.cO.eq_2)))) (I (I (I (@Go.Pk.jD.eq_1) (@Go.Pk.jD.eq_2)) (I (@Go.Pk.cT.eq_1) (@Go.Pk.cT.eq_2))) (I (I (@Go.Pk.cE.eq_1) (@Go.Pk.cE.eq_2)) (I (@Go.Pk.ah.eq_1) (@Go.Pk.ah.eq_2))))) (I (I (I (@Go.Pk.aM.eq_1) (I (@Go.Pk.aM.eq_2) (@Go.Pk.ly.eq_1))) (I (I (@Go.Pk.ly.eq_2) (@Go.Pk.mB.eq_1)) (I (@Go.Pk.mB.eq_2) (@Go.Pk.ca.eq_1)))) (I (I (I (@Go.Pk.ca.eq_2) (@Go.Pk.gh.eq_1)) (I (@Go.Pk.gh.eq_2) (@Go.Pk.cX.eq_1))) (I (I (@Go.Pk.cX.eq_2) (@Go.Pk.eT.eq_1)) (I (@Go.Pk.eT.eq_2) (@Go.Pk.bd.eq_1)))))):=I (I (I (I (@Go.Pk.ng.eq_def) (I (@Go.Pk.ld.eq_def) (@Go.Pk.lS.eq_def))) (I (I (@Go.Pk.bytesOf.eq_1) (@Go.Pk.bytesOf.eq_2)) (I (@Go.Pk.cO.eq_1) (@Go.Pk.cO.eq_2)))) (I (I (I (@Go.Pk.jD.eq_1) (@Go.Pk.jD.eq_2)) (I (@Go.Pk.cT.eq_1) (@Go.Pk.cT.eq_2))) (I (I (@Go.Pk.cE.eq_1) (@Go.Pk.cE.eq_2)) (I (@Go.Pk.ah.eq_1) (@Go.Pk.ah.eq_2))))) (I (I (I (@Go.Pk.aM.eq_1) (I (@Go.Pk.aM.eq_2) (@Go.Pk.ly.eq_1))) (I (I (@Go.Pk.ly.eq_2) (@Go.Pk.mB.eq_1)) (I (@Go.Pk.mB.eq_2) (@Go.Pk.ca.eq_1)))) (I (I (I (@Go.Pk.ca.eq_2) (@Go.Pk.gh.eq_1)) (I (@Go.Pk.gh.eq_2) (@Go.Pk.cX.eq_1))) (I (I (@Go.Pk.cX.eq_2) (@Go.Pk.eT.eq_1)) (I (@Go.Pk.eT.eq_2) (@Go.Pk.bd.eq_1)))))
theorem Hi:type_of% (I (I (I (I (@Go.Pk.bd.eq_2) (I (@Go.Pk.bd.eq_3) (@Go.Pk.bd.eq_4))) (I (I (@Go.Pk.bd.eq_5) (@Go.Pk.bd.eq_6)) (I (@Go.Pk.bd.eq_7) (@Go.Pk.bd.eq_8)))) (I (I (I (@Go.Pk.bd.eq_9) (@Go.Pk.bd.eq_10)) (I (@Go.Pk.gV.eq_1) (@Go.Pk.gV.eq_2))) (I (I (@Go.Pk.gV.eq_3) (@Go.Pk.gV.eq_4)) (I (@Go.Pk.ig.eq_1) (@Go.Pk.ig.eq_2))))) (I (I (I (@Go.Pk.bd.lendCs.eq_1) (I (@Go.Pk.bd.lendCs.eq_2) (@Go.Pk.fx.eq_1))) (I (I (@Go.Pk.fx.eq_2) (@Go.Pk.dD.eq_1)) (I (@Go.Pk.dD.eq_2) (@Go.Pk.dD.eq_3)))) (I (I (I (@Go.Pk.dy.eq_1) (@Go.Pk.dy.eq_2)) (I (@Go.Pk.dy.eq_3) (@Go.Pk.fR.eq_1))) (I (I (@Go.Pk.fR.eq_2) (@Go.Pk.fR.eq_3)) (I (@Go.Pk.ka.eq_1) (@Go.Pk.ka.eq_2)))))):=I (I (I (I (@Go.Pk.bd.eq_2) (I (@Go.Pk.bd.eq_3) (@Go.Pk.bd.eq_4))) (I (I (@Go.Pk.bd.eq_5) (@Go.Pk.bd.eq_6)) (I (@Go.Pk.bd.eq_7) (@Go.Pk.bd.eq_8)))) (I (I (I (@Go.Pk.bd.eq_9) (@Go.Pk.bd.eq_10)) (I (@Go.Pk.gV.eq_1) (@Go.Pk.gV.eq_2))) (I (I (@Go.Pk.gV.eq_3) (@Go.Pk.gV.eq_4)) (I (@Go.Pk.ig.eq_1) (@Go.Pk.ig.eq_2))))) (I (I (I (@Go.Pk.bd.lendCs.eq_1) (I (@Go.Pk.bd.lendCs.eq_2) (@Go.Pk.fx.eq_1))) (I (I (@Go.Pk.fx.eq_2) (@Go.Pk.dD.eq_1)) (I (@Go.Pk.dD.eq_2) (@Go.Pk.dD.eq_3)))) (I (I (I (@Go.Pk.dy.eq_1) (@Go.Pk.dy.eq_2)) (I (@Go.Pk.dy.eq_3) (@Go.Pk.fR.eq_1))) (I (I (@Go.Pk.fR.eq_2) (@Go.Pk.fR.eq_3)) (I (@Go.Pk.ka.eq_1) (@Go.Pk.ka.eq_2)))))
theorem Hh:type_of% (I (I (I (I (@Go.Pk.ek.eq_1) (I (@Go.Pk.ek.eq_2) (@Go.Pk.bm.eq_1))) (I (I (@Go.Pk.bm.eq_2) (@Go.Pk.bm.eq_3)) (I (@Go.Pk.bm.eq_4) (@Go.Pk.bm.eq_5)))) (I (I (I (@Go.Pk.bm.eq_6) (@Go.Pk.bm.eq_7)) (I (@Go.Pk.bm.eq_8) (@Go.Pk.bm.eq_9))) (I (I (@Go.Pk.bm.eq_10) (@Go.Pk.bG.eq_1)) (I (@Go.Pk.bG.eq_2) (@Go.Pk.bj.eq_1))))) (I (I (I (@Go.Pk.bj.eq_2) (I (@Go.Pk.bj.eq_3) (@Go.Pk.bj.eq_4))) (I (I (@Go.Pk.eR.eq_1) (@Go.Pk.eR.eq_2)) (I (@Go.Pk.eh.eq_1) (@Go.Pk.eh.eq_2)))) (I (I (I (@Go.Pk.jP.eq_1) (@Go.Pk.jP.eq_2)) (I (@Go.Pk.nU.eq_1) (@Go.Pk.nU.eq_2))) (I (I (@Go.Pk.gu.eq_1) (@Go.Pk.gu.eq_2)) (I (@Go.Pk.gu.eq_3) (@Go.Pk.jt.eq_1)))))):=I (I (I (I (@Go.Pk.ek.eq_1) (I (@Go.Pk.ek.eq_2) (@Go.Pk.bm.eq_1))) (I (I (@Go.Pk.bm.eq_2) (@Go.Pk.bm.eq_3)) (I (@Go.Pk.bm.eq_4) (@Go.Pk.bm.eq_5)))) (I (I (I (@Go.Pk.bm.eq_6) (@Go.Pk.bm.eq_7)) (I (@Go.Pk.bm.eq_8) (@Go.Pk.bm.eq_9))) (I (I (@Go.Pk.bm.eq_10) (@Go.Pk.bG.eq_1)) (I (@Go.Pk.bG.eq_2) (@Go.Pk.bj.eq_1))))) (I (I (I (@Go.Pk.bj.eq_2) (I (@Go.Pk.bj.eq_3) (@Go.Pk.bj.eq_4))) (I (I (@Go.Pk.eR.eq_1) (@Go.Pk.eR.eq_2)) (I (@Go.Pk.eh.eq_1) (@Go.Pk.eh.eq_2)))) (I (I (I (@Go.Pk.jP.eq_1) (@Go.Pk.jP.eq_2)) (I (@Go.Pk.nU.eq_1) (@Go.Pk.nU.eq_2))) (I (I (@Go.Pk.gu.eq_1) (@Go.Pk.gu.eq_2)) (I (@Go.Pk.gu.eq_3) (@Go.Pk.jt.eq_1)))))
theorem GM:type_of% (I (I (I (I (@Go.Pk.jt.eq_2) (I (@Go.Pk.ic.eq_1) (@Go.Pk.ic.eq_2))) (I (I (@Go.Pk.ic.eq_3) (@Go.Pk.lK.eq_1)) (I (@Go.Pk.lK.eq_2) (@Go.Pk.cM.eq_1)))) (I (I (I (@Go.Pk.cM.eq_2) (@Go.Pk.eL.eq_1)) (I (@Go.Pk.eL.eq_2) (@bZ.{0}))) (I (I (@gS.{0}) (@de.{0})) (I (@iq.{0}) (@gB.{0}))))) (I (I (I (@nF.{0}) (I (@List.drop_nil.{0}) (@List.take_zero.{0}))) (I (I (@qK.{0}) (@List.take_nil.{0})) (I (@eU.{0}) (@eJ.{0})))) (I (I (I (@eD.{0}) (@List.replicate_succ.{0})) (I (@List.replicate_zero.{0}) (@mi.{0}))) (I (I (@cJ.{0,0}) (@ff.{0,0})) (I (@fm.{0,0}) (@List.flatMap_nil.{0,0})))))):=I (I (I (I (@Go.Pk.jt.eq_2) (I (@Go.Pk.ic.eq_1) (@Go.Pk.ic.eq_2))) (I (I (@Go.Pk.ic.eq_3) (@Go.Pk.lK.eq_1)) (I (@Go.Pk.lK.eq_2) (@Go.Pk.cM.eq_1)))) (I (I (I (@Go.Pk.cM.eq_2) (@Go.Pk.eL.eq_1)) (I (@Go.Pk.eL.eq_2) (@bZ.{0}))) (I (I (@gS.{0}) (@de.{0})) (I (@iq.{0}) (@gB.{0}))))) (I (I (I (@nF.{0}) (I (@List.drop_nil.{0}) (@List.take_zero.{0}))) (I (I (@qK.{0}) (@List.take_nil.{0})) (I (@eU.{0}) (@eJ.{0})))) (I (I (I (@eD.{0}) (@List.replicate_succ.{0})) (I (@List.replicate_zero.{0}) (@mi.{0}))) (I (I (@cJ.{0,0}) (@ff.{0,0})) (I (@fm.{0,0}) (@List.flatMap_nil.{0,0})))))
theorem Hx:type_of% (I (I (I (I (@qB.{0,0}) (I (@nE.{0,0}) (@List.foldl_nil.{0,0}))) (I (I (@List.filterMap_cons.{0,0}) (@List.filterMap_nil.{0,0})) (I (@Option.bind_some.{0,0}) (@Option.bind_none.{0,0})))) (I (I (I (@Go.Pk.HZ) (@Go.Pk.Ie)) (I (@Go.Pk.Gu) (@Go.Pk.HY))) (I (I (@Go.Pk.Gi) (@Go.Pk.HO)) (I (@Go.Pk.Ib) (@Go.Pk.GW))))) (I (I (I (@Go.Pk.H7) (I (@Go.Pk.Hj) (@Go.Pk.HE))) (I (I (@Go.Pk.GG) (@Go.Pk.F9)) (I (@Go.Pk.HX) (@Go.Pk.G4)))) (I (I (I (@Go.Pk.Gf) (@Go.Pk.Hu)) (I (@Go.Pk.Gt) (@Go.Pk.HG))) (I (I (@Go.Pk.G3) (@Go.Pk.Fq)) (I (@Go.Pk.E7) (@Go.Pk.Dq)))))):=I (I (I (I (@qB.{0,0}) (I (@nE.{0,0}) (@List.foldl_nil.{0,0}))) (I (I (@List.filterMap_cons.{0,0}) (@List.filterMap_nil.{0,0})) (I (@Option.bind_some.{0,0}) (@Option.bind_none.{0,0})))) (I (I (I (@Go.Pk.HZ) (@Go.Pk.Ie)) (I (@Go.Pk.Gu) (@Go.Pk.HY))) (I (I (@Go.Pk.Gi) (@Go.Pk.HO)) (I (@Go.Pk.Ib) (@Go.Pk.GW))))) (I (I (I (@Go.Pk.H7) (I (@Go.Pk.Hj) (@Go.Pk.HE))) (I (I (@Go.Pk.GG) (@Go.Pk.F9)) (I (@Go.Pk.HX) (@Go.Pk.G4)))) (I (I (I (@Go.Pk.Gf) (@Go.Pk.Hu)) (I (@Go.Pk.Gt) (@Go.Pk.HG))) (I (I (@Go.Pk.G3) (@Go.Pk.Fq)) (I (@Go.Pk.E7) (@Go.Pk.Dq)))))
theorem Hk:type_of% (I (I (I (I (@Go.Pk.FG) (I (@Go.Pk.EZ) (@Go.Pk.CM))) (I (I (@Go.Pk.DI) (@Go.Pk.CP)) (I (@Go.Pk.Ez) (@Go.Pk.FA)))) (I (I (I (@Go.Pk.E9) (@Go.Pk.Fe)) (I (@Go.Pk.FI) (@Go.Pk.EG))) (I (I (@Go.Pk.CW) (@Go.Pk.EN)) (I (@Go.Pk.D2) (@Go.Pk.Dy))))) (I (I (I (@Go.Pk.Du) (I (@Go.Pk.EU) (@Go.Pk.Dv))) (I (I (@Go.Pk.DS) (@Go.Pk.D5)) (I (@Go.Pk.Di) (@Go.Pk.Ft)))) (I (I (I (@Go.Pk.ES) (@Go.Pk.FN)) (I (@Go.Pk.C7) (@Go.Pk.CV))) (I (I (@Go.Pk.DB) (@Go.Pk.Da)) (I (@Go.Pk.EY) (@Go.Pk.FY)))))):=I (I (I (I (@Go.Pk.FG) (I (@Go.Pk.EZ) (@Go.Pk.CM))) (I (I (@Go.Pk.DI) (@Go.Pk.CP)) (I (@Go.Pk.Ez) (@Go.Pk.FA)))) (I (I (I (@Go.Pk.E9) (@Go.Pk.Fe)) (I (@Go.Pk.FI) (@Go.Pk.EG))) (I (I (@Go.Pk.CW) (@Go.Pk.EN)) (I (@Go.Pk.D2) (@Go.Pk.Dy))))) (I (I (I (@Go.Pk.Du) (I (@Go.Pk.EU) (@Go.Pk.Dv))) (I (I (@Go.Pk.DS) (@Go.Pk.D5)) (I (@Go.Pk.Di) (@Go.Pk.Ft)))) (I (I (I (@Go.Pk.ES) (@Go.Pk.FN)) (I (@Go.Pk.C7) (@Go.Pk.CV))) (I (I (@Go.Pk.DB) (@Go.Pk.Da)) (I (@Go.Pk.EY) (@Go.Pk.FY)))))
theorem FC:type_of% (I (I (I (@Go.Pk.D6) (I (@Go.Pk.Fw) (@Go.Pk.Er))) (I (@Go.Pk.EA) (I (@Go.Pk.EE) (@Go.Pk.Dw)))) (I (I (@Go.Pk.DD) (I (@Go.Pk.F3) (@Go.Pk.F2))) (I (I (@Go.Pk.DP) (@Go.Pk.Fo)) (I (@Go.Pk.Hl) (@Go.Pk.Ht))))):=I (I (I (@Go.Pk.D6) (I (@Go.Pk.Fw) (@Go.Pk.Er))) (I (@Go.Pk.EA) (I (@Go.Pk.EE) (@Go.Pk.Dw)))) (I (I (@Go.Pk.DD) (I (@Go.Pk.F3) (@Go.Pk.F2))) (I (I (@Go.Pk.DP) (@Go.Pk.Fo)) (I (@Go.Pk.Hl) (@Go.Pk.Ht))))
end Go.Pk
