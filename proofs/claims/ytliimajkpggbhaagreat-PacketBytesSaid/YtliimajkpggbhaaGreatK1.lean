import Derived.Calls
import Derived.Orders
import Derived.Still
import Derived.Laws.Sem
import Derived.Laws.Cells
import Derived.Laws.World
import Derived.Laws.Rows
import Derived.Laws.Append
set_option linter.unusedVariables false
set_option linter.unusedSimpArgs false
set_option linter.unusedSectionVars false
namespace Go.Pk
theorem dH:type_of% @And.imp_right:=@And.imp_right
theorem lb:type_of% @Array.ext':=@Array.ext'
theorem D5:type_of% @Array.getD_eq_getD_getElem?:=@Array.getD_eq_getD_getElem?
theorem D3:type_of% @Array.getElem?_eq_getElem:=@Array.getElem?_eq_getElem
theorem po:type_of% @Array.getElem?_toList:=@Array.getElem?_toList
theorem mC:type_of% @Array.length_toList:=@Array.length_toList
theorem wA:type_of% @Array.toArray_toList:=@Array.toArray_toList
theorem xS:type_of% @Array.toList_map:=@Array.toList_map
theorem eJ:type_of% @Bool.and_assoc:=@Bool.and_assoc
theorem rE:type_of% @Bool.and_comm:=@Bool.and_comm
theorem oF:type_of% @Bool.and_eq_false_iff:=@Bool.and_eq_false_iff
theorem bM:type_of% @Bool.and_eq_true:=@Bool.and_eq_true
theorem pE:type_of% @Bool.and_false:=@Bool.and_false
theorem sZ:type_of% @Bool.and_left_comm:=@Bool.and_left_comm
theorem iu:type_of% @Bool.and_self:=@Bool.and_self
theorem nK:type_of% @Bool.eq_iff_iff:=@Bool.eq_iff_iff
theorem gV:type_of% @Bool.false_and:=@Bool.false_and
theorem lU:type_of% @Bool.false_eq_true:=@Bool.false_eq_true
theorem lR:type_of% @Bool.false_or:=@Bool.false_or
theorem pq:type_of% @Bool.not_eq_false':=@Bool.not_eq_false'
theorem Bb:type_of% @Bool.not_eq_true:=@Bool.not_eq_true
theorem ir:type_of% @Bool.not_eq_true':=@Bool.not_eq_true'
theorem eR:type_of% @Bool.not_false:=@Bool.not_false
theorem uH:type_of% @Bool.not_not:=@Bool.not_not
theorem xV:type_of% @Bool.not_or:=@Bool.not_or
theorem dx:type_of% @Bool.not_true:=@Bool.not_true
theorem iP:type_of% @Bool.or_eq_false_iff:=@Bool.or_eq_false_iff
theorem pv:type_of% @Bool.or_eq_true:=@Bool.or_eq_true
theorem nR:type_of% @Bool.or_false:=@Bool.or_false
theorem ec:type_of% @Bool.true_and:=@Bool.true_and
theorem l5:type_of% @Int.cast_ofNat_Int:=@Int.cast_ofNat_Int
theorem nL:type_of% @Int.eq_ofNat_of_zero_le:=@Int.eq_ofNat_of_zero_le
theorem v9:type_of% @Int.fdiv_eq_ediv_of_nonneg:=@Int.fdiv_eq_ediv_of_nonneg
theorem yg:type_of% @Int.natCast_nonneg:=@Int.natCast_nonneg
theorem fV:type_of% @Int.natCast_zero:=@Int.natCast_zero
theorem tC:type_of% @Int.pow_nonneg:=@Int.pow_nonneg
theorem D8:type_of% @Int.tmod_eq_emod_of_nonneg:=@Int.tmod_eq_emod_of_nonneg
theorem gW:type_of% @Int.toNat_natCast:=@Int.toNat_natCast
theorem yp:type_of% @Int.toNat_of_nonneg:=@Int.toNat_of_nonneg
theorem ym:type_of% @List.Pairwise.sublist:=@List.Pairwise.sublist
theorem lY:type_of% @List.all_cons:=@List.all_cons
theorem jh:type_of% @List.all_eq_true:=@List.all_eq_true
theorem uN:type_of% @List.all_nil:=@List.all_nil
theorem pB:type_of% @List.any_cons:=@List.any_cons
theorem wj:type_of% @List.any_eq_false:=@List.any_eq_false
theorem wb:type_of% @List.any_eq_true:=@List.any_eq_true
theorem rS:type_of% @List.any_nil:=@List.any_nil
theorem fH:type_of% @List.append_assoc:=@List.append_assoc
theorem fe:type_of% @List.append_nil:=@List.append_nil
theorem dW:type_of% @List.cons_append:=@List.cons_append
theorem A2:type_of% @List.contains_eq_mem:=@List.contains_eq_mem
theorem jD:type_of% @List.drop_drop:=@List.drop_drop
theorem cB:type_of% @List.drop_eq_getElem_cons:=@List.drop_eq_getElem_cons
theorem D4:type_of% @List.drop_eq_nil_of_le:=@List.drop_eq_nil_of_le
theorem eL:type_of% @List.drop_length:=@List.drop_length
theorem oB:type_of% @List.drop_succ_cons:=@List.drop_succ_cons
theorem cC:type_of% @List.drop_zero:=@List.drop_zero
theorem nu:type_of% @List.eq_nil_of_length_eq_zero:=@List.eq_nil_of_length_eq_zero
theorem wv:type_of% @List.ext_getElem:=@List.ext_getElem
theorem xY:type_of% @List.ext_getElem?:=@List.ext_getElem?
theorem tf:type_of% @List.filter_cons:=@List.filter_cons
theorem ya:type_of% @List.find?_cons:=@List.find?_cons
theorem tJ:type_of% @List.find?_eq_none:=@List.find?_eq_none
theorem v7:type_of% @List.flatMap_append:=@List.flatMap_append
theorem fv:type_of% @List.flatMap_cons:=@List.flatMap_cons
theorem qB:type_of% @List.flatMap_nil:=@List.flatMap_nil
theorem jK:type_of% @List.flatten_cons:=@List.flatten_cons
theorem yi:type_of% @List.flatten_nil:=@List.flatten_nil
theorem tu:type_of% @List.foldl_cons:=@List.foldl_cons
theorem A7:type_of% @List.getD_cons_zero:=@List.getD_cons_zero
theorem j7:type_of% @List.getD_eq_getElem?_getD:=@List.getD_eq_getElem?_getD
theorem dA:type_of% @List.getElem?_append_left:=@List.getElem?_append_left
theorem dL:type_of% @List.getElem?_append_right:=@List.getElem?_append_right
theorem lQ:type_of% @List.getElem?_cons_succ:=@List.getElem?_cons_succ
theorem c9:type_of% @List.getElem?_cons_zero:=@List.getElem?_cons_zero
theorem pr:type_of% @List.getElem?_drop:=@List.getElem?_drop
theorem dG:type_of% @List.getElem?_eq_getElem:=@List.getElem?_eq_getElem
theorem uW:type_of% @List.getElem?_eq_none:=@List.getElem?_eq_none
theorem cG:type_of% @List.getElem?_eq_some_iff:=@List.getElem?_eq_some_iff
theorem ji:type_of% @List.getElem?_map:=@List.getElem?_map
theorem Ek:type_of% @List.getElem?_replicate:=@List.getElem?_replicate
theorem nr:type_of% @List.getElem?_set:=@List.getElem?_set
theorem nk:type_of% @List.getElem?_set_ne:=@List.getElem?_set_ne
theorem xR:type_of% @List.getElem?_set_self:=@List.getElem?_set_self
theorem u9:type_of% @List.getElem?_toArray:=@List.getElem?_toArray
theorem Eg:type_of% @List.getElem_cons_succ:=@List.getElem_cons_succ
theorem yb:type_of% @List.getElem_map:=@List.getElem_map
theorem cb:type_of% @List.getElem_mem:=@List.getElem_mem
theorem oA:type_of% @List.getElem_of_mem:=@List.getElem_of_mem
theorem uI:type_of% @List.getElem_set:=@List.getElem_set
theorem wy:type_of% @List.getElem_take:=@List.getElem_take
theorem aG:type_of% @List.length_append:=@List.length_append
theorem cL:type_of% @List.length_cons:=@List.length_cons
theorem iM:type_of% @List.length_drop:=@List.length_drop
theorem tr:type_of% @List.length_filter_le:=@List.length_filter_le
theorem bE:type_of% @List.length_map:=@List.length_map
theorem fN:type_of% @List.length_nil:=@List.length_nil
theorem Bk:type_of% @List.length_range:=@List.length_range
theorem u6:type_of% @List.length_set:=@List.length_set
theorem bG:type_of% @List.length_singleton:=@List.length_singleton
theorem cu:type_of% @List.length_take:=@List.length_take
theorem fU:type_of% @List.map_append:=@List.map_append
theorem Bj:type_of% @List.map_congr_left:=@List.map_congr_left
theorem b7:type_of% @List.map_cons:=@List.map_cons
theorem la:type_of% @List.map_drop:=@List.map_drop
theorem rT:type_of% @List.map_map:=@List.map_map
theorem fY:type_of% @List.map_nil:=@List.map_nil
theorem tj:type_of% @List.map_take:=@List.map_take
theorem dN:type_of% @List.mem_append:=@List.mem_append
theorem tg:type_of% @List.mem_append_left:=@List.mem_append_left
theorem wu:type_of% @List.mem_append_right:=@List.mem_append_right
theorem cF:type_of% @List.mem_cons:=@List.mem_cons
theorem jI:type_of% @List.mem_cons_of_mem:=@List.mem_cons_of_mem
theorem nQ:type_of% @List.mem_cons_self:=@List.mem_cons_self
theorem yj:type_of% @List.mem_filter:=@List.mem_filter
theorem ye:type_of% @List.mem_flatMap:=@List.mem_flatMap
theorem kx:type_of% @List.mem_map:=@List.mem_map
theorem uX:type_of% @List.mem_of_find?_eq_some:=@List.mem_of_find?_eq_some
theorem rQ:type_of% @List.mem_of_getElem?:=@List.mem_of_getElem?
theorem oD:type_of% @List.mem_of_mem_drop:=@List.mem_of_mem_drop
theorem jm:type_of% @List.mem_of_mem_take:=@List.mem_of_mem_take
theorem Bf:type_of% @List.mem_or_eq_of_mem_set:=@List.mem_or_eq_of_mem_set
theorem tx:type_of% @List.mem_range:=@List.mem_range
theorem jE:type_of% @List.mem_singleton:=@List.mem_singleton
theorem wq:type_of% @List.mem_take_iff_getElem:=@List.mem_take_iff_getElem
theorem Bc:type_of% @List.mem_zipIdx_iff_getElem?:=@List.mem_zipIdx_iff_getElem?
theorem c5:type_of% @List.nil_append:=@List.nil_append
theorem uS:type_of% @List.nodup_cons:=@List.nodup_cons
theorem Bh:type_of% @List.nodup_nil:=@List.nodup_nil
theorem iA:type_of% @List.not_mem_nil:=@List.not_mem_nil
theorem oE:type_of% @List.pairwise_cons:=@List.pairwise_cons
theorem nt:type_of% @List.pairwise_iff_getElem:=@List.pairwise_iff_getElem
theorem rP:type_of% @List.pairwise_map:=@List.pairwise_map
theorem AU:type_of% @List.range_eq_range':=@List.range_eq_range'
theorem wi:type_of% @List.set_append_right:=@List.set_append_right
theorem kV:type_of% @List.set_cons_succ:=@List.set_cons_succ
theorem iO:type_of% @List.set_cons_zero:=@List.set_cons_zero
theorem wx:type_of% @List.singleton_append:=@List.singleton_append
theorem AZ:type_of% @List.size_toArray:=@List.size_toArray
theorem lN:type_of% @List.take_append_drop:=@List.take_append_drop
theorem wz:type_of% @List.take_append_getElem:=@List.take_append_getElem
theorem lP:type_of% @List.take_length:=@List.take_length
theorem dk:type_of% @List.take_of_length_le:=@List.take_of_length_le
theorem qA:type_of% @List.take_succ_cons:=@List.take_succ_cons
theorem A6:type_of% @List.take_succ_eq_append_getElem:=@List.take_succ_eq_append_getElem
theorem uM:type_of% @List.take_zero:=@List.take_zero
theorem yq:type_of% @List.zip_cons_cons:=@List.zip_cons_cons
theorem ey:type_of% @Nat.add_assoc:=@Nat.add_assoc
theorem kT:type_of% @Nat.add_comm:=@Nat.add_comm
theorem eQ:type_of% @Nat.add_mul:=@Nat.add_mul
theorem iy:type_of% @Nat.add_zero:=@Nat.add_zero
theorem j5:type_of% @Nat.le_add_right:=@Nat.le_add_right
theorem uJ:type_of% @Nat.le_succ:=@Nat.le_succ
theorem i6:type_of% @Nat.le_trans:=@Nat.le_trans
theorem yl:type_of% @Nat.lt_of_le_of_lt:=@Nat.lt_of_le_of_lt
theorem gI:type_of% @Nat.lt_of_lt_of_le:=@Nat.lt_of_lt_of_le
theorem iw:type_of% @Nat.lt_or_ge:=@Nat.lt_or_ge
theorem jJ:type_of% @Nat.lt_succ_self:=@Nat.lt_succ_self
theorem lX:type_of% @Nat.mod_lt:=@Nat.mod_lt
theorem gU:type_of% @Nat.mul_le_mul_right:=@Nat.mul_le_mul_right
theorem qu:type_of% @Nat.mul_one:=@Nat.mul_one
theorem tH:type_of% @Nat.not_lt_zero:=@Nat.not_lt_zero
theorem yh:type_of% @Nat.one_mul:=@Nat.one_mul
theorem iq:type_of% @Nat.sub_self:=@Nat.sub_self
theorem i7:type_of% @Nat.sub_zero:=@Nat.sub_zero
theorem cc:type_of% @Nat.zero_add:=@Nat.zero_add
theorem bc:type_of% @Nat.zero_le:=@Nat.zero_le
theorem rU:type_of% @Nat.zero_mul:=@Nat.zero_mul
theorem fu:type_of% @Ne.symm:=@Ne.symm
theorem A4:type_of% @Oper.apart_spec:=@Oper.apart_spec
theorem yk:type_of% @Oper.upon_enter:=@Oper.upon_enter
theorem wh:type_of% @Option.bind_eq_some_iff:=@Option.bind_eq_some_iff
theorem Bd:type_of% @Option.getD_none:=@Option.getD_none
theorem ku:type_of% @Option.getD_some:=@Option.getD_some
theorem yc:type_of% @Option.isSome_none:=@Option.isSome_none
theorem Be:type_of% @Option.isSome_some:=@Option.isSome_some
theorem mB:type_of% @Option.map_eq_some_iff:=@Option.map_eq_some_iff
theorem im:type_of% @Option.map_some:=@Option.map_some
theorem bn:type_of% @Option.some.injEq:=@Option.some.injEq
theorem pA:type_of% @Prod.mk.injEq:=@Prod.mk.injEq
theorem jH:type_of% @Result.andThen_ok:=@Result.andThen_ok
theorem lK:type_of% @Sem.run_bind:=@Sem.run_bind
theorem qv:type_of% @Sem.run_pure:=@Sem.run_pure
theorem l9:type_of% @Value.int.injEq:=@Value.int.injEq
theorem jj:type_of% @and_true:=@and_true
theorem kU:type_of% @beq_eq_false_iff_ne:=@beq_eq_false_iff_ne
theorem iz:type_of% @beq_iff_eq:=@beq_iff_eq
theorem wo:type_of% @beq_self_eq_true:=@beq_self_eq_true
theorem gg:type_of% @decide_eq_false_iff_not:=@decide_eq_false_iff_not
theorem dX:type_of% @decide_eq_true_eq:=@decide_eq_true_eq
theorem b5:type_of% @eq_true:=@eq_true
theorem cE:type_of% @if_false:=@if_false
theorem aa:type_of% @if_neg:=@if_neg
theorem aj:type_of% @if_pos:=@if_pos
theorem cS:type_of% @if_true:=@if_true
theorem kt:type_of% @ne_eq:=@ne_eq
theorem kY:type_of% @not_or:=@not_or
theorem iR:type_of% @or_false:=@or_false
theorem A5:type_of% @run_underlying:=@run_underlying
theorem jo:type_of% @true_and:=@true_and
theorem I {p q:Prop} (a:p) (b:q):p/\q:=⟨a,b⟩
def flat:Value->Bool
 | .agg _=>false
 | .tuple _=>false
 |_=>true
inductive D where
 |v (x:Value)
 |sl (n:Nat) (ds:List D)
 |raw (x:Value) -- a value,whatever memory it leads to
mutual
def Rd (w:World) (A:Nat->Prop):D->Value->Prop
 | .v x,u=>u=x/\flat x=true
 | .sl n ds,u=>∃a cap,u= .slice a n cap/\n≤cap/\lv w A ds a
 | .raw x,u=>u=x/\flat x=true
def lv (w:World) (A:Nat->Prop):List D->Option Addr->Prop
 |[],_=>True
 |d::ds,a=>∃b o u,a=some ⟨b,o,none⟩/\¬A b/\w.cell? ⟨b,o,none⟩=some u/\Rd w A d u/\lv w A ds (some ⟨b,o+1,none⟩)
end
def cA (w:World) (A T:Nat->Prop):List D->Option Addr->Prop
 |[],_=>True
 |d::ds,a=>∃b o u,a=some ⟨b,o,none⟩/\T b/\w.cell? ⟨b,o,none⟩=some u/\Rd w A d u/\cA w A T ds (some ⟨b,o+1,none⟩)
theorem pb {w:World} {A:Nat->Prop}:∀{ds:List D} {a:Option Addr},lv w A ds a↔cA w A (λ b=>¬A b) ds a
 |[],_=>Iff.rfl
 |d::ds,a=>by
  simp only[lv,cA];constructor
  .rintro⟨b,o,u,h1,h2,h3,h4,h5⟩;exact⟨b,o,u,h1,h2,h3,h4,pb.1 h5⟩
  .rintro⟨b,o,u,h1,h2,h3,h4,h5⟩;exact⟨b,o,u,h1,h2,h3,h4,pb.2 h5⟩
structure mi (w:World) (A:Nat->Prop) (w':World) (A':Nat->Prop):Prop where
 hp:∀b,b<w.heap.size->¬A b->w'.heap[b]? =w.heap[b]?
 av:∀b,b<w.heap.size->A' b->A b
theorem mi.rfl {w:World} {A:Nat->Prop}:mi w A w A:=⟨λ _ _ _=>Eq.refl _,λ _ _ h=>h⟩
theorem Cq {w:World} {b o:Nat} {u:Value} (h:w.cell? ⟨b,o,none⟩=some u):b<w.heap.size:=by
 unfold World.cell? at h;rcases iw b w.heap.size with h'|h'
 .exact h'
 .simp[Array.getElem?_eq_none h']at h
theorem Gl {w w':World} {b o:Nat} (h:w'.heap[b]? =w.heap[b]?):w'.cell? ⟨b,o,none⟩=w.cell? ⟨b,o,none⟩:=by simp[World.cell?,h]
mutual
theorem Rd.dy {w w':World} {A A':Nat->Prop} (s:mi w A w' A'):∀{d:D} {u:Value},Rd w A d u->Rd w' A' d u
 | .v _,_,h=>by simpa[Rd]using h
 | .raw _,_,h=>by simpa[Rd]using h
 | .sl n ds,u,h=>by simp only[Rd]at h⊢;obtain⟨a,cap,h1,h2,h3⟩:=h;exact⟨a,cap,h1,h2,lv.dy s h3⟩
theorem lv.dy {w w':World} {A A':Nat->Prop} (s:mi w A w' A'):∀{ds:List D} {a:Option Addr},lv w A ds a->lv w' A' ds a
 |[],_,_=>by simp[lv]
 |d::ds,a,h=>by simp only[lv]at h⊢;obtain⟨b,o,u,h1,h2,h3,h4,h5⟩:=h;have hb:=Cq h3;exact⟨b,o,u,h1,λ h'=>h2 (s.av b hb h'),by rw[Gl (s.hp b hb h2)];exact h3,Rd.dy s h4,lv.dy s h5⟩
end
theorem Rd.flat {w:World} {A:Nat->Prop} {d:D} {u:Value} (h:Rd w A d u):flat u=true:=by
 cases d with
 |v x=>simp only[Rd]at h;obtain⟨rfl,h⟩:=h;exact h
 |sl n ds=>simp only[Rd]at h;obtain⟨a,c,rfl,_⟩:=h;rfl
 |raw x=>simp only[Rd]at h;obtain⟨rfl,h⟩:=h;exact h
theorem cA.dy {w w':World} {A A' T T':Nat->Prop} (s:mi w A w' A') (hT:∀b,b<w.heap.size->T b->T' b/\w'.heap[b]? =w.heap[b]?):
  ∀{ds:List D} {a:Option Addr},cA w A T ds a->cA w' A' T' ds a
 |[],_,_=>trivial
 |d::ds,a,h=>by simp only[cA]at h⊢;obtain⟨b,o,u,h1,h2,h3,h4,h5⟩:=h;have hb:=Cq h3;exact⟨b,o,u,h1,(hT b hb h2).1,by rw[Gl (hT b hb h2).2];exact h3,h4.dy s,h5.dy s hT⟩
theorem cA.imp {w:World} {A T T':Nat->Prop} (hT:∀b,T b->T' b):∀{ds:List D} {a:Option Addr},cA w A T ds a->cA w A T' ds a
 |[],_,_=>trivial
 |d::ds,a,h=>by simp only[cA]at h⊢;obtain⟨b,o,u,h1,h2,h3,h4,h5⟩:=h;exact⟨b,o,u,h1,hT _ h2,h3,h4,h5.imp hT⟩
theorem cA.drop {w:World} {A T:Nat->Prop}:∀{k:Nat} {ds:List D} {b o:Nat},cA w A T ds (some ⟨b,o,none⟩)->cA w A T (ds.drop k) (some ⟨b,o+k,none⟩)
 |0,ds,b,o,h=>by simpa using h
 |k+1,[],b,o,h=>by simp[cA]
 |k+1,d::ds,b,o,h=>by simp only[cA]at h;obtain⟨b',o',u,h1,_,_,_,h5⟩:=h;cases h1;have:=cA.drop (k:=k) h5;simpa[ey,kT 1 k]using this
theorem cA.take {w:World} {A T:Nat->Prop}:∀{k:Nat} {ds:List D} {a:Option Addr},cA w A T ds a->cA w A T (ds.take k) a
 |0,ds,a,h=>by simp[cA]
 |k+1,[],a,h=>by simp[cA]
 |k+1,d::ds,a,h=>by simp only[cA,qA]at h⊢;obtain⟨b',o',u,h1,h2,h3,h4,h5⟩:=h;exact⟨b',o',u,h1,h2,h3,h4,h5.take⟩
theorem cA.addr {w:World} {A T:Nat->Prop} {ds:List D} {a:Option Addr} (h:cA w A T ds a) (hne:ds≠[]):∃b o,a=some ⟨b,o,none⟩:=by
 cases ds with
 |nil=>exact absurd rfl hne
 |cons d ds=>obtain⟨b,o,u,h1,_⟩:=h;exact⟨b,o,h1⟩
theorem cA.get {w:World} {A T:Nat->Prop}:∀{ds:List D} {b o k:Nat} {d:D},cA w A T ds (some ⟨b,o,none⟩)->ds[k]? =some d->
  T b/\∃u,w.cell? ⟨b,o+k,none⟩=some u/\Rd w A d u
 |[],_,_,k,_,_,hk=>by simp at hk
 |d'::ds,b,o,0,d,h,hk=>by obtain⟨b',o',u,h1,h2,h3,h4,_⟩:=h;cases h1;simp only[c9,bn]at hk;exact⟨h2,u,h3,hk▸h4⟩
 |d'::ds,b,o,k+1,d,h,hk=>by obtain⟨b',o',u,h1,h2,h3,h4,h5⟩:=h;cases h1;have:=cA.get (k:=k) h5 (by simpa using hk);simpa[ey,kT 1 k]using this
theorem cA.mk {w:World} {A T:Nat->Prop} {b:Nat} (hT:T b):∀{ds:List D} {o:Nat},
  (∀k d,ds[k]? =some d->∃u,w.cell? ⟨b,o+k,none⟩=some u/\Rd w A d u)->cA w A T ds (some ⟨b,o,none⟩)
 |[],_,_=>trivial
 |d::ds,o,h=>by
  obtain⟨u,h1,h2⟩:=h 0 d (by simp)
  exact⟨b,o,u,rfl,hT,by simpa using h1,h2,cA.mk hT λ k d' hk=>by have:=h (k+1) d' (by simpa using hk);simpa[ey,kT 1 k]using this⟩
structure Hd where
 s:Nat
 j:Nat
 e:Nat
inductive C where
 |d (x:D) -- data
 |aC (n:Nat) (ds:List D) -- a slice that is looked at alone
 |own (h:Hd) (lo n:Nat) -- a slice of a row that is this frame's own
 |ptr (h:Hd) (off:Nat) -- a pointer into memory that is this frame's own
 |fJ (ds:List D) -- a pointer at cells that are looked at alone
 |fx (f:FuncId) (caps:List C) -- a function literal and what it captured
 |ab -- a bool of which nothing is known
 |dead
 |ib (cs:List C) -- a pointer at cells that are looked at alone,slices that are looked at alone among them
 |eX (h:Hd) (lo n k:Nat) -- a slice of a row of one's own with room for k elements,not all of them known
 |lk (h:Hd) (n:Nat) (x:Value) -- no value:x is the slice of n elements at the handle
inductive AV where
 |one (x:C)
 |agg (l:List C)
 |ig (l:List AV)
 |gd (c:Bool) (x:AV) -- a value that is there if c
structure bV where
 e:Nat
 var:Bool
 fz:Bool
 dR:Bool:=false -- it came with an object that was handed in
 sz:Nat
 cells:List C
structure RS where
 next:Nat
 l:List (Option bV)
abbrev Rs:=List (Nat×RS)
def ao (s:Nat):Rs->Option RS
 |[]=>none
 |(t,x)::l=>if t=s then some x else ao s l
def aN (s:Nat) (y:RS):Rs->Rs
 |[]=>[(s,y)]
 |(t,x)::l=>if t=s then(t,y)::l else(t,x)::aN s y l
theorem dz (s t:Nat) (y:RS):∀(r:Rs),ao t (aN s y r)=if s=t then some y else ao t r
 |[]=>by simp[aN,ao]
 |(u,x)::l=>by
  simp only[aN];by_cases h:u=s
  .rw[aj h];simp only[ao];by_cases h2:u=t
   .rw[aj h2,aj (by omega)]
   .rw[aa h2,aa (by omega),aa h2]
  .rw[aa h];simp only[ao];by_cases h2:u=t
   .rw[aj h2,aa (by omega),aj h2]
   .rw[aa h2,aa h2,dz s t y l]
structure G where
 v:List AV
 r:Rs
def aF (r:Rs) (s j:Nat):Option bV:=
 match ao s r with
 |some rs=>match rs.l[j]? with
  |some (some res)=>some res
  |_=>none
 |none=>none
def aQ (r:Rs) (h:Hd):Option bV:=
 match aF r h.s h.j with
 |some res=>if res.e=h.e then some res else none
 |none=>none
def ar (r:Rs) (s:Nat):Nat:=match ao s r with|some rs=>rs.next|none=>0
theorem cp {r:Rs} {h:Hd} {res:bV} (hg:aQ r h=some res):aF r h.s h.j=some res/\res.e=h.e:=by
 unfold aQ at hg;cases hl:aF r h.s h.j with
 |none=>simp[hl]at hg
 |some r'=>
  simp only[hl]at hg;split at hg
  .rename_i he;simp only[bn]at hg;subst hg;exact⟨rfl,he⟩
  .cases hg
theorem gu {r:Rs} {h:Hd} {res:bV} (hl:aF r h.s h.j=some res) (he:res.e=h.e):aQ r h=some res:=by simp[aQ,hl,he]
structure Pl where
 base:Option (Nat×Nat)
 cap:Nat
structure Cx where
 P:Program
 w0:World
 A0:Nat->Prop
 aS:Nat->Prop
 Obj:List (Nat×Nat):=[] -- the objects that were handed in:slot and block
 Row:List (Nat×Nat×Value):=[] -- the rows that were handed in:slot,number,value
 ds:List Deferred:=[] -- what is deferred
def Cx.n0 (cx:Cx):Nat:=cx.w0.heap.size
def OB (r:Rs) (β:Nat->Nat->Pl) (b:Nat):Prop:=
 ∃s j res o,aF r s j=some res/\res.fz=false/\(β s j).base=some (b,o)
def Av (cx:Cx) (r:Rs) (β:Nat->Nat->Pl) (b:Nat):Prop:=cx.A0 b∨OB r β b
def sb (cx:Cx) (A:Nat->Prop) (b:Nat):Prop:=¬A b∨(b<cx.n0/\¬cx.aS b)
def pG (pl:Pl) (res:bV) (lo n:Nat) (u:Value):Prop:=
 res.var=false/\lo*res.sz+n*res.sz≤res.cells.length/\lo+n≤pl.cap/\
 ∃a,u= .slice a n (pl.cap - lo)/\(pl.cap - lo=0∨∃b o,pl.base=some (b,o)/\a=some ⟨b,o+lo*res.sz,none⟩)
mutual
def ay (cx:Cx) (w:World) (r:Rs) (β:Nat->Nat->Pl):C->Value->Prop
 | .d x,u=>Rd w (Av cx r β) x u
 | .aC n ds,u=>∃a cap,u= .slice a n cap/\n≤cap/\cA w (Av cx r β) (sb cx (Av cx r β)) ds a
 | .own h lo n,u=>flat u=true/\h.e<ar r h.s/\∀res,aQ r h=some res->pG (β h.s h.j) res lo n u
 | .ptr h off,u=>flat u=true/\h.e<ar r h.s/\∀res,aQ r h=some res->∃b o,(β h.s h.j).base=some (b,o)/\u= .pointer (some ⟨b,o+off,none⟩)
 | .fJ ds,u=>∃b o,u= .pointer (some ⟨b,o,none⟩)/\cA w (Av cx r β) (sb cx (Av cx r β)) ds (some ⟨b,o,none⟩)
 | .fx f caps,u=>∃us,u= .func (.func f) #[] us/\aH cx w r β caps us.toList
 | .ab,u=>∃b,u= .bool b
 | .dead,_=>True
 | .ib cs,u=>∃b o us,u= .pointer (some ⟨b,o,none⟩)/\b<w.heap.size/\sb cx (Av cx r β) b/\(∀k v,us[k]? =some v->w.cell? ⟨b,o+k,none⟩=some v/\flat v=true)/\aH cx w r β cs us
 | .eX h lo n k,u=>flat u=true/\h.e<ar r h.s/\lo+n≤k/\∃a,u= .slice a n (k - lo)/\∀res,aQ r h=some res->res.var=false/\(β h.s h.j).cap=k/\
   (k - lo=0∨∃b o,(β h.s h.j).base=some (b,o)/\a=some ⟨b,o+lo*res.sz,none⟩)
 | .lk h n x,_=>flat x=true/\h.e<ar r h.s/\∀res,aQ r h=some res->pG (β h.s h.j) res 0 n x
def aH (cx:Cx) (w:World) (r:Rs) (β:Nat->Nat->Pl):List C->List Value->Prop
 |[],us=>us=[]
 |c::cs,us=>∃u us',us=u::us'/\ay cx w r β c u/\aH cx w r β cs us'
end
mutual
def aE (cx:Cx) (w:World) (r:Rs) (β:Nat->Nat->Pl):AV->Value->Prop
 | .one x,u=>ay cx w r β x u
 | .agg l,u=>∃us,u= .agg us/\aH cx w r β l us.toList
 | .ig l,u=>∃us,u= .tuple us/\bU cx w r β l us.toList
 | .gd c x,u=>(c=true->aE cx w r β x u)/\(c=false->u=undef)
def bU (cx:Cx) (w:World) (r:Rs) (β:Nat->Nat->Pl):List AV->List Value->Prop
 |[],us=>us=[]
 |c::cs,us=>∃u us',us=u::us'/\aE cx w r β c u/\bU cx w r β cs us'
end
def dm (w:World) (A:Nat->Prop) (pl:Pl) (sz:Nat) (ds:List D):Prop:=
 match pl.base with
 |none=>ds=[]/\pl.cap=0
 |some (b,o)=>∃c e,w.heap[b]? =some (.cells c e (0,0))/\o+pl.cap*sz≤c.size/\ds.length≤pl.cap*sz/\
   ∀(k:Nat) (d:D),ds[k]? =some d->∃u,c[o+k]? =some u/\Rd w A d u
def cJ (cx:Cx) (w:World) (r:Rs) (β:Nat->Nat->Pl) (pl:Pl) (res:bV):Prop:=
 if res.var then res.fz=false/\∃b c e,pl.base=some (b,0)/\w.heap[b]? =some (.cells c e (0,0))/\aH cx w r β res.cells c.toList/\(∀u∈c.toList,flat u=true)
 else∃ds:List D,res.cells=ds.map C.d/\dm w (Av cx r β) pl res.sz ds/\
  (res.fz=true->∀b o,pl.base=some (b,o)->¬Av cx r β b)
structure aL (cx:Cx) (g:G) (a:Act) (w:World) (β:Nat->Nat->Pl):Prop where
 sz:a.tmps.size=g.v.length
 df:a.defers=cx.ds
 sl:∀(i:Nat) (x:AV),g.v[i]? =some x->∃u,a.tmps[i]? =some u/\aE cx w g.r β x u
 rs:∀s j res,aF g.r s j=some res->cJ cx w g.r β (β s j) res/\res.e<ar g.r s
 inj:∀s j res s' j' res' b o o',aF g.r s j=some res->res.fz=false->aF g.r s' j'=some res'->res'.fz=false->
  (β s j).base=some (b,o)->(β s' j').base=some (b,o')->s=s'/\j=j'
 fr:∀s j res b o,aF g.r s j=some res->res.fz=false->(β s j).base=some (b,o)->(cx.n0≤b∨cx.aS b)/\(res.dR=false->cx.n0≤b)
 n0:cx.n0≤w.heap.size
 bZ:∀b,b<cx.n0->¬cx.aS b->w.heap[b]? =cx.w0.heap[b]?
 a0:∀b,cx.A0 b->b<cx.n0
 dR:∀b,cx.aS b->cx.A0 b
 ob:∀p b,(p,b)∈cx.Obj->0<ar g.r p/\∀res,aQ g.r ⟨p,0,0⟩=some res->(β p 0).base=some (b,0)
 rw:∀p n u,(p,n,u)∈cx.Row->ay cx w g.r β (.own ⟨p,1,0⟩ 0 n) u
 os:w.os=cx.w0.os
 out:w.output=cx.w0.output
def dJ (cx:Cx) (g:G) (a:Act) (w:World):Prop:=∃β,aL cx g a w β
structure Ext (cx:Cx) (w:World) (r:Rs) (β:Nat->Nat->Pl) (w':World) (r':Rs) (β':Nat->Nat->Pl):Prop where
 nx:∀s,ar r s≤ar r' s
 bZ:∀(h:Hd) (res':bV),h.e<ar r h.s->aQ r' h=some res'->
  ∃res,aQ r h=some res/\β' h.s h.j=β h.s h.j/\res'.var=res.var/\res'.sz=res.sz/\res.cells.length≤res'.cells.length
 st:mi w (Av cx r β) w' (Av cx r' β')
 tp:∀b,b<cx.n0->¬cx.aS b->w'.heap[b]? =w.heap[b]?
 os:w'.os=w.os
 out:w'.output=w.output
theorem Ext.top {cx:Cx} {w w':World} {r r':Rs} {β β':Nat->Nat->Pl} (x:Ext cx w r β w' r' β'):
  ∀b,b<w.heap.size->sb cx (Av cx r β) b->sb cx (Av cx r' β') b/\w'.heap[b]? =w.heap[b]? :=by
 intro b hb h;rcases h with h|⟨h1,h2⟩
 .exact⟨.inl λ h'=>h (x.st.av b hb h'),x.st.hp b hb h⟩
 .exact⟨.inr ⟨h1,h2⟩,x.tp b h1 h2⟩
theorem pG.same {pl:Pl} {res res':bV} {lo n:Nat} {u:Value} (h:pG pl res lo n u) (h1:res'.var=res.var) (h2:res'.sz=res.sz)
  (h3:res.cells.length≤res'.cells.length):pG pl res' lo n u:=by
 unfold pG at*;rw[h1,h2];exact⟨h.1,i6 h.2.1 h3,h.2.2⟩
mutual
theorem ay.ext {cx:Cx} {w w':World} {r r':Rs} {β β':Nat->Nat->Pl} (x:Ext cx w r β w' r' β'):∀{c:C} {u:Value},ay cx w r β c u->ay cx w' r' β' c u
 | .d _,_,h=>by simp only[ay]at h⊢;exact h.dy x.st
 | .aC n ds,_,h=>by simp only[ay]at h⊢;obtain⟨a,cap,h1,h2,h3⟩:=h;exact⟨a,cap,h1,h2,h3.dy x.st x.top⟩
 | .own hd lo n,u,h=>by simp only[ay]at h⊢;obtain⟨h1,h2,h3⟩:=h;refine⟨h1,gI h2 (x.nx _),λ res' hr=> ?_⟩;obtain⟨res,g1,g2,g3,g4,g5⟩:=x.bZ hd res' h2 hr;rw[g2];exact(h3 res g1).same g3 g4 g5
 | .ptr hd off,u,h=>by simp only[ay]at h⊢;obtain⟨h1,h2,h3⟩:=h;refine⟨h1,gI h2 (x.nx _),λ res' hr=> ?_⟩;obtain⟨res,g1,g2,_⟩:=x.bZ hd res' h2 hr;rw[g2];exact h3 res g1
 | .fJ ds,_,h=>by simp only[ay]at h⊢;obtain⟨b,o,h1,h2⟩:=h;exact⟨b,o,h1,h2.dy x.st x.top⟩
 | .fx f caps,_,h=>by simp only[ay]at h⊢;obtain⟨us,h1,h2⟩:=h;exact⟨us,h1,aH.ext x h2⟩
 | .ab,_,h=>by simpa only[ay]using h
 | .dead,_,_=>by simp[ay]
 | .ib cs,u,h=>by
  simp only[ay]at h⊢;obtain⟨b,o,us,h1,h2,h3,h4,h5⟩:=h;obtain⟨t1,t2⟩:=x.top b h2 h3;refine⟨b,o,us,h1, ?_,t1,λ k v hk=>by rw[Gl t2];exact h4 k v hk,aH.ext x h5⟩;rcases iw b w'.heap.size with hb|hb
  .exact hb
  .rw[Array.getElem?_eq_none hb,D3 h2]at t2;cases t2
 | .eX hd lo n k,u,h=>by simp only[ay]at h⊢;obtain⟨h1,h2,h3,a,h4,h5⟩:=h;refine⟨h1,gI h2 (x.nx _),h3,a,h4,λ res' hr=> ?_⟩;obtain⟨res,g1,g2,g3,g4,g5⟩:=x.bZ hd res' h2 hr;rw[g2,g3,g4];exact h5 res g1
 | .lk hd n x',u,h=>by simp only[ay]at h⊢;obtain⟨h1,h2,h3⟩:=h;refine⟨h1,gI h2 (x.nx _),λ res' hr=> ?_⟩;obtain⟨res,g1,g2,g3,g4,g5⟩:=x.bZ hd res' h2 hr;rw[g2];exact(h3 res g1).same g3 g4 g5
theorem aH.ext {cx:Cx} {w w':World} {r r':Rs} {β β':Nat->Nat->Pl} (x:Ext cx w r β w' r' β'):∀{c:List C} {u:List Value},aH cx w r β c u->aH cx w' r' β' c u
 |[],_,h=>by simpa[aH]using h
 |c::cs,_,h=>by simp only[aH]at h⊢;obtain⟨u,us,h1,h2,h3⟩:=h;exact⟨u,us,h1,ay.ext x h2,aH.ext x h3⟩
end
mutual
theorem aE.ext {cx:Cx} {w w':World} {r r':Rs} {β β':Nat->Nat->Pl} (x:Ext cx w r β w' r' β'):∀{c:AV} {u:Value},aE cx w r β c u->aE cx w' r' β' c u
 | .one _,_,h=>by simp only[aE]at h⊢;exact h.ext x
 | .agg l,_,h=>by simp only[aE]at h⊢;obtain⟨us,h1,h2⟩:=h;exact⟨us,h1,h2.ext x⟩
 | .ig l,_,h=>by simp only[aE]at h⊢;obtain⟨us,h1,h2⟩:=h;exact⟨us,h1,bU.ext x h2⟩
 | .gd c y,_,h=>by simp only[aE]at h⊢;exact⟨λ hc=>aE.ext x (h.1 hc),h.2⟩
theorem bU.ext {cx:Cx} {w w':World} {r r':Rs} {β β':Nat->Nat->Pl} (x:Ext cx w r β w' r' β'):∀{c:List AV} {u:List Value},bU cx w r β c u->bU cx w' r' β' c u
 |[],_,h=>by simpa[bU]using h
 |c::cs,_,h=>by simp only[bU]at h⊢;obtain⟨u,us,h1,h2,h3⟩:=h;exact⟨u,us,h1,aE.ext x h2,bU.ext x h3⟩
end
theorem dm.dy {w w':World} {A A':Nat->Prop} (s:mi w A w' A') {pl:Pl} {sz:Nat} {ds:List D}
  (hb:∀b o,pl.base=some (b,o)->w'.heap[b]? =w.heap[b]?) (h:dm w A pl sz ds):dm w' A' pl sz ds:=by
 unfold dm at*;split at h
 .exact h
 .rename_i b o hbase;obtain⟨c,e,h1,h2,h3,h4⟩:=h;refine⟨c,e,by rw[hb b o hbase];exact h1,h2,h3,λ k d hk=> ?_⟩;obtain⟨u,g1,g2⟩:=h4 k d hk;exact⟨u,g1,g2.dy s⟩
theorem cJ.ext {cx:Cx} {w w':World} {r r':Rs} {β β':Nat->Nat->Pl} (x:Ext cx w r β w' r' β') {pl:Pl} {res:bV}
  (hb:∀b o,pl.base=some (b,o)->w'.heap[b]? =w.heap[b]?)
  (hs:∀b o,pl.base=some (b,o)->b<w.heap.size) (h:cJ cx w r β pl res):cJ cx w' r' β' pl res:=by
 unfold cJ at*;split
 .rename_i hv;rw[aj hv]at h;obtain⟨h0,b,c,e,h1,h2,h3,h4⟩:=h;exact⟨h0,b,c,e,h1,by rw[hb b 0 h1];exact h2,h3.ext x,h4⟩
 .rename_i hv;rw[aa hv]at h;obtain⟨ds,h1,h2,h3⟩:=h;exact⟨ds,h1,h2.dy x.st hb,λ hf b o hbase hA=>h3 hf b o hbase (x.st.av b (hs b o hbase) hA)⟩
theorem cJ.lt {cx:Cx} {w:World} {r:Rs} {β:Nat->Nat->Pl} {pl:Pl} {res:bV} (h:cJ cx w r β pl res) {b o:Nat} (hb:pl.base=some (b,o)):b<w.heap.size:=by
 have key:∀{c e},w.heap[b]? =some (Obj.cells c e (0,0))->b<w.heap.size:=λ h1=>by
  rcases iw b w.heap.size with h'|h'
  .exact h'
  .simp[Array.getElem?_eq_none h']at h1
 unfold cJ at h;split at h
 .obtain⟨_,b',c,e,h1,h2,_⟩:=h;rw[hb]at h1;cases h1;exact key h2
 .obtain⟨ds,_,h2,_⟩:=h;simp only[dm,hb]at h2;obtain⟨c,e,h3,_⟩:=h2;exact key h3
def G.put (g:G) (dst:Option Nat) (x:AV):G:=
 match dst with
 |some d=>{g with v:=g.v.set d x}
 |none=>g
theorem aL.put {cx:Cx} {g:G} {a:Act} {w:World} {β:Nat->Nat->Pl} (h:aL cx g a w β) (dst:Option Nat) {x:AV} {u:Value} (hx:aE cx w g.r β x u):
  aL cx (g.put dst x) (a.put dst u) w β:=by
 cases dst with
 |none=>exact h
 |some d=>
  refine {h with sz:=by simpa[G.put,Act.put]using h.sz,df:=h.df,sl:=λ i y hi=> ?_};simp only[G.put,Act.put,nr,Array.getElem?_setIfInBounds]at hi⊢;by_cases hd:d=i
  .subst hd;rw[aj rfl]at hi⊢;split at hi
   .rename_i hlt;rw[aj (by rw[h.sz];exact hlt)];cases hi;exact⟨u,rfl,hx⟩
   .cases hi
  .rw[aa hd]at hi⊢;exact h.sl i y hi
theorem aL.acF {cx:Cx} {g:G} {a:Act} {w w':World} {r':Rs} {β β':Nat->Nat->Pl} (h:aL cx g a w β) (x:Ext cx w g.r β w' r' β'):
  ∀(i:Nat) (y:AV),g.v[i]? =some y->∃u,a.tmps[i]? =some u/\aE cx w' r' β' y u:=λ i y hi=>
 let ⟨u,h1,h2⟩:=h.sl i y hi
 ⟨u,h1,h2.ext x⟩
inductive TD where
 |bool|int (k:IntKind)|string|slice (e:Nat)|struct (fs:List (Nat×Nat))|array (n e:Nat)|pointer (e:Nat)|other
structure TI where
 size:Nat
 bytes:Nat
 zero:List Value
 desc:TD
 eq:Bool:=false
def fh:TypeDesc->TD
 | .bool=> .bool
 | .int k=> .int k
 | .string=> .string
 | .slice e=> .slice e
 | .struct fs=> .struct (fs.toList.map λ f=>(f.offset,f.type))
 | .array n e=> .array n e
 | .pointer e=> .pointer e
 |_=> .other
def wE (P:Program) (eqs:List Nat) (t:Nat):Option TI:=
 match P.info? t,P.underlying t with
 |some i,some d=>match i.zero with
  |some z=>if z.cells.toList.all flat&&z.cells.toList.length==i.size then some {size:=i.size,bytes:=i.bytes,zero:=z.cells.toList,desc:=fh d,eq:=eqs.contains t}else none
  |none=>none
 |_,_=>none
def yw:TD->Bool
 | .struct _=>true
 | .array _ _=>true
 |_=>false
def b6 (v:List AV):Operand->AV
 | .tmp t=>v.getD t (.one .dead)
 | .const x=> .one (if flat x=true then .d (.v x)else .dead)
 | .func f=> .one (.d (.v (.func (.func f) #[] #[])))
 | .global _=> .one .dead
def ev (v:List AV) (x:Operand):AV:=
 match b6 v x with
 | .gd _ y=>y
 | .one y=> .one y
 | .agg y=> .agg y
 | .ig y=> .ig y
def bX (c:Bool) (v:List AV) (x:Operand):Prop:=
 match b6 v x with
 | .gd c' _=>c=true->c'=true
 |_=>True
def eP (v:List AV):List Operand->List AV
 |[]=>[]
 |x::xs=>ev v x::eP v xs
def en (c:Bool) (v:List AV):List Operand->Prop
 |[]=>True
 |x::xs=>bX c v x/\en c v xs
structure Out where
 sc:Prop
 x:AV
 r:Rs
def aZ:Out:=⟨False, .one .dead,[]⟩
def live:C->Bool
 | .dead=>false
 | .lk _ _ _=>false
 |_=>true
def pj:List C->Bool
 |[]=>true
 |c::cs=>live c&&pj cs
def cellsOf:AV->List C
 | .one x=>if live x=true then [x]else []
 | .agg l=>l
 |_=>[]
def rr:List AV->Option (List C)
 |[]=>some []
 |y::ys=>match y,rr ys with
  | .one x,some xs=>some (x::xs)
  |_,_=>none
theorem JR:rr []=some []:=rfl
theorem ID {x:C} {ys:List AV}:rr (.one x::ys)=(match rr ys with|some xs=>some (x::xs)|none=>none):=by cases h:rr ys<;>simp[rr,h]
def C.yM:C->Option D
 | .d x=>some x
 |_=>none
def wm:D->D
 | .v (.slice none 0 0)=> .sl 0 []
 |x=>x
def dC:List C->Option (List D)
 |[]=>some []
 |c::cs=>match c.yM,dC cs with
  |some d,some ds=>some (d::ds)
  |_,_=>none
def sub (lo n sz:Nat) (l:List C):List C:=(l.drop (lo*sz)).take (n*sz)
def rowOf (r:Rs):C->Option (Nat×List D)
 | .d (.sl n ds)=>some (n,ds)
 | .d (.v (.slice none 0 0))=>some (0,[])
 | .aC n ds=>some (n,ds)
 | .own h lo n=>match aQ r h with
  |some res=>match dC (sub lo n res.sz res.cells)with
   |some ds=>some (n,ds)
   |none=>none
  |none=>none
 | .eX h lo n _=>match aQ r h with
  |some res=>match dC (sub lo n res.sz res.cells)with
   |some ds=>some (n,ds)
   |none=>none
  |none=>none
 |_=>none
def nn (r:Rs):C->Option (D×Rs)
 | .d x=>some (wm x,r)
 | .own h lo n=>match aQ r h,ao h.s r with
  |some res,some rs=>if res.dR then none else
   match dC (sub lo n res.sz res.cells)with
   |some ds=>some (.sl n ds,aN h.s {rs with l:=rs.l.set h.j (some {res with fz:=true})} r)
   |none=>none
  |_,_=>none
 |_=>none
def kQ:Rs->List C->Option (List D×Rs)
 |r,[]=>some ([],r)
 |r,c::cs=>match nn r c with
  |some (d,r')=>match kQ r' cs with
   |some (ds,r'')=>some (d::ds,r'')
   |none=>none
  |none=>none
def BF (op:BinOp):Value->Value->Option Value
 | .int k a, .int k' b=>
  if k=k' then
   match op with
   | .add=>some (.int k (k.wrap (a+b)))
   | .sub=>some (.int k (k.wrap (a - b)))
   | .mul=>some (.int k (k.wrap (a*b)))
   | .quo=>if b=0 then none else some (.int k (k.wrap (a.tdiv b)))
   | .rem=>if b=0 then none else some (.int k (a.tmod b))
   | .and=>some (.int k (k.wrap (BitVec.ofInt k.bits a&&&BitVec.ofInt k.bits b).toNat))
   | .or=>some (.int k (k.wrap (BitVec.ofInt k.bits a|||BitVec.ofInt k.bits b).toNat))
   | .xor=>some (.int k (k.wrap (BitVec.ofInt k.bits a^^^BitVec.ofInt k.bits b).toNat))
   | .shr=>if b<0 then none else some (.int k (a.fdiv (2^(min b.toNat k.bits))))
   | .shl=>if b<0 then none else some (.int k (k.wrap (a*2^(min b.toNat k.bits))))
   | .eql=>some (.bool (a==b))
   | .neq=>some (.bool (a !=b))
   | .lss=>some (.bool (decide (a<b)))
   | .leq=>some (.bool (decide (a≤b)))
   | .gtr=>some (.bool (decide (a>b)))
   | .geq=>some (.bool (decide (a≥b)))
   |_=>none
  else match op with
   | .shr=>if b<0 then none else some (.int k (a.fdiv (2^(min b.toNat k.bits))))
   | .shl=>if b<0 then none else some (.int k (k.wrap (a*2^(min b.toNat k.bits))))
   |_=>none
 | .string a, .string b=>
  match op with
  | .eql=>some (.bool (a.toList==b.toList))
  | .neq=>some (.bool (!(a.toList==b.toList)))
  | .lss=>some (.bool (Op.bytesLess a.toList b.toList))
  | .leq=>some (.bool (Op.bytesLess a.toList b.toList||a.toList==b.toList))
  | .gtr=>some (.bool !(Op.bytesLess a.toList b.toList||a.toList==b.toList))
  | .geq=>some (.bool !(Op.bytesLess a.toList b.toList))
  |_=>none
 |_,_=>none
def sX:AV->Option (Bool×Bool)
 | .one (.d (.v (.bool p)))=>some (true,p)
 | .gd c (.one (.d (.v (.bool p))))=>some (c,p)
 | .gd false _=>some (false,false)
 |_=>none
theorem Tc:(true==false)=false:=rfl
theorem TO:(false==true)=false:=rfl
def u7 (b p q:Bool):Bool:=if b then p else q
theorem IV (b p:Bool):u7 b p false=(b&&p):=by cases b<;>simp[u7]
theorem JK (b q:Bool):u7 b true q=(b||q):=by cases b<;>simp[u7]
def yO:Value->Value->Bool
 | .int _ a, .int _ b=>a==b
 | .bool a, .bool b=>a==b
 | .string a, .string b=>a.toList==b.toList
 |_,_=>false
def eE:Value->Nat
 | .int .i8 _=>1| .int .i16 _=>2| .int .i32 _=>3| .int .i64 _=>4| .int .u8 _=>5| .int .u16 _=>6| .int .u32 _=>7| .int .u64 _=>8
 | .bool _=>9
 | .string _=>10
 |_=>0
def hG:List Value->List Value->Bool
 |[],[]=>true
 |x::xs,y::ys=>yO x y&&hG xs ys
 |_,_=>false
def Ei:C->Option Value
 | .d (.v x)=>some x
 |_=>none
def qp:List C->Option (List Value)
 |[]=>some []
 |c::cs=>match Ei c,qp cs with
  |some x,some xs=>some (x::xs)
  |_,_=>none
inductive RO where
 |d (x:D)
 |own (sz n:Nat) (ds:List D) (bo:Bool)
inductive RF where
 |one (x:RO)
 |agg (l:List RO)
inductive Arg where
 |f (x:AV)
 |obj (l:List RO)
 |row (sz n:Nat) (ds:List D)
 |fW (pre post:List C) (sz n:Nat) (ds:List D)
inductive dQ where
 |dI (b:Nat)
 |val (u:Value)
def cW:List dQ->List Nat
 |[]=>[]
 | .dI b::l=>b::cW l
 | .val _::l=>cW l
def RF.cells:RF->List RO
 | .one x=>[x]
 | .agg l=>l
def d9 (A:Nat->Prop) (w:World) (pl:Pl):RO->Value->Prop
 | .d x,u=>Rd w A x u
 | .own sz n ds _,u=>n*sz≤ds.length/\n≤pl.cap/\dm w A pl sz ds/\
   (∃a,u= .slice a n pl.cap/\(pl.cap=0∨∃b o,pl.base=some (b,o)/\a=some ⟨b,o,none⟩))
def cU (A:Nat->Prop) (w:World) (γ:Nat->Pl):Nat->List RO->List Value->Prop
 |_,[],us=>us=[]
 |k,x::xs,us=>∃u us',us=u::us'/\d9 A w (γ k) x u/\cU A w γ (k+1) xs us'
def NB (γ:Nat->Pl):Nat->List RO->Nat->Prop
 |_,[],_=>False
 |k, .own _ _ _ _::xs,b=>(∃o,(γ k).base=some (b,o))∨NB γ (k+1) xs b
 |k, .d _::xs,b=>NB γ (k+1) xs b
def lp (A:Nat->Prop) (w:World) (γ:Nat->Pl) (k:Nat):RF->Value->Prop
 | .one x,u=>d9 A w (γ k) x u
 | .agg l,u=>∃us,u= .agg us/\cU A w γ k l us.toList
def eW (A:Nat->Prop) (w:World) (γ:Nat->Pl):Nat->List RF->List Value->Prop
 |_,[],us=>us=[]
 |k,x::xs,us=>∃u us',us=u::us'/\lp A w γ k x u/\eW A w γ (k+x.cells.length) xs us'
def cX (rfs:List RF) (objs:List (List RO)):List RO:=rfs.flatMap RF.cells++objs.flatten
def gG (A:Nat->Prop) (w:World) (γ:Nat->Pl):Nat->List (List RO)->List dQ->Prop
 |_,[],bs=>bs=[]
 |_,_::_,[]=>False
 |k,l::ls, .dI b::bs=>(∃c e,w.heap[b]? =some (.cells c e (0,0))/\cU A w γ k l c.toList/\(∀u∈c.toList,flat u=true))/\gG A w γ (k+l.length) ls bs
 |k,l::ls, .val u::bs=>(l=[]∨cU A w γ k l [u])/\gG A w γ (k+l.length) ls bs
def uZ (γ:Nat->Pl) (l:List RO):Prop:=
 ∀(i j b o o':Nat) (sz n:Nat) (ds:List D) (bo:Bool) (sz' n':Nat) (ds':List D) (bo':Bool),l[i]? =some (.own sz n ds bo)->l[j]? =some (.own sz' n' ds' bo')->
  (γ i).base=some (b,o)->(γ j).base=some (b,o')->i=j
structure fl (w:World) (A0 aS:Nat->Prop) (w':World) (bs:List dQ) (rfs:List RF) (objs:List (List RO)) (u:Value):Prop where
 mem:∃γ:Nat->Pl,∃us:List Value,
  u=(match us with|[x]=>x|us=> .tuple us.toArray)/\
  eW (λ b=>A0 b∨NB γ 0 (cX rfs objs) b) w' γ 0 rfs us/\
  gG (λ b=>A0 b∨NB γ 0 (cX rfs objs) b) w' γ (rfs.flatMap RF.cells).length objs bs/\
  (∀b,NB γ 0 (cX rfs objs) b->(w.heap.size≤b∨aS b)/\b ∉ cW bs)/\
  (∀(i sz n:Nat) (ds:List D) (b o:Nat),(cX rfs objs)[i]? =some (.own sz n ds false)->(γ i).base=some (b,o)->w.heap.size≤b)/\
  uZ γ (cX rfs objs)
 size:w.heap.size≤w'.heap.size
 bZ:∀b,b<w.heap.size->¬aS b->w'.heap[b]? =w.heap[b]?
 os:w'.os=w.os
 out:w'.output=w.output
def fK (P:Program) (w:World) (A0 aS:Nat->Prop):Cx:={P,w0:=w,A0,aS}
def bP (P:Program) (w:World) (A0 aS:Nat->Prop) (γ:Nat->Pl):Nat->List Arg->List dQ->List Value->Prop
 |_,[],bs,us=>us=[]/\bs=[]
 |k, .f x::xs,bs,us=>∃u us',us=u::us'/\aE (fK P w A0 aS) w [] (λ _ _=>⟨none,0⟩) x u/\bP P w A0 aS γ k xs bs us'
 |k, .obj l::xs,bs,us=>∃b bs' us' c e,us= .pointer (some ⟨b,0,none⟩)::us'/\bs= .dI b::bs'/\aS b/\w.heap[b]? =some (.cells c e (0,0))/\
   cU A0 w γ k l c.toList/\(∀v∈c.toList,flat v=true)/\bP P w A0 aS γ (k+l.length) xs bs' us'
 |k, .row sz n ds::xs,bs,us=>∃u bs' us',us=u::us'/\bs= .val u::bs'/\d9 A0 w (γ k) (.own sz n ds true) u/\bP P w A0 aS γ (k+1) xs bs' us'
 |k, .fW pre post sz n ds::xs,bs,us=>∃vs u ws bs' us',us= .agg (vs++u::ws).toArray::us'/\bs= .val u::bs'/\aH (fK P w A0 aS) w [] (λ _ _=>⟨none,0⟩) pre vs/\aH (fK P w A0 aS) w [] (λ _ _=>⟨none,0⟩) post ws/\
   d9 A0 w (γ k) (.own sz n ds true) u/\bP P w A0 aS γ (k+1) xs bs' us'
def cn:List Arg->List RO
 |[]=>[]
 | .f _::xs=>cn xs
 | .obj l::xs=>l++cn xs
 | .row sz n ds::xs=> .own sz n ds true::cn xs
 | .fW _ _ sz n ds::xs=> .own sz n ds true::cn xs
def ah (P:Program) (f:FuncId) (args:List Arg) (post:List RF->List (List RO)->Prop):Prop:=
 (∀(us:Array Value) (w:World),(callFunc f us).run P w= .ok (.enter f us) w)/\
 ∀(w:World) (A0 aS:Nat->Prop) (γ:Nat->Pl) (bs:List dQ) (us:List Value),(∀b,A0 b->b<w.heap.size)->(∀b,aS b->A0 b)->
  bP P w A0 aS γ 0 args bs us->(∀b,NB γ 0 (cn args) b->aS b/\b ∉ cW bs)->(cW bs).Nodup->uZ γ (cn args)->
  Calls P f us.toArray w λ e w'=>∃rfs objs u,post rfs objs/\e= .returned u/\fl w A0 aS w' bs rfs objs u
theorem ah.mono {P:Program} {f:FuncId} {args:List Arg} {post post':List RF->List (List RO)->Prop} (h:ah P f args post)
  (hp:∀r o,post r o->post' r o):ah P f args post':=⟨h.1,λ w A0 aS γ bs us h1 h2 h3 h4 h5 h6=>
 (h.2 w A0 aS γ bs us h1 h2 h3 h4 h5 h6).mono λ _ _ ⟨r,o,u,g1,g2,g3⟩=>⟨r,o,u,hp _ _ g1,g2,g3⟩⟩
def fT (s e:Nat):Nat->List RO->List C
 |_,[]=>[]
 |k, .d x::xs=> .d x::fT s e (k+1) xs
 |k, .own _ n _ _::xs=> .own ⟨s,k+1,e⟩ 0 n::fT s e (k+1) xs
def fM (B:Bool) (e:Nat):List RO->List (Option bV)
 |[]=>[]
 | .d _::xs=>none::fM B e xs
 | .own sz _ ds bo::xs=>some {e,var:=false,fz:=false,dR:=bo&&B,sz,cells:=ds.map C.d}::fM B e xs
def yn (s e k:Nat):RF->AV
 | .one x=>match fT s e k [x]with|[c]=> .one c|_=> .one .dead
 | .agg l=> .agg (fT s e k l)
def jf (s e:Nat):Nat->List RF->List AV
 |_,[]=>[]
 |k,x::xs=>yn s e k x::jf s e (k+x.cells.length) xs
def kZ:List AV->AV
 |[x]=>x
 |l=> .ig l
def jF:List RO->Bool
 |[]=>true
 | .d _::xs=>jF xs
 | .own _ _ _ _::_=>false
def kh (B:Bool) (r:Rs) (dst:Option Nat) (rfs:List RF):AV×Rs:=
 let cells:=rfs.flatMap RF.cells
 if jF cells then(kZ (jf 0 0 0 rfs),r)
 else match dst with
  |some d=>(kZ (jf d (ar r d) 0 rfs),aN d {next:=ar r d+1,l:=none::fM B (ar r d) cells} r)
  |none=>(.one .dead,r)
abbrev eT (r:Rs) (dst:Option Nat) (rfs:List RF):AV×Rs:=kh false r dst rfs
def mA (r:Rs) (s:Nat):C->Option C
 | .d x=>some (.d (wm x))
 | .aC n ds=>some (.aC n ds)
 | .own h lo n=>if h.s=s then(match rowOf r (.own h lo n)with
  |some (n,ds)=>some (.aC n ds)
  |none=>none)else none
 |_=>none
def mX (r:Rs) (s:Nat):List C->Option (List C)
 |[]=>some []
 |c::cs=>match mA r s c,mX r s cs with
  |some x,some xs=>some (x::xs)
  |_,_=>none
def bW (r:Rs):C->Option C
 | .d x=>some (.d x)
 | .aC n ds=>some (.aC n ds)
 | .own h lo n=>match rowOf r (.own h lo n)with
  |some (n,ds)=>some (.aC n ds)
  |none=>none
 | .fJ ds=>some (.fJ ds)
 | .ptr h off=>match aQ r h with
  |some res=>match dC (res.cells.drop off)with
   |some ds=>some (.fJ ds)
   |none=>(match mX r h.s (res.cells.drop off)with|some cs=>some (.ib cs)|none=>none)
  |none=>none
 | .fx f caps=>match lendCs r caps with
  |some cs=>some (.fx f cs)
  |none=>none
 | .ab=>none
 | .dead=>none
 | .ib cs=>match lendCs r cs with
  |some ys=>some (.ib ys)
  |none=>none
 | .eX h lo n k=>match rowOf r (.eX h lo n k)with
  |some (n,ds)=>some (.aC n ds)
  |none=>none
 | .lk _ _ _=>none
where lendCs (r:Rs):List C->Option (List C)
 |[]=>some []
 |c::cs=>match bW r c,lendCs r cs with
  |some x,some xs=>some (x::xs)
  |_,_=>none
def qs (r:Rs):AV->Option AV
 | .one x=>match bW r x with|some y=>some (.one y)|none=>none
 | .agg l=>match bW.lendCs r l with|some y=>some (.agg y)|none=>none
 |_=>none
def gD (r:Rs):List AV->Option (List Arg)
 |[]=>some []
 |x::xs=>match qs r x,gD r xs with
  |some y,some ys=>some (.f y::ys)
  |_,_=>none
def Eu (P:Program) (c:Bool) (f:FuncId) (args:List Arg) (K:List RF->Prop):Prop:=
 ∃rfs,(c=true->ah P f args (λ r o=>r=rfs/\o=[]))/\K rfs
theorem Eu.congr {P:Program} {c:Bool} {f:FuncId} {args args':List Arg} {K:List RF->Prop} (h:args=args'):Eu P c f args K=Eu P c f args' K:=by rw[h]
def om:AV->Option (FuncId×List C)
 | .one (.d (.v (.func (.func f) ⟨[]⟩ ⟨[]⟩)))=>some (f,[])
 | .one (.fx f caps)=>some (f,caps)
 |_=>none
def pS (r:Rs):C->Option RO
 | .d x=>some (.d x)
 | .own h lo n=>match aQ r h with
  |some res=>if res.fz=true then(match dC (sub lo n res.sz res.cells)with|some ds=>some (.d (.sl n ds))|none=>none)
   else match lo,dC res.cells with
    |0,some ds=>some (.own res.sz n ds res.dR)
    |_,_=>none
  |none=>none
 |_=>none
def eS (r:Rs):List C->Option (List RO)
 |[]=>some []
 |x::xs=>match pS r x,eS r xs with
  |some y,some ys=>some (y::ys)
  |_,_=>none
def my (r:Rs):List (List C)->Option (List (List RO))
 |[]=>some []
 |x::xs=>match eS r x,my r xs with
  |some y,some ys=>some (y::ys)
  |_,_=>none
def tQ (r:Rs):C->List (Nat×Nat)
 | .own h _ _=>match aQ r h with
  |some res=>if res.fz=true then []else [(h.s,h.j)]
  |none=>[]
 |_=>[]
def jg (r:Rs):List C->List (Nat×Nat)
 |[]=>[]
 |x::xs=>tQ r x++jg r xs
def oN:List (Nat×Nat)->Bool
 |[]=>true
 |x::xs=> !xs.contains x&&oN xs
def rD (r:Rs) (d:Nat):AV->AV×Rs
 | .one (.own h lo n)=>
  if h.s=d then(.one (.own h lo n),r)else
  match aQ r h with
  |some res=>
   if res.fz=true then(.one (.own h lo n),r)
   else match ao h.s r with
    |some rs=>(.one (.own ⟨d,1,ar r d⟩ lo n),aN d {next:=ar r d+1,l:=[none,some {res with e:=ar r d}]} (aN h.s {rs with l:=rs.l.set h.j none} r))
    |none=>(.one .dead,r)
  |none=>(.one .dead,r)
 |x=>(x,r)
def r6 (d:Nat):AV->AV
 | .one (.eX h lo n k)=>if h.s=d then .one (.eX h lo n k)else .one (.own h lo n)
 |x=>x
def tW (r:Rs) (d:Nat):AV->Prop
 | .one (.eX h lo n _)=>if h.s=d then True else(match aQ r h with
  |some res=>(lo+n)*res.sz≤res.cells.length
  |none=>False)
 |_=>True
def iS (d e k:Nat) (c:C) (r:Rs):C×Option bV×Rs:=
 match c with
 | .own h lo n=>
  match (if h.s=d then none else aQ r h),ao h.s r with
  |some res,some rs=>
   if res.fz=true then(c,none,r)
   else(.own ⟨d,k+1,e⟩ lo n,some {res with e:=e},aN h.s {rs with l:=rs.l.set h.j none} r)
  |_,_=>(.dead,none,r)
 | .eX _ _ _ _=>(.dead,none,r)
 | .lk _ _ _=>(.dead,none,r)
 |c=>(c,none,r)
def ew (d:Nat):Nat->Nat->List C->Rs->List C×List (Option bV)×Rs
 |_,_,[],r=>([],[],r)
 |e,k,c::cs,r=>((iS d e k c r).1::(ew d (e+1) (k+1) cs (iS d e k c r).2.2).1,
   (iS d e k c r).2.1::(ew d (e+1) (k+1) cs (iS d e k c r).2.2).2.1,(ew d (e+1) (k+1) cs (iS d e k c r).2.2).2.2)
def cO {α:Type} (i:Nat):List α->List α->List α
 |[],l=>l
 |x::xs,l=>cO (i+1) xs (l.set i x)
def xX (ti:TI):List C:=ti.zero.map λ v=>C.d (.v v)
def sliceB (o:Option AV) (dflt:Int):Option Int:=
 match o with
 |none=>some dflt
 |some (.one (.d (.v (.int _ n))))=>some n
 |_=>none
def iW (v:List AV):Option Operand->Option AV
 |none=>none
 |some y=>some (ev v y)
def kC (c:Bool) (v:List AV):Option Operand->Prop
 |none=>True
 |some y=>bX c v y
section
variable (T:Nat->Option TI) (P:Program)
def Ab (t f:Nat):Option Nat:=
 match T t with
 |some ti=>match ti.desc with
  | .struct fs=>match fs[f]? with
   |some (o,ft)=>match T ft with
    |some fi=>if fi.size=0 then none else some o
    |none=>none
   |none=>none
  |_=>none
 |none=>none
def vQ (t f:Nat):Option (Nat×Nat):=
 match T t with
 |some ti=>match ti.desc with
  | .struct fs=>match fs[f]? with
   |some (o,ft)=>match T ft with
    |some fi=>some (o,fi.size)
    |none=>none
   |none=>none
  | .array _ e=>match T e with
   |some ei=>some (f*ei.size,ei.size)
   |none=>none
  |_=>none
 |none=>none
def vg:List (Nat×Nat)->Bool
 |[]=>true
 |(_,ft)::l=>(match T ft with|some _=>true|none=>false)&&vg l
def Au (t:Nat):Bool:=
 match T t with
 |some ti=>match ti.desc with
  | .struct fs=>vg T fs
  | .array _ e=>(match T e with|some _=>true|none=>false)
  |_=>false
 |none=>false
def sT (t:Nat):List (Nat×AV)->List C->Option (List C)
 |[],l=>some l
 |(i,y)::ps,l=>match vQ T t i with
  |some (o,n)=>if(cellsOf y).length=n/\n≠0/\o+n≤l.length then sT t ps (cO o (cellsOf y) l)else none
  |none=>none
def iK (t:Nat):Option (Nat×TI):=
 match T t with
 |some ti=>match ti.desc with
  | .slice e=>match T e with
   |some ei=>some (e,ei)
   |none=>none
  |_=>none
 |none=>none
def ni (t:Nat) (l:List C):Prop×AV:=
 match T t with
 |some ti=>if yw ti.desc=true then(ti.size≤l.length, .agg (l.take ti.size))else match l with
  |x::_=>(True, .one x)
  |[]=>(False, .one .dead)
 |none=>(False, .one .dead)
def fw (t:Option Nat):Bool:=
 match t.bind T with
 |some ti=>(match ti.desc with| .slice _=>true|_=>false)
 |none=>false
def isStr (t:Option Nat):Bool:=
 match t.bind T with
 |some ti=>(match ti.desc with| .string=>true|_=>false)
 |none=>false
def isInt (t:Nat):Bool:=
 match T t with
 |some ti=>(match ti.desc with| .int _=>true|_=>false)
 |none=>false
def nY (o:BinOp) (x:Option Bool):Option C:=
 match o,x with
 | .eql,some b=>some (.d (.v (.bool b)))
 | .neq,some b=>some (.d (.v (.bool !b)))
 | .eql,none=>some .ab
 | .neq,none=>some .ab
 |_,_=>none
def tB (t:Nat):Bool:=
 match T t with
 |some ti=>(match ti.desc with| .pointer _=>true|_=>false)
 |none=>false
def isBool (t:Nat):Bool:=
 match T t with
 |some ti=>(match ti.desc with| .bool=>true|_=>false)
 |none=>false
def qL (r:Rs) (o:BinOp) (t:Nat) (x y:C):Option (Prop×C):=
 match x,y with
 | .d (.v (.bool p)), .d (.v (.bool q))=>match o with
  | .eql=>some (isBool T t=true, .d (.v (.bool (p==q))))
  | .neq=>some (isBool T t=true, .d (.v (.bool (p !=q))))
  |_=>none
 | .d (.v (.slice none 0 0)), .d (.v (.slice none 0 0))=>(nY o (some true)).map λ z=>(fw T (some t)=true,z)
 | .aC n ds, .d (.v (.slice none 0 0))=>(nY o (if n=0 then none else some false)).map λ z=>(fw T (some t)=true/\(n≠0->ds≠[]),z)
 | .d (.sl n ds), .d (.v (.slice none 0 0))=>(nY o (if n=0 then none else some false)).map λ z=>(fw T (some t)=true/\(n≠0->ds≠[]),z)
 | .own h _ n, .d (.v (.slice none 0 0))=>match aQ r h with
  |some _=>(nY o (if n=0 then none else some false)).map λ z=>(fw T (some t)=true,z)
  |none=>none
 | .d (.v (.pointer none)), .d (.v (.pointer none))=>(nY o (some true)).map λ z=>(tB T t=true,z)
 | .ptr h _, .d (.v (.pointer none))=>match aQ r h with
  |some _=>(nY o (some false)).map λ z=>(tB T t=true,z)
  |none=>none
 | .fJ _, .d (.v (.pointer none))=>(nY o (some false)).map λ z=>(tB T t=true,z)
 | .ib _, .d (.v (.pointer none))=>(nY o (some false)).map λ z=>(tB T t=true,z)
 |_,_=>none
def pF (r:Rs) (o:BinOp) (t:Nat) (a b:AV):Out:=
 match a,b with
 | .one (.d (.v x)), .one (.d (.v y))=>match BF o x y with
  |some z=>⟨True, .one (.d (.v z)),r⟩
  |none=>match qL T r o t (.d (.v x)) (.d (.v y))with
   |some (p,z)=>⟨p, .one z,r⟩
   |none=>aZ
 | .one x, .one y=>match qL T r o t x y with
  |some (p,z)=>⟨p, .one z,r⟩
  |none=>aZ
 | .agg l, .agg m=>match T t,qp l,qp m with
  |some ti,some xs,some ys=>
   (match o with
    | .eql=>⟨ti.eq=true/\xs.map eE=ti.zero.map eE/\ys.map eE=ti.zero.map eE, .one (.d (.v (.bool (hG xs ys)))),r⟩
    | .neq=>⟨ti.eq=true/\xs.map eE=ti.zero.map eE/\ys.map eE=ti.zero.map eE, .one (.d (.v (.bool !(hG xs ys)))),r⟩
    |_=>aZ)
  |_,_,_=>aZ
 |_,_=>aZ
def rJ (t:Nat):Option (Nat×TI):=
 match T t with
 |some ti=>match ti.desc with
  | .array n e=>match T e with
   |some ei=>some (n,ei)
   |none=>none
  |_=>none
 |none=>none
def pM (r:Rs) (c:Bool) (t:Nat) (y iv:AV):Out:=
 match iK T t,iv,y with
 |some (_,ei), .one (.d (.v (.int _ n))), .one (.own h lo m)=>match aQ r h with
  |some res=>⟨res.sz=ei.size/\ei.size≠0/\(c=true->0≤n/\n<m), .one (.ptr h ((lo+n.toNat)*ei.size)),r⟩
  |none=>aZ
 |some (_,ei), .one (.d (.v (.int _ n))), .one (.aC m ds)=>⟨ei.size≠0/\ds.length=m*ei.size/\(c=true->0≤n/\n<m), .one (.fJ (ds.drop (n.toNat*ei.size))),r⟩
 |some (_,ei), .one (.d (.v (.int _ n))), .one (.d (.sl m ds))=>⟨ei.size≠0/\ds.length=m*ei.size/\(c=true->0≤n/\n<m), .one (.fJ (ds.drop (n.toNat*ei.size))),r⟩
 |none, .one (.d (.v (.int _ n))), .one (.ptr h off)=>match rJ T t,aQ r h with
  |some (m,ei),some _=>⟨c=true->0≤n/\n<m, .one (.ptr h (off+n.toNat*ei.size)),r⟩
  |_,_=>aZ
 |none, .one (.d (.v (.int _ n))), .one (.fJ ds)=>match rJ T t with
  |some (m,ei)=>⟨c=true->0≤n/\n<m, .one (.fJ (ds.drop (n.toNat*ei.size))),r⟩
  |none=>aZ
 |_,_,_=>aZ
def pn (r:Rs) (t f:Nat) (y:AV):Out:=
 match y,T t with
 | .agg l,some ti=>match ti.desc with
  | .struct fs=>match fs[f]? with
   |some (o,ft)=>⟨(ni T ft (l.drop o)).1,(ni T ft (l.drop o)).2,r⟩
   |none=>aZ
  |_=>aZ
 |_,_=>aZ
def As (ei:TI):Bool:=match ei.desc with
 | .int _=>ei.size==1
 | .pointer _=>ei.size==1
 |_=>false
def bytesOf:List D->Option (List UInt8)
 |[]=>some []
 | .v (.int .u8 n)::ds=>match bytesOf ds with
  |some l=>some (UInt8.ofNat n.toNat::l)
  |none=>none
 |_=>none
def Ee (s:Nat):Bool:=match iK T s with
 |some (_,ei)=>match ei.desc with
  | .int .u8=>true
  |_=>false
 |none=>false
def nS (r:Rs) (s t:Nat) (y:AV):Out:=
 match T t with
 |some ti=>match ti.desc,y with
  | .int k, .one (.d (.v (.int _ n)))=>⟨isInt T s=true, .one (.d (.v (.int k (k.wrap n)))),r⟩
  | .string, .one x=>match rowOf r x with
   |some (n,ds)=>match bytesOf ds with
    |some l=>⟨Ee T s=true/\ds.length=n, .one (.d (.v (.string ⟨l.toArray⟩))),r⟩
    |none=>aZ
   |none=>aZ
  |_,_=>aZ
 |none=>aZ
def nJ (r:Rs) (t:Nat) (y:AV):Out:=
 match T t with
 |some ti=>match ti.desc,y with
  | .struct _, .agg l=>match qp l with
   |some vs=>⟨True, .one (.d (.v (.iface t (.agg vs.toArray)))),r⟩
   |none=>aZ
  | .int _, .one (.d (.v (.int k n)))=>⟨True, .one (.d (.v (.iface t (.int k n)))),r⟩
  |_,_=>aZ
 |none=>aZ
def pf (r:Rs) (c:Bool) (t:Nat) (y:AV) (l h:Option AV):Out:=
 match y with
 | .one (.d (.v (.string s)))=>match isStr T (some t),sliceB l 0,sliceB h s.size with
  |true,some i,some j=>⟨c=true->0≤i/\i≤j/\j≤s.size, .one (.d (.v (.string (s.extract i.toNat j.toNat)))),r⟩
  |_,_,_=>aZ
 | .one (.own hd lo n)=>match iK T t,sliceB l 0,sliceB h n,aQ r hd with
  |some (_,ei),some i,some j,some res=>⟨res.sz=ei.size/\(c=true->0≤i/\i≤j/\j≤n), .one (.own hd (lo+i.toNat) (j.toNat - i.toNat)),r⟩
  |_,_,_,_=>aZ
 | .one (.eX hd lo n k)=>match iK T t,sliceB l 0,sliceB h n,aQ r hd with
  |some (_,ei),some i,some j,some res=>⟨res.sz=ei.size/\(c=true->0≤i/\i≤j/\lo+j≤k), .one (.eX hd (lo+i.toNat) (j.toNat - i.toNat) k),r⟩
  |_,_,_,_=>aZ
 | .one (.aC n ds)=>match iK T t,sliceB l 0,sliceB h n with
  |some (_,ei),some i,some j=>⟨ds.length=n*ei.size/\(c=true->0≤i/\i≤j/\j≤n),
    .one (.aC (j.toNat - i.toNat) ((ds.drop (i.toNat*ei.size)).take ((j.toNat - i.toNat)*ei.size))),r⟩
  |_,_,_=>aZ
 | .one (.d (.sl n ds))=>match iK T t,sliceB l 0,sliceB h n with
  |some (_,ei),some i,some j=>⟨ds.length=n*ei.size/\(c=true->0≤i/\i≤j/\j≤n),
    .one (.d (.sl (j.toNat - i.toNat) ((ds.drop (i.toNat*ei.size)).take ((j.toNat - i.toNat)*ei.size)))),r⟩
  |_,_,_=>aZ
 |_=>aZ
def pe (r:Rs) (c:Bool) (t:Nat) (y:AV) (l h m:Option AV):Out:=
 match y with
 | .one (.eX hd lo n k)=>match iK T t,sliceB l 0,(match h with|some _=>sliceB h n|none=>none),sliceB m n,aQ r hd with
  |some _,some i,some j,some q,some _=>⟨c=true->0≤i/\i≤j/\j≤q/\lo+q≤k, .one .dead,r⟩
  |_,_,_,_,_=>aZ
 |_=>aZ
def GM (d off:Nat) (l:List C):Bool:=
 match l with
 |[.own hd _ _]=>hd.s==d&&hd.j==off+1
 |_=>false
def qo (r:Rs) (t:Nat) (av y:AV):Out:=
 match T t,av with
 |some ti, .one (.ptr h off)=>match aQ r h with
  |some res=>
   if res.var=true then
    match ao h.s r with
    |some rs=>match GM h.s off (cellsOf y)with
     |true=>⟨(cellsOf y).length=ti.size/\ti.size≠0/\off+ti.size≤res.cells.length/\h.j=0/\pj (cellsOf y)=true, .one .dead,
       aN h.s {rs with l:=rs.l.set 0 (some {res with cells:=cO off (cellsOf y) res.cells})} r⟩
     |false=>⟨(cellsOf y).length=ti.size/\ti.size≠0/\off+ti.size≤res.cells.length/\off+ti.size<rs.l.length/\h.j=0/\pj (cellsOf y)=true, .one .dead,
      aN h.s {next:=rs.next+(cellsOf y).length,l:=cO (off+1) (ew h.s rs.next off (cellsOf y) r).2.1 (rs.l.set 0 (some {res with cells:=cO off (ew h.s rs.next off (cellsOf y) r).1 res.cells}))} (ew h.s rs.next off (cellsOf y) r).2.2⟩
    |none=>aZ
   else match kQ r (cellsOf y)with
    |some (ds,r')=>match aQ r' h,ao h.s r' with
     |some res',some rs=>⟨(cellsOf y).length=ti.size/\ti.size≠0/\off+ti.size≤res'.cells.length/\res'.fz=false, .one .dead,
       aN h.s {rs with l:=rs.l.set h.j (some {res' with cells:=cO off (ds.map C.d) res'.cells})} r'⟩
     |_,_=>aZ
    |none=>aZ
  |none=>aZ
 |_,_=>aZ
def qD (r:Rs):AV->Option (Nat×List D)
 | .one (.d (.v (.string b)))=>some (b.size,b.data.toList.map λ (x:UInt8)=>D.v (.int .u8 x.toNat))
 | .one y=>rowOf r y
 |_=>none
def lV (z:List Value) (n:Nat):List D:=(List.replicate n (z.map D.v)).flatten
theorem CR {z:List Value} {n:Nat}:(lV z n).length=n*z.length:=by simp[lV]
def uL:AV->Option (Hd×Nat×Nat)
 | .one (.own h lo n)=>some (h,lo,n)
 | .one (.eX h lo n _)=>some (h,lo,n)
 |_=>none
def sR (r:Rs) (h:Hd) (lo:Nat) (ds:List D):Option Rs:=
 match aQ r h,ao h.s r with
 |some res,some rs=>some (aN h.s {rs with l:=rs.l.set h.j (some {res with cells:=res.cells.take (lo*res.sz)++ds.map C.d++res.cells.drop (lo*res.sz+ds.length)})} r)
 |_,_=>none
def Bz (r:Rs) (c:Bool) (dst:Option Nat) (ei:TI) (m:Nat) (ds2:List D) (h:Hd) (lo n k:Nat):Out:=
 match aQ r h,ao h.s r with
 |some res,some rs=>match dC (sub lo n res.sz res.cells)with
  |some ds1=>
   if lo+n+m≤k then
    ⟨ei.size≠0/\ds2.length=m*ei.size/\res.fz=false/\res.sz=ei.size/\(lo+n)*res.sz≤res.cells.length, .one (.eX ⟨h.s,h.j,rs.next⟩ 0 (n+m) (k - lo)),
     aN h.s {next:=rs.next+1,l:=rs.l.set h.j (some {res with e:=rs.next,sz:=ei.size,cells:=(ds1++ds2).map C.d})} r⟩
   else match dst with
    |some d=>⟨ei.size≠0/\ei.bytes≠0/\ds2.length=m*ei.size/\res.sz=ei.size/\(lo+n)*res.sz≤res.cells.length/\(c=true->(n+m)*ei.bytes≤2^47), .one (.own ⟨d,1,ar r d⟩ 0 (n+m)),
      aN d {next:=ar r d+1,l:=[none,some {e:=ar r d,var:=false,fz:=false,sz:=ei.size,cells:=(ds1++ds2).map C.d}]} r⟩
    |none=>aZ
  |none=>aZ
 |_,_=>aZ
def wg (r:Rs) (c:Bool) (dst:Option Nat) (t:Nat) (x y:AV):Out:=
 match iK T t,x,y,dst with
 |some (_,ei), .one (.d (.v (.int _ n))), .one (.d (.v (.int _ m))),some d=>
  ⟨c=true->0≤n/\n=m/\n<2^62/\ei.bytes*n≤2^47, .one (.own ⟨d,1,ar r d⟩ 0 n.toNat),
   aN d {next:=ar r d+1,l:=[none,some {e:=ar r d,var:=false,fz:=false,sz:=ei.size,cells:=(lV ei.zero n.toNat).map C.d}]} r⟩
 |_,_,_,_=>aZ
def BB (r:Rs) (c:Bool) (dst:Option Nat) (ts:Array Nat) (s x:AV):Out:=
 match ts[0]?.bind (iK T),(match ts[1]? with|some t1=>isInt T t1|none=>false),x,s with
 |some (_,ei),true, .one (.d (.v (.int _ l))), .one (.eX h lo n k)=>match aQ r h,dst with
  |some res,some d=>match dC (sub lo n res.sz res.cells)with
   |some ds1=>⟨ei.size≠0/\ei.bytes≠0/\res.sz=ei.size/\(lo+n)*res.sz≤res.cells.length/\(c=true->0≤l/\l<2^62/\k<lo+n+l.toNat/\(n+l.toNat)*ei.bytes≤2^47), .one (.own ⟨d,1,ar r d⟩ 0 (n+l.toNat)),
     aN d {next:=ar r d+1,l:=[none,some {e:=ar r d,var:=false,fz:=false,sz:=ei.size,cells:=(ds1++lV ei.zero l.toNat).map C.d}]} r⟩
   |none=>aZ
  |_,_=>aZ
 |_,_,_,_=>aZ
def vW (r:Rs):AV->Option (Nat×List D)
 | .one x=>rowOf r x
 |_=>none
def qq (r:Rs) (ts:Array Nat) (y x:AV):Out:=
 match ts[0]?.bind (iK T),uL y,vW r x with
 |some (_,ei),some (h,lo,n),some (m,ds2)=>match aQ r h,sR r h lo (ds2.take (min m n*ei.size))with
  |some res,some r'=>⟨ei.size≠0/\res.sz=ei.size/\res.fz=false/\min m n*ei.size≤ds2.length/\lo*res.sz≤res.cells.length, .one (.d (.v (.int .i64 (min m n:Nat)))),r'⟩
  |_,_=>aZ
 |_,_,_=>aZ
def qn (r:Rs) (ts:Array Nat) (y:AV):Out:=
 match ts[0]?.bind (iK T),uL y with
 |some (_,ei),some (h,lo,n)=>match aQ r h,sR r h lo (lV ei.zero n)with
  |some res,some r'=>⟨ei.size≠0/\res.sz=ei.size/\res.fz=false/\lo*res.sz≤res.cells.length, .one .dead,r'⟩
  |_,_=>aZ
 |_,_=>aZ
def qE (r:Rs) (c:Bool) (dst:Option Nat) (ts:Array Nat) (s x:AV):Out:=
 match ts[0]?.bind (iK T),(fw T ts[1]? ||isStr T ts[1]?),qD r x,s with
 |some (_,ei),true,some (m,ds2), .one (.own h lo n)=>match aQ r h,ao h.s r with
  |some res,some rs=>match dC (sub lo n res.sz res.cells)with
   |some ds1=>⟨ei.size≠0/\ei.bytes≠0/\ds2.length=m*ei.size/\res.fz=false/\res.sz=ei.size/\(c=true->(n+m)*ei.bytes≤2^47),
     .one (.own ⟨h.s,h.j,rs.next⟩ 0 (n+m)),
     aN h.s {next:=rs.next+1,l:=rs.l.set h.j (some {res with e:=rs.next,sz:=ei.size,cells:=(ds1++ds2).map C.d})} r⟩
   |none=>aZ
  |_,_=>aZ
 |some (_,ei),true,some (m,ds2), .one (.d (.v (.slice none 0 0)))=>match dst with
  |some d=>⟨ei.size≠0/\ei.bytes≠0/\ds2.length=m*ei.size/\(c=true->m*ei.bytes≤2^47), .one (.own ⟨d,1,ar r d⟩ 0 m),
    aN d {next:=ar r d+1,l:=[none,some {e:=ar r d,var:=false,fz:=false,sz:=ei.size,cells:=ds2.map C.d}]} r⟩
  |none=>aZ
 |some (_,ei),true,some (m,ds2), .one (.eX h lo n k)=>Bz r c dst ei m ds2 h lo n k
 |_,_,_,_=>BB T r c dst ts s x
def pI (r:Rs) (t:Option Nat):AV->Out
 | .one (.eX hd lo _ k)=>match aQ r hd with
  |some _=>⟨fw T t=true, .one (.d (.v (.int .i64 (k - lo:Nat)))),r⟩
  |none=>aZ
 |_=>aZ
def pO (r:Rs) (t:Option Nat):AV->Out
 | .one (.own hd _ n)=>match aQ r hd with
  |some _=>⟨fw T t=true, .one (.d (.v (.int .i64 n))),r⟩
  |none=>aZ
 | .one (.eX hd _ n _)=>match aQ r hd with
  |some _=>⟨fw T t=true, .one (.d (.v (.int .i64 n))),r⟩
  |none=>aZ
 | .one (.aC n _)=>⟨fw T t=true, .one (.d (.v (.int .i64 n))),r⟩
 | .one (.d (.sl n _))=>⟨fw T t=true, .one (.d (.v (.int .i64 n))),r⟩
 | .one (.d (.v (.slice none 0 0)))=>⟨fw T t=true, .one (.d (.v (.int .i64 0))),r⟩
 | .one (.d (.raw (.slice _ n _)))=>⟨fw T t=true, .one (.d (.v (.int .i64 n))),r⟩
 | .one (.d (.v (.string s)))=>⟨isStr T t=true, .one (.d (.v (.int .i64 s.size))),r⟩
 |_=>aZ
def mL (r:Rs) (mx:Bool):List AV->Out
 |[.one (.d (.v (.int k a))), .one (.d (.v (.int _ b)))]=>⟨True, .one (.d (.v (.int k (if mx then max a b else min a b)))),r⟩
 |_=>aZ
def Out.with (o:Out) (p:Prop):Out:=⟨p/\o.sc,o.x,o.r⟩
def aB (c:Bool) (v:List AV) (r:Rs) (dst:Option Nat) (op:Op):Out:=
 match op with
 | .move x=>⟨bX c v x,ev v x,r⟩
 | .assign x=>match dst with
  |some d=>⟨bX c v x/\tW r d (ev v x),(rD r d (r6 d (ev v x))).1,(rD r d (r6 d (ev v x))).2⟩
  |none=>aZ
 | .pick t x z=>match ev v t,sX (b6 v x),sX (b6 v z)with
  | .one (.d (.v (.bool b))),some (cx,p),some (cz,q)=>
   ⟨bX c v t/\(c=true->b=true->cx=true)/\(c=true->b=false->cz=true), .one (.d (.v (.bool (u7 b p q)))),r⟩
  |_,_,_=>aZ
 | .unOp .not _ x=>match ev v x with
  | .one (.d (.v (.bool b)))=>⟨bX c v x, .one (.d (.v (.bool !b))),r⟩
  |_=>aZ
 | .binOp o t x y _=>(pF T r o t (ev v x) (ev v y)).with (bX c v x/\bX c v y)
 | .convert s t x=>(nS T r s t (ev v x)).with (bX c v x)
 | .makeInterface t x=>(nJ T r t (ev v x)).with (bX c v x)
 | .extract x i=>match ev v x with
  | .ig l=>match l[i]? with
   |some z=>⟨bX c v x,z,r⟩
   |none=>aZ
  |_=>aZ
 | .alloc t=>match T t,dst with
  |some ti,some d=>⟨True, .one (.ptr ⟨d,0,ar r d⟩ 0),
    aN d {next:=ar r d+1,l:=some {e:=ar r d,var:=true,fz:=false,sz:=0,cells:=xX ti}::List.replicate ti.zero.length none} r⟩
  |_,_=>aZ
 | .load t x=>match ev v x with
  | .one (.ptr h off)=>match aQ r h with
   |some res=>⟨bX c v x/\off≤res.cells.length/\(ni T t (res.cells.drop off)).1,(ni T t (res.cells.drop off)).2,r⟩
   |none=>aZ
  | .one (.fJ ds)=>⟨bX c v x/\(ni T t (ds.map C.d)).1,(ni T t (ds.map C.d)).2,r⟩
  | .one (.ib cs)=>⟨bX c v x/\(ni T t cs).1,(ni T t cs).2,r⟩
  |_=>aZ
 | .fieldAddr t x f=>match Ab T t f,ev v x with
  |some o, .one (.ptr h off)=>match aQ r h with
   |some _=>⟨bX c v x, .one (.ptr h (off+o)),r⟩
   |none=>aZ
  |some o, .one (.fJ ds)=>⟨bX c v x/\o<ds.length, .one (.fJ (ds.drop o)),r⟩
  |some o, .one (.ib cs)=>⟨bX c v x/\o<cs.length, .one (.ib (cs.drop o)),r⟩
  |_,_=>aZ
 | .indexAddr t x i=>(pM T r c t (ev v x) (ev v i)).with (bX c v x/\bX c v i)
 | .field t x f=>(pn T r t f (ev v x)).with (bX c v x)
 | .index t x i=>match ev v i,ev v x with
  | .one (.d (.v (.int _ n))), .one (.d (.v (.string s)))=>⟨bX c v x/\bX c v i/\isStr T (some t)=true/\(c=true->0≤n/\n<s.size),
    .one (.d (.v (.int .u8 (s.data.getD n.toNat 0).toNat))),r⟩
  | .one (.d (.v (.int _ n))), .agg l=>match rJ T t,l[n.toNat]? with
   |some (m,ei),some y=>⟨bX c v x/\bX c v i/\As ei=true/\(c=true->0≤n/\n<m), .one y,r⟩
   |_,_=>aZ
  |_,_=>aZ
 | .slice t x lo hi none=>(pf T r c t (ev v x) (iW v lo) (iW v hi)).with (bX c v x/\kC c v lo/\kC c v hi)
 | .slice t x lo hi (some mx)=>(pe T r c t (ev v x) (iW v lo) (iW v hi) (iW v (some mx))).with (bX c v x/\kC c v lo/\kC c v hi/\bX c v mx)
 | .makeFunc (.func f) ⟨[]⟩ caps=>match rr (eP v caps.toList)with
  |some xs=>⟨en c v caps.toList, .one (.fx f xs),r⟩
  |none=>aZ
 | .nilCheck x=>match ev v x with
  | .one (.ptr h off)=>match aQ r h with
   |some _=>⟨bX c v x, .one (.ptr h off),r⟩
   |none=>aZ
  | .one (.fJ ds)=>⟨bX c v x, .one (.fJ ds),r⟩
  | .one (.ib cs)=>⟨bX c v x, .one (.ib cs),r⟩
  | .one (.fx f caps)=>⟨bX c v x, .one (.fx f caps),r⟩
  |_=>aZ
 | .box t x=>match T t,dst with
  |some ti,some d=>
   ⟨bX c v x/\(cellsOf (ev v x)).length=ti.size/\ti.size≠0/\pj (cellsOf (ev v x))=true, .one (.ptr ⟨d,0,ar r d⟩ 0),
    aN d {next:=ar r d+1+(cellsOf (ev v x)).length,
             l:=some {e:=ar r d,var:=true,fz:=false,sz:=0,cells:=(ew d (ar r d+1) 0 (cellsOf (ev v x)) (aN d {next:=ar r d,l:=[]} r)).1}::
               (ew d (ar r d+1) 0 (cellsOf (ev v x)) (aN d {next:=ar r d,l:=[]} r)).2.1}
     (ew d (ar r d+1) 0 (cellsOf (ev v x)) (aN d {next:=ar r d,l:=[]} r)).2.2⟩
  |_,_=>aZ
 | .store t ad x=>(qo T r t (ev v ad) (ev v x)).with (bX c v ad/\bX c v x)
 | .build t ps=>match T t with
  |some ti=>match sT T t ((ps.toList.map (·.1)).zip (eP v (ps.toList.map (·.2)))) (xX ti)with
   |some l=>⟨en c v (ps.toList.map (·.2))/\Au T t=true, .agg l,r⟩
   |none=>aZ
  |none=>aZ
 | .buildSlice t n ps=>match iK T t,dst with
  |some (_,ei),some d=>
   let r0:=aN d {next:=ar r d,l:=[]} r
   let ys:=eP v (ps.toList.map (·.2))
   match kQ r0 (ys.flatMap cellsOf)with
   |some (ds,r')=>⟨en c v (ps.toList.map (·.2))/\ps.toList.map (·.1)=List.range n/\ei.size≠0/\n*ei.size≤2^24/\(∀y∈ys,(cellsOf y).length=ei.size),
     .one (.own ⟨d,1,ar r d⟩ 0 n),
     aN d {next:=ar r d+1,l:=[none,some {e:=ar r d,var:=false,fz:=false,sz:=ei.size,cells:=ds.map C.d}]} r'⟩
   |none=>aZ
  |_,_=>aZ
 | .makeSlice t l k=>(wg T r c dst t (ev v l) (ev v k)).with (bX c v l/\bX c v k)
 | .call {callee:= .builtin .append,args:=args,argTypes:=ts}=>match args.toList with
  |[s,x]=>(qE T r c dst ts (ev v s) (ev v x)).with (bX c v s/\bX c v x)
  |_=>aZ
 | .call {callee:= .builtin .len,args:=args,argTypes:=ts}=>match args.toList with
  |[x]=>(pO T r ts[0]? (ev v x)).with (bX c v x)
  |_=>aZ
 | .call {callee:= .builtin .cap,args:=args,argTypes:=ts}=>match args.toList with
  |[x]=>(pI T r ts[0]? (ev v x)).with (bX c v x)
  |_=>aZ
 | .call {callee:= .builtin .copy,args:=args,argTypes:=ts}=>match args.toList with
  |[y,x]=>(qq T r ts (ev v y) (ev v x)).with (bX c v y/\bX c v x)
  |_=>aZ
 | .call {callee:= .builtin .clear,args:=args,argTypes:=ts}=>match args.toList with
  |[y]=>(qn T r ts (ev v y)).with (bX c v y)
  |_=>aZ
 | .call {callee:= .builtin .max,args:=args,argTypes:=_}=>(mL r true (eP v args.toList)).with (en c v args.toList)
 | .call {callee:= .builtin .min,args:=args,argTypes:=_}=>(mL r false (eP v args.toList)).with (en c v args.toList)
 |_=>aZ
def dY (v:List AV) (r:Rs) (f:Operand) (args:Array Operand):Option (FuncId×List Arg):=
 match om (ev v f),gD r (eP v args.toList)with
 |some (n,caps),some as=>match gD r (caps.map AV.one)with
  |some cs=>some (n,as++cs)
  |none=>none
 |_,_=>none
def DP:Op->Bool
 | .move _| .pick .. | .unOp .. | .binOp .. | .convert .. | .extract .. | .load .. | .fieldAddr .. | .field .. | .indexAddr .. | .index .. | .slice .. | .makeFunc .. | .nilCheck _| .build .. | .makeInterface .. =>true
 | .call {callee:= .builtin .len, .. }=>true
 | .call {callee:= .builtin .max, .. }=>true
 | .call {callee:= .builtin .min, .. }=>true
 |_=>false
def gi (ops:List Oper) (v:List AV) (j:Nat):Option (Bool×Bool):=
 match ops[j]? with
 |some o=>match o.dst with
  |some d=>sX (v.getD d (.one .dead))
  |none=>none
 |none=>none
def cq (v:List AV) (dst:Option Nat) (x:AV):List AV:=
 match dst with
 |some d=>v.set d x
 |none=>v
def Bm (o:Out) (k:AV->Rs->Prop):Prop:=o.sc/\k o.x o.r
def qT (c:Bool) (p:Prop):Prop:=c=true->p
theorem Lc {c:Bool}:qT c True=True:=by simp[qT]
theorem DX {c:Bool} {p:Prop} (h:p):qT c p:=λ _=>h
theorem N0 {p:Prop}:qT true p=p:=by simp[qT]
theorem Nu {p:Prop}:qT false p=True:=by simp[qT]
def Eo (c:Bool) (o:Out) (k:AV->Rs->Prop):Prop:=qT c o.sc/\k o.x o.r
theorem Eo.congr {c:Bool} {o o':Out} {k:AV->Rs->Prop} (h:o=o'):Eo c o k=Eo c o' k:=by rw[h]
theorem Bm.congr {o o':Out} {k:AV->Rs->Prop} (h:o=o'):Bm o k=Bm o' k:=by rw[h]
def lM (P:Program) (c:Bool) (a:Option (FuncId×List Arg)) (K:List RF->Prop):Prop:=
 match a with
 |some (n,as)=>Eu P c n as K
 |none=>False
theorem lM.congr {P:Program} {c:Bool} {a a':Option (FuncId×List Arg)} {K:List RF->Prop} (h:a=a'):lM P c a K=lM P c a' K:=by rw[h]
mutual
def ck:C->List Nat
 | .own h _ _=>[h.s]
 | .ptr h _=>[h.s]
 | .fx _ caps=>cK caps
 | .d _=>[]
 | .aC _ _=>[]
 | .fJ _=>[]
 | .ab=>[]
 | .dead=>[]
 | .ib cs=>cK cs
 | .eX h _ _ _=>[h.s]
 | .lk h _ _=>[h.s]
def cK:List C->List Nat
 |[]=>[]
 |c::cs=>ck c++cK cs
end
mutual
def cj:AV->List Nat
 | .one x=>ck x
 | .agg l=>cK l
 | .ig l=>i3 l
 | .gd _ x=>cj x
def i3:List AV->List Nat
 |[]=>[]
 |x::xs=>cj x++i3 xs
end
def gk (v:List AV) (x:Operand):List Nat:=cj (b6 v x)
def gS (v:List AV):List Operand->List Nat
 |[]=>[]
 |x::xs=>gk v x++gS v xs
def pP (v:List AV):List Operand->List Nat
 |[]=>[]
 |x::_=>gk v x
inductive Mv where
 |o (h:Hd)
 |r (h:Hd) (n:Nat)
def Mv.s:Mv->Nat
 | .o h=>h.s
 | .r h _=>h.s
def tn (s:Nat):List (Nat×Nat)->Bool
 |[]=>true
 |p::l=>p.1==s&&tn s l
def A9:C->Option (Hd×Nat×Nat)
 | .own h lo n=>some (h,lo,n)
 |_=>none
def oW:List C->Option (List C×(Hd×Nat×Nat)×List C)
 |[]=>none
 |x::xs=>match A9 x with
  |some q=>some ([],q,xs)
  |none=>match oW xs with
   |some (a,q,b)=>some (x::a,q,b)
   |none=>none
def iT (r:Rs):AV->Option (Arg×Mv)
 | .agg l=>match oW l with
  |some (a,(h,lo,n),b)=>match bW.lendCs r a,bW.lendCs r b,aQ r h with
   |some a',some b',some res=>match dC res.cells with
    |some ds=>if res.var=false/\res.fz=false/\lo=0/\(cK a++cK b).contains h.s=false then some (.fW a' b' res.sz n ds, .r h n)else none
    |none=>none
   |_,_,_=>none
  |none=>none
 | .one (.ptr h off)=>match aQ r h with
  |some res=>match eS r res.cells with
   |some l=>if res.var=true/\h.j=0/\off=0/\((cK res.cells).all (·==h.s)&&(tn h.s (jg r res.cells)&&oN (jg r res.cells)))=true then some (.obj l, .o h)else none
   |none=>none
  |none=>none
 | .one (.own h lo n)=>match aQ r h with
  |some res=>match dC res.cells with
   |some ds=>if res.var=false/\res.fz=false/\lo=0 then some (.row res.sz n ds, .r h n)else none
   |none=>none
  |none=>none
 |_=>none
def lJ (r:Rs):Nat->List AV->Option (List Arg×Mv)
 |_,[]=>none
 |0,x::xs=>match iT r x,gD r xs with
  |some (y,mv),some ys=>some (y::ys,mv)
  |_,_=>none
 |i+1,x::xs=>match qs r x,lJ r i xs with
  |some y,some (ys,mv)=>some (.f y::ys,mv)
  |_,_=>none
def dl:Option Nat->List Nat
 |none=>[]
 |some d=>[d]
def mW:Nat->List AV->List Nat
 |_,[]=>[]
 |0,_::xs=>i3 xs
 |i+1,x::xs=>cj x++mW i xs
def fF (i:Nat) (v:List AV) (r:Rs) (f:Operand) (args:Array Operand):Option (FuncId×List Arg×Mv×List Nat):=
 match om (ev v f),lJ r i (eP v args.toList)with
 |some (n,caps),some (as,mv)=>match gD r (caps.map AV.one)with
  |some cs=>some (n,as++cs,mv,mW i (eP v args.toList)++cK caps)
  |none=>none
 |_,_=>none
def fA (r:Rs) (dst:Option Nat) (mv:Mv) (aC:List Nat) (l':List RO):Prop:=
 match mv with
 | .o h=>match aQ r h with
  |some res=>(dl dst++aC).contains h.s=false/\l'.length=res.cells.length
  |none=>False
 | .r h n=>match aQ r h with
  |some res=>(dl dst++aC).contains h.s=false/\(match l' with
   |[]=>True
   |[.own sz n' ds' _]=>n'=n/\0<n/\sz=res.sz/\ds'.length=res.cells.length
   |_=>False)
  |none=>False
def pQ (r:Rs) (mv:Mv):Bool:=
 match ao mv.s r with
 |some rs=>rs.l.any λ x=>match x with|some res=>res.dR|none=>false
 |none=>false
def nh (r:Rs) (mv:Mv) (l':List RO):Rs:=
 match mv with
 | .o h=>match aQ r h with
  |some res=>aN h.s {next:=ar r h.s+1,l:=some {res with cells:=fT h.s (ar r h.s) 0 l'}::fM (pQ r (.o h)) (ar r h.s) l'} r
  |none=>r
 | .r h _=>match aQ r h,ao h.s r with
  |some res,some rs=>(match l' with
   |[.own _ _ ds' _]=>aN h.s {rs with l:=rs.l.set h.j (some {res with cells:=ds'.map C.d})} r
   |_=>aN h.s {rs with l:=rs.l.set h.j none} r)
  |_,_=>r
def bindM (r:Rs) (dst:Option Nat) (mv:Mv) (rfs:List RF) (l':List RO):AV×Rs:=kh (pQ r mv) (nh r mv l') dst rfs
abbrev pK:Nat:=1000000
def fG (r:Rs) (d:Nat) (rfs:List RF) (l:List RO):AV×Rs:=
 if jF (rfs.flatMap RF.cells)=true then
  (kZ (.one (.ptr ⟨d,0,ar r d⟩ 0)::jf 0 0 0 rfs),aN d {next:=ar r d+1,l:=some {e:=ar r d,var:=true,fz:=false,sz:=0,cells:=fT d (ar r d) 0 l}::fM false (ar r d) l} r)
 else(kZ (.one (.ptr ⟨d,0,ar r d⟩ 0)::jf (d+pK) (ar r (d+pK)) 0 rfs),
  aN (d+pK) {next:=ar r (d+pK)+1,l:=none::fM false (ar r (d+pK)) (rfs.flatMap RF.cells)}
   (aN d {next:=ar r d+1,l:=some {e:=ar r d,var:=true,fz:=false,sz:=0,cells:=fT d (ar r d) 0 l}::fM false (ar r d) l} r))
def AS (P:Program) (f:FuncId) (args:List Arg) (post:List dQ->List RF->List (List RO)->Prop):Prop:=
 (∀(us:Array Value) (w:World),(callFunc f us).run P w= .ok (.enter f us) w)/\
 ∀(w:World) (A0:Nat->Prop) (us:List Value),(∀b,A0 b->b<w.heap.size)->bP P w A0 (λ _=>False) (λ _=>⟨none,0⟩) 0 args [] us->
  Calls P f us.toArray w λ e w'=>∃bs rfs objs u,post bs rfs objs/\e= .returned u/\(∀b∈cW bs,w.heap.size≤b)/\fl w (λ b=>A0 b∨b∈cW bs) (λ _=>False) w' bs rfs objs u
abbrev gY (b:Nat):Value:= .pointer (some ⟨b,0,none⟩)
def uK (P:Program) (f:FuncId) (args:List Arg) (rfs:List RF) (l:List RO):Prop:=
 AS P f args λ bs r o=>∃b,bs=[.dI b]/\r= .one (.d (.v (gY b)))::rfs/\o=[l]
def rB (P:Program) (a:Option (FuncId×List Arg)) (K:List RF->List RO->Prop):Prop:=
 match a with
 |some (n,as)=>∃rfs l,uK P n as rfs l/\K rfs l
 |none=>False
def rC (P:Program) (r:Rs) (dst:Option Nat) (a:Option (FuncId×List Arg×Mv×List Nat)) (K:Mv->List RF->List RO->Prop):Prop:=
 match a with
 |some (n,as,mv,aC)=>∃rfs l',ah P n as (λ r o=>r=rfs/\o=[l'])/\fA r dst mv aC l'/\K mv rfs l'
 |none=>False
structure FP where
 t:List Nat
 w:List Nat
def FP.both (l:List Nat):FP:=⟨l,l⟩
def dt (v:List AV) (dst:Option Nat) (op:Op):FP:=
 match op with
 | .load _ x=>⟨gk v x,[]⟩
 | .convert _ _ x=>⟨gk v x,[]⟩
 | .fieldAddr _ x _=>⟨gk v x,[]⟩
 | .indexAddr _ x _=>⟨gk v x,[]⟩
 | .slice _ x _ _ _=>⟨gk v x,[]⟩
 | .nilCheck x=>⟨gk v x,[]⟩
 | .binOp _ _ x y _=>⟨gk v x++gk v y,[]⟩
 | .alloc _=> .both (dl dst)
 | .makeSlice _ l k=> .both (gk v l++(gk v k++dl dst))
 | .assign x=> .both (gk v x++dl dst)
 | .box _ x=> .both (gk v x++dl dst)
 | .store _ a x=> .both (gk v a++gk v x)
 | .buildSlice _ _ ps=> .both (gS v (ps.toList.map (·.2))++dl dst)
 | .call {callee:= .value f,args:=args,argTypes:=_}=>⟨gk v f++(gS v args.toList++dl dst),dl dst⟩
 | .call {callee:= .builtin .append,args:=args,argTypes:=_}=>⟨gS v args.toList++dl dst,pP v args.toList++dl dst⟩
 | .call {callee:= .builtin .copy,args:=args,argTypes:=_}=>⟨gS v args.toList,pP v args.toList⟩
 | .call {callee:= .builtin .clear,args:=args,argTypes:=_}=>⟨gS v args.toList,pP v args.toList⟩
 | .call {callee:= .builtin .cap,args:=args,argTypes:=_}=>⟨gS v args.toList,[]⟩
 | .call {callee:= .builtin .len,args:=args,argTypes:=_}=>⟨gS v args.toList,[]⟩
 |_=>⟨[],[]⟩
def fpM (v:List AV) (dst:Option Nat) (op:Op) (s:Nat):FP:=⟨(dt v dst op).t++[s],s::dl dst⟩
structure M where
 fp:Option (List FP)
 off:List (Nat×Bool)
def jO (dst:Option Nat) (s:Nat):M->M
 |⟨some (fp::l),off⟩=>⟨some (⟨fp.t++[s],s::dl dst⟩::l),off⟩
 |x=>x
def dK (m:M) (v:List AV) (dst:Option Nat) (op:Op):M:=
 match m with
 |⟨none,off⟩=>⟨none,off⟩
 |⟨some l,off⟩=>⟨some (dt v dst op::l),off⟩
def wG:List (Nat×Bool)->Nat->Bool->Bool
 |[],_,_=>false
 |(a,b)::l,j,w=>(a==j&&b==w)||wG l j w
abbrev rN:AV:= .gd false (.one (.d (.v (.bool false))))
def ET (want:Bool):Option (Bool×Bool)->Prop
 |some (c',b)=>(c'&&(b==want))=false
 |none=>False
def qc (ops:List Oper):List Nat:=
 ops.foldl (λ acc o=>acc++[o.after.foldl (λ s e=>if Region.binds .any e then s|||2^e.on|||acc.getD e.on 0 else s) 0]) []
def yI (a b:List Nat):Bool:=a.all λ x=> !b.contains x
def FP.apart (x y:FP):Bool:=yI x.w y.t&&yI x.t y.w&&yI x.w y.w
def tm (all:List Oper) (recs:List FP):Bool:=
 recs.zipIdx.all λ y=>recs.zipIdx.all λ x=> !decide (x.2<y.2)||((qc all).getD y.2 0).testBit x.2||FP.apart x.1 y.1
def Bx (all:List Oper) (m:M):Prop:=
 match m.fp with
 |none=>True
 |some l=>tm all l.reverse=true
def Bg (P:Program) (v:List AV) (r:Rs) (f:Operand) (args:Array Operand) (d:Value):Prop:=
 flat d=true/\∃n,om (ev v f)=some (n,[])/\∀(cx:Cx) (v':List AV) (r':Rs) (a:Act) (w:World) (β:Nat->Nat->Pl),cx.P=P->(∀s∈gS v args.toList,ao s r'=ao s r)->
  aL cx ⟨v',r'⟩ a w β->∀us,bU cx w r' β (eP v args.toList) us->(callFunc n us.toArray).run P w= .ok (.value d) w
inductive Ex where
 |normal
 |exit (id:Nat)
 |ret
 |panic (x:Value)
def qG:Ex->Exit
 | .normal=> .normal
 | .exit id=> .exit id
 | .ret=> .ret
 | .panic x=> .panic [{v:=x,recovered:=false}]
def wL (P:Program) (y:Code) (g:G) (Q:Ex->G->Prop):Prop:=
 ∀(cx:Cx),cx.P=P->∀(R:Exit->Act->World->Prop),(∀e g a w,dJ cx g a w->Q e g->R (qG e) a w)->∀(a:Act) (w:World),dJ cx g a w->y.wp P R a w
structure vh (w:World) (aS:Nat->Prop) (w':World):Prop where
 size:w.heap.size≤w'.heap.size
 bZ:∀b,b<w.heap.size->¬aS b->w'.heap[b]? =w.heap[b]?
 os:w'.os=w.os
 out:w'.output=w.output
def gF (P:Program) (f:FuncId) (args:List Arg) (x:Value):Prop:=
 (∀(us:Array Value) (w:World),(callFunc f us).run P w= .ok (.enter f us) w)/\
 ∀(w:World) (A0 aS:Nat->Prop) (γ:Nat->Pl) (bs:List dQ) (us:List Value),(∀b,A0 b->b<w.heap.size)->(∀b,aS b->A0 b)->
  bP P w A0 aS γ 0 args bs us->(∀b,NB γ 0 (cn args) b->aS b/\b ∉ cW bs)->(cW bs).Nodup->uZ γ (cn args)->
  Calls P f us.toArray w λ e w'=>e= .panicked [{v:=x,recovered:=false}]/\vh w aS w'
def rO (r:Rs) (mv:Mv):Rs:=
 match ao mv.s r with
 |some rs=>aN mv.s {rs with l:=[]} r
 |none=>r
def Bu (P:Program) (m:M) (v:List AV) (r:Rs) (f:Operand) (args:Array Operand) (a:Option (FuncId×List Arg)) (K:Ex->G->Prop):Prop:=
 m.fp=none/\∃n as x,gF P n as x/\((a=some (n,as)/\K (.panic x) ⟨v,r⟩)∨(∃i mv aC l',fF i v r f args=some (n,as,mv,aC)/\fA r none mv aC l'/\K (.panic x) ⟨v,rO r mv⟩))
def Eb (m:M) (v:List AV) (r:Rs) (C:List AV->Rs->Prop):Prop:=
 m.fp=none/\∃i h lo n k ds r',v[i]? =some (.one (.own h lo n))/\
  (∀(cx:Cx) (a:Act) (w:World),dJ cx ⟨v,r⟩ a w->dJ cx ⟨v.set i (.one (.d (.sl k ds))),r'⟩ a w)/\C (v.set i (.one (.d (.sl k ds)))) r'
def Bw (m:M) (v:List AV) (r:Rs) (K:Ex->G->Prop) (y:AV):Prop:=
 m.fp=none/\match y with
  | .one (.d (.v (.iface t z)))=>K (.panic (.iface t z)) ⟨v,r⟩
  |_=>False
def bS (all:List Oper):M->List Oper->List AV->Rs->(Ex->G->Prop)->Prop
 |m,[],v,r,K=>Bx all m/\K .normal ⟨v,r⟩
 |m,o::rest,v,r,K=>
  match o.guard with
  |none=>match o.op with
   | .call {callee:= .value f,args:=args,argTypes:=_}=>bX true v f/\en true v args.toList/\
     ((lM P true (dY v r f args) λ rfs=>bS all (dK m v o.dst o.op) rest (cq v o.dst (eT r o.dst rfs).1) (eT r o.dst rfs).2 K)∨
      (∃i,rC P r o.dst (fF i v r f args) λ mv rfs l'=>bS all (jO o.dst mv.s (dK m v o.dst o.op)) rest (cq v o.dst (bindM r o.dst mv rfs l').1) (bindM r o.dst mv rfs l').2 K)∨
      (∃d,Bg P v r f args d/\bS all (dK m v o.dst o.op) rest (cq v o.dst (.one (.d (.v d)))) r K)∨
      (∃d,o.dst=some d/\rB P (dY v r f args) λ rfs l=>bS all (jO o.dst (d+pK) (dK m v o.dst o.op)) rest (cq v o.dst (fG r d rfs l).1) (fG r d rfs l).2 K)∨
      Bu P (dK m v o.dst o.op) v r f args (dY v r f args) K∨
      Eb (dK m v o.dst o.op) v r λ v' r'=>bX true v' f/\en true v' args.toList/\
      ((lM P true (dY v' r' f args) λ rfs=>bS all (dK m v o.dst o.op) rest (cq v' o.dst (eT r' o.dst rfs).1) (eT r' o.dst rfs).2 K)∨
       (∃i,rC P r' o.dst (fF i v' r' f args) λ mv rfs l'=>bS all (jO o.dst mv.s (dK m v o.dst o.op)) rest (cq v' o.dst (bindM r' o.dst mv rfs l').1) (bindM r' o.dst mv rfs l').2 K)∨
       (∃d,o.dst=some d/\rB P (dY v' r' f args) λ rfs l=>bS all (jO o.dst (d+pK) (dK m v o.dst o.op)) rest (cq v' o.dst (fG r' d rfs l).1) (fG r' d rfs l).2 K)))
   | .panic y=>bX true v y/\Bw (dK m v o.dst o.op) v r K (ev v y)
   |op=>Bm (aB T true v r o.dst op) λ x r'=>bS all (dK m v o.dst o.op) rest (cq v o.dst x) r' K
  |some (j,want)=>
   match wG (dK m v o.dst o.op).off j want with
   |true=>ET want (gi all v j)/\bS all (dK m v o.dst o.op) rest (cq v o.dst rN) r K
   |false=>match gi all v j with
   |some (c',b)=>
    match o.op with
    | .call {callee:= .value f,args:=args,argTypes:=_}=>bX (c'&&(b==want)) v f/\en (c'&&(b==want)) v args.toList/\
      ((lM P (c'&&(b==want)) (dY v r f args) λ rfs=>jF (rfs.flatMap RF.cells)=true/\
       bS all (dK m v o.dst o.op) rest (cq v o.dst (.gd (c'&&(b==want)) (kZ (jf 0 0 0 rfs)))) r K)∨
       ((c'&&(b==want))=false/\bS all (dK m v o.dst o.op) rest (cq v o.dst rN) r K)∨
       (((c'&&(b==want))=true->(lM P true (dY v r f args) λ rfs=>bS all (dK m v o.dst o.op) rest (cq v o.dst (eT r o.dst rfs).1) (eT r o.dst rfs).2 K)∨
        (∃i,rC P r o.dst (fF i v r f args) λ mv rfs l'=>bS all (jO o.dst mv.s (dK m v o.dst o.op)) rest (cq v o.dst (bindM r o.dst mv rfs l').1) (bindM r o.dst mv rfs l').2 K)∨
        (∃d,Bg P v r f args d/\bS all (dK m v o.dst o.op) rest (cq v o.dst (.one (.d (.v d)))) r K)∨
        (∃d,o.dst=some d/\rB P (dY v r f args) λ rfs l=>bS all (jO o.dst (d+pK) (dK m v o.dst o.op)) rest (cq v o.dst (fG r d rfs l).1) (fG r d rfs l).2 K)∨
        Bu P (dK m v o.dst o.op) v r f args (dY v r f args) K∨
        Eb (dK m v o.dst o.op) v r λ v' r'=>bX true v' f/\en true v' args.toList/\
         ((lM P true (dY v' r' f args) λ rfs=>bS all (dK m v o.dst o.op) rest (cq v' o.dst (eT r' o.dst rfs).1) (eT r' o.dst rfs).2 K)∨
          (∃i,rC P r' o.dst (fF i v' r' f args) λ mv rfs l'=>bS all (jO o.dst mv.s (dK m v o.dst o.op)) rest (cq v' o.dst (bindM r' o.dst mv rfs l').1) (bindM r' o.dst mv rfs l').2 K)∨
          (∃d,o.dst=some d/\rB P (dY v' r' f args) λ rfs l=>bS all (jO o.dst (d+pK) (dK m v o.dst o.op)) rest (cq v' o.dst (fG r' d rfs l).1) (fG r' d rfs l).2 K)))/\
        ((c'&&(b==want))=false->bS all ⟨(dK m v o.dst o.op).fp,(j,want)::(dK m v o.dst o.op).off⟩ rest (cq v o.dst rN) r K)))
    |op=>if DP op=true then Eo (c'&&(b==want)) (aB T (c'&&(b==want)) v r o.dst op) λ x _=>bS all (dK m v o.dst o.op) rest (cq v o.dst (.gd (c'&&(b==want)) x)) r K
     else((c'&&(b==want))=true->Bm (aB T true v r o.dst op) λ x r'=>bS all (dK m v o.dst o.op) rest (cq v o.dst x) r' K)/\
      ((c'&&(b==want))=false->bS all ⟨(dK m v o.dst o.op).fp,(j,want)::(dK m v o.dst o.op).off⟩ rest (cq v o.dst rN) r K)
   |none=>False
theorem bS.congr {all ops:List Oper} {m:M} {v v':List AV} {r r':Rs} {K:Ex->G->Prop} (h1:v=v') (h2:r=r'):bS T P all m ops v r K=bS T P all m ops v' r' K:=by rw[h1,h2]
def EW (f:G->Prop) (g:G):Prop:=f g
theorem EW.congr {f:G->Prop} {g g':G} (h:g=g'):EW f g=EW f g':=by rw[h]
def Gh (g g':G):Prop:=∀(cx:Cx) (a:Act) (w:World),dJ cx g a w->dJ cx g' a w
def acV (round:G->(Ex->G->Prop)->Prop) (g:G) (Q:Ex->G->Prop):Prop:=
 ∃(I:Nat->G->Prop) (n0:Nat),(∃g0,Gh g g0/\I n0 g0)/\∀n g',I n g'->round g' λ e g''=>match e with
  | .normal=>∃n' g0,n'<n/\Gh g'' g0/\I n' g0
  |e=>Q e g''
def yF (l:List Oper):Bool:=
 Region.noSelect l.toArray&&
 l.zipIdx.all λ y=>y.1.after.all (λ e=> !Region.binds .any e||decide (e.on<y.2))&&
  l.zipIdx.all λ x=> !decide (x.2<y.2)||((qc l).getD y.2 0).testBit x.2||x.1.apart l.toArray y.1
def uQ (l:List Oper):Prop:=yF l=true
def cH:Code->G->(Ex->G->Prop)->Prop
 | .skip,g,Q=>Q .normal g
 | .region _ ops d,g,Q=>match d with
  |true=>uQ ops.toList/\bS T P ops.toList ⟨some [],[]⟩ ops.toList g.v g.r Q
  |false=>bS T P ops.toList ⟨none,[]⟩ ops.toList g.v g.r Q
 | .seq x y,g,Q=>cH x g λ e g'=>match e with
  | .normal=>(∃g'',Gh g' g''/\EW (λ g=>cH y g Q) g'')∨wL P y g' Q
  |e=>Q e g'
 | .cond c x y,g,Q=>match ev g.v c with
  | .one (.d (.v (.bool b)))=>bX true g.v c/\(b=true->cH x g Q)/\(b=false->cH y g Q)
  | .one .ab=>bX true g.v c/\cH x g Q/\cH y g Q
  |_=>False
 | .block id x,g,Q=>cH x g λ e g'=>match e with
  | .exit id'=>if id'=id then Q .normal g' else Q (.exit id') g'
  |e=>Q e g'
 | .loop x,g,Q=>acV (λ g Q=>cH x g Q) g Q
 | .exit id,g,Q=>Q (.exit id) g
 | .ret,g,Q=>Q .ret g
 | .scope x,g,Q=>cH x g Q
 | .label _,g,Q=>Q .normal g
 |_,_,_=>False
def gZ (y:Code) (Q:Ex->G->Prop) (e:Ex) (g:G):Prop:=
 match e with
 | .normal=>(∃g',Gh g g'/\cH T P y g' Q)∨wL P y g Q
 |e=>Q e g
def wR (id:Nat) (Q:Ex->G->Prop) (e:Ex) (g:G):Prop:=
 match e with
 | .exit id'=>if id'=id then Q .normal g else Q (.exit id') g
 |e=>Q e g
def yf (x:Code) (g:G) (Q:Ex->G->Prop):Prop:=
 ∃(I:Nat->G->Prop) (n0:Nat),(∃g0,Gh g g0/\I n0 g0)/\∀n g',I n g'->cH T P x g' λ e g''=>match e with
  | .normal=>∃n' g0,n'<n/\Gh g'' g0/\I n' g0
  |e=>Q e g''
def A8 (v:AV) (s:Prop) (x y:Code) (g:G) (Q:Ex->G->Prop):Prop:=
 match v with
 | .one (.d (.v (.bool b)))=>s/\(b=true->cH T P x g Q)/\(b=false->cH T P y g Q)
 | .one .ab=>s/\cH T P x g Q/\cH T P y g Q
 |_=>False
def HW (all:List Oper) (m:M) (rest:List Oper) (dst:Option Nat) (v:List AV) (K:Ex->G->Prop) (o:Out):Prop:=o.sc/\bS T P all m rest (cq v dst o.x) o.r K
def jL (all:List Oper) (m:M) (rest:List Oper) (c:Bool) (dst:Option Nat) (v:List AV) (r:Rs) (K:Ex->G->Prop) (o:Out):Prop:=qT c o.sc/\bS T P all m rest (cq v dst (.gd c o.x)) r K
def pC (all:List Oper) (m:M) (rest:List Oper) (dst:Option Nat) (v:List AV) (r:Rs) (K:Ex->G->Prop) (f:Operand) (args:Array Operand) (a:Option (FuncId×List Arg)):Prop:=
 (lM P true a λ rfs=>bS T P all m rest (cq v dst (eT r dst rfs).1) (eT r dst rfs).2 K)∨
  (∃i,rC P r dst (fF i v r f args) λ mv rfs l'=>bS T P all (jO dst mv.s m) rest (cq v dst (bindM r dst mv rfs l').1) (bindM r dst mv rfs l').2 K)∨
  (∃d,Bg P v r f args d/\bS T P all m rest (cq v dst (.one (.d (.v d)))) r K)∨
  (∃d,dst=some d/\rB P a λ rfs l=>bS T P all (jO dst (d+pK) m) rest (cq v dst (fG r d rfs l).1) (fG r d rfs l).2 K)∨
  Bu P m v r f args a K∨
  Eb m v r λ v' r'=>bX true v' f/\en true v' args.toList/\
   ((lM P true (dY v' r' f args) λ rfs=>bS T P all m rest (cq v' dst (eT r' dst rfs).1) (eT r' dst rfs).2 K)∨
    (∃i,rC P r' dst (fF i v' r' f args) λ mv rfs l'=>bS T P all (jO dst mv.s m) rest (cq v' dst (bindM r' dst mv rfs l').1) (bindM r' dst mv rfs l').2 K)∨
    (∃d,dst=some d/\rB P (dY v' r' f args) λ rfs l=>bS T P all (jO dst (d+pK) m) rest (cq v' dst (fG r' d rfs l).1) (fG r' d rfs l).2 K))
def AH (all:List Oper) (m:M) (rest:List Oper) (c:Bool) (dst:Option Nat) (v:List AV) (r:Rs) (K:Ex->G->Prop) (f:Operand) (args:Array Operand) (j:Nat) (want:Bool) (a:Option (FuncId×List Arg)):Prop:=
 (lM P c a λ rfs=>jF (rfs.flatMap RF.cells)=true/\bS T P all m rest (cq v dst (.gd c (kZ (jf 0 0 0 rfs)))) r K)∨
  (c=false/\bS T P all m rest (cq v dst rN) r K)∨
  ((c=true->pC T P all m rest dst v r K f args a)/\(c=false->bS T P all ⟨m.fp,(j,want)::m.off⟩ rest (cq v dst rN) r K))
def ED (all:List Oper) (m:M) (rest:List Oper) (v:List AV) (r:Rs) (K:Ex->G->Prop) (dst:Option Nat) (op:Op):Prop:=
 match op with
 | .call {callee:= .value f,args:=args,argTypes:=_}=>bX true v f/\en true v args.toList/\pC T P all m rest dst v r K f args (dY v r f args)
 | .panic y=>bX true v y/\Bw m v r K (ev v y)
 |op=>HW T P all m rest dst v K (aB T true v r dst op)
def acL (all:List Oper) (m:M) (rest:List Oper) (v:List AV) (r:Rs) (K:Ex->G->Prop) (dst:Option Nat) (op:Op) (c:Bool) (j:Nat) (want:Bool):Prop:=
 (c=true->HW T P all m rest dst v K (aB T true v r dst op))/\(c=false->bS T P all ⟨m.fp,(j,want)::m.off⟩ rest (cq v dst rN) r K)
def EI (all:List Oper) (m:M) (rest:List Oper) (v:List AV) (r:Rs) (K:Ex->G->Prop) (dst:Option Nat) (op:Op) (c:Bool) (j:Nat) (want:Bool):Prop:=
 match op with
 | .call {callee:= .value f,args:=args,argTypes:=_}=>bX c v f/\en c v args.toList/\AH T P all m rest c dst v r K f args j want (dY v r f args)
 | .move _=>jL T P all m rest c dst v r K (aB T c v r dst op)
 | .pick .. =>jL T P all m rest c dst v r K (aB T c v r dst op)
 | .unOp .. =>jL T P all m rest c dst v r K (aB T c v r dst op)
 | .binOp .. =>jL T P all m rest c dst v r K (aB T c v r dst op)
 | .convert .. =>jL T P all m rest c dst v r K (aB T c v r dst op)
 | .makeInterface .. =>jL T P all m rest c dst v r K (aB T c v r dst op)
 | .extract .. =>jL T P all m rest c dst v r K (aB T c v r dst op)
 | .load .. =>jL T P all m rest c dst v r K (aB T c v r dst op)
 | .fieldAddr .. =>jL T P all m rest c dst v r K (aB T c v r dst op)
 | .indexAddr .. =>jL T P all m rest c dst v r K (aB T c v r dst op)
 | .index .. =>jL T P all m rest c dst v r K (aB T c v r dst op)
 | .field .. =>jL T P all m rest c dst v r K (aB T c v r dst op)
 | .slice .. =>jL T P all m rest c dst v r K (aB T c v r dst op)
 | .makeFunc .. =>jL T P all m rest c dst v r K (aB T c v r dst op)
 | .nilCheck _=>jL T P all m rest c dst v r K (aB T c v r dst op)
 | .build .. =>jL T P all m rest c dst v r K (aB T c v r dst op)
 | .call {callee:= .builtin .len, .. }=>jL T P all m rest c dst v r K (aB T c v r dst op)
 | .call {callee:= .builtin .max, .. }=>jL T P all m rest c dst v r K (aB T c v r dst op)
 | .call {callee:= .builtin .min, .. }=>jL T P all m rest c dst v r K (aB T c v r dst op)
 |_=>acL T P all m rest v r K dst op c j want
def EO (all:List Oper) (m:M) (rest:List Oper) (v:List AV) (r:Rs) (K:Ex->G->Prop) (dst:Option Nat) (op:Op) (j:Nat) (want:Bool) (gd:Option (Bool×Bool)):Prop:=
 match wG m.off j want with
 |true=>ET want gd/\bS T P all m rest (cq v dst rN) r K
 |false=>match gd with
  |some (c',b)=>EI T P all m rest v r K dst op (c'&&(b==want)) j want
  |none=>False
theorem K9 {all:List Oper} {m:M} {v:List AV} {r:Rs} {K:Ex->G->Prop}:bS T P all m [] v r K=(Bx all m/\K .normal ⟨v,r⟩):=rfl
theorem KZ {all:List Oper} {m:M} {rest:List Oper} {v:List AV} {r:Rs} {K:Ex->G->Prop} {dst:Option Nat} {op:Op} {ty:Nat} {pos:String} {after:Array Edge}:
  bS T P all m (⟨dst,op,ty,pos,after,none⟩::rest) v r K=ED T P all (dK m v dst op) rest v r K dst op:=by
 unfold bS ED;dsimp only;split<;>rfl
theorem I0 {all:List Oper} {m:M} {rest:List Oper} {v:List AV} {r:Rs} {K:Ex->G->Prop} {dst:Option Nat} {op:Op} {ty:Nat} {pos:String} {after:Array Edge} {j:Nat} {want:Bool}:
  bS T P all m (⟨dst,op,ty,pos,after,some (j,want)⟩::rest) v r K=EO T P all (dK m v dst op) rest v r K dst op j want (gi all v j):=by
 unfold bS EO;dsimp only;split
 .rfl
 split
 .unfold EI;cases op with
  |call k=>
   obtain⟨callee,args,ts⟩:=k;cases callee with
   |builtin bi=>cases bi<;>rfl
   |value _=>rfl
   |invoke _ _=>rfl
  |_=>rfl
 .rfl
theorem Nk {all:List Oper} {m:M} {rest:List Oper} {dst:Option Nat} {v:List AV} {K:Ex->G->Prop} {p:Prop} {x:AV} {r:Rs}:
  HW T P all m rest dst v K ⟨p,x,r⟩=(p/\bS T P all m rest (cq v dst x) r K):=rfl
theorem MP {all:List Oper} {m:M} {rest:List Oper} {c:Bool} {dst:Option Nat} {v:List AV} {r:Rs} {K:Ex->G->Prop} {p:Prop} {x:AV} {r':Rs}:
  jL T P all m rest c dst v r K ⟨p,x,r'⟩=(qT c p/\bS T P all m rest (cq v dst (.gd c x)) r K):=rfl
theorem Me {all:List Oper} {m:M} {rest:List Oper} {c:Bool} {dst:Option Nat} {v:List AV} {r:Rs} {K:Ex->G->Prop}:
  jL T P all m rest c dst v r K aZ=(qT c False/\bS T P all m rest (cq v dst (.gd c (.one .dead))) r K):=rfl
theorem L6 {g:G} {Q:Ex->G->Prop}:cH T P .skip g Q=Q .normal g:=rfl
theorem Lv {id:Nat} {g:G} {Q:Ex->G->Prop}:cH T P (.exit id) g Q=Q (.exit id) g:=rfl
theorem MA {g:G} {Q:Ex->G->Prop}:cH T P .ret g Q=Q .ret g:=rfl
theorem MK {id:Nat} {ops:List Oper} {v:List AV} {r:Rs} {Q:Ex->G->Prop}:cH T P (.region id ops.toArray false) ⟨v,r⟩ Q=bS T P ops ⟨none,[]⟩ ops v r Q:=by simp[cH]
theorem Li {id:Nat} {ops:List Oper} {v:List AV} {r:Rs} {Q:Ex->G->Prop}:cH T P (.region id ops.toArray true) ⟨v,r⟩ Q=
  (uQ ops/\bS T P ops ⟨some [],[]⟩ ops v r Q):=by
 simp[cH]
theorem dE {x y:Code} {g:G} {Q:Ex->G->Prop}:cH T P (.seq x y) g Q=cH T P x g (gZ T P y Q):=rfl
theorem L4 {c:Operand} {x y:Code} {v:List AV} {r:Rs} {Q:Ex->G->Prop}:cH T P (.cond c x y) ⟨v,r⟩ Q=A8 T P (ev v c) (bX true v c) x y ⟨v,r⟩ Q:=by rfl
theorem J5 {l:Nat} {g:G} {Q:Ex->G->Prop}:cH T P (.label l) g Q=Q .normal g:=rfl
theorem JY {x:Code} {g:G} {Q:Ex->G->Prop}:cH T P (.scope x) g Q=cH T P x g Q:=rfl
theorem Km {id:Nat} {x:Code} {g:G} {Q:Ex->G->Prop}:cH T P (.block id x) g Q=cH T P x g (wR id Q):=rfl
def tM (K:G->Prop) (Q:Ex->G->Prop) (e:Ex) (g:G):Prop:=
 match e with
 | .normal=>K g
 |e=>Q e g
theorem IQ {K:G->Prop} {Q:Ex->G->Prop} {g:G}:tM K Q .normal g=K g:=rfl
theorem KX {K:G->Prop} {Q:Ex->G->Prop} {g:G} {id:Nat}:tM K Q (.exit id) g=Q (.exit id) g:=rfl
theorem ke {K:G->Prop} {Q:Ex->G->Prop} {g:G} {x:Value}:tM K Q (.panic x) g=Q (.panic x) g:=rfl
theorem K7 {K:G->Prop} {Q:Ex->G->Prop} {g:G}:tM K Q .ret g=Q .ret g:=rfl
theorem Ac {x:Code} {g:G} {Q:Ex->G->Prop} {τ:Type} (S:τ->G) (J:τ->Prop) (m:τ->Nat) (t0:τ) (h0:Gh g (S t0)) (h1:J t0)
  (h2:∀t,J t->∀K:G->Prop,(∀g t',Gh g (S t')->J t'->m t'<m t->K g)->cH T P x (S t) (tM K Q)):yf T P x g Q:=by
 refine⟨λ n g'=>∃t,g'=S t/\J t/\m t=n,m t0,⟨S t0,h0,t0,rfl,h1,rfl⟩,λ n g' hI=> ?_⟩;obtain⟨t,rfl,e2,rfl⟩:=hI;exact h2 t e2 (λ g=>∃n' g0,n'<m t/\Gh g g0/\∃t',g0=S t'/\J t'/\m t'=n') (λ g t' k1 k2 k3=>⟨m t',S t',k3,k1,t',rfl,k2,rfl⟩)
theorem bH {y:Code} {Q:Ex->G->Prop} {g:G} (h:cH T P y g Q):gZ T P y Q .normal g:= .inl ⟨g,λ _ _ _ h=>h,h⟩
theorem vN {y:Code} {Q:Ex->G->Prop} {g:G} (h:wL P y g Q):gZ T P y Q .normal g:= .inr h
theorem KT {y:Code} {Q:Ex->G->Prop} {g:G} {id:Nat}:gZ T P y Q (.exit id) g=Q (.exit id) g:=rfl
theorem kf {y:Code} {Q:Ex->G->Prop} {g:G} {x:Value}:gZ T P y Q (.panic x) g=Q (.panic x) g:=rfl
theorem Mf {y:Code} {Q:Ex->G->Prop} {g:G}:gZ T P y Q .ret g=Q .ret g:=rfl
theorem IL {id:Nat} {Q:Ex->G->Prop} {g:G}:wR id Q .normal g=Q .normal g:=rfl
theorem Kv {id id':Nat} {Q:Ex->G->Prop} {g:G}:wR id Q (.exit id') g=if id'=id then Q .normal g else Q (.exit id') g:=rfl
theorem kd {id:Nat} {Q:Ex->G->Prop} {g:G} {x:Value}:wR id Q (.panic x) g=Q (.panic x) g:=rfl
theorem L7 {id:Nat} {Q:Ex->G->Prop} {g:G}:wR id Q .ret g=Q .ret g:=rfl
theorem vw {b:Bool} {s:Prop} {x y:Code} {g:G} {Q:Ex->G->Prop}:
  A8 T P (.one (.d (.v (.bool b)))) s x y g Q=(s/\(b=true->cH T P x g Q)/\(b=false->cH T P y g Q)):=rfl
end
set_option maxRecDepth 100000
theorem Uo {α:Type} {a0:α} {l:List α} {d:α}:List.getD (a0::l) 0 d=a0:=rfl
theorem cm {α:Type} {a0 x:α} {l:List α}:List.set (a0::l) 0 x=x::l:=rfl
theorem SY {α:Type} {a0 a1:α} {l:List α} {d:α}:List.getD (a0::a1::l) 1 d=a1:=rfl
theorem H4 {α:Type} {a0 a1 x:α} {l:List α}:List.set (a0::a1::l) 1 x=a0::x::l:=rfl
theorem TG {α:Type} {a0 a1 a2:α} {l:List α} {d:α}:List.getD (a0::a1::a2::l) 2 d=a2:=rfl
theorem UM {α:Type} {a0 a1 a2 x:α} {l:List α}:List.set (a0::a1::a2::l) 2 x=a0::a1::x::l:=rfl
theorem UF {α:Type} {a0 a1 a2 a3:α} {l:List α} {d:α}:List.getD (a0::a1::a2::a3::l) 3 d=a3:=rfl
theorem TY {α:Type} {a0 a1 a2 a3 x:α} {l:List α}:List.set (a0::a1::a2::a3::l) 3 x=a0::a1::a2::x::l:=rfl
theorem Sr {α:Type} {a0 a1 a2 a3 a4:α} {l:List α} {d:α}:List.getD (a0::a1::a2::a3::a4::l) 4 d=a4:=rfl
theorem UE {α:Type} {a0 a1 a2 a3 a4 x:α} {l:List α}:List.set (a0::a1::a2::a3::a4::l) 4 x=a0::a1::a2::a3::x::l:=rfl
theorem S6 {α:Type} {a0 a1 a2 a3 a4 a5:α} {l:List α} {d:α}:List.getD (a0::a1::a2::a3::a4::a5::l) 5 d=a5:=rfl
theorem TE {α:Type} {a0 a1 a2 a3 a4 a5 x:α} {l:List α}:List.set (a0::a1::a2::a3::a4::a5::l) 5 x=a0::a1::a2::a3::a4::x::l:=rfl
theorem Uk {α:Type} {a0 a1 a2 a3 a4 a5 a6:α} {l:List α} {d:α}:List.getD (a0::a1::a2::a3::a4::a5::a6::l) 6 d=a6:=rfl
theorem SE {α:Type} {a0 a1 a2 a3 a4 a5 a6 x:α} {l:List α}:List.set (a0::a1::a2::a3::a4::a5::a6::l) 6 x=a0::a1::a2::a3::a4::a5::x::l:=rfl
theorem Sc {α:Type} {a0 a1 a2 a3 a4 a5 a6 a7:α} {l:List α} {d:α}:List.getD (a0::a1::a2::a3::a4::a5::a6::a7::l) 7 d=a7:=rfl
theorem SZ {α:Type} {a0 a1 a2 a3 a4 a5 a6 a7 x:α} {l:List α}:List.set (a0::a1::a2::a3::a4::a5::a6::a7::l) 7 x=a0::a1::a2::a3::a4::a5::a6::x::l:=rfl
theorem S7 {α:Type} {a0 a1 a2 a3 a4 a5 a6 a7 a8:α} {l:List α} {d:α}:List.getD (a0::a1::a2::a3::a4::a5::a6::a7::a8::l) 8 d=a8:=rfl
theorem Ud {α:Type} {a0 a1 a2 a3 a4 a5 a6 a7 a8 x:α} {l:List α}:List.set (a0::a1::a2::a3::a4::a5::a6::a7::a8::l) 8 x=a0::a1::a2::a3::a4::a5::a6::a7::x::l:=rfl
theorem SO {α:Type} {a0 a1 a2 a3 a4 a5 a6 a7 a8 a9:α} {l:List α} {d:α}:List.getD (a0::a1::a2::a3::a4::a5::a6::a7::a8::a9::l) 9 d=a9:=rfl
theorem SV {α:Type} {a0 a1 a2 a3 a4 a5 a6 a7 a8 a9 x:α} {l:List α}:List.set (a0::a1::a2::a3::a4::a5::a6::a7::a8::a9::l) 9 x=a0::a1::a2::a3::a4::a5::a6::a7::a8::x::l:=rfl
theorem Rf {α:Type} {a0 a1 a2 a3 a4 a5 a6 a7 a8 a9 a10:α} {l:List α} {d:α}:List.getD (a0::a1::a2::a3::a4::a5::a6::a7::a8::a9::a10::l) 10 d=a10:=rfl
theorem OR {α:Type} {a0 a1 a2 a3 a4 a5 a6 a7 a8 a9 a10 x:α} {l:List α}:List.set (a0::a1::a2::a3::a4::a5::a6::a7::a8::a9::a10::l) 10 x=a0::a1::a2::a3::a4::a5::a6::a7::a8::a9::x::l:=rfl
theorem Re {α:Type} {a0 a1 a2 a3 a4 a5 a6 a7 a8 a9 a10 a11:α} {l:List α} {d:α}:List.getD (a0::a1::a2::a3::a4::a5::a6::a7::a8::a9::a10::a11::l) 11 d=a11:=rfl
theorem PW {α:Type} {a0 a1 a2 a3 a4 a5 a6 a7 a8 a9 a10 a11 x:α} {l:List α}:List.set (a0::a1::a2::a3::a4::a5::a6::a7::a8::a9::a10::a11::l) 11 x=a0::a1::a2::a3::a4::a5::a6::a7::a8::a9::a10::x::l:=rfl
theorem Pt {α:Type} {a0 a1 a2 a3 a4 a5 a6 a7 a8 a9 a10 a11 a12:α} {l:List α} {d:α}:List.getD (a0::a1::a2::a3::a4::a5::a6::a7::a8::a9::a10::a11::a12::l) 12 d=a12:=rfl
theorem Oy {α:Type} {a0 a1 a2 a3 a4 a5 a6 a7 a8 a9 a10 a11 a12 x:α} {l:List α}:List.set (a0::a1::a2::a3::a4::a5::a6::a7::a8::a9::a10::a11::a12::l) 12 x=a0::a1::a2::a3::a4::a5::a6::a7::a8::a9::a10::a11::x::l:=rfl
theorem Oz {α:Type} {a0 a1 a2 a3 a4 a5 a6 a7 a8 a9 a10 a11 a12 a13:α} {l:List α} {d:α}:List.getD (a0::a1::a2::a3::a4::a5::a6::a7::a8::a9::a10::a11::a12::a13::l) 13 d=a13:=rfl
theorem Pn {α:Type} {a0 a1 a2 a3 a4 a5 a6 a7 a8 a9 a10 a11 a12 a13 x:α} {l:List α}:List.set (a0::a1::a2::a3::a4::a5::a6::a7::a8::a9::a10::a11::a12::a13::l) 13 x=a0::a1::a2::a3::a4::a5::a6::a7::a8::a9::a10::a11::a12::x::l:=rfl
theorem Rm {α:Type} {a0 a1 a2 a3 a4 a5 a6 a7 a8 a9 a10 a11 a12 a13 a14:α} {l:List α} {d:α}:List.getD (a0::a1::a2::a3::a4::a5::a6::a7::a8::a9::a10::a11::a12::a13::a14::l) 14 d=a14:=rfl
theorem Qc {α:Type} {a0 a1 a2 a3 a4 a5 a6 a7 a8 a9 a10 a11 a12 a13 a14 x:α} {l:List α}:List.set (a0::a1::a2::a3::a4::a5::a6::a7::a8::a9::a10::a11::a12::a13::a14::l) 14 x=a0::a1::a2::a3::a4::a5::a6::a7::a8::a9::a10::a11::a12::a13::x::l:=rfl
theorem RN {α:Type} {a0 a1 a2 a3 a4 a5 a6 a7 a8 a9 a10 a11 a12 a13 a14 a15:α} {l:List α} {d:α}:List.getD (a0::a1::a2::a3::a4::a5::a6::a7::a8::a9::a10::a11::a12::a13::a14::a15::l) 15 d=a15:=rfl
theorem R8 {α:Type} {a0 a1 a2 a3 a4 a5 a6 a7 a8 a9 a10 a11 a12 a13 a14 a15 x:α} {l:List α}:List.set (a0::a1::a2::a3::a4::a5::a6::a7::a8::a9::a10::a11::a12::a13::a14::a15::l) 15 x=a0::a1::a2::a3::a4::a5::a6::a7::a8::a9::a10::a11::a12::a13::a14::x::l:=rfl
theorem PJ {α:Type} {a0 a1 a2 a3 a4 a5 a6 a7 a8 a9 a10 a11 a12 a13 a14 a15 a16:α} {l:List α} {d:α}:List.getD (a0::a1::a2::a3::a4::a5::a6::a7::a8::a9::a10::a11::a12::a13::a14::a15::a16::l) 16 d=a16:=rfl
theorem Qp {α:Type} {a0 a1 a2 a3 a4 a5 a6 a7 a8 a9 a10 a11 a12 a13 a14 a15 a16 x:α} {l:List α}:List.set (a0::a1::a2::a3::a4::a5::a6::a7::a8::a9::a10::a11::a12::a13::a14::a15::a16::l) 16 x=a0::a1::a2::a3::a4::a5::a6::a7::a8::a9::a10::a11::a12::a13::a14::a15::x::l:=rfl
theorem OQ {α:Type} {a0 a1 a2 a3 a4 a5 a6 a7 a8 a9 a10 a11 a12 a13 a14 a15 a16 a17:α} {l:List α} {d:α}:List.getD (a0::a1::a2::a3::a4::a5::a6::a7::a8::a9::a10::a11::a12::a13::a14::a15::a16::a17::l) 17 d=a17:=rfl
theorem Rg {α:Type} {a0 a1 a2 a3 a4 a5 a6 a7 a8 a9 a10 a11 a12 a13 a14 a15 a16 a17 x:α} {l:List α}:List.set (a0::a1::a2::a3::a4::a5::a6::a7::a8::a9::a10::a11::a12::a13::a14::a15::a16::a17::l) 17 x=a0::a1::a2::a3::a4::a5::a6::a7::a8::a9::a10::a11::a12::a13::a14::a15::a16::x::l:=rfl
theorem PT {α:Type} {a0 a1 a2 a3 a4 a5 a6 a7 a8 a9 a10 a11 a12 a13 a14 a15 a16 a17 a18:α} {l:List α} {d:α}:List.getD (a0::a1::a2::a3::a4::a5::a6::a7::a8::a9::a10::a11::a12::a13::a14::a15::a16::a17::a18::l) 18 d=a18:=rfl
theorem OZ {α:Type} {a0 a1 a2 a3 a4 a5 a6 a7 a8 a9 a10 a11 a12 a13 a14 a15 a16 a17 a18 x:α} {l:List α}:List.set (a0::a1::a2::a3::a4::a5::a6::a7::a8::a9::a10::a11::a12::a13::a14::a15::a16::a17::a18::l) 18 x=a0::a1::a2::a3::a4::a5::a6::a7::a8::a9::a10::a11::a12::a13::a14::a15::a16::a17::x::l:=rfl
theorem Pb {α:Type} {a0 a1 a2 a3 a4 a5 a6 a7 a8 a9 a10 a11 a12 a13 a14 a15 a16 a17 a18 a19:α} {l:List α} {d:α}:List.getD (a0::a1::a2::a3::a4::a5::a6::a7::a8::a9::a10::a11::a12::a13::a14::a15::a16::a17::a18::a19::l) 19 d=a19:=rfl
theorem RV {α:Type} {a0 a1 a2 a3 a4 a5 a6 a7 a8 a9 a10 a11 a12 a13 a14 a15 a16 a17 a18 a19 x:α} {l:List α}:List.set (a0::a1::a2::a3::a4::a5::a6::a7::a8::a9::a10::a11::a12::a13::a14::a15::a16::a17::a18::a19::l) 19 x=a0::a1::a2::a3::a4::a5::a6::a7::a8::a9::a10::a11::a12::a13::a14::a15::a16::a17::a18::x::l:=rfl
theorem OH {α:Type} {a0 a1 a2 a3 a4 a5 a6 a7 a8 a9 a10 a11 a12 a13 a14 a15 a16 a17 a18 a19 a20:α} {l:List α} {d:α}:List.getD (a0::a1::a2::a3::a4::a5::a6::a7::a8::a9::a10::a11::a12::a13::a14::a15::a16::a17::a18::a19::a20::l) 20 d=a20:=rfl
theorem PA {α:Type} {a0 a1 a2 a3 a4 a5 a6 a7 a8 a9 a10 a11 a12 a13 a14 a15 a16 a17 a18 a19 a20 x:α} {l:List α}:List.set (a0::a1::a2::a3::a4::a5::a6::a7::a8::a9::a10::a11::a12::a13::a14::a15::a16::a17::a18::a19::a20::l) 20 x=a0::a1::a2::a3::a4::a5::a6::a7::a8::a9::a10::a11::a12::a13::a14::a15::a16::a17::a18::a19::x::l:=rfl
theorem QL {α:Type} {a0 a1 a2 a3 a4 a5 a6 a7 a8 a9 a10 a11 a12 a13 a14 a15 a16 a17 a18 a19 a20 a21:α} {l:List α} {d:α}:List.getD (a0::a1::a2::a3::a4::a5::a6::a7::a8::a9::a10::a11::a12::a13::a14::a15::a16::a17::a18::a19::a20::a21::l) 21 d=a21:=rfl
theorem Q7 {α:Type} {a0 a1 a2 a3 a4 a5 a6 a7 a8 a9 a10 a11 a12 a13 a14 a15 a16 a17 a18 a19 a20 a21 x:α} {l:List α}:List.set (a0::a1::a2::a3::a4::a5::a6::a7::a8::a9::a10::a11::a12::a13::a14::a15::a16::a17::a18::a19::a20::a21::l) 21 x=a0::a1::a2::a3::a4::a5::a6::a7::a8::a9::a10::a11::a12::a13::a14::a15::a16::a17::a18::a19::a20::x::l:=rfl
theorem RP {α:Type} {a0 a1 a2 a3 a4 a5 a6 a7 a8 a9 a10 a11 a12 a13 a14 a15 a16 a17 a18 a19 a20 a21 a22:α} {l:List α} {d:α}:List.getD (a0::a1::a2::a3::a4::a5::a6::a7::a8::a9::a10::a11::a12::a13::a14::a15::a16::a17::a18::a19::a20::a21::a22::l) 22 d=a22:=rfl
theorem OA {α:Type} {a0 a1 a2 a3 a4 a5 a6 a7 a8 a9 a10 a11 a12 a13 a14 a15 a16 a17 a18 a19 a20 a21 a22 x:α} {l:List α}:List.set (a0::a1::a2::a3::a4::a5::a6::a7::a8::a9::a10::a11::a12::a13::a14::a15::a16::a17::a18::a19::a20::a21::a22::l) 22 x=a0::a1::a2::a3::a4::a5::a6::a7::a8::a9::a10::a11::a12::a13::a14::a15::a16::a17::a18::a19::a20::a21::x::l:=rfl
theorem QQ {α:Type} {a0 a1 a2 a3 a4 a5 a6 a7 a8 a9 a10 a11 a12 a13 a14 a15 a16 a17 a18 a19 a20 a21 a22 a23:α} {l:List α} {d:α}:List.getD (a0::a1::a2::a3::a4::a5::a6::a7::a8::a9::a10::a11::a12::a13::a14::a15::a16::a17::a18::a19::a20::a21::a22::a23::l) 23 d=a23:=rfl
theorem Py {α:Type} {a0 a1 a2 a3 a4 a5 a6 a7 a8 a9 a10 a11 a12 a13 a14 a15 a16 a17 a18 a19 a20 a21 a22 a23 x:α} {l:List α}:List.set (a0::a1::a2::a3::a4::a5::a6::a7::a8::a9::a10::a11::a12::a13::a14::a15::a16::a17::a18::a19::a20::a21::a22::a23::l) 23 x=a0::a1::a2::a3::a4::a5::a6::a7::a8::a9::a10::a11::a12::a13::a14::a15::a16::a17::a18::a19::a20::a21::a22::x::l:=rfl
theorem Q5 {α:Type} {a0 a1 a2 a3 a4 a5 a6 a7 a8 a9 a10 a11 a12 a13 a14 a15 a16 a17 a18 a19 a20 a21 a22 a23 a24:α} {l:List α} {d:α}:List.getD (a0::a1::a2::a3::a4::a5::a6::a7::a8::a9::a10::a11::a12::a13::a14::a15::a16::a17::a18::a19::a20::a21::a22::a23::a24::l) 24 d=a24:=rfl
theorem Qg {α:Type} {a0 a1 a2 a3 a4 a5 a6 a7 a8 a9 a10 a11 a12 a13 a14 a15 a16 a17 a18 a19 a20 a21 a22 a23 a24 x:α} {l:List α}:List.set (a0::a1::a2::a3::a4::a5::a6::a7::a8::a9::a10::a11::a12::a13::a14::a15::a16::a17::a18::a19::a20::a21::a22::a23::a24::l) 24 x=a0::a1::a2::a3::a4::a5::a6::a7::a8::a9::a10::a11::a12::a13::a14::a15::a16::a17::a18::a19::a20::a21::a22::a23::x::l:=rfl
theorem ON {α:Type} {a0 a1 a2 a3 a4 a5 a6 a7 a8 a9 a10 a11 a12 a13 a14 a15 a16 a17 a18 a19 a20 a21 a22 a23 a24 a25:α} {l:List α} {d:α}:List.getD (a0::a1::a2::a3::a4::a5::a6::a7::a8::a9::a10::a11::a12::a13::a14::a15::a16::a17::a18::a19::a20::a21::a22::a23::a24::a25::l) 25 d=a25:=rfl
theorem Rb {α:Type} {a0 a1 a2 a3 a4 a5 a6 a7 a8 a9 a10 a11 a12 a13 a14 a15 a16 a17 a18 a19 a20 a21 a22 a23 a24 a25 x:α} {l:List α}:List.set (a0::a1::a2::a3::a4::a5::a6::a7::a8::a9::a10::a11::a12::a13::a14::a15::a16::a17::a18::a19::a20::a21::a22::a23::a24::a25::l) 25 x=a0::a1::a2::a3::a4::a5::a6::a7::a8::a9::a10::a11::a12::a13::a14::a15::a16::a17::a18::a19::a20::a21::a22::a23::a24::x::l:=rfl
theorem O' {α:Type} {a0 a1 a2 a3 a4 a5 a6 a7 a8 a9 a10 a11 a12 a13 a14 a15 a16 a17 a18 a19 a20 a21 a22 a23 a24 a25 a26:α} {l:List α} {d:α}:List.getD (a0::a1::a2::a3::a4::a5::a6::a7::a8::a9::a10::a11::a12::a13::a14::a15::a16::a17::a18::a19::a20::a21::a22::a23::a24::a25::a26::l) 26 d=a26:=rfl
theorem OJ {α:Type} {a0 a1 a2 a3 a4 a5 a6 a7 a8 a9 a10 a11 a12 a13 a14 a15 a16 a17 a18 a19 a20 a21 a22 a23 a24 a25 a26 x:α} {l:List α}:List.set (a0::a1::a2::a3::a4::a5::a6::a7::a8::a9::a10::a11::a12::a13::a14::a15::a16::a17::a18::a19::a20::a21::a22::a23::a24::a25::a26::l) 26 x=a0::a1::a2::a3::a4::a5::a6::a7::a8::a9::a10::a11::a12::a13::a14::a15::a16::a17::a18::a19::a20::a21::a22::a23::a24::a25::x::l:=rfl
theorem OU {α:Type} {a0 a1 a2 a3 a4 a5 a6 a7 a8 a9 a10 a11 a12 a13 a14 a15 a16 a17 a18 a19 a20 a21 a22 a23 a24 a25 a26 a27:α} {l:List α} {d:α}:List.getD (a0::a1::a2::a3::a4::a5::a6::a7::a8::a9::a10::a11::a12::a13::a14::a15::a16::a17::a18::a19::a20::a21::a22::a23::a24::a25::a26::a27::l) 27 d=a27:=rfl
theorem QF {α:Type} {a0 a1 a2 a3 a4 a5 a6 a7 a8 a9 a10 a11 a12 a13 a14 a15 a16 a17 a18 a19 a20 a21 a22 a23 a24 a25 a26 a27 x:α} {l:List α}:List.set (a0::a1::a2::a3::a4::a5::a6::a7::a8::a9::a10::a11::a12::a13::a14::a15::a16::a17::a18::a19::a20::a21::a22::a23::a24::a25::a26::a27::l) 27 x=a0::a1::a2::a3::a4::a5::a6::a7::a8::a9::a10::a11::a12::a13::a14::a15::a16::a17::a18::a19::a20::a21::a22::a23::a24::a25::a26::x::l:=rfl
theorem Qh {α:Type} {a0 a1 a2 a3 a4 a5 a6 a7 a8 a9 a10 a11 a12 a13 a14 a15 a16 a17 a18 a19 a20 a21 a22 a23 a24 a25 a26 a27 a28:α} {l:List α} {d:α}:List.getD (a0::a1::a2::a3::a4::a5::a6::a7::a8::a9::a10::a11::a12::a13::a14::a15::a16::a17::a18::a19::a20::a21::a22::a23::a24::a25::a26::a27::a28::l) 28 d=a28:=rfl
theorem PL {α:Type} {a0 a1 a2 a3 a4 a5 a6 a7 a8 a9 a10 a11 a12 a13 a14 a15 a16 a17 a18 a19 a20 a21 a22 a23 a24 a25 a26 a27 a28 x:α} {l:List α}:List.set (a0::a1::a2::a3::a4::a5::a6::a7::a8::a9::a10::a11::a12::a13::a14::a15::a16::a17::a18::a19::a20::a21::a22::a23::a24::a25::a26::a27::a28::l) 28 x=a0::a1::a2::a3::a4::a5::a6::a7::a8::a9::a10::a11::a12::a13::a14::a15::a16::a17::a18::a19::a20::a21::a22::a23::a24::a25::a26::a27::x::l:=rfl
theorem QB {α:Type} {a0 a1 a2 a3 a4 a5 a6 a7 a8 a9 a10 a11 a12 a13 a14 a15 a16 a17 a18 a19 a20 a21 a22 a23 a24 a25 a26 a27 a28 a29:α} {l:List α} {d:α}:List.getD (a0::a1::a2::a3::a4::a5::a6::a7::a8::a9::a10::a11::a12::a13::a14::a15::a16::a17::a18::a19::a20::a21::a22::a23::a24::a25::a26::a27::a28::a29::l) 29 d=a29:=rfl
theorem Rj {α:Type} {a0 a1 a2 a3 a4 a5 a6 a7 a8 a9 a10 a11 a12 a13 a14 a15 a16 a17 a18 a19 a20 a21 a22 a23 a24 a25 a26 a27 a28 a29 x:α} {l:List α}:List.set (a0::a1::a2::a3::a4::a5::a6::a7::a8::a9::a10::a11::a12::a13::a14::a15::a16::a17::a18::a19::a20::a21::a22::a23::a24::a25::a26::a27::a28::a29::l) 29 x=a0::a1::a2::a3::a4::a5::a6::a7::a8::a9::a10::a11::a12::a13::a14::a15::a16::a17::a18::a19::a20::a21::a22::a23::a24::a25::a26::a27::a28::x::l:=rfl
theorem Rt {α:Type} {a0 a1 a2 a3 a4 a5 a6 a7 a8 a9 a10 a11 a12 a13 a14 a15 a16 a17 a18 a19 a20 a21 a22 a23 a24 a25 a26 a27 a28 a29 a30:α} {l:List α} {d:α}:List.getD (a0::a1::a2::a3::a4::a5::a6::a7::a8::a9::a10::a11::a12::a13::a14::a15::a16::a17::a18::a19::a20::a21::a22::a23::a24::a25::a26::a27::a28::a29::a30::l) 30 d=a30:=rfl
theorem Q9 {α:Type} {a0 a1 a2 a3 a4 a5 a6 a7 a8 a9 a10 a11 a12 a13 a14 a15 a16 a17 a18 a19 a20 a21 a22 a23 a24 a25 a26 a27 a28 a29 a30 x:α} {l:List α}:List.set (a0::a1::a2::a3::a4::a5::a6::a7::a8::a9::a10::a11::a12::a13::a14::a15::a16::a17::a18::a19::a20::a21::a22::a23::a24::a25::a26::a27::a28::a29::a30::l) 30 x=a0::a1::a2::a3::a4::a5::a6::a7::a8::a9::a10::a11::a12::a13::a14::a15::a16::a17::a18::a19::a20::a21::a22::a23::a24::a25::a26::a27::a28::a29::x::l:=rfl
theorem PZ {α:Type} {a0 a1 a2 a3 a4 a5 a6 a7 a8 a9 a10 a11 a12 a13 a14 a15 a16 a17 a18 a19 a20 a21 a22 a23 a24 a25 a26 a27 a28 a29 a30 a31:α} {l:List α} {d:α}:List.getD (a0::a1::a2::a3::a4::a5::a6::a7::a8::a9::a10::a11::a12::a13::a14::a15::a16::a17::a18::a19::a20::a21::a22::a23::a24::a25::a26::a27::a28::a29::a30::a31::l) 31 d=a31:=rfl
theorem RY {α:Type} {a0 a1 a2 a3 a4 a5 a6 a7 a8 a9 a10 a11 a12 a13 a14 a15 a16 a17 a18 a19 a20 a21 a22 a23 a24 a25 a26 a27 a28 a29 a30 a31 x:α} {l:List α}:List.set (a0::a1::a2::a3::a4::a5::a6::a7::a8::a9::a10::a11::a12::a13::a14::a15::a16::a17::a18::a19::a20::a21::a22::a23::a24::a25::a26::a27::a28::a29::a30::a31::l) 31 x=a0::a1::a2::a3::a4::a5::a6::a7::a8::a9::a10::a11::a12::a13::a14::a15::a16::a17::a18::a19::a20::a21::a22::a23::a24::a25::a26::a27::a28::a29::a30::x::l:=rfl
theorem S9 {α:Type} {a0 a1 a2 a3 a4 a5 a6 a7 a8 a9 a10 a11 a12 a13 a14 a15 a16 a17 a18 a19 a20 a21 a22 a23 a24 a25 a26 a27 a28 a29 a30 a31:α} {l:List α} {d:α} {n:Nat}:List.getD (a0::a1::a2::a3::a4::a5::a6::a7::a8::a9::a10::a11::a12::a13::a14::a15::a16::a17::a18::a19::a20::a21::a22::a23::a24::a25::a26::a27::a28::a29::a30::a31::l) (n+32) d=List.getD l n d:=rfl
theorem S5 {α:Type} {a0 a1 a2 a3 a4 a5 a6 a7 a8 a9 a10 a11 a12 a13 a14 a15 a16 a17 a18 a19 a20 a21 a22 a23 a24 a25 a26 a27 a28 a29 a30 a31 x:α} {l:List α} {n:Nat}:List.set (a0::a1::a2::a3::a4::a5::a6::a7::a8::a9::a10::a11::a12::a13::a14::a15::a16::a17::a18::a19::a20::a21::a22::a23::a24::a25::a26::a27::a28::a29::a30::a31::l) (n+32) x=a0::a1::a2::a3::a4::a5::a6::a7::a8::a9::a10::a11::a12::a13::a14::a15::a16::a17::a18::a19::a20::a21::a22::a23::a24::a25::a26::a27::a28::a29::a30::a31::List.set l n x:=rfl
theorem aR:type_of% (I (I (I (I (@Go.Pk.L6) (I (@Go.Pk.Lv) (@Go.Pk.MA))) (I (I (@Go.Pk.MK) (@Go.Pk.Li)) (I (@Go.Pk.L4) (@Go.Pk.Km)))) (I (I (I (@Go.Pk.JY) (@Go.Pk.J5)) (I (@Go.Pk.K9) (@Go.Pk.KZ))) (I (I (@Go.Pk.I0) (@Go.Pk.MP)) (I (@Go.Pk.Me) (@Go.Pk.Lc))))) (I (I (I (@Go.Pk.N0) (I (@Go.Pk.Nu) (@Go.Pk.Tc))) (I (I (@Go.Pk.TO) (@Go.Pk.Nk)) (I (@Go.Pk.IV) (@Go.Pk.JK)))) (I (I (I (@Go.Pk.JR) (@Go.Pk.ID)) (I (@Go.Pk.pn.eq_def) (@Go.Pk.nJ.eq_def))) (I (I (@Go.Pk.Bw.eq_def) (@Go.Pk.rJ.eq_def)) (I (@Go.Pk.As.eq_def) (@Go.Pk.wg.eq_def)))))):=I (I (I (I (@Go.Pk.L6) (I (@Go.Pk.Lv) (@Go.Pk.MA))) (I (I (@Go.Pk.MK) (@Go.Pk.Li)) (I (@Go.Pk.L4) (@Go.Pk.Km)))) (I (I (I (@Go.Pk.JY) (@Go.Pk.J5)) (I (@Go.Pk.K9) (@Go.Pk.KZ))) (I (I (@Go.Pk.I0) (@Go.Pk.MP)) (I (@Go.Pk.Me) (@Go.Pk.Lc))))) (I (I (I (@Go.Pk.N0) (I (@Go.Pk.Nu) (@Go.Pk.Tc))) (I (I (@Go.Pk.TO) (@Go.Pk.Nk)) (I (@Go.Pk.IV) (@Go.Pk.JK)))) (I (I (I (@Go.Pk.JR) (@Go.Pk.ID)) (I (@Go.Pk.pn.eq_def) (@Go.Pk.nJ.eq_def))) (I (I (@Go.Pk.Bw.eq_def) (@Go.Pk.rJ.eq_def)) (I (@Go.Pk.As.eq_def) (@Go.Pk.wg.eq_def)))))
theorem Uu:type_of% (I (I (I (I (@Go.Pk.nS.eq_def) (I (@Go.Pk.Ee.eq_def) (@Go.Pk.aB.eq_def))) (I (I (@Go.Pk.ED.eq_def) (@Go.Pk.EI.eq_def)) (I (@Go.Pk.EO.eq_def) (@Go.Pk.ev.eq_def)))) (I (I (I (@Go.Pk.bX.eq_def) (@Go.Pk.iW.eq_def)) (I (@Go.Pk.kC.eq_def) (@Go.Pk.b6.eq_def))) (I (I (@Go.Pk.cq.eq_def) (@Go.Pk.cellsOf.eq_def)) (I (@Go.Pk.live.eq_def) (@Go.Pk.ar.eq_def))))) (I (I (I (@Go.Pk.rD.eq_def) (I (@Go.Pk.GM.eq_def) (@Go.Pk.iS.eq_def))) (I (I (@Go.Pk.flat.eq_def) (@Go.Pk.Ab.eq_def)) (I (@Go.Pk.vQ.eq_def) (@Go.Pk.Au.eq_def)))) (I (I (I (@Go.Pk.iK.eq_def) (@Go.Pk.aQ.eq_def)) (I (@Go.Pk.aF.eq_def) (@Go.Pk.ni.eq_def))) (I (I (@Go.Pk.Out.with.eq_def) (@Go.Pk.pF.eq_def)) (I (@Go.Pk.nY.eq_def) (@Go.Pk.tB.eq_def)))))):=I (I (I (I (@Go.Pk.nS.eq_def) (I (@Go.Pk.Ee.eq_def) (@Go.Pk.aB.eq_def))) (I (I (@Go.Pk.ED.eq_def) (@Go.Pk.EI.eq_def)) (I (@Go.Pk.EO.eq_def) (@Go.Pk.ev.eq_def)))) (I (I (I (@Go.Pk.bX.eq_def) (@Go.Pk.iW.eq_def)) (I (@Go.Pk.kC.eq_def) (@Go.Pk.b6.eq_def))) (I (I (@Go.Pk.cq.eq_def) (@Go.Pk.cellsOf.eq_def)) (I (@Go.Pk.live.eq_def) (@Go.Pk.ar.eq_def))))) (I (I (I (@Go.Pk.rD.eq_def) (I (@Go.Pk.GM.eq_def) (@Go.Pk.iS.eq_def))) (I (I (@Go.Pk.flat.eq_def) (@Go.Pk.Ab.eq_def)) (I (@Go.Pk.vQ.eq_def) (@Go.Pk.Au.eq_def)))) (I (I (I (@Go.Pk.iK.eq_def) (@Go.Pk.aQ.eq_def)) (I (@Go.Pk.aF.eq_def) (@Go.Pk.ni.eq_def))) (I (I (@Go.Pk.Out.with.eq_def) (@Go.Pk.pF.eq_def)) (I (@Go.Pk.nY.eq_def) (@Go.Pk.tB.eq_def)))))
theorem TC:type_of% (I (I (I (I (@Go.Pk.isBool.eq_def) (I (@Go.Pk.qL.eq_def) (@Go.Pk.BF.eq_def))) (I (I (@Go.Pk.sX.eq_def) (@Go.Pk.gi.eq_def)) (I (@Go.Pk.yw.eq_def) (@Go.Pk.fw.eq_def)))) (I (I (I (@Go.Pk.isStr.eq_def) (@Go.Pk.isInt.eq_def)) (I (@Go.Pk.pM.eq_def) (@Go.Pk.pf.eq_def))) (I (I (@Go.Pk.sliceB.eq_def) (@Go.Pk.qo.eq_def)) (I (@Go.Pk.qD.eq_def) (@Go.Pk.qE.eq_def))))) (I (I (I (@Go.Pk.pO.eq_def) (I (@Go.Pk.mL.eq_def) (@Go.Pk.nn.eq_def))) (I (I (@Go.Pk.wm.eq_def) (@Go.Pk.C.yM.eq_def)) (I (@Go.Pk.rowOf.eq_def) (@Go.Pk.xX.eq_def)))) (I (I (I (@Go.Pk.om.eq_def) (@Go.Pk.dY.eq_def)) (I (@Go.Pk.qs.eq_def) (@Go.Pk.kh.eq_def))) (I (I (@Go.Pk.eT.eq_def) (@Go.Pk.yn.eq_def)) (I (@Go.Pk.kZ.eq_def) (@Go.Pk.RF.cells.eq_def)))))):=I (I (I (I (@Go.Pk.isBool.eq_def) (I (@Go.Pk.qL.eq_def) (@Go.Pk.BF.eq_def))) (I (I (@Go.Pk.sX.eq_def) (@Go.Pk.gi.eq_def)) (I (@Go.Pk.yw.eq_def) (@Go.Pk.fw.eq_def)))) (I (I (I (@Go.Pk.isStr.eq_def) (@Go.Pk.isInt.eq_def)) (I (@Go.Pk.pM.eq_def) (@Go.Pk.pf.eq_def))) (I (I (@Go.Pk.sliceB.eq_def) (@Go.Pk.qo.eq_def)) (I (@Go.Pk.qD.eq_def) (@Go.Pk.qE.eq_def))))) (I (I (I (@Go.Pk.pO.eq_def) (I (@Go.Pk.mL.eq_def) (@Go.Pk.nn.eq_def))) (I (I (@Go.Pk.wm.eq_def) (@Go.Pk.C.yM.eq_def)) (I (@Go.Pk.rowOf.eq_def) (@Go.Pk.xX.eq_def)))) (I (I (I (@Go.Pk.om.eq_def) (@Go.Pk.dY.eq_def)) (I (@Go.Pk.qs.eq_def) (@Go.Pk.kh.eq_def))) (I (I (@Go.Pk.eT.eq_def) (@Go.Pk.yn.eq_def)) (I (@Go.Pk.kZ.eq_def) (@Go.Pk.RF.cells.eq_def)))))
theorem TN:type_of% (I (I (I (I (@Go.Pk.dK.eq_def) (I (@Go.Pk.Bx.eq_def) (@Go.Pk.dt.eq_def))) (I (I (@Go.Pk.gk.eq_def) (@Go.Pk.dl.eq_def)) (I (@Go.Pk.FP.both.eq_def) (@Go.Pk.yO.eq_def)))) (I (I (I (@Go.Pk.eE.eq_def) (@Go.Pk.Ei.eq_def)) (I (@Go.Pk.fF.eq_def) (@Go.Pk.iT.eq_def))) (I (I (@Go.Pk.A9.eq_def) (@Go.Pk.fA.eq_def)) (I (@Go.Pk.nh.eq_def) (@Go.Pk.pQ.eq_def))))) (I (I (I (@Go.Pk.bindM.eq_def) (I (@Go.Pk.jO.eq_def) (@Go.Pk.ET.eq_def))) (I (I (@Go.Pk.Mv.s.eq_def) (@Go.Pk.pS.eq_def)) (I (@Go.Pk.tQ.eq_def) (@Go.Pk.pe.eq_def)))) (I (I (I (@Go.Pk.uL.eq_def) (@Go.Pk.sR.eq_def)) (I (@Go.Pk.fG.eq_def) (@Go.Pk.Bz.eq_def))) (I (I (@Go.Pk.BB.eq_def) (@Go.Pk.qq.eq_def)) (I (@Go.Pk.qn.eq_def) (@Go.Pk.pI.eq_def)))))):=I (I (I (I (@Go.Pk.dK.eq_def) (I (@Go.Pk.Bx.eq_def) (@Go.Pk.dt.eq_def))) (I (I (@Go.Pk.gk.eq_def) (@Go.Pk.dl.eq_def)) (I (@Go.Pk.FP.both.eq_def) (@Go.Pk.yO.eq_def)))) (I (I (I (@Go.Pk.eE.eq_def) (@Go.Pk.Ei.eq_def)) (I (@Go.Pk.fF.eq_def) (@Go.Pk.iT.eq_def))) (I (I (@Go.Pk.A9.eq_def) (@Go.Pk.fA.eq_def)) (I (@Go.Pk.nh.eq_def) (@Go.Pk.pQ.eq_def))))) (I (I (I (@Go.Pk.bindM.eq_def) (I (@Go.Pk.jO.eq_def) (@Go.Pk.ET.eq_def))) (I (I (@Go.Pk.Mv.s.eq_def) (@Go.Pk.pS.eq_def)) (I (@Go.Pk.tQ.eq_def) (@Go.Pk.pe.eq_def)))) (I (I (I (@Go.Pk.uL.eq_def) (@Go.Pk.sR.eq_def)) (I (@Go.Pk.fG.eq_def) (@Go.Pk.Bz.eq_def))) (I (I (@Go.Pk.BB.eq_def) (@Go.Pk.qq.eq_def)) (I (@Go.Pk.qn.eq_def) (@Go.Pk.pI.eq_def)))))
theorem SD:type_of% (I (I (I (I (@Go.Pk.vW.eq_def) (I (@Go.Pk.r6.eq_def) (@Go.Pk.tW.eq_def))) (I (I (@Go.Pk.bytesOf.eq_1) (@Go.Pk.bytesOf.eq_2)) (I (@Go.Pk.eP.eq_1) (@Go.Pk.eP.eq_2)))) (I (I (I (@Go.Pk.pj.eq_1) (@Go.Pk.pj.eq_2)) (I (@Go.Pk.en.eq_1) (@Go.Pk.en.eq_2))) (I (I (@Go.Pk.ew.eq_1) (@Go.Pk.ew.eq_2)) (I (@Go.Pk.ao.eq_1) (@Go.Pk.ao.eq_2))))) (I (I (I (@Go.Pk.aN.eq_1) (I (@Go.Pk.aN.eq_2) (@Go.Pk.sT.eq_1))) (I (I (@Go.Pk.sT.eq_2) (@Go.Pk.vg.eq_1)) (I (@Go.Pk.vg.eq_2) (@Go.Pk.cO.eq_1)))) (I (I (I (@Go.Pk.cO.eq_2) (@Go.Pk.kQ.eq_1)) (I (@Go.Pk.kQ.eq_2) (@Go.Pk.dC.eq_1))) (I (I (@Go.Pk.dC.eq_2) (@Go.Pk.gD.eq_1)) (I (@Go.Pk.gD.eq_2) (@Go.Pk.bW.eq_1)))))):=I (I (I (I (@Go.Pk.vW.eq_def) (I (@Go.Pk.r6.eq_def) (@Go.Pk.tW.eq_def))) (I (I (@Go.Pk.bytesOf.eq_1) (@Go.Pk.bytesOf.eq_2)) (I (@Go.Pk.eP.eq_1) (@Go.Pk.eP.eq_2)))) (I (I (I (@Go.Pk.pj.eq_1) (@Go.Pk.pj.eq_2)) (I (@Go.Pk.en.eq_1) (@Go.Pk.en.eq_2))) (I (I (@Go.Pk.ew.eq_1) (@Go.Pk.ew.eq_2)) (I (@Go.Pk.ao.eq_1) (@Go.Pk.ao.eq_2))))) (I (I (I (@Go.Pk.aN.eq_1) (I (@Go.Pk.aN.eq_2) (@Go.Pk.sT.eq_1))) (I (I (@Go.Pk.sT.eq_2) (@Go.Pk.vg.eq_1)) (I (@Go.Pk.vg.eq_2) (@Go.Pk.cO.eq_1)))) (I (I (I (@Go.Pk.cO.eq_2) (@Go.Pk.kQ.eq_1)) (I (@Go.Pk.kQ.eq_2) (@Go.Pk.dC.eq_1))) (I (I (@Go.Pk.dC.eq_2) (@Go.Pk.gD.eq_1)) (I (@Go.Pk.gD.eq_2) (@Go.Pk.bW.eq_1)))))
theorem Uf:type_of% (I (I (I (I (@Go.Pk.bW.eq_2) (I (@Go.Pk.bW.eq_3) (@Go.Pk.bW.eq_4))) (I (I (@Go.Pk.bW.eq_5) (@Go.Pk.bW.eq_6)) (I (@Go.Pk.bW.eq_7) (@Go.Pk.bW.eq_8)))) (I (I (I (@Go.Pk.bW.eq_9) (@Go.Pk.bW.eq_10)) (I (@Go.Pk.mA.eq_1) (@Go.Pk.mA.eq_2))) (I (I (@Go.Pk.mA.eq_3) (@Go.Pk.mA.eq_4)) (I (@Go.Pk.mX.eq_1) (@Go.Pk.mX.eq_2))))) (I (I (I (@Go.Pk.bW.lendCs.eq_1) (I (@Go.Pk.bW.lendCs.eq_2) (@Go.Pk.jf.eq_1))) (I (I (@Go.Pk.jf.eq_2) (@Go.Pk.fT.eq_1)) (I (@Go.Pk.fT.eq_2) (@Go.Pk.fT.eq_3)))) (I (I (I (@Go.Pk.fM.eq_1) (@Go.Pk.fM.eq_2)) (I (@Go.Pk.fM.eq_3) (@Go.Pk.jF.eq_1))) (I (I (@Go.Pk.jF.eq_2) (@Go.Pk.jF.eq_3)) (I (@Go.Pk.qp.eq_1) (@Go.Pk.qp.eq_2)))))):=I (I (I (I (@Go.Pk.bW.eq_2) (I (@Go.Pk.bW.eq_3) (@Go.Pk.bW.eq_4))) (I (I (@Go.Pk.bW.eq_5) (@Go.Pk.bW.eq_6)) (I (@Go.Pk.bW.eq_7) (@Go.Pk.bW.eq_8)))) (I (I (I (@Go.Pk.bW.eq_9) (@Go.Pk.bW.eq_10)) (I (@Go.Pk.mA.eq_1) (@Go.Pk.mA.eq_2))) (I (I (@Go.Pk.mA.eq_3) (@Go.Pk.mA.eq_4)) (I (@Go.Pk.mX.eq_1) (@Go.Pk.mX.eq_2))))) (I (I (I (@Go.Pk.bW.lendCs.eq_1) (I (@Go.Pk.bW.lendCs.eq_2) (@Go.Pk.jf.eq_1))) (I (I (@Go.Pk.jf.eq_2) (@Go.Pk.fT.eq_1)) (I (@Go.Pk.fT.eq_2) (@Go.Pk.fT.eq_3)))) (I (I (I (@Go.Pk.fM.eq_1) (@Go.Pk.fM.eq_2)) (I (@Go.Pk.fM.eq_3) (@Go.Pk.jF.eq_1))) (I (I (@Go.Pk.jF.eq_2) (@Go.Pk.jF.eq_3)) (I (@Go.Pk.qp.eq_1) (@Go.Pk.qp.eq_2)))))
theorem Sd:type_of% (I (I (I (I (@Go.Pk.hG.eq_1) (I (@Go.Pk.hG.eq_2) (@Go.Pk.ck.eq_1))) (I (I (@Go.Pk.ck.eq_2) (@Go.Pk.ck.eq_3)) (I (@Go.Pk.ck.eq_4) (@Go.Pk.ck.eq_5)))) (I (I (I (@Go.Pk.ck.eq_6) (@Go.Pk.ck.eq_7)) (I (@Go.Pk.ck.eq_8) (@Go.Pk.ck.eq_9))) (I (I (@Go.Pk.ck.eq_10) (@Go.Pk.cK.eq_1)) (I (@Go.Pk.cK.eq_2) (@Go.Pk.cj.eq_1))))) (I (I (I (@Go.Pk.cj.eq_2) (I (@Go.Pk.cj.eq_3) (@Go.Pk.cj.eq_4))) (I (I (@Go.Pk.i3.eq_1) (@Go.Pk.i3.eq_2)) (I (@Go.Pk.gS.eq_1) (@Go.Pk.gS.eq_2)))) (I (I (I (@Go.Pk.pP.eq_1) (@Go.Pk.pP.eq_2)) (I (@Go.Pk.wG.eq_1) (@Go.Pk.wG.eq_2))) (I (I (@Go.Pk.lJ.eq_1) (@Go.Pk.lJ.eq_2)) (I (@Go.Pk.lJ.eq_3) (@Go.Pk.oW.eq_1)))))):=I (I (I (I (@Go.Pk.hG.eq_1) (I (@Go.Pk.hG.eq_2) (@Go.Pk.ck.eq_1))) (I (I (@Go.Pk.ck.eq_2) (@Go.Pk.ck.eq_3)) (I (@Go.Pk.ck.eq_4) (@Go.Pk.ck.eq_5)))) (I (I (I (@Go.Pk.ck.eq_6) (@Go.Pk.ck.eq_7)) (I (@Go.Pk.ck.eq_8) (@Go.Pk.ck.eq_9))) (I (I (@Go.Pk.ck.eq_10) (@Go.Pk.cK.eq_1)) (I (@Go.Pk.cK.eq_2) (@Go.Pk.cj.eq_1))))) (I (I (I (@Go.Pk.cj.eq_2) (I (@Go.Pk.cj.eq_3) (@Go.Pk.cj.eq_4))) (I (I (@Go.Pk.i3.eq_1) (@Go.Pk.i3.eq_2)) (I (@Go.Pk.gS.eq_1) (@Go.Pk.gS.eq_2)))) (I (I (I (@Go.Pk.pP.eq_1) (@Go.Pk.pP.eq_2)) (I (@Go.Pk.wG.eq_1) (@Go.Pk.wG.eq_2))) (I (I (@Go.Pk.lJ.eq_1) (@Go.Pk.lJ.eq_2)) (I (@Go.Pk.lJ.eq_3) (@Go.Pk.oW.eq_1)))))
theorem SG:type_of% (I (I (I (I (@Go.Pk.oW.eq_2) (I (@Go.Pk.mW.eq_1) (@Go.Pk.mW.eq_2))) (I (I (@Go.Pk.mW.eq_3) (@Go.Pk.tn.eq_1)) (I (@Go.Pk.tn.eq_2) (@Go.Pk.eS.eq_1)))) (I (I (I (@Go.Pk.eS.eq_2) (@Go.Pk.jg.eq_1)) (I (@Go.Pk.jg.eq_2) (@c9.{0}))) (I (I (@lQ.{0}) (@cL.{0})) (I (@fN.{0}) (@cC.{0}))))) (I (I (I (@oB.{0}) (I (@List.drop_nil.{0}) (@uM.{0}))) (I (I (@qA.{0}) (@List.take_nil.{0})) (I (@fe.{0}) (@c5.{0})))) (I (I (I (@dW.{0}) (@List.replicate_succ.{0})) (I (@List.replicate_zero.{0}) (@u9.{0}))) (I (I (@b7.{0,0}) (@fY.{0,0})) (I (@fv.{0,0}) (@qB.{0,0})))))):=I (I (I (I (@Go.Pk.oW.eq_2) (I (@Go.Pk.mW.eq_1) (@Go.Pk.mW.eq_2))) (I (I (@Go.Pk.mW.eq_3) (@Go.Pk.tn.eq_1)) (I (@Go.Pk.tn.eq_2) (@Go.Pk.eS.eq_1)))) (I (I (I (@Go.Pk.eS.eq_2) (@Go.Pk.jg.eq_1)) (I (@Go.Pk.jg.eq_2) (@c9.{0}))) (I (I (@lQ.{0}) (@cL.{0})) (I (@fN.{0}) (@cC.{0}))))) (I (I (I (@oB.{0}) (I (@List.drop_nil.{0}) (@uM.{0}))) (I (I (@qA.{0}) (@List.take_nil.{0})) (I (@fe.{0}) (@c5.{0})))) (I (I (I (@dW.{0}) (@List.replicate_succ.{0})) (I (@List.replicate_zero.{0}) (@u9.{0}))) (I (I (@b7.{0,0}) (@fY.{0,0})) (I (@fv.{0,0}) (@qB.{0,0})))))
theorem TU:type_of% (I (I (I (I (@yq.{0,0}) (I (@tu.{0,0}) (@List.foldl_nil.{0,0}))) (I (I (@List.filterMap_cons.{0,0}) (@List.filterMap_nil.{0,0})) (I (@Option.bind_some.{0,0}) (@Option.bind_none.{0,0})))) (I (I (I (@Go.Pk.Uo) (@Go.Pk.cm)) (I (@Go.Pk.SY) (@Go.Pk.H4))) (I (I (@Go.Pk.TG) (@Go.Pk.UM)) (I (@Go.Pk.UF) (@Go.Pk.TY))))) (I (I (I (@Go.Pk.Sr) (I (@Go.Pk.UE) (@Go.Pk.S6))) (I (I (@Go.Pk.TE) (@Go.Pk.Uk)) (I (@Go.Pk.SE) (@Go.Pk.Sc)))) (I (I (I (@Go.Pk.SZ) (@Go.Pk.S7)) (I (@Go.Pk.Ud) (@Go.Pk.SO))) (I (I (@Go.Pk.SV) (@Go.Pk.Rf)) (I (@Go.Pk.OR) (@Go.Pk.Re)))))):=I (I (I (I (@yq.{0,0}) (I (@tu.{0,0}) (@List.foldl_nil.{0,0}))) (I (I (@List.filterMap_cons.{0,0}) (@List.filterMap_nil.{0,0})) (I (@Option.bind_some.{0,0}) (@Option.bind_none.{0,0})))) (I (I (I (@Go.Pk.Uo) (@Go.Pk.cm)) (I (@Go.Pk.SY) (@Go.Pk.H4))) (I (I (@Go.Pk.TG) (@Go.Pk.UM)) (I (@Go.Pk.UF) (@Go.Pk.TY))))) (I (I (I (@Go.Pk.Sr) (I (@Go.Pk.UE) (@Go.Pk.S6))) (I (I (@Go.Pk.TE) (@Go.Pk.Uk)) (I (@Go.Pk.SE) (@Go.Pk.Sc)))) (I (I (I (@Go.Pk.SZ) (@Go.Pk.S7)) (I (@Go.Pk.Ud) (@Go.Pk.SO))) (I (I (@Go.Pk.SV) (@Go.Pk.Rf)) (I (@Go.Pk.OR) (@Go.Pk.Re)))))
theorem Tk:type_of% (I (I (I (I (@Go.Pk.PW) (I (@Go.Pk.Pt) (@Go.Pk.Oy))) (I (I (@Go.Pk.Oz) (@Go.Pk.Pn)) (I (@Go.Pk.Rm) (@Go.Pk.Qc)))) (I (I (I (@Go.Pk.RN) (@Go.Pk.R8)) (I (@Go.Pk.PJ) (@Go.Pk.Qp))) (I (I (@Go.Pk.OQ) (@Go.Pk.Rg)) (I (@Go.Pk.PT) (@Go.Pk.OZ))))) (I (I (I (@Go.Pk.Pb) (I (@Go.Pk.RV) (@Go.Pk.OH))) (I (I (@Go.Pk.PA) (@Go.Pk.QL)) (I (@Go.Pk.Q7) (@Go.Pk.RP)))) (I (I (I (@Go.Pk.OA) (@Go.Pk.QQ)) (I (@Go.Pk.Py) (@Go.Pk.Q5))) (I (I (@Go.Pk.Qg) (@Go.Pk.ON)) (I (@Go.Pk.Rb) (@Go.Pk.O')))))):=I (I (I (I (@Go.Pk.PW) (I (@Go.Pk.Pt) (@Go.Pk.Oy))) (I (I (@Go.Pk.Oz) (@Go.Pk.Pn)) (I (@Go.Pk.Rm) (@Go.Pk.Qc)))) (I (I (I (@Go.Pk.RN) (@Go.Pk.R8)) (I (@Go.Pk.PJ) (@Go.Pk.Qp))) (I (I (@Go.Pk.OQ) (@Go.Pk.Rg)) (I (@Go.Pk.PT) (@Go.Pk.OZ))))) (I (I (I (@Go.Pk.Pb) (I (@Go.Pk.RV) (@Go.Pk.OH))) (I (I (@Go.Pk.PA) (@Go.Pk.QL)) (I (@Go.Pk.Q7) (@Go.Pk.RP)))) (I (I (I (@Go.Pk.OA) (@Go.Pk.QQ)) (I (@Go.Pk.Py) (@Go.Pk.Q5))) (I (I (@Go.Pk.Qg) (@Go.Pk.ON)) (I (@Go.Pk.Rb) (@Go.Pk.O')))))
theorem R4:type_of% (I (I (I (@Go.Pk.OJ) (I (@Go.Pk.OU) (@Go.Pk.QF))) (I (@Go.Pk.Qh) (I (@Go.Pk.PL) (@Go.Pk.QB)))) (I (I (@Go.Pk.Rj) (I (@Go.Pk.Rt) (@Go.Pk.Q9))) (I (I (@Go.Pk.PZ) (@Go.Pk.RY)) (I (@Go.Pk.S9) (@Go.Pk.S5))))):=I (I (I (@Go.Pk.OJ) (I (@Go.Pk.OU) (@Go.Pk.QF))) (I (@Go.Pk.Qh) (I (@Go.Pk.PL) (@Go.Pk.QB)))) (I (I (@Go.Pk.Rj) (I (@Go.Pk.Rt) (@Go.Pk.Q9))) (I (I (@Go.Pk.PZ) (@Go.Pk.RY)) (I (@Go.Pk.S9) (@Go.Pk.S5))))
end Go.Pk
