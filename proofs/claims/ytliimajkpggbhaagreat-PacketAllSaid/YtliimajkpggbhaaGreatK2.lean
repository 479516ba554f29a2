import Derived.Test.YtliimajkpggbhaaGreatK1
import Derived.Laws.Sem
import Derived.Laws.Cells
import Derived.Laws.World
import Derived.Laws.Rows
import Derived.Laws.Append
import Derived.Laws.Slices
set_option linter.unusedVariables false
set_option linter.unusedSimpArgs false
set_option linter.unusedSectionVars false
namespace Go.Pk
structure TyOK (P:Program) (t:Nat) (ti:TI):Prop where
 ty:∃i z d,P.info? t=some i∧P.underlying t=some d∧i.zero=some z∧ti.size=i.size∧ti.bytes=i.bytes∧ti.zero=z.cells.toList∧ti.desc=zeB d
 flat:∀v∈ti.zero,flat v=true
 len:ti.zero.length=ti.size
theorem zuU {P:Program} {eqs:List Nat} {t:Nat} {ti:TI} (h:zu4 P eqs t=some ti):TyOK P t ti:=by
 unfold zu4 at h
 split at h
 ·rename_i i d hi hd
  split at h
  ·rename_i z hz
   split at h
   ·rename_i hf
    cases h
    simp only[Bool.and_eq_true,beq_iff_eq]at hf
    exact⟨⟨i,z,d,hi,hd,hz,rfl,rfl,rfl,rfl⟩,fun v hv=>List.all_eq_true.1 hf.1 v hv,hf.2⟩
   ·cases h
  ·cases h
 ·cases h
section
variable {P:Program} {t:Nat} {ti:TI} (h:TyOK P t ti) (w:World)
include h
theorem TyOK.run_sizeOf:(sizeOf t).run P w= .ok ti.size w:=by
 obtain⟨⟨i,z,d,hi,_,_,h1,_⟩,_,_⟩:=h
 simp[sizeOf,typeInfo,hi,h1]
theorem TyOK.run_info:∃i,(typeInfo t).run P w= .ok i w∧i.bytes=ti.bytes∧i.size=ti.size:=by
 obtain⟨⟨i,z,d,hi,_,_,h1,h2,_⟩,_,_⟩:=h
 exact⟨i,by simp[typeInfo,hi],h2.symm,h1.symm⟩
theorem TyOK.run_zero:∃z,(zeroValue t).run P w= .ok z w∧z.cells.toList=ti.zero:=by
 obtain⟨⟨i,z,d,hi,_,hz,_,_,h3,_⟩,_,_⟩:=h
 exact⟨z,by simp[zeroValue,typeInfo,hi,hz],h3.symm⟩
theorem TyOK.run_under:∃d,(underlying t).run P w= .ok d w∧zeB d=ti.desc∧P.underlying t=some d:=by
 obtain⟨⟨i,z,d,_,hd,_,_,_,_,h4⟩,_,_⟩:=h
 exact⟨d,by simp[underlying,hd],h4.symm,hd⟩
omit w in
theorem TyOK.under:∃d,P.underlying t=some d∧zeB d=ti.desc:=by
 obtain⟨⟨i,z,d,_,hd,_,_,_,_,h4⟩,_,_⟩:=h
 exact⟨d,hd,h4.symm⟩
theorem TyOK.run_isAgg:(isAgg t).run P w= .ok (aggD ti.desc) w:=by
 obtain⟨d,h1,h2,_⟩:=h.run_under w
 unfold isAgg
 rw[Sem.run_bind,h1,Result.andThen_ok,←h2]
 cases d<;>rfl
end
def TOK (P:Program) (T:Nat→Option TI):Prop:=∀t ti,T t=some ti→TyOK P t ti∧
 (ti.eq=true→∀(xs ys:List Value) (w:World),xs.map kindV=ti.zero.map kindV→ys.map kindV=ti.zero.map kindV→
  (∀o x y,(o= .eql∨o= .neq)→(eqGuard o t x y (.agg xs.toArray) (.agg ys.toArray)).run P w= .ok () w)∧
  (Op.equal t (.agg xs.toArray) (.agg ys.toArray)).run P w= .ok (eqVs xs ys) w)
section
variable {cx:Cx} {v:List AV} {r:Rs} {a:Act} {w:World} {β:Nat→Nat→Pl}
theorem zlN (h:Holds cx ⟨v,r⟩ a w β) (x:Operand):ReA cx w r β (gev v x) (a.eval x):=by
 cases x with
 |tmp t=>
  simp only[gev,Act.eval]
  rw[List.getD_eq_getElem?_getD]
  cases ht:v[t]? with
  |none=>simp[ReA,ReC]
  |some y=>
   obtain⟨u,h1,h2⟩:=h.sl t y ht
   simp only[Array.getD_eq_getD_getElem?,h1,Option.getD_some]
   exact h2
 |const z=>
  simp only[gev,Act.eval,ReA]
  split
  ·rename_i hf;simp only[ReC,Rd];exact⟨trivial,hf⟩
  ·simp[ReC]
 |global g=>simp[gev,ReA,ReC]
 |func f=>simp only[gev,Act.eval,ReA,ReC,Rd];exact⟨trivial,rfl⟩
theorem zbl (h:Holds cx ⟨v,r⟩ a w β) {x:Operand} {c:Bool} (hc:c=true) (hs:evS c v x):ReA cx w r β (ev v x) (a.eval x):=by
 have hg:=zlN h x
 unfold ev evS at*
 split
 ·rename_i c' y he
  rw[he]at hg hs
  simp only[ReA]at hg
  exact hg.1 (hs hc)
 ·rename_i y he;rw[he]at hg;exact hg
 ·rename_i y he;rw[he]at hg;exact hg
 ·rename_i y he;rw[he]at hg;exact hg
theorem zeW (h:Holds cx ⟨v,r⟩ a w β) {c:Bool} (hc:c=true):∀{xs:List Operand},evsS c v xs→ReAs cx w r β (evs v xs) (xs.map a.eval)
 |[],_=>by simp[evs,ReAs]
 |x::xs,hs=>by
  simp only[evs,ReAs,List.map_cons]
  simp only[evsS]at hs
  exact⟨_,_,rfl,zbl h hc hs.1,zeW h hc hs.2⟩
def Does (cx:Cx) (v:List AV) (a:Act) (w:World) (s:Sem Next) (x:AV) (r':Rs):Prop:=
 ∃n w' β' u,s.run cx.P w= .ok n w'∧(n= .value u∨(n= .skip∧u=undef))∧Holds cx ⟨v,r'⟩ a w' β'∧ReA cx w' r' β' x u
theorem Does.val (h:Holds cx ⟨v,r⟩ a w β) {s:Sem Next} {x:AV} {u:Value} (hr:s.run cx.P w= .ok (.value u) w) (hx:ReA cx w r β x u):Does cx v a w s x r:=
 ⟨_,w,β,u,hr, .inl rfl,h,hx⟩
theorem zbp {x u:Value}:ReC cx w r β (.d (.v x)) u↔u=x∧flat x=true:=by simp[ReC,Rd]
theorem zaN {x:C} {u:Value}:ReA cx w r β (.one x) u↔ReC cx w r β x u:=by simp[ReA]
theorem zas {x u:Value}:ReA cx w r β (.one (.d (.v x))) u↔u=x∧flat x=true:=by simp[ReA,ReC,Rd]
theorem zbR {l:List C} {u:Value}:ReA cx w r β (.agg l) u↔∃us,u= .agg us∧ReCs cx w r β l us.toList:=by simp[ReA]
theorem znN {y:AV} {u:Value} {c p:Bool} (h:ReA cx w r β y u) (hb:boolV y=some (c,p)) (hc:c=true):u= .bool p:=by
 unfold boolV at hb
 split at hb
 ·cases hb;exact(zas.1 h).1
 ·cases hb
  simp only[ReA]at h
  have:=h.1 hc
  exact(zbp.1 this).1
 ·cases hb;cases hc
 ·cases hb
end
section
variable {cx:Cx} {v:List AV} {r:Rs} {a:Act} {w:World} {β:Nat→Nat→Pl} {T:Nat→Option TI} {c:Bool}
variable (hT:TOK cx.P T) (h:Holds cx ⟨v,r⟩ a w β) (hc:c=true) {o:Oper}
include h hc
theorem zuV {x:Operand} (ho:o.op= .move x) (hs:(aop T c v r o.dst o.op).sc):Does cx v a w (execOp a.eval o) (aop T c v r o.dst o.op).x (aop T c v r o.dst o.op).r:=by
 simp only[ho,aop]at hs⊢
 exact .val h (by simp[execOp,ho]) (zbl h hc hs)
theorem zuW {t x z:Operand} (ho:o.op= .pick t x z) (hs:(aop T c v r o.dst o.op).sc):Does cx v a w (execOp a.eval o) (aop T c v r o.dst o.op).x (aop T c v r o.dst o.op).r:=by
 simp only[ho,aop]at hs⊢
 split at hs
 ·rename_i b cx' p cz q h1 h2 h3
  simp only[h1,h2,h3]
  obtain⟨g1,g2,g3⟩:=hs
  have e1:=zbl h hc g1
  rw[h1]at e1
  have e2:=(zas.1 e1).1
  refine .val h (u:= .bool (zlS b p q)) ?_ (zas.2 ⟨rfl,rfl⟩)
  simp only[execOp,ho,e2]
  cases b with
  |true=>have:=znN (zlN h x) h2 (g2 hc rfl);simp[asBool,this,zlS]
  |false=>have:=znN (zlN h z) h3 (g3 hc rfl);simp[asBool,this,zlS]
 ·exact hs.elim
theorem zww {t:TypeId} {x:Operand} (ho:o.op= .unOp .not t x) (hs:(aop T c v r o.dst o.op).sc):Does cx v a w (execOp a.eval o) (aop T c v r o.dst o.op).x (aop T c v r o.dst o.op).r:=by
 simp only[ho,aop]at hs⊢
 split at hs
 ·rename_i b h1
  simp only[h1]
  have e1:=zbl h hc hs
  rw[h1]at e1
  have e2:=(zas.1 e1).1
  exact .val h (u:= .bool !b) (by simp[execOp,ho,e2,Op.unary]) (zas.2 ⟨rfl,rfl⟩)
 ·exact hs.elim
omit h hc in
theorem zuX {op:BinOp} {t:TypeId} {x0 y0:Operand} {x y z:Value} (hz:binV op x y=some z):
  ((do eqGuard op t x0 y0 x y;binOp op t x y:Sem Value)).run cx.P w= .ok z w∧flat z=true:=by
 unfold binV at hz
 split at hz
 ·rename_i k n k' m
  split at hz
  ·rename_i hk
   subst hk
   have hg:(eqGuard op t x0 y0 (.int k n) (.int k m)).run cx.P w= .ok () w:=by
    unfold eqGuard;cases op<;>simp
   cases op<;>simp only[Option.some.injEq,reduceCtorEq]at hz<;>first
    |(subst hz;refine⟨?_,rfl⟩;simp[hg,binOp,Op.intArith,Op.intCmp,Op.intBits];done)
    | (split at hz
       ·cases hz
       ·rename_i hb;cases hz;refine⟨?_,rfl⟩;simp[hg,binOp,Op.shift,hb];done)
    | (split at hz
       ·cases hz
       ·rename_i hb;cases hz;refine⟨?_,rfl⟩;simp[hg,binOp,Op.intDiv,hb])
  ·have hg:(eqGuard op t x0 y0 (.int k n) (.int k' m)).run cx.P w= .ok () w:=by
    unfold eqGuard;cases op<;>simp
   cases op<;>simp only[Option.some.injEq,reduceCtorEq]at hz<;>
    (split at hz
     ·cases hz
     ·rename_i hb;cases hz;refine⟨?_,rfl⟩;simp[hg,binOp,Op.shift,hb])
 ·rename_i s u
  have hg:(eqGuard op t x0 y0 (.string s) (.string u)).run cx.P w= .ok () w:=by
   unfold eqGuard;cases op<;>simp
  cases op<;>simp only[Option.some.injEq,reduceCtorEq]at hz<;>
   (subst hz;refine⟨?_,rfl⟩;simp[hg,binOp,Op.stringOp])
 ·cases hz
omit h hc in
theorem zsy (hT:TOK cx.P T) {t:Nat} (h:isPtr T t=true):∃e,cx.P.underlying t=some (.pointer e):=by
 unfold isPtr at h
 split at h
 ·rename_i ti ht
  split at h
  ·rename_i e hd
   obtain⟨d,e3,e2⟩:=(hT t ti (by simpa using ht)).1.under
   rw[hd]at e2
   cases d with
   |pointer e'=>exact⟨e',e3⟩
   |_=>simp[zeB]at e2
  ·cases h
 ·cases h
omit h hc in
theorem zqs (hT:TOK cx.P T) {t:Nat} (h:isBool T t=true):cx.P.underlying t=some .bool:=by
 unfold isBool at h
 split at h
 ·rename_i ti ht
  split at h
  ·rename_i hd
   obtain⟨d,e3,e2⟩:=(hT t ti (by simpa using ht)).1.under
   rw[hd]at e2
   cases d with
   |bool=>exact e3
   |_=>simp[zeB]at e2
  ·cases h
 ·cases h
omit h hc in
theorem zoF (hT:TOK cx.P T) {t:Nat} (h:isSl T (some t)=true):∃e,cx.P.underlying t=some (.slice e):=by
 unfold isSl at h
 split at h
 ·rename_i ti ht
  split at h
  ·rename_i e hd
   obtain⟨d,e3,e2⟩:=(hT t ti (by simpa using ht)).1.under
   rw[hd]at e2
   cases d with
   |slice e'=>exact⟨e',e3⟩
   |_=>simp[zeB]at e2
  ·cases h
 ·cases h
section
variable {P:Program}
omit h hc
theorem zoG {t e d:Nat} {a:Option Addr} {n c:Nat} (hu:P.underlying t=some (.slice e)):(Op.equalIn (d+1) t (.slice a n c) (.slice none 0 0)).run P w= .ok a.isNone w:=by
 cases a<;>simp[Op.equalIn,run_underlying hu]
theorem zsz {t e d:Nat} {a:Option Addr} (hu:P.underlying t=some (.pointer e)):(Op.equalIn (d+1) t (.pointer a) (.pointer none)).run P w= .ok a.isNone w:=by
 cases a<;>simp[Op.equalIn,run_underlying hu]
theorem zqt {t d:Nat} {a b:Bool} (hu:P.underlying t=some .bool):(Op.equalIn (d+1) t (.bool a) (.bool b)).run P w= .ok (a==b) w:=by
 simp[Op.equalIn,run_underlying hu]
theorem zmR {op:BinOp} {t:Nat} {x y:Value} {x0 y0:Operand} {b:Bool} (hop:op= .eql∨op= .neq) (hg:(eqGuard op t x0 y0 x y).run P w= .ok () w)
  (hq:(Op.equal t x y).run P w= .ok b w) (h1:∀op',binOp op' t x y=(match op' with| .eql=>do pure (.bool (←Op.equal t x y))| .neq=>do pure (.bool (!(←Op.equal t x y)))|_=>binOp op' t x y)):
  ((do eqGuard op t x0 y0 x y;binOp op t x y:Sem Value)).run P w= .ok (.bool (if op= .eql then b else !b)) w:=by
 rcases hop with rfl|rfl
 ·rw[h1];simp[hg,hq]
 ·rw[h1];simp[hg,hq]
end
omit h hc in
theorem zqu {op:BinOp} {x:Option Bool} {z:C} (hz:nilB op x=some z) {b:Bool} (hb:∀b',x=some b'→b=b'):(op= .eql∨op= .neq)∧ReC cx w r β z (.bool (if op= .eql then b else !b)):=by
 unfold nilB at hz
 split at hz
 ·cases hz;rename_i b';rw[hb b' rfl];exact⟨.inl rfl,by simp[ReC,Rd,flat]⟩
 ·cases hz;rename_i b';rw[hb b' rfl];exact⟨.inr rfl,by simp[ReC,Rd,flat]⟩
 ·cases hz;exact⟨.inl rfl,by simp[ReC]⟩
 ·cases hz;exact⟨.inr rfl,by simp[ReC]⟩
 ·cases hz
omit h hc in
theorem ztY (hT:TOK cx.P T) {op:BinOp} {t:TypeId} {x0 y0:Operand} {x y z:C} {p:Prop} {ux uy:Value} (hz:cmpA T r op t x y=some (p,z)) (hp:p) (hx:ReC cx w r β x ux) (hy:ReC cx w r β y uy):
  ∃u,((do eqGuard op t x0 y0 ux uy;binOp op t ux uy:Sem Value)).run cx.P w= .ok u w∧ReC cx w r β z u:=by
 have hslice:∀{a:Option Addr} {n c:Nat} {o:Option Bool},isSl T (some t)=true→nilB op o=some z→(∀b,o=some b→a.isNone=b)→
   ∃u,((do eqGuard op t x0 y0 (.slice a n c) (.slice none 0 0);binOp op t (.slice a n c) (.slice none 0 0):Sem Value)).run cx.P w= .ok u w∧ReC cx w r β z u:=fun {a n c o} h1 h2 h3=>by
  obtain⟨e,he⟩:=zoF (cx:=cx) hT h1
  obtain⟨g1,g2⟩:=zqu (cx:=cx) (r:=r) (w:=w) (β:=β) h2 (b:=a.isNone) h3
  refine⟨_,zmR g1 ?_ (zoG (d:=9999) he) (fun op'=>by cases op'<;>rfl),g2⟩
  unfold eqGuard;rcases g1 with rfl|rfl<;>simp
 have hptr:∀{a:Option Addr} {o:Option Bool},isPtr T t=true→nilB op o=some z→(∀b,o=some b→a.isNone=b)→
   ∃u,((do eqGuard op t x0 y0 (.pointer a) (.pointer none);binOp op t (.pointer a) (.pointer none):Sem Value)).run cx.P w= .ok u w∧ReC cx w r β z u:=fun {a o} h1 h2 h3=>by
  obtain⟨e,he⟩:=zsy (cx:=cx) hT h1
  obtain⟨g1,g2⟩:=zqu (cx:=cx) (r:=r) (w:=w) (β:=β) h2 (b:=a.isNone) h3
  refine⟨_,zmR g1 ?_ (zsz (d:=9999) he) (fun op'=>by cases op'<;>rfl),g2⟩
  unfold eqGuard;rcases g1 with rfl|rfl<;>simp
 have hbool:∀{a b:Bool},(op= .eql∨op= .neq)→isBool T t=true→
   ((do eqGuard op t x0 y0 (.bool a) (.bool b);binOp op t (.bool a) (.bool b):Sem Value)).run cx.P w= .ok (.bool (if op= .eql then a==b else !(a==b))) w:=fun {a b} g1 h1=>by
  refine zmR g1 ?_ (zqt (d:=9999) (zqs (cx:=cx) hT h1)) (fun op'=>by cases op'<;>rfl)
  unfold eqGuard;rcases g1 with rfl|rfl<;>simp
 unfold cmpA at hz
 split at hz
 ·rename_i a b
  have e1:=(zbp.1 hx).1
  have e2:=(zbp.1 hy).1
  subst e1 e2
  cases op<;>simp only[Option.some.injEq,Prod.mk.injEq,reduceCtorEq]at hz
  ·obtain⟨rfl,rfl⟩:=hz
   exact⟨_,hbool (.inl rfl) hp,by simp[ReC,Rd,flat]⟩
  ·obtain⟨rfl,rfl⟩:=hz
   exact⟨_,hbool (.inr rfl) hp,by simp[ReC,Rd,flat,bne]⟩
 ·have e1:=(zbp.1 hx).1
  have e2:=(zbp.1 hy).1
  subst e1 e2
  obtain⟨z',g1,g2⟩:=Option.map_eq_some_iff.1 hz
  cases g2
  exact hslice hp g1 (fun b hb=>by cases hb;rfl)
 ·rename_i n ds
  have e2:=(zbp.1 hy).1
  subst e2
  obtain⟨z',g1,g2⟩:=Option.map_eq_some_iff.1 hz
  cases g2
  simp only[ReC]at hx
  obtain⟨a,cap,rfl,_,hr⟩:=hx
  refine hslice hp.1 g1 (fun b hb=> ?_)
  split at hb
  ·cases hb
  ·rename_i hn
   cases hb
   obtain⟨b,o,rfl⟩:=hr.addr (hp.2 hn)
   rfl
 ·rename_i n ds
  have e2:=(zbp.1 hy).1
  subst e2
  obtain⟨z',g1,g2⟩:=Option.map_eq_some_iff.1 hz
  cases g2
  simp only[ReC,Rd]at hx
  obtain⟨a,cap,rfl,_,hr⟩:=hx
  refine hslice hp.1 g1 (fun b hb=> ?_)
  split at hb
  ·cases hb
  ·rename_i hn
   cases hb
   obtain⟨b,o,rfl⟩:=(zdd.1 hr).addr (hp.2 hn)
   rfl
 ·rename_i hd lo n
  have e2:=(zbp.1 hy).1
  subst e2
  split at hz
  ·rename_i res hg
   obtain⟨z',g1,g2⟩:=Option.map_eq_some_iff.1 hz
   cases g2
   simp only[ReC]at hx
   obtain⟨_,_,hcap,a,rfl,ha⟩:=hx.2.2 res hg
   refine hslice hp g1 (fun b hb=> ?_)
   split at hb
   ·cases hb
   ·rename_i hn
    cases hb
    obtain⟨b,o,_,rfl⟩:=ha.resolve_left (by omega)
    rfl
  ·cases hz
 ·have e1:=(zbp.1 hx).1
  have e2:=(zbp.1 hy).1
  subst e1 e2
  obtain⟨z',g1,g2⟩:=Option.map_eq_some_iff.1 hz
  cases g2
  exact hptr hp g1 (fun b hb=>by cases hb;rfl)
 ·rename_i hd off
  have e2:=(zbp.1 hy).1
  subst e2
  split at hz
  ·rename_i res hg
   obtain⟨z',g1,g2⟩:=Option.map_eq_some_iff.1 hz
   cases g2
   simp only[ReC]at hx
   obtain⟨b,o,_,rfl⟩:=hx.2.2 res hg
   exact hptr hp g1 (fun b hb=>by cases hb;rfl)
  ·cases hz
 ·have e2:=(zbp.1 hy).1
  subst e2
  obtain⟨z',g1,g2⟩:=Option.map_eq_some_iff.1 hz
  cases g2
  simp only[ReC]at hx
  obtain⟨b,o,rfl,_⟩:=hx
  exact hptr hp g1 (fun b hb=>by cases hb;rfl)
 ·have e2:=(zbp.1 hy).1
  subst e2
  obtain⟨z',g1,g2⟩:=Option.map_eq_some_iff.1 hz
  cases g2
  simp only[ReC]at hx
  obtain⟨b,o,us,rfl,_⟩:=hx
  exact hptr hp g1 (fun b hb=>by cases hb;rfl)
 ·cases hz
omit h hc in
theorem zge:∀{l:List C} {xs us:List Value},valsOf l=some xs→ReCs cx w r β l us→us=xs
 |[],xs,us,h1,h2=>by simp only[valsOf,Option.some.injEq]at h1;simp only[ReCs]at h2;rw[h2,h1]
 |x::l,xs,us,h1,h2=>by
  simp only[valsOf]at h1
  split at h1
  ·rename_i y ys g1 g2
   cases h1
   simp only[ReCs]at h2
   obtain⟨u,us',rfl,g3,g4⟩:=h2
   rw[zge g2 g4]
   unfold valOf at g1
   split at g1
   ·cases g1;rw[(zbp.1 g3).1]
   ·cases g1
  ·cases h1
include hT in
theorem zwx {op:BinOp} {t yt:TypeId} {x y:Operand} (ho:o.op= .binOp op t x y yt) (hs:(aop T c v r o.dst o.op).sc):
  Does cx v a w (execOp a.eval o) (aop T c v r o.dst o.op).x (aop T c v r o.dst o.op).r:=by
 simp only[ho,aop,Out.with]at hs⊢
 obtain⟨⟨s1,s2⟩,hs⟩:=hs
 have e1:=zbl h hc s1
 have e2:=zbl h hc s2
 unfold binA at hs⊢
 split at hs
 ·rename_i x1 y1 h1 h2
  simp only[h1,h2]at e1 e2
  have f1:=(zas.1 e1).1
  have f2:=(zas.1 e2).1
  split at hs
  ·rename_i z hz
   obtain⟨g1,g2⟩:=zuX (cx:=cx) (w:=w) (t:=t) (x0:=x) (y0:=y) hz
   simp only[hz]
   refine .val h (u:=z) ?_ (zas.2 ⟨rfl,g2⟩)
   rw[←f1,←f2]at g1
   simp only[execOp,ho,Sem.run_bind]at g1⊢
   simp only[g1,Result.andThen_ok,Sem.run_pure]
  ·rename_i hn
   split at hs
   ·rename_i p z hz
    simp only[hn,hz]
    obtain⟨u,g1,g2⟩:=ztY hT (x0:=x) (y0:=y) hz hs (zaN.1 e1) (zaN.1 e2)
    refine .val h (u:=u) ?_ (zaN.2 g2)
    simp only[execOp,ho,Sem.run_bind]at g1⊢
    simp only[g1,Result.andThen_ok,Sem.run_pure]
   ·exact hs.elim
 ·rename_i x1 y1 hnv h1 h2
  simp only[h1,h2]at e1 e2
  split at hs
  ·rename_i p z hz
   simp only[hz]
   obtain⟨u,g1,g2⟩:=ztY hT (x0:=x) (y0:=y) hz hs (zaN.1 e1) (zaN.1 e2)
   refine .val h (u:=u) ?_ (zaN.2 g2)
   simp only[execOp,ho,Sem.run_bind]at g1⊢
   simp only[g1,Result.andThen_ok,Sem.run_pure]
  ·exact hs.elim
 ·rename_i l m h1 h2
  simp only[h1,h2]at e1 e2
  obtain⟨us1,f1,f2⟩:=zbR.1 e1
  obtain⟨us2,f3,f4⟩:=zbR.1 e2
  split at hs
  ·rename_i ti xs ys k1 k2 k3
   have d1:=zge k2 f2
   have d2:=zge k3 f4
   have hrun:∀op',(op'= .eql∨op'= .neq)→ti.eq=true∧xs.map kindV=ti.zero.map kindV∧ys.map kindV=ti.zero.map kindV→
     ((do eqGuard op' t x y (a.eval x) (a.eval y);binOp op' t (a.eval x) (a.eval y):Sem Value)).run cx.P w= .ok (.bool (if op'= .eql then eqVs xs ys else !(eqVs xs ys))) w:=by
    rintro op' hop ⟨q1,q2,q3⟩
    obtain⟨q4,q5⟩:=(hT t ti k1).2 q1 xs ys w q2 q3
    have e3:a.eval x= .agg xs.toArray:=by rw[f1,←d1]
    have e4:a.eval y= .agg ys.toArray:=by rw[f3,←d2]
    rw[e3,e4]
    simp only[Sem.run_bind,q4 op' x y hop,Result.andThen_ok]
    rcases hop with rfl|rfl<;>simp[binOp,q5]
   split at hs
   ·simp only[k1,k2,k3]
    refine .val h (u:= .bool (eqVs xs ys)) ?_ (zas.2 ⟨rfl,rfl⟩)
    have:=hrun _ (.inl rfl) hs
    simp only[execOp,ho,Sem.run_bind]at this⊢
    simp only[this,Result.andThen_ok,Sem.run_pure,if_true]
   ·simp only[k1,k2,k3]
    refine .val h (u:= .bool !(eqVs xs ys)) ?_ (zas.2 ⟨rfl,rfl⟩)
    have:=hrun _ (.inr rfl) hs
    simp only[execOp,ho,Sem.run_bind]at this⊢
    simp only[this,Result.andThen_ok,Sem.run_pure,reduceCtorEq,if_false]
   ·exact hs.elim
  ·exact hs.elim
 ·exact hs.elim
omit h hc in
theorem znO:∀{l:List AV} {us:List Value} {i:Nat} {z:AV},ReAs cx w r β l us→l[i]? =some z→∃u,us[i]? =some u∧ReA cx w r β z u
 |[],us,i,z,_,h2=>by simp at h2
 |x::l,us,0,z,h1,h2=>by
  simp only[ReAs]at h1
  obtain⟨u,us',rfl,g1,_⟩:=h1
  simp only[List.getElem?_cons_zero,Option.some.injEq]at h2
  exact⟨u,by simp,h2▸g1⟩
 |x::l,us,i+1,z,h1,h2=>by
  simp only[ReAs]at h1
  obtain⟨u,us',rfl,_,g1⟩:=h1
  simpa using znO (i:=i) g1 (by simpa using h2)
theorem zoH {x:Operand} {i:Nat} (ho:o.op= .extract x i) (hs:(aop T c v r o.dst o.op).sc):
  Does cx v a w (execOp a.eval o) (aop T c v r o.dst o.op).x (aop T c v r o.dst o.op).r:=by
 simp only[ho,aop]at hs⊢
 split at hs
 ·rename_i l h1
  try simp only[h1]
  split at hs
  ·rename_i z h2
   simp only[h2]
   have e1:=zbl h hc hs
   rw[h1]at e1
   simp only[ReA]at e1
   obtain⟨us,f1,f2⟩:=e1
   obtain⟨u,g1,g2⟩:=znO f2 h2
   have g3:us[i]? =some u:=by simpa using g1
   exact .val h (u:=u) (by simp[execOp,ho,Instr.extract,f1,g3]) g2
  ·exact hs.elim
 ·exact hs.elim
end
section
variable {cx:Cx} {v:List AV} {r:Rs} {a:Act} {w:World} {β:Nat→Nat→Pl} {T:Nat→Option TI} {c:Bool}
theorem zcu {b o n:Nat}:(⟨b,o,none⟩:Addr).add n=⟨b,o+n,none⟩:=by
 unfold Addr.add
 split
 ·rename_i h;subst h;rfl
 ·rfl
def CellsAt (cx:Cx) (w:World) (r:Rs) (β:Nat→Nat→Pl) (l:List C) (b o:Nat):Prop:=
 ∀(k:Nat) (x:C),l[k]? =some x→∃u,w.cell? ⟨b,o+k,none⟩=some u∧ReC cx w r β x u∧flat u=true
theorem zid {l:List C}:∀{us:List Value} {k:Nat} {x:C},ReCs cx w r β l us→l[k]? =some x→∃u,us[k]? =some u∧ReC cx w r β x u:=by
 induction l with
 |nil=>intro us k x _ hk;simp at hk
 |cons y l ih=>
  intro us k x h hk
  simp only[ReCs]at h
  obtain⟨u,us',rfl,h1,h2⟩:=h
  cases k with
  |zero=>simp only[List.getElem?_cons_zero,Option.some.injEq]at hk;subst hk;exact⟨u,rfl,h1⟩
  |succ k=>simpa using ih h2 (by simpa using hk)
theorem zlO {l:List C}:∀{us:List Value} {k:Nat},ReCs cx w r β l us→ReCs cx w r β (l.drop k) (us.drop k):=by
 induction l with
 |nil=>intro us k h;simp only[ReCs]at h;subst h;simp[ReCs]
 |cons y l ih=>
  intro us k h
  cases k with
  |zero=>simpa using h
  |succ k=>
   simp only[ReCs]at h
   obtain⟨u,us',rfl,h1,h2⟩:=h
   simpa using ih h2
theorem CellsAt.drop {l:List C} {b o k:Nat} (h:CellsAt cx w r β l b o):CellsAt cx w r β (l.drop k) b (o+k):=fun j x hx=>by
 rw[List.getElem?_drop]at hx
 have:=h _ _ hx
 rwa[←Nat.add_assoc]at this
theorem zg9:∀{n:Nat} {l:List C} {b o:Nat},CellsAt cx w r β l b o→n≤l.length→
  ∃us:List Value,us.length=n∧ReCs cx w r β (l.take n) us∧∀j u,us[j]? =some u→w.cell? ⟨b,o+j,none⟩=some u
 |0,l,b,o,_,_=>⟨[],rfl,by simp[ReCs],fun j u hj=>by simp at hj⟩
 |n+1,[],b,o,_,hn=>by simp at hn
 |n+1,x::l,b,o,h,hn=>by
  obtain⟨u,h1,h2,_⟩:=h 0 x (by simp)
  have h':CellsAt cx w r β l b (o+1):=by simpa using h.drop (k:=1)
  obtain⟨us,g1,g2,g3⟩:=zg9 (n:=n) h' (by simpa using hn)
  refine⟨u::us,by simp[g1],by simp only[List.take_succ_cons,ReCs];exact⟨u,us,rfl,h2,g2⟩,fun j u' hj=> ?_⟩
  cases j with
  |zero=>simp only[List.getElem?_cons_zero,Option.some.injEq]at hj;subst hj;simpa using h1
  |succ j=>have:=g3 j u' (by simpa using hj);rwa[Nat.add_assoc,Nat.add_comm 1 j]at this
theorem zkl (hT:TOK cx.P T) {t:Nat} {l:List C} {b o:Nat} (hl:CellsAt cx w r β l b o) (hs:(loadC T t l).1):
  ∃u,(loadVar t ⟨b,o,none⟩).run cx.P w= .ok u w∧ReA cx w r β (loadC T t l).2 u:=by
 unfold loadC at hs⊢
 split at hs
 ·rename_i ti ht
  have hty:=(hT t ti ht).1
  have e1:=hty.run_isAgg w
  have e2:=hty.run_sizeOf w
  split at hs
  ·rename_i hag
   rw[if_pos hag]
   obtain⟨us,g1,g2,g3⟩:=zg9 hl hs
   refine⟨.agg us.toArray, ?_,zbR.2 ⟨us.toArray,rfl,by simpa using g2⟩⟩
   have:=run_loadCells_list (P:=cx.P) w ⟨b,o,none⟩ us (fun j u hj=>by rw[zcu];exact g3 j u hj)
   rw[g1]at this
   simp[loadVar,e1,e2,hag,this]
  ·rename_i hag
   rw[if_neg hag]
   split at hs
   ·rename_i x l'
    obtain⟨u,h1,h2,_⟩:=hl 0 x (by simp)
    refine⟨u, ?_,zaN.2 h2⟩
    simp only[Nat.add_zero]at h1
    simp[loadVar,e1,hag,h1]
   ·exact hs.elim
 ·exact hs.elim
theorem zbz:∀{l:List C} {us:List Value} {i:Nat} {z:C},ReCs cx w r β l us→l[i]? =some z→∃u,us[i]? =some u∧ReC cx w r β z u
 |[],us,i,z,_,h2=>by simp at h2
 |x::l,us,0,z,h1,h2=>by
  simp only[ReCs]at h1
  obtain⟨u,us',rfl,g1,_⟩:=h1
  simp only[List.getElem?_cons_zero,Option.some.injEq]at h2
  exact⟨u,by simp,h2▸g1⟩
 |x::l,us,i+1,z,h1,h2=>by
  simp only[ReCs]at h1
  obtain⟨u,us',rfl,_,g1⟩:=h1
  simpa using zbz (i:=i) g1 (by simpa using h2)
theorem zhv {b o:Nat} {cs:Array Value} {e:TypeId} {fr:Nat×Nat} (h:w.heap[b]? =some (.cells cs e fr)):w.cell? ⟨b,o,none⟩=cs[o]? :=by
 simp[World.cell?,h]
theorem ResOK.cells {pl:Pl} {res:Res} {b o:Nat} (h:ResOK cx w r β pl res) (hb:pl.base=some (b,o)):CellsAt cx w r β res.cells b o:=by
 intro k x hx
 unfold ResOK at h
 split at h
 ·obtain⟨_,b',cs,e,h1,h2,h3,h4⟩:=h
  rw[hb]at h1
  cases h1
  obtain⟨u,g1,g2⟩:=zbz h3 hx
  have g3:cs[k]? =some u:=by simpa using g1
  exact⟨u,by rw[zhv h2,Nat.zero_add];exact g3,g2,h4 u (by simpa using Array.mem_of_getElem? g3)⟩
 ·obtain⟨ds,h1,h2,_⟩:=h
  rw[h1,List.getElem?_map]at hx
  obtain⟨d,hd,rfl⟩:=Option.map_eq_some_iff.1 hx
  simp only[RowM,hb]at h2
  obtain⟨cs,e,g1,_,_,g4⟩:=h2
  obtain⟨u,g5,g6⟩:=g4 k d hd
  exact⟨u,by rw[zhv g1];exact g5,by simp only[ReC];exact g6,g6.flat⟩
theorem zqv {ds:List D} {b o:Nat} {A T:Nat→Prop} (hA:A=Av cx r β) (h:RdT w A T ds (some ⟨b,o,none⟩)):CellsAt cx w r β (ds.map C.d) b o:=by
 intro k x hx
 rw[List.getElem?_map]at hx
 obtain⟨d,hd,rfl⟩:=Option.map_eq_some_iff.1 hx
 obtain⟨_,u,h1,h2⟩:=h.get hd
 subst hA
 exact⟨u,h1,by simp only[ReC];exact h2,h2.flat⟩
variable (hT:TOK cx.P T) (h:Holds cx ⟨v,r⟩ a w β) (hc:c=true) {o:Oper}
include h hc
include hT in
theorem zuY {t:TypeId} {x:Operand} (ho:o.op= .load t x) (hs:(aop T c v r o.dst o.op).sc):
  Does cx v a w (execOp a.eval o) (aop T c v r o.dst o.op).x (aop T c v r o.dst o.op).r:=by
 simp only[ho,aop]at hs⊢
 split at hs
 ·rename_i hd off h1
  try simp only[h1]
  split at hs
  ·rename_i res h2
   simp only[h2]
   obtain⟨s1,s2,s3⟩:=hs
   have e1:=zbl h hc s1
   rw[h1]at e1
   simp only[ReA,ReC]at e1
   obtain⟨b,o',g1,g2⟩:=e1.2.2 res h2
   obtain⟨hl,_⟩:=zad h2
   have hcs:=((h.rs _ _ _ hl).1.cells g1).drop (k:=off)
   obtain⟨u,f1,f2⟩:=zkl hT hcs s3
   exact .val h (u:=u) (by simp[execOp,ho,Instr.loadAt,Instr.sureAddr,g2,f1]) f2
  ·exact hs.elim
 ·rename_i ds h1
  try simp only[h1]
  obtain⟨s1,s3⟩:=hs
  have e1:=zbl h hc s1
  rw[h1]at e1
  simp only[ReA,ReC]at e1
  obtain⟨b,o',g1,g2⟩:=e1
  obtain⟨u,f1,f2⟩:=zkl hT (zqv rfl g2) s3
  exact .val h (u:=u) (by simp[execOp,ho,Instr.loadAt,Instr.sureAddr,g1,f1]) f2
 ·rename_i cs h1
  try simp only[h1]
  obtain⟨s1,s3⟩:=hs
  have e1:=zbl h hc s1
  rw[h1]at e1
  simp only[ReA,ReC]at e1
  obtain⟨b,o',us,g1,g2,g3,g4,g5⟩:=e1
  have hcs:CellsAt cx w r β cs b o':=fun j x hx=>by
   obtain⟨u',q1,q2⟩:=zid g5 hx
   obtain⟨q3,q4⟩:=g4 j u' q1
   exact⟨u',q3,q2,q4⟩
  obtain⟨u,f1,f2⟩:=zkl hT hcs s3
  exact .val h (u:=u) (by simp[execOp,ho,Instr.loadAt,Instr.sureAddr,g1,f1]) f2
 ·exact hs.elim
include hT in
omit h hc in
theorem zkm {t f k:Nat} (hf:fieldOff T t f=some k) {b o:Nat}:
  (Instr.fieldAt t (.pointer (some ⟨b,o,none⟩)) f).run cx.P w= .ok (.pointer (some ⟨b,o+k,none⟩)) w:=by
 unfold fieldOff at hf
 split at hf
 ·rename_i ti ht
  split at hf
  ·rename_i fs hd
   split at hf
   ·rename_i k' ft hfs
    split at hf
    ·rename_i fi hft
     split at hf
     ·cases hf
     ·rename_i hne
      cases hf
      obtain⟨d,e1,e2,_⟩:=(hT t ti ht).1.run_under w
      rw[hd]at e2
      cases d with
      |struct fields=> ?_
      |_=>simp[zeB]at e2
      simp only[zeB,TD.struct.injEq]at e2
      rw[←e2,List.getElem?_map]at hfs
      obtain⟨fd,hfd,hfd2⟩:=Option.map_eq_some_iff.1 hfs
      cases hfd2
      have hfd':fields[f]? =some fd:=by simpa using hfd
      have e3:=(hT fd.type fi hft).1.run_sizeOf w
      simp[Instr.fieldAt,e1,hfd',Instr.sureAddr,fieldPlace,e3,hne,zcu]
    ·cases hf
   ·cases hf
  ·cases hf
 ·cases hf
include hT in
theorem zsA {t:TypeId} {f:Nat} {x:Operand} (ho:o.op= .fieldAddr t x f) (hs:(aop T c v r o.dst o.op).sc):
  Does cx v a w (execOp a.eval o) (aop T c v r o.dst o.op).x (aop T c v r o.dst o.op).r:=by
 simp only[ho,aop]at hs⊢
 split at hs
 ·rename_i k hd off h1 h2
  try simp only[h1,h2]
  split at hs
  ·rename_i res h3
   simp only[h3]
   have e1:=zbl h hc hs
   rw[h2]at e1
   simp only[ReA,ReC]at e1
   obtain⟨b,o',g1,g2⟩:=e1.2.2 res h3
   refine .val h (u:= .pointer (some ⟨b,o'+off+k,none⟩)) (by simp[execOp,ho,g2,zkm hT h1]) ?_
   simp only[ReA,ReC]
   refine⟨rfl,e1.2.1,fun res' hr=>⟨b,o',g1,by rw[Nat.add_assoc]⟩⟩
  ·exact hs.elim
 ·rename_i k ds h1 h2
  try simp only[h1,h2]
  obtain⟨s1,s2⟩:=hs
  have e1:=zbl h hc s1
  rw[h2]at e1
  simp only[ReA,ReC]at e1
  obtain⟨b,o',g1,g2⟩:=e1
  refine .val h (u:= .pointer (some ⟨b,o'+k,none⟩)) (by simp[execOp,ho,g1,zkm hT h1]) ?_
  simp only[ReA,ReC]
  exact⟨b,o'+k,rfl,g2.drop⟩
 ·rename_i k cs h1 h2
  try simp only[h1,h2]
  obtain⟨s1,s2⟩:=hs
  have e1:=zbl h hc s1
  rw[h2]at e1
  simp only[ReA,ReC]at e1
  obtain⟨b,o',us,g1,g2,g3,g4,g5⟩:=e1
  refine .val h (u:= .pointer (some ⟨b,o'+k,none⟩)) (by simp[execOp,ho,g1,zkm hT h1]) ?_
  simp only[ReA,ReC]
  exact⟨b,o'+k,us.drop k,rfl,g2,g3,fun j u' hj=>by
   rw[List.getElem?_drop]at hj
   have:=g4 _ _ hj
   rwa[←Nat.add_assoc]at this,zlO g5⟩
 ·exact hs.elim
end
section
variable {cx:Cx} {v:List AV} {r:Rs} {a:Act} {w:World} {β:Nat→Nat→Pl} {T:Nat→Option TI} {c:Bool}
theorem zbv (hT:TOK cx.P T) {t e:Nat} {ei:TI} (h:elemSz T t=some (e,ei)) (w:World):
  (underlying t).run cx.P w= .ok (.slice e) w∧(sizeOf e).run cx.P w= .ok ei.size w∧TyOK cx.P e ei∧cx.P.underlying t=some (.slice e):=by
 unfold elemSz at h
 split at h
 ·rename_i ti ht
  split at h
  ·rename_i e' hd
   split at h
   ·rename_i ei' he
    cases h
    obtain⟨d,e1,e2,e3⟩:=(hT t ti ht).1.run_under w
    rw[hd]at e2
    cases d with
    |slice e''=>simp only[zeB,TD.slice.injEq]at e2;subst e2;exact⟨e1,(hT _ _ he).1.run_sizeOf w,(hT _ _ he).1,e3⟩
    |_=>simp[zeB]at e2
   ·cases h
  ·cases h
 ·cases h
theorem zdE (hT:TOK cx.P T) {t e:Nat} {ei:TI} (he:elemSz T t=some (e,ei)) {k:IntKind} {n:Int} {b o m cap:Nat} (h0:0≤n) (h1:n<m):
  (Instr.indexAt t (.slice (some ⟨b,o,none⟩) m cap) (.int k n)).run cx.P w= .ok (.pointer (some ⟨b,o+n.toNat*ei.size,none⟩)) w:=by
 obtain⟨e1,e2,_⟩:=zbv hT he w
 simp[Instr.indexAt,asIntOf,e1,e2,h0,h1,zcu]
theorem zsB (hT:TOK cx.P T) {t n:Nat} {ei:TI} (h:arrSz T t=some (n,ei)) (w:World):
  ∃e,(underlying t).run cx.P w= .ok (.array n e) w∧(sizeOf e).run cx.P w= .ok ei.size w:=by
 unfold arrSz at h
 split at h
 ·rename_i ti ht
  split at h
  ·rename_i n' e' hd
   split at h
   ·rename_i ei' he
    cases h
    obtain⟨d,e1,e2,e3⟩:=(hT t ti ht).1.run_under w
    rw[hd]at e2
    cases d with
    |array m e''=>simp only[zeB,TD.array.injEq]at e2;obtain⟨rfl,rfl⟩:=e2;exact⟨_,e1,(hT _ _ he).1.run_sizeOf w⟩
    |_=>simp[zeB]at e2
   ·cases h
  ·cases h
 ·cases h
theorem zuZ (hT:TOK cx.P T) {t n:Nat} {ei:TI} (h:arrSz T t=some (n,ei)) (hi:isIntTI ei=true) (w:World):
  ∃e k,(underlying t).run cx.P w= .ok (.array n e) w∧(sizeOf e).run cx.P w= .ok 1 w∧((underlying e).run cx.P w= .ok (.int k) w∨∃d,(underlying e).run cx.P w= .ok (.pointer d) w):=by
 unfold arrSz at h
 split at h
 ·rename_i ti ht
  split at h
  ·rename_i n' e' hd
   split at h
   ·rename_i ei' he
    cases h
    obtain⟨d,e1,e2,e3⟩:=(hT t ti ht).1.run_under w
    rw[hd]at e2
    unfold isIntTI at hi
    split at hi
    ·rename_i k hk
     obtain⟨d',f1,f2,f3⟩:=(hT _ _ he).1.run_under w
     rw[hk]at f2
     have hsz:ei.size=1:=by simpa using hi
     have h4:=(hT _ _ he).1.run_sizeOf w
     rw[hsz]at h4
     cases d with
     |array m e''=>
      simp only[zeB,TD.array.injEq]at e2
      obtain⟨rfl,rfl⟩:=e2
      cases d' with
      |int k'=>simp only[zeB,TD.int.injEq]at f2;subst f2;exact⟨_,_,e1,h4, .inl f1⟩
      |_=>simp[zeB]at f2
     |_=>simp[zeB]at e2
    ·rename_i k hk
     obtain⟨d',f1,f2,f3⟩:=(hT _ _ he).1.run_under w
     rw[hk]at f2
     have hsz:ei.size=1:=by simpa using hi
     have h4:=(hT _ _ he).1.run_sizeOf w
     rw[hsz]at h4
     cases d with
     |array m e''=>
      simp only[zeB,TD.array.injEq]at e2
      obtain⟨rfl,rfl⟩:=e2
      cases d' with
      |pointer k'=>exact⟨_, .i64,e1,h4, .inr ⟨_,f1⟩⟩
      |_=>simp[zeB]at f2
     |_=>simp[zeB]at e2
    ·cases hi
   ·cases h
  ·cases h
 ·cases h
theorem zeX (hT:TOK cx.P T) {t m:Nat} {ei:TI} (he:arrSz T t=some (m,ei)) {k:IntKind} {n:Int} {b o:Nat} (h0:0≤n) (h1:n<m):
  (Instr.indexAt t (.pointer (some ⟨b,o,none⟩)) (.int k n)).run cx.P w= .ok (.pointer (some ⟨b,o+n.toNat*ei.size,none⟩)) w:=by
 obtain⟨e,e1,e2⟩:=zsB hT he w
 simp[Instr.indexAt,Instr.sureAddr,asIntOf,e1,e2,h0,h1,zcu]
variable (hT:TOK cx.P T) (h:Holds cx ⟨v,r⟩ a w β) (hc:c=true) {o:Oper}
include h hc
omit h hc in
theorem RdT.nonempty {A Tp:Nat→Prop} {ds:List D} {ad:Option Addr} (h:RdT w A Tp ds ad) (hn:0<ds.length):∃b o,ad=some ⟨b,o,none⟩:=
 h.addr (by intro he;simp[he]at hn)
include hT in
theorem zwy {t:TypeId} {x i:Operand} (ho:o.op= .indexAddr t x i) (hs:(aop T c v r o.dst o.op).sc):
  Does cx v a w (execOp a.eval o) (aop T c v r o.dst o.op).x (aop T c v r o.dst o.op).r:=by
 simp only[ho,aop,Out.with]at hs⊢
 obtain⟨⟨s1,s2⟩,hs⟩:=hs
 have e1:=zbl h hc s1
 have e2:=zbl h hc s2
 unfold idxA at hs⊢
 split at hs
 ·rename_i e ei k n hd lo m h1 h2 h3
  rw[h3]at e1
  rw[h2]at e2
  have f2:=(zas.1 e2).1
  split at hs
  ·rename_i res h4
   simp only[h4]
   obtain⟨q1,q2,q3⟩:=hs
   obtain⟨q3,q4⟩:=q3 hc
   simp only[ReA,ReC]at e1
   obtain⟨k1,k2,k3⟩:=e1
   obtain⟨p1,p2,p3,ad,p4,p5⟩:=k3 res h4
   have hcap:(β hd.s hd.j).cap - lo≠0:=by omega
   obtain⟨b,o',p6,p7⟩:=p5.resolve_left hcap
   subst p7
   refine .val h (u:= .pointer (some ⟨b,o'+lo*res.sz+n.toNat*ei.size,none⟩)) ?_ ?_
   ·simp[execOp,ho,p4,f2,zdE hT h1 q3 q4]
   ·simp only[ReA,ReC]
    refine⟨rfl,k2,fun res' hr=>⟨b,o',p6, ?_⟩⟩
    rw[q1,Nat.add_mul,Nat.add_assoc]
  ·exact hs.elim
 ·rename_i e ei k n m ds h1 h2 h3
  rw[h3]at e1
  rw[h2]at e2
  have f2:=(zas.1 e2).1
  obtain⟨q1,q2,q3⟩:=hs
  obtain⟨q3,q4⟩:=q3 hc
  simp only[ReA,ReC]at e1
  obtain⟨ad,cap,p1,p2,p3⟩:=e1
  obtain⟨b,o',rfl⟩:=RdT.nonempty p3 (by rw[q2];exact Nat.mul_pos (by omega) (by omega))
  refine .val h (u:= .pointer (some ⟨b,o'+n.toNat*ei.size,none⟩)) ?_ ?_
  ·simp[execOp,ho,p1,f2,zdE hT h1 q3 q4]
  ·simp only[ReA,ReC]
   exact⟨b,_,rfl,p3.drop⟩
 ·rename_i e ei k n m ds h1 h2 h3
  rw[h3]at e1
  rw[h2]at e2
  have f2:=(zas.1 e2).1
  obtain⟨q1,q2,q3⟩:=hs
  obtain⟨q3,q4⟩:=q3 hc
  simp only[ReA,ReC,Rd]at e1
  obtain⟨ad,cap,p1,p2,p3⟩:=e1
  have p3:=(zdd.1 p3).imp (T':=Top cx (Av cx r β)) (fun b hb=> .inl hb)
  obtain⟨b,o',rfl⟩:=RdT.nonempty p3 (by rw[q2];exact Nat.mul_pos (by omega) (by omega))
  refine .val h (u:= .pointer (some ⟨b,o'+n.toNat*ei.size,none⟩)) ?_ ?_
  ·simp[execOp,ho,p1,f2,zdE hT h1 q3 q4]
  ·simp only[ReA,ReC]
   exact⟨b,_,rfl,p3.drop⟩
 ·rename_i k n hd off h1 h2 h3
  rw[h3]at e1
  rw[h2]at e2
  have f2:=(zas.1 e2).1
  split at hs
  ·rename_i m ei res h4 h5
   simp only[h4,h5]
   obtain⟨q3,q4⟩:=hs hc
   simp only[ReA,ReC]at e1
   obtain⟨k1,k2,k3⟩:=e1
   obtain⟨b,o',p6,p7⟩:=k3 res h5
   refine .val h (u:= .pointer (some ⟨b,o'+off+n.toNat*ei.size,none⟩)) ?_ ?_
   ·simp[execOp,ho,p7,f2,zeX hT h4 q3 q4]
   ·simp only[ReA,ReC]
    exact⟨rfl,k2,fun res' hr=>⟨b,o',by rw[←p6],by rw[Nat.add_assoc]⟩⟩
  ·exact hs.elim
 ·rename_i k n ds h1 h2 h3
  rw[h3]at e1
  rw[h2]at e2
  have f2:=(zas.1 e2).1
  split at hs
  ·rename_i m ei h4
   simp only[h4]
   obtain⟨q3,q4⟩:=hs hc
   simp only[ReA,ReC]at e1
   obtain⟨b,o',p1,p3⟩:=e1
   refine .val h (u:= .pointer (some ⟨b,o'+n.toNat*ei.size,none⟩)) ?_ ?_
   ·simp[execOp,ho,p1,f2,zeX hT h4 q3 q4]
   ·simp only[ReA,ReC]
    exact⟨b,_,rfl,p3.drop⟩
  ·exact hs.elim
 ·exact hs.elim
omit h hc in
theorem zhw (hT:TOK cx.P T) {t:Nat} (h:isStr T (some t)=true) (w:World):(underlying t).run cx.P w= .ok .string w∧cx.P.underlying t=some .string:=by
 unfold isStr at h
 split at h
 ·rename_i ti ht
  split at h
  ·rename_i hd
   obtain⟨d,e1,e2,e3⟩:=(hT t ti (by simpa using ht)).1.run_under w
   rw[hd]at e2
   cases d with
   |string=>exact⟨e1,e3⟩
   |_=>simp[zeB]at e2
  ·cases h
 ·cases h
omit h hc in
theorem zeY (hT:TOK cx.P T) {t:Nat} (h:isSl T (some t)=true) (w:World):∃e,(underlying t).run cx.P w= .ok (.slice e) w∧cx.P.underlying t=some (.slice e):=by
 unfold isSl at h
 split at h
 ·rename_i ti ht
  split at h
  ·rename_i e hd
   obtain⟨d,e1,e2,e3⟩:=(hT t ti (by simpa using ht)).1.run_under w
   rw[hd]at e2
   cases d with
   |slice e'=>exact⟨e',e1,e3⟩
   |_=>simp[zeB]at e2
  ·cases h
 ·cases h
include hT in
theorem zsC {t:TypeId} {x i:Operand} (ho:o.op= .index t x i) (hs:(aop T c v r o.dst o.op).sc):
  Does cx v a w (execOp a.eval o) (aop T c v r o.dst o.op).x (aop T c v r o.dst o.op).r:=by
 simp only[ho,aop]at hs⊢
 split at hs
 ·rename_i k n s h1 h2
  try simp only[h1,h2]
  obtain⟨s1,s2,s3,s4⟩:=hs
  obtain⟨q1,q2⟩:=s4 hc
  have e1:=zbl h hc s1
  have e2:=zbl h hc s2
  rw[h2]at e1
  rw[h1]at e2
  have f1:=(zas.1 e1).1
  have f2:=(zas.1 e2).1
  obtain⟨g1,_⟩:=zhw hT s3 w
  have hlt:n.toNat<s.size:=by omega
  refine .val h (u:= .int .u8 (s.data.getD n.toNat 0).toNat) ?_ (zas.2 ⟨rfl,rfl⟩)
  have hb:s[n.toNat]? =some (s.data.getD n.toNat 0):=by
   have:n.toNat<s.data.size:=hlt
   rw[getElem?_pos s n.toNat hlt]
   simp[Array.getD,this]
   rw[dif_pos hlt]
   rfl
  simp[execOp,ho,Instr.index,asIntOf,f1,f2,g1,q1,hb]
 ·rename_i k n l h1 h2
  split at hs
  ·rename_i m ei y h3 h4
   try simp only[h1,h2,h3,h4]
   obtain⟨s1,s2,s3,s4⟩:=hs
   obtain⟨q1,q2⟩:=s4 hc
   have e1:=zbl h hc s1
   have e2:=zbl h hc s2
   rw[h2]at e1
   rw[h1]at e2
   obtain⟨us,f1,f3⟩:=zbR.1 e1
   have f2:=(zas.1 e2).1
   obtain⟨u,g1,g2⟩:=zid f3 h4
   obtain⟨e,k2,t1,t2,t3⟩:=zuZ hT h3 s3 w
   have g1':us[n.toNat]? =some u:=by rw[←Array.getElem?_toList];exact g1
   refine .val h (u:=u) ?_ (zaN.2 g2)
   rcases t3 with t3|⟨d,t3⟩<;>simp[execOp,ho,Instr.index,asIntOf,f1,f2,t1,t2,t3,q1,q2,part,isAgg,g1']
  ·exact hs.elim
 ·exact hs.elim
omit h hc in
theorem zlP:∀{l:List C} {us:List Value} {k:Nat},ReCs cx w r β l us→ReCs cx w r β (l.take k) (us.take k)
 |[],us,k,h=>by simp only[ReCs]at h;subst h;simp[ReCs]
 |x::l,us,0,h=>by simp[ReCs]
 |x::l,us,k+1,h=>by
  simp only[ReCs]at h
  obtain⟨u,us',rfl,h1,h2⟩:=h
  simp only[List.take_succ_cons,ReCs]
  exact⟨u,us'.take k,rfl,h1,zlP h2⟩
include hT in
theorem zqw {t:TypeId} {f:Nat} {x:Operand} (ho:o.op= .field t x f) (hs:(aop T c v r o.dst o.op).sc):
  Does cx v a w (execOp a.eval o) (aop T c v r o.dst o.op).x (aop T c v r o.dst o.op).r:=by
 simp only[ho,aop,Out.with]at hs⊢
 obtain⟨s1,hs⟩:=hs
 have e1:=zbl h hc s1
 unfold fieldA at hs⊢
 split at hs
 ·rename_i l ti h1 h2
  rw[h1]at e1
  obtain⟨us,f1,f2⟩:=zbR.1 e1
  split at hs
  ·rename_i fs hd
   split at hs
   ·rename_i o' ft hfs
    simp only[h1,h2,hd,hfs]
    obtain⟨d,q1,q2,_⟩:=(hT t ti h2).1.run_under w
    rw[hd]at q2
    cases d with
    |struct fields=> ?_
    |_=>simp[zeB]at q2
    simp only[zeB,TD.struct.injEq]at q2
    rw[←q2,List.getElem?_map]at hfs
    obtain⟨fd,hfd,hfd2⟩:=Option.map_eq_some_iff.1 hfs
    cases hfd2
    have hfd':fields[f]? =some fd:=by simpa using hfd
    have hex:(execOp a.eval o).run cx.P w=((fun u=>Next.value u)<$>part fd.type us fd.offset).run cx.P w:=by
     simp[execOp,ho,Instr.field,q1,hfd',f1,asAgg]
    unfold loadC at hs⊢
    split at hs
    ·rename_i fi hfi
     have hty:=(hT _ fi hfi).1
     have g1:=hty.run_isAgg w
     have g2:=hty.run_sizeOf w
     try simp only[hfi]
     split at hs
     ·rename_i hag
      rw[if_pos hag]
      refine .val h (u:= .agg (us.extract fd.offset (fd.offset+fi.size))) ?_ (zbR.2 ⟨_,rfl, ?_⟩)
      ·rw[hex]
       simp[part,g1,g2,hag]
      ·have:=zlP (k:=fi.size) (zlO (k:=fd.offset) f2)
       rw[Array.toList_extract]
       simpa[List.extract]using this
     ·rename_i hag
      rw[if_neg hag]
      split at hs
      ·rename_i y l' hl
       obtain⟨u,p1,p2⟩:=zid f2 (k:=fd.offset) (x:=y) (by have:=congrArg List.head? hl;rw[List.head?_drop]at this;simpa using this)
       have p1':us[fd.offset]? =some u:=by rw[←Array.getElem?_toList];exact p1
       try simp only[hl]
       refine .val h (u:=u) ?_ (zaN.2 p2)
       rw[hex]
       simp[part,g1,hag,p1']
      ·exact hs.elim
    ·exact hs.elim
   ·exact hs.elim
  ·exact hs.elim
 ·exact hs.elim
omit h hc in
theorem zeZ (h:Holds cx ⟨v,r⟩ a w β) (hc:c=true) {x:Option Operand} {d i:Int} (hs:evOS c v x) (hb:sliceB (evO v x) d=some i):
  (x=none∧i=d)∨∃y k,x=some y∧a.eval y= .int k i:=by
 cases x with
 |none=>simp only[evO,sliceB,Option.some.injEq]at hb;exact .inl ⟨rfl,hb.symm⟩
 |some y=>
  simp only[evO,evOS]at hb hs
  have e1:=zbl h hc hs
  unfold sliceB at hb
  split at hb
  ·rename_i h1;cases h1
  ·rename_i k n h1
   cases hb
   simp only[Option.some.injEq]at h1
   rw[h1]at e1
   exact .inr ⟨y,k,rfl,(zas.1 e1).1⟩
  ·cases hb
omit h hc in
theorem zie (h:Holds cx ⟨v,r⟩ a w β) (hc:c=true) {lo hi:Option Operand} {isS:Bool} {len cap:Nat} {i j:Int}
  (s1:evOS c v lo) (s2:evOS c v hi) (b1:sliceB (evO v lo) 0=some i) (b2:sliceB (evO v hi) len=some j) (hlc:len≤cap)
  (q1:0≤i) (q2:i≤j) (q3:j≤cap):
  (Instr.sliceBounds isS len cap (lo.map a.eval) (hi.map a.eval) none).run cx.P w= .ok (i.toNat,j.toNat,cap) w:=by
 have hj:∀k,(Instr.sliceBound (.int k j) cap (if isS=true then .sliceAcap else .sliceAlen)).run cx.P w= .ok j.toNat w:=fun k=>by
  have:0≤j∧j≤(cap:Int):=by omega
  simp[Instr.sliceBound,asIntOf,this]
 have hi':∀k,(Instr.sliceBound (.int k i) j.toNat .sliceB).run cx.P w= .ok i.toNat w:=fun k=>by
  have:0≤i∧i≤(j.toNat:Int):=by omega
  unfold Instr.sliceBound
  simp only[asIntOf,pure_bind]
  rw[if_pos this]
  rfl
 rcases zeZ h hc s1 b1 with⟨rfl,rfl⟩|⟨y1,k1,rfl,g1⟩<;>rcases zeZ h hc s2 b2 with⟨rfl,rfl⟩|⟨y2,k2,rfl,g2⟩
 ·simp[Instr.sliceBounds]
 ·simp[Instr.sliceBounds,g2,hj]
 ·have:=hi' k1
  simp[Instr.sliceBounds,g1]at this⊢
  simp[this]
 ·simp[Instr.sliceBounds,g1,g2,hj,hi']
omit h hc in
theorem zfs (h:Holds cx ⟨v,r⟩ a w β) (hc:c=true) {lo hi:Option Operand} {isS:Bool} {len cap:Nat} {i j:Int}
  (s1:evOS c v lo) (s2:evOS c v hi) (b1:sliceB (evO v lo) 0=some i) (b2:sliceB (evO v hi) len=some j) (hlc:len≤cap)
  (q1:0≤i) (q2:i≤j) (q3:j≤len):
  (Instr.sliceBounds isS len cap (lo.map a.eval) (hi.map a.eval) none).run cx.P w= .ok (i.toNat,j.toNat,cap) w:=
 zie h hc s1 s2 b1 b2 hlc q1 q2 (by omega)
omit h hc in
theorem zmS (h:Holds cx ⟨v,r⟩ a w β) (hc:c=true) {lo:Option Operand} {hi mx:Operand} {len cap:Nat} {i j q:Int}
  (s1:evOS c v lo) (s2:evOS c v (some hi)) (s3:evOS c v (some mx)) (b1:sliceB (evO v lo) 0=some i) (b2:sliceB (evO v (some hi)) len=some j) (b3:sliceB (evO v (some mx)) len=some q)
  (q1:0≤i) (q2:i≤j) (q3:j≤q) (q4:q≤cap):
  (Instr.sliceBounds true len cap (lo.map a.eval) (some (a.eval hi)) (some (a.eval mx))).run cx.P w= .ok (i.toNat,j.toNat,q.toNat) w:=by
 have hb:∀k (n:Int) (m:Nat) (t:_),0≤n→n≤(m:Int)→(Instr.sliceBound (.int k n) m t).run cx.P w= .ok n.toNat w:=fun k n m t h0 h1=>by
  unfold Instr.sliceBound
  simp only[asIntOf,pure_bind]
  rw[if_pos ⟨h0,h1⟩]
  rfl
 rcases zeZ h hc s2 b2 with⟨h0,_⟩|⟨y2,k2,e2,g2⟩
 ·cases h0
 ·cases e2
  rcases zeZ h hc s3 b3 with⟨h0,_⟩|⟨y3,k3,e3,g3⟩
  ·cases h0
  ·cases e3
   have h3:=hb k3 q cap .slice3Acap (by omega) q4
   have h2:=hb k2 j q.toNat .slice3B (by omega) (by omega)
   rcases zeZ h hc s1 b1 with⟨rfl,rfl⟩|⟨y1,k1,rfl,g1⟩
   ·simp[Instr.sliceBounds,g2,g3,h2,h3]
   ·have h1:=hb k1 i j.toNat .slice3C q1 (by omega)
    simp[Instr.sliceBounds,g1,g2,g3,h1,h2,h3]
include hT in
theorem zsD {t:TypeId} {x:Operand} {lo hi:Option Operand} (ho:o.op= .slice t x lo hi none) (hs:(aop T c v r o.dst o.op).sc):
  Does cx v a w (execOp a.eval o) (aop T c v r o.dst o.op).x (aop T c v r o.dst o.op).r:=by
 simp only[ho,aop,Out.with]at hs⊢
 obtain⟨⟨s1,s2,s3⟩,hs⟩:=hs
 have e1:=zbl h hc s1
 unfold sliceA at hs⊢
 split at hs
 ·rename_i s h1
  rw[h1]at e1
  have f1:=(zas.1 e1).1
  split at hs
  ·rename_i i j h2 h3 h4
   simp only[h2,h3,h4]
   obtain⟨q1,q2,q3⟩:=hs hc
   obtain⟨g1,_⟩:=zhw hT h2 w
   have hb:=zfs h hc (isS:=false) (cap:=s.size) s2 s3 h3 h4 (Nat.le_refl _) q1 q2 q3
   refine .val h (u:= .string (s.extract i.toNat j.toNat)) ?_ (zas.2 ⟨rfl,rfl⟩)
   simp[execOp,ho,Instr.sliceAt,Instr.slice,g1,f1,hb]
  ·exact hs.elim
 ·rename_i hd lo' n h1
  rw[h1]at e1
  split at hs
  ·rename_i e ei i j res h2 h3 h4 h5
   simp only[h2,h3,h4,h5]
   obtain⟨q0,q⟩:=hs
   obtain⟨q1,q2,q3⟩:=q hc
   simp only[ReA,ReC]at e1
   obtain⟨k1,k2,k3⟩:=e1
   obtain⟨p1,p2,p3,ad,p4,p5⟩:=k3 res h5
   obtain⟨g1,g2,_⟩:=zbv hT h2 w
   have hb:=zfs h hc (isS:=true) (cap:=(β hd.s hd.j).cap - lo') s2 s3 h3 h4 (by omega) q1 q2 q3
   refine .val h (u:= .slice (if(β hd.s hd.j).cap - lo'=i.toNat then ad else ad.map (·.add (i.toNat*ei.size))) (j.toNat - i.toNat) ((β hd.s hd.j).cap - lo' - i.toNat)) ?_ ?_
   ·simp[execOp,ho,Instr.sliceAt,Instr.slice,g1,g2,p4,hb]
   ·simp only[ReA,ReC]
    refine⟨rfl,k2,fun res' hr=> ?_⟩
    rw[h5]at hr
    cases hr
    have hle:(lo'+i.toNat)*res.sz+(j.toNat - i.toNat)*res.sz≤lo'*res.sz+n*res.sz:=by
     rw[←Nat.add_mul,←Nat.add_mul]
     exact Nat.mul_le_mul_right _ (by omega)
    refine⟨p1,Nat.le_trans hle p2,by omega,_,by rw[Nat.sub_sub], ?_⟩
    by_cases hz:(β hd.s hd.j).cap - (lo'+i.toNat)=0
    ·exact .inl hz
    ·right
     obtain⟨b,o',p6,p7⟩:=p5.resolve_left (by omega)
     refine⟨b,o',p6, ?_⟩
     rw[if_neg (by omega),p7]
     simp only[Option.map_some,zcu,q0,Nat.add_mul,Nat.add_assoc]
  ·exact hs.elim
 ·rename_i hd lo' n k h1
  rw[h1]at e1
  split at hs
  ·rename_i e ei i j res h2 h3 h4 h5
   simp only[h2,h3,h4,h5]
   obtain⟨q0,q⟩:=hs
   obtain⟨q1,q2,q3⟩:=q hc
   simp only[ReA,ReC]at e1
   obtain⟨k1,k2,k3,ad,p4,p5⟩:=e1
   obtain⟨p1,p2,p3⟩:=p5 res h5
   obtain⟨g1,g2,_⟩:=zbv hT h2 w
   have hb:=zie h hc (isS:=true) (cap:=k - lo') s2 s3 h3 h4 (by omega) q1 q2 (by omega)
   refine .val h (u:= .slice (if k - lo'=i.toNat then ad else ad.map (·.add (i.toNat*ei.size))) (j.toNat - i.toNat) (k - lo' - i.toNat)) ?_ ?_
   ·simp[execOp,ho,Instr.sliceAt,Instr.slice,g1,g2,p4,hb]
   ·simp only[ReA,ReC]
    refine⟨rfl,k2,by omega,_,by rw[Nat.sub_sub],fun res' hr=> ?_⟩
    rw[h5]at hr
    cases hr
    refine⟨p1,p2, ?_⟩
    by_cases hz:k - (lo'+i.toNat)=0
    ·exact .inl hz
    ·right
     obtain⟨b,o',p6,p7⟩:=p3.resolve_left (by omega)
     refine⟨b,o',p6, ?_⟩
     rw[if_neg (by omega),p7]
     simp only[Option.map_some,zcu,q0,Nat.add_mul,Nat.add_assoc]
  ·exact hs.elim
 ·rename_i n ds h1
  rw[h1]at e1
  split at hs
  ·rename_i e ei i j h2 h3 h4
   simp only[h2,h3,h4]
   obtain⟨q0,q⟩:=hs
   obtain⟨q1,q2,q3⟩:=q hc
   simp only[ReA,ReC]at e1
   obtain⟨ad,cap,p1,p2,p3⟩:=e1
   obtain⟨g1,g2,_⟩:=zbv hT h2 w
   have hb:=zfs h hc (isS:=true) (cap:=cap) s2 s3 h3 h4 (by omega) q1 q2 q3
   refine .val h (u:= .slice (if cap=i.toNat then ad else ad.map (·.add (i.toNat*ei.size))) (j.toNat - i.toNat) (cap - i.toNat)) ?_ ?_
   ·simp[execOp,ho,Instr.sliceAt,Instr.slice,g1,g2,p1,hb]
   ·simp only[ReA,ReC]
    refine⟨_,_,rfl,by omega, ?_⟩
    by_cases hz:j.toNat - i.toNat=0
    ·simp[hz,RdT]
    ·by_cases hds:ds=[]
     ·simp[hds,RdT]
     obtain⟨b,o',rfl⟩:=p3.addr hds
     by_cases hci:cap=i.toNat
     ·omega
     ·rw[if_neg hci]
      simp only[Option.map_some,zcu]
      exact p3.drop.take
  ·exact hs.elim
 ·rename_i n ds h1
  rw[h1]at e1
  split at hs
  ·rename_i e ei i j h2 h3 h4
   simp only[h2,h3,h4]
   obtain⟨q0,q⟩:=hs
   obtain⟨q1,q2,q3⟩:=q hc
   simp only[ReA,ReC,Rd]at e1
   obtain⟨ad,cap,p1,p2,p3⟩:=e1
   have p3:=zdd.1 p3
   obtain⟨g1,g2,_⟩:=zbv hT h2 w
   have hb:=zfs h hc (isS:=true) (cap:=cap) s2 s3 h3 h4 (by omega) q1 q2 q3
   refine .val h (u:= .slice (if cap=i.toNat then ad else ad.map (·.add (i.toNat*ei.size))) (j.toNat - i.toNat) (cap - i.toNat)) ?_ ?_
   ·simp[execOp,ho,Instr.sliceAt,Instr.slice,g1,g2,p1,hb]
   ·simp only[ReA,ReC,Rd]
    refine⟨_,_,rfl,by omega,zdd.2 ?_⟩
    by_cases hz:j.toNat - i.toNat=0
    ·simp[hz,RdT]
    ·by_cases hds:ds=[]
     ·simp[hds,RdT]
     obtain⟨b,o',rfl⟩:=p3.addr hds
     by_cases hci:cap=i.toNat
     ·omega
     ·rw[if_neg hci]
      simp only[Option.map_some,zcu]
      exact p3.drop.take
  ·exact hs.elim
 ·exact hs.elim
include hT in
theorem zqx {t:TypeId} {x:Operand} {lo hi:Option Operand} {mx:Operand} (ho:o.op= .slice t x lo hi (some mx)) (hs:(aop T c v r o.dst o.op).sc):
  Does cx v a w (execOp a.eval o) (aop T c v r o.dst o.op).x (aop T c v r o.dst o.op).r:=by
 simp only[ho,aop,Out.with]at hs⊢
 obtain⟨⟨s1,s2,s3,s4⟩,hs⟩:=hs
 have e1:=zbl h hc s1
 unfold slice3A at hs⊢
 split at hs
 ·rename_i hd lo' n k h1
  rw[h1]at e1
  split at hs
  ·rename_i ee i j q res h2 h3 h4 h5 h6
   obtain⟨e,ei⟩:=ee
   simp only[h2,h3,h4,h5,h6]
   obtain⟨q1,q2,q3,q4⟩:=hs hc
   cases hi with
   |none=>simp[evO]at h4
   |some hi=>
    simp only[evO]at h4 h5
    simp only[ReA,ReC]at e1
    obtain⟨k1,k2,k3,ad,p4,_⟩:=e1
    obtain⟨g1,g2,_⟩:=zbv hT h2 w
    have hb:=zmS h hc (cap:=k - lo') s2 s3 (by simpa[evOS]using s4) h3 (by simpa[evO]using h4) (by simpa[evO]using h5) q1 q2 q3 (by omega)
    refine .val h (u:= .slice (if q.toNat=i.toNat then ad else ad.map (·.add (i.toNat*ei.size))) (j.toNat - i.toNat) (q.toNat - i.toNat)) ?_ (by simp[ReA,ReC])
    simp[execOp,ho,Instr.sliceAt,Instr.slice,g1,g2,p4,hb]
  ·exact hs.elim
 ·exact hs.elim
omit h hc in
theorem zfS:∀{l m:List C} {us vs:List Value},ReCs cx w r β l us→ReCs cx w r β m vs→ReCs cx w r β (l++m) (us++vs)
 |[],m,us,vs,h1,h2=>by simp only[ReCs]at h1;subst h1;simpa using h2
 |x::l,m,us,vs,h1,h2=>by
  simp only[ReCs]at h1
  obtain⟨u,us',rfl,g1,g2⟩:=h1
  simp only[List.cons_append,ReCs]
  exact⟨u,us'++vs,rfl,g1,zfS g2 h2⟩
theorem zwz {x:Operand} (ho:o.op= .nilCheck x) (hs:(aop T c v r o.dst o.op).sc):
  Does cx v a w (execOp a.eval o) (aop T c v r o.dst o.op).x (aop T c v r o.dst o.op).r:=by
 simp only[ho,aop]at hs⊢
 split at hs
 ·rename_i hd off h1
  try simp only[h1]
  split at hs
  ·rename_i res h2
   simp only[h2]
   have e1:=zbl h hc hs
   rw[h1]at e1
   have e0:=e1
   simp only[ReA,ReC]at e1
   obtain⟨b,o',g1,g2⟩:=e1.2.2 res h2
   exact .val h (u:=a.eval x) (by simp[execOp,ho,g2]) e0
  ·exact hs.elim
 ·rename_i ds h1
  try simp only[h1]
  have e1:=zbl h hc hs
  rw[h1]at e1
  have e0:=e1
  simp only[ReA,ReC]at e1
  obtain⟨b,o',g1,g2⟩:=e1
  exact .val h (u:=a.eval x) (by simp[execOp,ho,g1]) e0
 ·rename_i cs h1
  try simp only[h1]
  have e1:=zbl h hc hs
  rw[h1]at e1
  have e0:=e1
  simp only[ReA,ReC]at e1
  obtain⟨b,o',us,g1,g2⟩:=e1
  exact .val h (u:=a.eval x) (by simp[execOp,ho,g1]) e0
 ·rename_i f caps h1
  try simp only[h1]
  have e1:=zbl h hc hs
  rw[h1]at e1
  have e0:=e1
  simp only[ReA,ReC]at e1
  obtain⟨us,g1,g2⟩:=e1
  exact .val h (u:=a.eval x) (by simp[execOp,ho,g1]) e0
 ·exact hs.elim
include hT in
theorem zwA {x:Operand} {ts:Array TypeId} {as:Array Operand} (ho:o.op= .call ⟨.builtin .len,as,ts⟩) (hs:(aop T c v r o.dst o.op).sc):
  Does cx v a w (execOp a.eval o) (aop T c v r o.dst o.op).x (aop T c v r o.dst o.op).r:=by
 simp only[ho,aop]at hs⊢
 split at hs
 ·rename_i x h0
  try simp only[h0]
  simp only[Out.with]at hs⊢
  obtain⟨s1,hs⟩:=hs
  have e1:=zbl h hc s1
  have hmap:as.map a.eval= #[a.eval x]:=by
   have:as= #[x]:=by rw[←Array.toArray_toList (xs:=as),h0]
   rw[this];simp
  have hrun:∀n:Nat,(∀t,ts[0]? =some t→(Builtin.len_ ts o.type #[a.eval x]).run cx.P w= .ok (goInt n) w)→(∃t,ts[0]? =some t)→
    (execOp a.eval o).run cx.P w= .ok (.value (.int .i64 n)) w:=by
   rintro n hn ⟨t,ht⟩
   have:=hn t ht
   simp[execOp,ho,resolve,hmap,invoke,builtin,this,goInt]
  unfold lenA at hs⊢
  split at hs
  ·rename_i hd lo n h1
   split at hs
   ·rename_i res h2
    simp only[h2]
    rw[h1]at e1
    simp only[ReA,ReC]at e1
    obtain⟨p1,p2,p3,ad,p4,p5⟩:=e1.2.2 res h2
    cases ht:ts[0]? with
    |none=>rw[ht]at hs;simp[isSl]at hs
    |some t=>
     rw[ht]at hs
     obtain⟨e,g1,_⟩:=zeY hT hs w
     refine .val h (hrun n (fun t' ht'=> ?_) ⟨t,ht⟩) (zas.2 ⟨rfl,rfl⟩)
     simp[Builtin.len_,ht,g1,p4]
   ·exact hs.elim
  ·rename_i hd lo n k h1
   split at hs
   ·rename_i res h2
    simp only[h2]
    rw[h1]at e1
    simp only[ReA,ReC]at e1
    obtain⟨_,_,_,ad,p4,_⟩:=e1
    cases ht:ts[0]? with
    |none=>rw[ht]at hs;simp[isSl]at hs
    |some t=>
     rw[ht]at hs
     obtain⟨e,g1,_⟩:=zeY hT hs w
     refine .val h (hrun n (fun t' ht'=> ?_) ⟨t,ht⟩) (zas.2 ⟨rfl,rfl⟩)
     simp[Builtin.len_,ht,g1,p4]
   ·exact hs.elim
  ·rename_i n ds h1
   rw[h1]at e1
   simp only[ReA,ReC]at e1
   obtain⟨ad,cap,p4,_⟩:=e1
   cases ht:ts[0]? with
   |none=>rw[ht]at hs;simp[isSl]at hs
   |some t=>
    rw[ht]at hs
    obtain⟨e,g1,_⟩:=zeY hT hs w
    refine .val h (hrun n (fun t' ht'=> ?_) ⟨t,ht⟩) (zas.2 ⟨rfl,rfl⟩)
    simp[Builtin.len_,ht,g1,p4]
  ·rename_i n ds h1
   rw[h1]at e1
   simp only[ReA,ReC,Rd]at e1
   obtain⟨ad,cap,p4,_⟩:=e1
   cases ht:ts[0]? with
   |none=>rw[ht]at hs;simp[isSl]at hs
   |some t=>
    rw[ht]at hs
    obtain⟨e,g1,_⟩:=zeY hT hs w
    refine .val h (hrun n (fun t' ht'=> ?_) ⟨t,ht⟩) (zas.2 ⟨rfl,rfl⟩)
    simp[Builtin.len_,ht,g1,p4]
  ·rename_i h1
   rw[h1]at e1
   have p4:=(zas.1 e1).1
   cases ht:ts[0]? with
   |none=>rw[ht]at hs;simp[isSl]at hs
   |some t=>
    rw[ht]at hs
    obtain⟨e,g1,_⟩:=zeY hT hs w
    refine .val h (hrun 0 (fun t' ht'=> ?_) ⟨t,ht⟩) (zas.2 ⟨rfl,rfl⟩)
    simp[Builtin.len_,ht,g1,p4]
  ·rename_i a' n c' h1
   rw[h1]at e1
   simp only[ReA,ReC,Rd]at e1
   obtain⟨p4,_⟩:=e1
   cases ht:ts[0]? with
   |none=>rw[ht]at hs;simp[isSl]at hs
   |some t=>
    rw[ht]at hs
    obtain⟨e,g1,_⟩:=zeY hT hs w
    refine .val h (hrun n (fun t' ht'=> ?_) ⟨t,ht⟩) (zas.2 ⟨rfl,rfl⟩)
    simp[Builtin.len_,ht,g1,p4]
  ·rename_i s h1
   rw[h1]at e1
   have p4:=(zas.1 e1).1
   cases ht:ts[0]? with
   |none=>rw[ht]at hs;simp[isStr]at hs
   |some t=>
    rw[ht]at hs
    obtain⟨g1,_⟩:=zhw hT hs w
    refine .val h (hrun s.size (fun t' ht'=> ?_) ⟨t,ht⟩) (zas.2 ⟨rfl,rfl⟩)
    simp[Builtin.len_,ht,g1,p4]
  ·exact hs.elim
 ·exact hs.elim
include hT in
theorem zwB {ts:Array TypeId} {as:Array Operand} (ho:o.op= .call ⟨.builtin .cap,as,ts⟩) (hs:(aop T c v r o.dst o.op).sc):
  Does cx v a w (execOp a.eval o) (aop T c v r o.dst o.op).x (aop T c v r o.dst o.op).r:=by
 simp only[ho,aop]at hs⊢
 split at hs
 ·rename_i x h0
  try simp only[h0]
  simp only[Out.with]at hs⊢
  obtain⟨s1,hs⟩:=hs
  have e1:=zbl h hc s1
  have hmap:as.map a.eval= #[a.eval x]:=by
   have:as= #[x]:=by rw[←Array.toArray_toList (xs:=as),h0]
   rw[this];simp
  unfold capA at hs⊢
  split at hs
  ·rename_i hd lo n k h1
   split at hs
   ·rename_i res h2
    simp only[h2]
    rw[h1]at e1
    simp only[ReA,ReC]at e1
    obtain⟨_,_,_,ad,p4,_⟩:=e1
    cases ht:ts[0]? with
    |none=>rw[ht]at hs;simp[isSl]at hs
    |some t=>
     rw[ht]at hs
     obtain⟨e,g1,_⟩:=zeY hT hs w
     refine .val h (u:= .int .i64 (k - lo:Nat)) ?_ (zas.2 ⟨rfl,rfl⟩)
     simp[execOp,ho,resolve,hmap,invoke,builtin,Builtin.cap_,ht,g1,p4,goInt]
   ·exact hs.elim
  ·exact hs.elim
 ·exact hs.elim
theorem zwC {mx:Bool} {ts:Array TypeId} {as:Array Operand} (ho:o.op= .call ⟨.builtin (if mx=true then .max else .min),as,ts⟩)
  (hs:((mmA r mx (evs v as.toList)).with (evsS c v as.toList)).sc):
  Does cx v a w (execOp a.eval o) (mmA r mx (evs v as.toList)).x (mmA r mx (evs v as.toList)).r:=by
 simp only[Out.with]at hs
 obtain⟨s1,hs⟩:=hs
 have e1:=zeW h hc s1
 unfold mmA at hs⊢
 split at hs
 ·rename_i k m k' n h1
  try simp only[h1]
  rw[h1]at e1
  simp only[ReAs]at e1
  obtain⟨u1,us1,g1,g2,u2,us2,g3,g4,g5⟩:=e1
  have f1:=(zas.1 g2).1
  have f2:=(zas.1 g4).1
  subst g5 g3 f1 f2
  have hm:(as.map a.eval)= #[.int k m, .int k' n]:=by
   apply Array.ext'
   simpa using g1
  refine .val h (u:= .int k (if mx=true then max m n else min m n)) ?_ (zas.2 ⟨rfl,rfl⟩)
  cases mx
  ·simp[execOp,ho,resolve,hm,invoke,builtin,Builtin.min_,Builtin.min2]
   split<;>omega
  ·simp[execOp,ho,resolve,hm,invoke,builtin,Builtin.max_,Builtin.max2]
   split<;>omega
 ·exact hs.elim
omit h hc in
theorem ReC.flat {x:C} {u:Value} (h:ReC cx w r β x u) (hl:live x=true):flat u=true:=by
 cases x with
 |d x=>simp only[ReC]at h;exact h.flat
 |lent n ds=>simp only[ReC]at h;obtain⟨a,b,rfl,_⟩:=h;rfl
 |own hd lo n=>simp only[ReC]at h;exact h.1
 |ptr hd off=>simp only[ReC]at h;exact h.1
 |elt ds=>simp only[ReC]at h;obtain⟨a,b,rfl,_⟩:=h;rfl
 |clos f caps=>simp only[ReC]at h;obtain⟨us,rfl,_⟩:=h;rfl
 |ab=>simp only[ReC]at h;obtain⟨b,rfl⟩:=h;rfl
 |dead=>simp[live]at hl
 |eltR cs=>simp only[ReC]at h;obtain⟨b,o,us,rfl,_⟩:=h;rfl
 |gap hd lo n k=>simp only[ReC]at h;exact h.1
 |lk hd n x=>simp[live]at hl
omit h hc in
theorem zoI {u:Value} (hf:flat u=true):u.cells= #[u]:=by cases u<;>first|rfl|simp[flat]at hf
omit h hc in
theorem zbW {y:AV} {u:Value} (h:ReA cx w r β y u) (hg:cellsOf y≠[]):ReCs cx w r β (cellsOf y) u.cells.toList:=by
 cases y with
 |one x=>
  have hx:=zaN.1 h
  simp only[cellsOf]at hg⊢
  split
  ·rename_i hl
   rw[zoI (hx.flat hl)]
   simp only[ReCs]
   exact⟨u,[],rfl,hx,rfl⟩
  ·rename_i hl;simp[hl]at hg
 |agg l=>obtain⟨us,rfl,g⟩:=zbR.1 h;simpa[cellsOf,Value.cells]using g
 |tup l=>simp[cellsOf]at hg
 |gd c y=>simp[cellsOf]at hg
omit h hc in
theorem zch:∀{l:List C} {us:List Value},ReCs cx w r β l us→us.length=l.length
 |[],us,h=>by simp only[ReCs]at h;simp[h]
 |x::l,us,h=>by
  simp only[ReCs]at h
  obtain⟨u,us',rfl,_,g⟩:=h
  simp[zch g]
omit h hc in
theorem zgf:∀{l:List C} {us:List Value},ReCs cx w r β l us→liveCs l=true→∀u∈us,flat u=true
 |[],us,h,_,u,hu=>by simp only[ReCs]at h;simp[h]at hu
 |x::l,us,h,hl,u,hu=>by
  simp only[ReCs]at h
  obtain⟨u',us',rfl,g1,g2⟩:=h
  simp only[liveCs,Bool.and_eq_true]at hl
  rcases List.mem_cons.1 hu with rfl|hu
  ·exact g1.flat hl.1
  ·exact zgf g2 hl.2 u hu
omit h hc in
theorem zlQ:∀{ys:List AV} {xs:List C} {us:List Value},zfF ys=some xs→ReAs cx w r β ys us→ReCs cx w r β xs us
 |[],xs,us,h1,h2=>by simp only[zfF,Option.some.injEq]at h1;subst h1;simpa[ReAs,ReCs]using h2
 |y::ys,xs,us,h1,h2=>by
  simp only[zfF]at h1
  split at h1
  ·rename_i x xs' g1
   cases h1
   simp only[ReAs]at h2
   obtain⟨u,us',rfl,g2,g3⟩:=h2
   simp only[ReCs]
   exact⟨u,us',rfl,zaN.1 g2,zlQ g1 g3⟩
  ·cases h1
theorem zu1 {f:FuncId} {first caps:Array Operand} (ho:o.op= .makeFunc (.func f) first caps) (hs:(aop T c v r o.dst o.op).sc):
  Does cx v a w (execOp a.eval o) (aop T c v r o.dst o.op).x (aop T c v r o.dst o.op).r:=by
 obtain⟨first⟩:=first
 cases first with
 |cons z zs=>simp only[ho,aop,bad]at hs
 |nil=>
  simp only[ho,aop]at hs⊢
  split at hs
  ·rename_i xs h1
   simp only[h1]
   have e1:=zeW h hc hs
   have e2:=zlQ h1 e1
   refine .val h (u:= .func (.func f) #[] (caps.map a.eval)) (by simp[execOp,ho,Instr.makeFunc]) ?_
   simp only[ReA,ReC]
   exact⟨_,rfl,by simpa using e2⟩
  ·exact hs.elim
end
section
variable {cx:Cx} {v:List AV} {r:Rs} {a:Act} {w w':World} {β:Nat→Nat→Pl}
theorem zaL {r:Rs} {s t:Nat} {y:RS}:nxt (setR s y r) t=if s=t then y.next else nxt r t:=by
 unfold nxt
 rw[zak]
 by_cases h:s=t
 ·simp[h]
 ·simp[h]
theorem zax {r:Rs} {s t j:Nat} {y:RS}:lookR (setR s y r) t j=if s=t then(match y.l[j]? with|some (some res)=>some res|_=>none)else lookR r t j:=by
 unfold lookR
 rw[zak]
 by_cases h:s=t
 ·simp only[if_pos h];rfl
 ·simp only[if_neg h]
theorem Holds.mk' {r':Rs} {β':Nat→Nat→Pl} (h:Holds cx ⟨v,r⟩ a w β) (x:Ext cx w r β w' r' β')
  (rs:∀s j res,lookR r' s j=some res→ResOK cx w' r' β' (β' s j) res∧res.e<nxt r' s)
  (inj:∀s j res s' j' res' b o o',lookR r' s j=some res→res.fz=false→lookR r' s' j'=some res'→res'.fz=false→
   (β' s j).base=some (b,o)→(β' s' j').base=some (b,o')→s=s'∧j=j')
  (fr:∀s j res b o,lookR r' s j=some res→res.fz=false→(β' s j).base=some (b,o)→(cx.n0≤b∨cx.Bor b)∧(res.bor=false→cx.n0≤b))
  (hsz:w.heap.size≤w'.heap.size):Holds cx ⟨v,r'⟩ a w' β' where
 sz:=h.sz
 df:=h.df
 sl:=h.sl_ext x
 rs:=rs
 inj:=inj
 fr:=fr
 n0:=Nat.le_trans h.n0 hsz
 old:=fun b hb hn=>by rw[x.tp b hb hn];exact h.old b hb hn
 a0:=h.a0
 bor:=h.bor
 ob:=fun p b hm=>⟨Nat.lt_of_lt_of_le (h.ob p b hm).1 (x.nx p),fun res hg=>by
  obtain⟨res0,g1,g2,_⟩:=x.old ⟨p,0,0⟩ res (h.ob p b hm).1 hg
  rw[show β' p 0=β p 0 from g2]
  exact(h.ob p b hm).2 res0 g1⟩
 rw:=fun p n u hm=>(h.rw p n u hm).ext x
 os:=x.os.trans h.os
 out:=x.out.trans h.out
theorem Holds.fresh (h:Holds cx ⟨v,r⟩ a w β) {d j0:Nat} {L:List (Option Res)} {res0:Res} {pl0:Pl} (hj0:L[j0]? =some (some res0))
  (hL:∀j res,L[j]? =some (some res)→j=j0) (he:res0.e=nxt r d) (hfz:res0.fz=false)
  (hb:∀b o,pl0.base=some (b,o)→b=w.heap.size)
  (hw:∀b,b<w.heap.size→w'.heap[b]? =w.heap[b]?) (hsz:w.heap.size≤w'.heap.size)
  (hres:∀β',Ext cx w r β w' (setR d ⟨nxt r d+1,L⟩ r) β'→(∀b,b=w.heap.size→¬cx.A0 b)→ResOK cx w' (setR d ⟨nxt r d+1,L⟩ r) β' pl0 res0)
  (hos:w'.os=w.os∧w'.output=w.output:=by exact⟨rfl,rfl⟩):
  ∃β',Holds cx ⟨v,setR d ⟨nxt r d+1,L⟩ r⟩ a w' β'∧β' d j0=pl0∧Ext cx w r β w' (setR d ⟨nxt r d+1,L⟩ r) β':=by
 have hlook:∀j res,lookR (setR d ⟨nxt r d+1,L⟩ r) d j=some res→j=j0∧res=res0:=fun j res hl=>by
  rw[zax,if_pos rfl]at hl
  simp only at hl
  split at hl
  ·rename_i res' hj
   cases hl
   have:=hL j _ hj
   subst this
   rw[hj0]at hj
   cases hj
   exact⟨rfl,rfl⟩
  ·cases hl
 have hlook2:∀s j,s≠d→lookR (setR d ⟨nxt r d+1,L⟩ r) s j=lookR r s j:=fun s j hs=>by
  rw[zax,if_neg (Ne.symm hs)]
 have hOBlt:∀s j res b o,lookR r s j=some res→(β s j).base=some (b,o)→b<w.heap.size:=fun s j res b o hl hbs=>(h.rs s j res hl).1.lt hbs
 let β':Nat→Nat→Pl:=fun s j=>if s=d then(if j=j0 then pl0 else⟨none,0⟩)else β s j
 have hβ0:β' d j0=pl0:=by simp[β']
 have hβ1:∀s j,s≠d→β' s j=β s j:=fun s j hs=>by simp[β',hs]
 have hx:Ext cx w r β w' (setR d ⟨nxt r d+1,L⟩ r) β':=by
  refine⟨fun s=> ?_,fun hd res' hlt hg=> ?_,⟨fun b hb' _=>hw b hb',fun b hb' hA=> ?_⟩,fun b hb' hn=>hw b (Nat.lt_of_lt_of_le hb' h.n0),hos.1,hos.2⟩
  ·rw[zaL]
   split
   ·rename_i hs;subst hs;exact Nat.le_succ _
   ·exact Nat.le_refl _
  ·obtain⟨hl,hee⟩:=zad hg
   by_cases hs:hd.s=d
   ·rw[hs]at hl
    obtain⟨_,rfl⟩:=hlook _ _ hl
    rw[hs]at hlt
    omega
   ·rw[hlook2 _ _ hs]at hl
    exact⟨res',zao hl hee,hβ1 _ _ hs,rfl,rfl,Nat.le_refl _⟩
  ·rcases hA with hA|⟨s,j,res,o,hl,hf,hbs⟩
   ·exact .inl hA
   ·by_cases hs:s=d
    ·subst hs
     obtain⟨rfl,rfl⟩:=hlook _ _ hl
     rw[hβ0]at hbs
     have:=hb _ _ hbs
     omega
    ·rw[hlook2 _ _ hs]at hl
     rw[hβ1 _ _ hs]at hbs
     exact .inr ⟨s,j,res,o,hl,hf,hbs⟩
 have hA0:∀b,b=w.heap.size→¬cx.A0 b:=fun b hb' hA=>by
  have h1:=h.a0 b hA
  have h2:=h.n0
  omega
 refine⟨β',h.mk' hx (fun s j res hl=> ?_) (fun s j res s' j' res' b o o' hl hf hl' hf' hbs hbs'=> ?_) (fun s j res b o hl hf hbs=> ?_) hsz,hβ0,hx⟩
 ·by_cases hs:s=d
  ·subst hs
   obtain⟨rfl,rfl⟩:=hlook _ _ hl
   rw[hβ0]
   exact⟨hres β' hx hA0,by rw[zaL,if_pos rfl,he];exact Nat.lt_succ_self _⟩
  ·rw[hlook2 _ _ hs]at hl
   rw[hβ1 _ _ hs]
   obtain⟨g1,g2⟩:=h.rs s j res hl
   exact⟨g1.ext hx (fun b o hbs=>hw b (g1.lt hbs)) (fun b o hbs=>g1.lt hbs),by rw[zaL,if_neg (Ne.symm hs)];exact g2⟩
 ·by_cases hs:s=d<;>by_cases hs':s'=d
  ·subst hs;subst hs'
   obtain⟨rfl,rfl⟩:=hlook _ _ hl
   obtain⟨rfl,rfl⟩:=hlook _ _ hl'
   exact⟨rfl,rfl⟩
  ·subst hs
   obtain⟨rfl,rfl⟩:=hlook _ _ hl
   rw[hlook2 _ _ hs']at hl'
   rw[hβ1 _ _ hs']at hbs'
   rw[hβ0]at hbs
   have h1:=hb _ _ hbs
   have h2:=hOBlt _ _ _ _ _ hl' hbs'
   omega
  ·subst hs'
   obtain⟨rfl,rfl⟩:=hlook _ _ hl'
   rw[hlook2 _ _ hs]at hl
   rw[hβ1 _ _ hs]at hbs
   rw[hβ0]at hbs'
   have h1:=hb _ _ hbs'
   have h2:=hOBlt _ _ _ _ _ hl hbs
   omega
  ·rw[hlook2 _ _ hs]at hl
   rw[hlook2 _ _ hs']at hl'
   rw[hβ1 _ _ hs]at hbs
   rw[hβ1 _ _ hs']at hbs'
   exact h.inj _ _ _ _ _ _ _ _ _ hl hf hl' hf' hbs hbs'
 ·by_cases hs:s=d
  ·subst hs
   obtain⟨rfl,rfl⟩:=hlook _ _ hl
   rw[hβ0]at hbs
   have:=hb _ _ hbs
   have h2:=h.n0
   exact⟨.inl (by omega),fun _=>by omega⟩
  ·rw[hlook2 _ _ hs]at hl
   rw[hβ1 _ _ hs]at hbs
   exact h.fr _ _ _ _ _ hl hf hbs
theorem Holds.vz (h:Holds cx ⟨v,r⟩ a w β):∀s j res,lookR r s j=some res→res.fz=true→res.var=false:=fun s j res hl hf=>by
 have hok:=(h.rs _ _ _ hl).1
 unfold ResOK at hok
 cases hv:res.var with
 |false=>rfl
 |true=>rw[if_pos hv]at hok;rw[hok.1]at hf;cases hf
theorem Holds.other (h:Holds cx ⟨v,r⟩ a w β) {s j s' j':Nat} {res res':Res} {b o o':Nat} (hl:lookR r s j=some res) (hf:res.fz=false)
  (hbs:(β s j).base=some (b,o)) (hl':lookR r s' j'=some res') (hbs':(β s' j').base=some (b,o')):s=s'∧j=j':=by
 cases hf':res'.fz with
 |false=>exact h.inj _ _ _ _ _ _ _ _ _ hl hf hl' hf' hbs hbs'
 |true=>
  have hok:=(h.rs _ _ _ hl').1
  unfold ResOK at hok
  rw[if_neg (by simp[h.vz _ _ _ hl' hf'])]at hok
  obtain⟨_,_,_,g⟩:=hok
  exact absurd (Or.inr ⟨s,j,res,o,hl,hf,hbs⟩) (g hf' b o' hbs')
theorem Holds.upd (h:Holds cx ⟨v,r⟩ a w β) {s j:Nat} {res res':Res} {rs:RS} {next':Nat} {pl':Pl} (hrs:findR s r=some rs) (hl:rs.l[j]? =some (some res))
  (hn:rs.next≤next') (he':res'.e<next') (hbor:res'.bor=res.bor)
  (hep:(res'.e=res.e∧pl'=β s j∧res'.var=res.var∧res'.sz=res.sz∧res.cells.length≤res'.cells.length)∨rs.next≤res'.e)
  (hfz:res'.fz=false→res.fz=false)
  (hpl:∀b o,pl'.base=some (b,o)→(∃o',(β s j).base=some (b,o'))∨(w.heap.size≤b))
  (hw:∀b,b<w.heap.size→(∀o,(β s j).base≠some (b,o))∨res.fz=true→w'.heap[b]? =w.heap[b]?)
  (hsz:w.heap.size≤w'.heap.size)
  (hres:∀β',β' s j=pl'→Ext cx w r β w' (setR s ⟨next',rs.l.set j (some res')⟩ r) β'→
   (res'.fz=true→∀b o,pl'.base=some (b,o)→OB (setR s ⟨next',rs.l.set j (some res')⟩ r) β' b→False)→
   ResOK cx w' (setR s ⟨next',rs.l.set j (some res')⟩ r) β' pl' res')
  (hos:w'.os=w.os∧w'.output=w.output:=by exact⟨rfl,rfl⟩):
  ∃β',Holds cx ⟨v,setR s ⟨next',rs.l.set j (some res')⟩ r⟩ a w' β'∧β' s j=pl'∧(∀t k,¬(t=s∧k=j)→β' t k=β t k)∧
   Ext cx w r β w' (setR s ⟨next',rs.l.set j (some res')⟩ r) β':=by
 have hlk:lookR r s j=some res:=by unfold lookR;simp only[hrs,hl]
 have hjlt:j<rs.l.length:=(List.getElem?_eq_some_iff.1 hl).1
 have hsame:lookR (setR s ⟨next',rs.l.set j (some res')⟩ r) s j=some res':=by
  rw[zax,if_pos rfl];simp[hjlt]
 have hother:∀t k,¬(t=s∧k=j)→lookR (setR s ⟨next',rs.l.set j (some res')⟩ r) t k=lookR r t k:=fun t k hne=>by
  rw[zax]
  by_cases ht:s=t
  ·subst ht
   rw[if_pos rfl]
   have hk:j≠k:=fun e=>hne ⟨rfl,e.symm⟩
   simp only[List.getElem?_set_ne hk]
   unfold lookR
   simp only[hrs]
   rfl
  ·rw[if_neg ht]
 let β':Nat→Nat→Pl:=fun t k=>if t=s∧k=j then pl' else β t k
 have hβ0:β' s j=pl':=by simp[β']
 have hβ1:∀t k,¬(t=s∧k=j)→β' t k=β t k:=fun t k hne=>by simp only[β',if_neg hne]
 have hnx:nxt r s=rs.next:=by unfold nxt;simp only[hrs]
 have hOB:∀b,b<w.heap.size→OB (setR s ⟨next',rs.l.set j (some res')⟩ r) β' b→OB r β b:=by
  rintro b hb' ⟨t,k,q,o,hq,hqf,hqb⟩
  by_cases hne:t=s∧k=j
  ·obtain⟨rfl,rfl⟩:=hne
   rw[hsame]at hq
   cases hq
   rw[hβ0]at hqb
   rcases hpl b o hqb with⟨o',ho'⟩|hge
   ·exact⟨_,_,res,o',hlk,hfz hqf,ho'⟩
   ·omega
  ·rw[hother _ _ hne]at hq
   rw[hβ1 _ _ hne]at hqb
   exact⟨t,k,q,o,hq,hqf,hqb⟩
 have hkeep:∀b,b<w.heap.size→¬Av cx r β b→w'.heap[b]? =w.heap[b]? :=fun b hb' hA=>by
  by_cases hf:res.fz=true
  ·exact hw b hb' (.inr hf)
  ·refine hw b hb' (.inl fun o ho=>hA (.inr ⟨s,j,res,o,hlk,by simpa using hf,ho⟩))
 have hx:Ext cx w r β w' (setR s ⟨next',rs.l.set j (some res')⟩ r) β':=by
  refine⟨fun t=> ?_,fun hd q hlt hg=> ?_,⟨hkeep,fun b hb' hA=> ?_⟩,fun b hb' hnb=> ?_,hos.1,hos.2⟩
  ·rw[zaL]
   split
   ·rename_i e;subst e;rw[hnx];exact hn
   ·exact Nat.le_refl _
  ·obtain⟨g1,g2⟩:=zad hg
   by_cases hne:hd.s=s∧hd.j=j
   ·rw[hne.1,hne.2,hsame]at g1
    cases g1
    rw[hne.1,hnx]at hlt
    rcases hep with⟨p1,p2,p3,p4,p5⟩|p
    ·exact⟨res,zao (by rw[hne.1,hne.2];exact hlk) (by omega),by rw[hne.1,hne.2,hβ0,p2],p3,p4,p5⟩
    ·omega
   ·rw[hother _ _ hne]at g1
    exact⟨q,zao g1 g2,hβ1 _ _ hne,rfl,rfl,Nat.le_refl _⟩
  ·rcases hA with hA|hA
   ·exact .inl hA
   ·exact .inr (hOB b hb' hA)
  ·by_cases hf:res.fz=true
   ·exact hw b (Nat.lt_of_lt_of_le hb' h.n0) (.inr hf)
   ·refine hw b (Nat.lt_of_lt_of_le hb' h.n0) (.inl fun o ho=> ?_)
    rcases(h.fr _ _ _ _ _ hlk (by simpa using hf) ho).1 with h1|h1
    ·omega
    ·exact hnb h1
 have hblk:∀t k q,¬(t=s∧k=j)→lookR r t k=some q→∀b o,(β t k).base=some (b,o)→w'.heap[b]? =w.heap[b]? :=fun t k q hne hq b o hbs=>by
  have hlt:=(h.rs t k q hq).1.lt hbs
  by_cases hf:res.fz=true
  ·exact hw b hlt (.inr hf)
  ·refine hw b hlt (.inl fun o' ho'=> ?_)
   obtain⟨e1,e2⟩:=h.other hlk (by simpa using hf) ho' hq hbs
   exact hne ⟨e1.symm,e2.symm⟩
 refine⟨β',h.mk' hx (fun t k q hq=> ?_) (fun t k q t' k' q' b o o' hq hqf hq' hqf' hb1 hb2=> ?_) (fun t k q b o hq hqf hb1=> ?_) hsz,hβ0,hβ1,hx⟩
 ·by_cases hne:t=s∧k=j
  ·obtain⟨rfl,rfl⟩:=hne
   rw[hsame]at hq
   cases hq
   rw[hβ0]
   refine⟨hres β' hβ0 hx fun hf b o hbs hob=> ?_,by rw[zaL,if_pos rfl];exact he'⟩
   obtain⟨t',k',q,o',hq,hqf,hqb⟩:=hob
   by_cases hne2:t'=t∧k'=k
   ·obtain⟨rfl,rfl⟩:=hne2
    rw[hsame]at hq
    cases hq
    rw[hf]at hqf
    cases hqf
   ·rw[hother _ _ hne2]at hq
    rw[hβ1 _ _ hne2]at hqb
    have hlt:=(h.rs _ _ _ hq).1.lt hqb
    rcases hpl b o hbs with⟨o2,ho2⟩|hge
    ·exact hne2 (h.other hq hqf hqb hlk ho2)
    ·omega
  ·rw[hother _ _ hne]at hq
   rw[hβ1 _ _ hne]
   obtain⟨g1,g2⟩:=h.rs t k q hq
   refine⟨g1.ext hx (hblk t k q hne hq) (fun b o hbs=>g1.lt hbs),Nat.lt_of_lt_of_le g2 (hx.nx t)⟩
 ·have key:∀t k q b o o',¬(t=s∧k=j)→lookR r t k=some q→q.fz=false→(β t k).base=some (b,o)→res'.fz=false→pl'.base=some (b,o')→False:=
   fun t k q b o o' hne hq hqf hb1 hf hb2=>by
    have hlt:=(h.rs _ _ _ hq).1.lt hb1
    rcases hpl b o' hb2 with⟨o2,ho2⟩|hge
    ·exact hne (h.inj _ _ _ _ _ _ _ _ _ hq hqf hlk (hfz hf) hb1 ho2)
    ·omega
  by_cases hne:t=s∧k=j<;>by_cases hne':t'=s∧k'=j
  ·exact⟨by rw[hne.1,hne'.1],by rw[hne.2,hne'.2]⟩
  ·rw[hne.1,hne.2,hsame]at hq
   cases hq
   rw[hother _ _ hne']at hq'
   rw[hβ1 _ _ hne']at hb2
   rw[hne.1,hne.2,hβ0]at hb1
   exact(key _ _ _ _ _ _ hne' hq' hqf' hb2 hqf hb1).elim
  ·rw[hne'.1,hne'.2,hsame]at hq'
   cases hq'
   rw[hother _ _ hne]at hq
   rw[hβ1 _ _ hne]at hb1
   rw[hne'.1,hne'.2,hβ0]at hb2
   exact(key _ _ _ _ _ _ hne hq hqf hb1 hqf' hb2).elim
  ·rw[hother _ _ hne]at hq
   rw[hβ1 _ _ hne]at hb1
   rw[hother _ _ hne']at hq'
   rw[hβ1 _ _ hne']at hb2
   exact h.inj _ _ _ _ _ _ _ _ _ hq hqf hq' hqf' hb1 hb2
 ·by_cases hne:t=s∧k=j
  ·rw[hne.1,hne.2,hsame]at hq
   cases hq
   rw[hne.1,hne.2,hβ0]at hb1
   rcases hpl b o hb1 with⟨o2,ho2⟩|hge
   ·have:=h.fr _ _ _ _ _ hlk (hfz hqf) ho2
    rw[hbor]
    exact this
   ·have:=h.n0
    exact⟨.inl (by omega),fun _=>by omega⟩
  ·rw[hother _ _ hne]at hq
   rw[hβ1 _ _ hne]at hb1
   exact h.fr _ _ _ _ _ hq hqf hb1
theorem zbq:∀(l:List D),toDs (l.map C.d)=some l
 |[]=>rfl
 |d::l=>by simp only[List.map_cons,toDs,C.toD,zbq l]
theorem zdc {lo n sz:Nat} {l:List D}:sub lo n sz (l.map C.d)=((l.drop (lo*sz)).take (n*sz)).map C.d:=by
 simp[sub,List.map_drop,List.map_take]
theorem zkn {A:Nat→Prop} {d:D} {u:Value} (h:Rd w A d u):Rd w A (normD d) u:=by
 unfold normD
 split
 ·simp only[Rd]at h⊢
  obtain⟨rfl,_⟩:=h
  exact⟨none,0,rfl,Nat.le_refl _,by simp[RdL]⟩
 ·exact h
theorem zft {pl:Pl} {res:Res} {lo n:Nat} {u:Value} {A Tp:Nat→Prop} {ds:List D} (ho:OwnV pl res lo n u) (hm:RowM w A pl res.sz ds)
  (hcells:res.cells=ds.map C.d) (hTp:∀b o,pl.base=some (b,o)→Tp b):
  ∃a cap,u= .slice a n cap∧n≤cap∧RdT w A Tp ((ds.drop (lo*res.sz)).take (n*res.sz)) a:=by
 obtain⟨_,h2,h3,ad,h4,h5⟩:=ho
 refine⟨ad,_,h4,by omega, ?_⟩
 by_cases hz:pl.cap - lo=0
 ·have:n=0:=by omega
  simp[this,RdT]
 ·obtain⟨b,o,hb,rfl⟩:=h5.resolve_left hz
  simp only[RowM,hb]at hm
  obtain⟨c,e,g1,_,_,g4⟩:=hm
  refine RdT.take (RdT.mk (hTp b o hb) fun k d hk=> ?_)
  rw[List.getElem?_drop]at hk
  obtain⟨x,p1,p2⟩:=g4 _ _ hk
  exact⟨x,by rw[zhv g1,Nat.add_assoc];exact p1,p2⟩
theorem zko {pl:Pl} {res:Res} {lo n k:Nat} {ad:Option Addr} {A Tp:Nat→Prop} {ds:List D} (hk:lo+n≤k) (hp:pl.cap=k∧(k - lo=0∨∃b o,pl.base=some (b,o)∧ad=some ⟨b,o+lo*res.sz,none⟩))
  (hm:RowM w A pl res.sz ds) (hT:∀b o,pl.base=some (b,o)→Tp b):RdT w A Tp ((ds.drop (lo*res.sz)).take (n*res.sz)) ad:=by
 obtain⟨hc,hp⟩:=hp
 rcases hp with hz|⟨b,o,hb,rfl⟩
 ·have:n=0:=by omega
  subst this
  simp[RdT]
 ·simp only[RowM,hb]at hm
  obtain⟨c,e,h1,h2,h3,h4⟩:=hm
  refine RdT.take (RdT.mk (hT b o hb) fun j d hj=> ?_)
  rw[List.getElem?_drop]at hj
  obtain⟨u,g1,g2⟩:=h4 _ _ hj
  exact⟨u,by unfold World.cell?;simp only[h1];rw[show o+lo*res.sz+j=o+(lo*res.sz+j) by omega];exact g1,g2⟩
theorem ResOK.row {pl:Pl} {res:Res} (h:ResOK cx w r β pl res) (hv:res.var=false):
  ∃ds:List D,res.cells=ds.map C.d∧RowM w (Av cx r β) pl res.sz ds∧(res.fz=true→∀b o,pl.base=some (b,o)→¬Av cx r β b):=by
 unfold ResOK at h
 rwa[if_neg (by simp[hv])]at h
theorem zkp (h:Holds cx ⟨v,r⟩ a w β) {x:C} {d:D} {r':Rs} {u:Value} (hs:sealC r x=some (d,r')) (hu:ReC cx w r β x u):
  ∃β',Holds cx ⟨v,r'⟩ a w β'∧Ext cx w r β w r' β'∧Rd w (Av cx r' β') d u:=by
 unfold sealC at hs
 split at hs
 ·cases hs
  exact⟨β,h,⟨fun _=>Nat.le_refl _,fun hd res' _ hg=>⟨res',hg,rfl,rfl,rfl,Nat.le_refl _⟩,Stb.rfl,fun _ _ _=>rfl,rfl,rfl⟩,by simp only[ReC]at hu;exact zkn hu⟩
 ·rename_i hd lo n
  split at hs
  ·rename_i res rs g1 g2
   split at hs
   ·cases hs
   ·rename_i hbor
    split at hs
    ·rename_i ds g3
     cases hs
     simp only[ReC]at hu
     have hown:=hu.2.2 res g1
     obtain⟨hl,he⟩:=zad g1
     have hok:=h.rs _ _ _ hl
     obtain⟨ds0,k1,k2,k3⟩:=hok.1.row hown.1
     have hj:rs.l[hd.j]? =some (some res):=by
      unfold lookR at hl
      simp only[g2]at hl
      split at hl
      ·rename_i q hq;cases hl;exact hq
      ·cases hl
     have hnx:nxt r hd.s=rs.next:=by unfold nxt;simp only[g2]
     have hlt:res.e<rs.next:=by rw[←hnx];exact hok.2
     obtain⟨β',q1,q2,q3,q4⟩:=h.upd (w':=w) (res':={res with fz:=true}) (pl':=β hd.s hd.j) g2 hj (Nat.le_refl _) hlt rfl (.inl ⟨rfl,rfl,rfl,rfl,Nat.le_refl _⟩)
      (fun hf=>by cases hf) (fun b o hb=> .inl ⟨o,hb⟩) (fun _ _ _=>rfl) (Nat.le_refl _)
      (fun β' e1 e2 e3=>by
       have hok2:=hok.1.ext e2 (fun _ _ _=>rfl) (fun b o hb=>hok.1.lt hb)
       unfold ResOK at hok2⊢
       rw[if_neg (by simp[hown.1])]at hok2⊢
       obtain⟨ds1,p1,p2,p3⟩:=hok2
       refine⟨ds1,p1,p2,fun _ b o hb hA=> ?_⟩
       rcases hA with hA|hA
       ·cases hf:res.fz with
        |true=>exact k3 hf b o hb (.inl hA)
        |false=>
         have:=(h.fr _ _ _ _ _ hl hf hb).2 (by simpa using hbor)
         have h2:=h.a0 b hA
         omega
       ·exact e3 rfl b o hb hA)
     refine⟨β',q1,q4, ?_⟩
     rw[k1,zdc,zbq]at g3
     cases g3
     have hok3:=q1.rs hd.s hd.j {res with fz:=true} (by
      rw[zax,if_pos rfl]
      simp[(List.getElem?_eq_some_iff.1 hj).1])
     rw[q2]at hok3
     obtain⟨ds2,p1,p2,p3⟩:=hok3.1.row hown.1
     have hds:ds2=ds0:=by
      have e1:ds2.map C.d=ds0.map C.d:=by rw[←p1,←k1]
      have e2:=congrArg toDs e1
      rw[zbq,zbq]at e2
      cases e2
      rfl
     subst hds
     obtain⟨ad,cap,m1,m2,m3⟩:=zft (Tp:=fun b=>¬Av cx _ β' b) hown p2 k1 (fun b o hb=>p3 rfl b o hb)
     simp only[Rd]
     exact⟨ad,cap,m1,m2,zdd.2 m3⟩
    ·cases hs
  ·cases hs
 ·cases hs
theorem zhx:∀{xs:List C} {ds:List D} {r r':Rs} {us:List Value} {β:Nat→Nat→Pl},Holds cx ⟨v,r⟩ a w β→sealCs r xs=some (ds,r')→ReCs cx w r β xs us→
  ∃β',Holds cx ⟨v,r'⟩ a w β'∧Ext cx w r β w r' β'∧ds.length=us.length∧∀(k:Nat) (d:D),ds[k]? =some d→∃u,us[k]? =some u∧Rd w (Av cx r' β') d u
 |[],ds,r,r',us,β,h,hs,hu=>by
  simp only[sealCs,Option.some.injEq,Prod.mk.injEq]at hs
  obtain⟨rfl,rfl⟩:=hs
  simp only[ReCs]at hu
  exact⟨β,h,⟨fun _=>Nat.le_refl _,fun hd res' _ hg=>⟨res',hg,rfl,rfl,rfl,Nat.le_refl _⟩,Stb.rfl,fun _ _ _=>rfl,rfl,rfl⟩,by simp[hu],fun k d hk=>by simp at hk⟩
 |x::xs,ds,r,r',us,β,h,hs,hu=>by
  simp only[sealCs]at hs
  split at hs
  ·rename_i d r1 g1
   split at hs
   ·rename_i ds' r2 g2
    simp only[Option.some.injEq,Prod.mk.injEq]at hs
    obtain⟨rfl,rfl⟩:=hs
    simp only[ReCs]at hu
    obtain⟨u,us',rfl,e1,e2⟩:=hu
    obtain⟨β1,p1,p2,p3⟩:=zkp h g1 e1
    obtain⟨β2,q1,q2,q3,q4⟩:=zhx p1 g2 (e2.ext p2)
    refine⟨β2,q1, ?_,by simp[q3],fun k d' hk=> ?_⟩
    ·refine⟨fun s=>Nat.le_trans (p2.nx s) (q2.nx s),fun hd res' hlt hg=> ?_,⟨fun _ _ _=>rfl,fun b hb hA=>p2.st.av b hb (q2.st.av b hb hA)⟩,fun _ _ _=>rfl,rfl,rfl⟩
     obtain⟨m1,m2,m3,m4,m5,m6⟩:=q2.old hd res' (Nat.lt_of_lt_of_le hlt (p2.nx _)) hg
     obtain⟨n1,n2,n3,n4,n5,n6⟩:=p2.old hd m1 hlt m2
     exact⟨n1,n2,by rw[m3,n3],by rw[m4,n4],by rw[m5,n5],Nat.le_trans n6 m6⟩
    ·cases k with
     |zero=>
      simp only[List.getElem?_cons_zero,Option.some.injEq]at hk
      subst hk
      exact⟨u,by simp,p3.stb q2.st⟩
     |succ k=>simpa using q4 k d' (by simpa using hk)
   ·cases hs
  ·cases hs
end
section
variable {cx:Cx} {v:List AV} {r:Rs} {a:Act} {w:World} {β:Nat→Nat→Pl} {T:Nat→Option TI} {c:Bool}
theorem zif:∀{us:List Value},(∀u∈us,flat u=true)→ReCs cx w r β (us.map fun v=>C.d (.v v)) us
 |[],_=>by simp[ReCs]
 |u::us,h=>by
  simp only[List.map_cons,ReCs]
  exact⟨u,us,rfl,zbp.2 ⟨rfl,h u (by simp)⟩,zif fun u' hu=>h u' (by simp[hu])⟩
theorem zfu (w:World) (o:Obj):(w.alloc o).heap[w.heap.size]? =some o:=heap_alloc_new w o
theorem zc3 (w:World) (o:Obj) {b:Nat} (h:b<w.heap.size):(w.alloc o).heap[b]? =w.heap[b]? :=heap_alloc_old w o b h
variable (hT:TOK cx.P T) (h:Holds cx ⟨v,r⟩ a w β) (hc:c=true) {o:Oper}
include h hc
include hT in
theorem zsE {t:TypeId} (ho:o.op= .alloc t) (hs:(aop T c v r o.dst o.op).sc):
  Does cx v a w (execOp a.eval o) (aop T c v r o.dst o.op).x (aop T c v r o.dst o.op).r:=by
 simp only[ho,aop]at hs⊢
 split at hs
 ·rename_i ti d h1 h2
  try simp only[h1,h2]
  have hty:=(hT t ti h1).1
  obtain⟨z,e1,e2⟩:=hty.run_zero w
  obtain⟨β',q1,q2,q3⟩:=h.fresh (d:=d) (j0:=0) (L:=some {e:=nxt r d,var:=true,fz:=false,sz:=0,cells:=zeroC ti}::List.replicate ti.zero.length none)
   (pl0:=⟨some (w.heap.size,0),0⟩) (w':=w.alloc (.cells z.cells t (0,0))) rfl
   (fun j res hj=>by
    cases j with
    |zero=>rfl
    |succ j=>
     simp only[List.getElem?_cons_succ,List.getElem?_replicate]at hj
     split at hj<;>cases hj) rfl rfl
   (fun b o hb=>by cases hb;rfl) (fun b hb=>zc3 w _ hb) (by simp)
   (fun β' hx hA=>by
    unfold ResOK
    rw[if_pos rfl]
    exact⟨rfl,w.heap.size,z.cells,t,rfl,zfu w _,by rw[e2];exact zif hty.flat,fun u hu=>hty.flat u (by rw[←e2];exact hu)⟩)
  refine⟨_,_,β', .pointer (some ⟨w.heap.size,0,none⟩), ?_, .inl rfl,q1, ?_⟩
  ·simp[execOp,ho,Instr.alloc,e1,newVar,newRow]
  ·simp only[ReA,ReC]
   refine⟨rfl,by rw[zaL,if_pos rfl];exact Nat.lt_succ_self _,fun res hr=>⟨w.heap.size,0,by rw[q2],by simp⟩⟩
 ·exact hs.elim
omit h hc in
theorem zqy {A:Nat→Prop} {w:World} {ds:List D} {us:List Value} {e sz n:Nat} (hlen:ds.length=us.length) (hn:us.length=n*sz)
  (hd:∀(k:Nat) (d:D),ds[k]? =some d→∃u,us[k]? =some u∧Rd (w.alloc (.cells us.toArray e (0,0))) A d u):
  RowM (w.alloc (.cells us.toArray e (0,0))) A ⟨some (w.heap.size,0),n⟩ sz ds:=by
 simp only[RowM]
 refine⟨us.toArray,e,zfu w _,by simp[hn],by omega,fun k d hk=> ?_⟩
 obtain⟨u,g1,g2⟩:=hd k d hk
 exact⟨u,by simpa using g1,g2⟩
omit h hc in
theorem zcM {w:World} {r:Rs} {β:Nat→Nat→Pl} {pl:Pl} {res:Res} {ds:List D} (hv:res.var=false) (hc:res.cells=ds.map C.d) (hf:res.fz=false)
  (hm:RowM w (Av cx r β) pl res.sz ds):ResOK cx w r β pl res:=by
 unfold ResOK
 rw[if_neg (by simp[hv])]
 exact⟨ds,hc,hm,fun h=>by rw[hf]at h;cases h⟩
theorem ze0 {d n sz:Nat} {ds:List D} {pl0:Pl} {w':World}
  (hb:∀b o,pl0.base=some (b,o)→b=w.heap.size)
  (hw:∀b,b<w.heap.size→w'.heap[b]? =w.heap[b]?) (hsz:w.heap.size≤w'.heap.size)
  (hlen:n*sz≤ds.length) (hcap:n≤pl0.cap)
  (hm:∀A',(∀b,b<w.heap.size→A' b→Av cx r β b)→RowM w' A' pl0 sz ds)
  (hos:w'.os=w.os∧w'.output=w.output:=by exact⟨rfl,rfl⟩):
  ∃β',Holds cx ⟨v,setR d ⟨nxt r d+1,[none,some {e:=nxt r d,var:=false,fz:=false,sz:=sz,cells:=ds.map C.d}]⟩ r⟩ a w' β'∧
   ReA cx w' (setR d ⟨nxt r d+1,[none,some {e:=nxt r d,var:=false,fz:=false,sz:=sz,cells:=ds.map C.d}]⟩ r) β' (.one (.own ⟨d,1,nxt r d⟩ 0 n))
    (.slice (pl0.base.map fun p=>⟨p.1,p.2,none⟩) n pl0.cap):=by
 obtain⟨β',q1,q2,q3⟩:=h.fresh (d:=d) (j0:=1) (L:=[none,some {e:=nxt r d,var:=false,fz:=false,sz:=sz,cells:=ds.map C.d}])
  (pl0:=pl0) (w':=w') rfl
  (fun j res hj=>by
   match j with
   |0=>simp at hj
   |1=>rfl
   |j+2=>simp at hj) rfl rfl hb hw hsz
  (fun β' hx hA=>zcM rfl rfl rfl (hm _ hx.st.av)) hos
 refine⟨β',q1, ?_⟩
 simp only[ReA,ReC]
 refine⟨rfl,by rw[zaL,if_pos rfl];exact Nat.lt_succ_self _,fun res hr=> ?_⟩
 obtain⟨hl,_⟩:=zad hr
 rw[zax,if_pos rfl]at hl
 simp only[List.getElem?_cons_succ,List.getElem?_cons_zero,Option.some.injEq]at hl
 subst hl
 rw[q2]
 refine⟨rfl,by simpa using hlen,by omega,_,rfl, ?_⟩
 cases hp:pl0.base with
 |none=>
  have:=hm (fun _=>False) (fun _ _ h=>h.elim)
  simp only[RowM,hp]at this
  exact .inl (by omega)
 |some p=>exact .inr ⟨p.1,p.2,rfl,by simp⟩
end
section
variable {cx:Cx} {v:List AV} {r:Rs} {a:Act} {w:World} {β:Nat→Nat→Pl} {T:Nat→Option TI} {c:Bool}
theorem zlR {u:Value} (h:flat u=true):u.oneCell'=true:=by cases u<;>first|rfl|simp[flat]at h
theorem zbJ {P:Program} {b e:Nat}:∀(us:List Value) (w:World) (off i:Nat) (cs:Array Value),w.heap[b]? =some (.cells cs e (0,0))→off+i+us.length≤cs.size→
  (∀u∈us,flat u=true)→∃w' cs',(storeCells ⟨b,off,none⟩ us i).run P w= .ok () w'∧w'.heap[b]? =some (.cells cs' e (0,0))∧cs'.size=cs.size∧
   (∀k,k<us.length→cs'[off+i+k]? =us[k]?)∧(∀k,k<off+i∨off+i+us.length≤k→cs'[k]? =cs[k]?)∧
   (∀b',b'≠b→w'.heap[b']? =w.heap[b']?)∧w'.heap.size=w.heap.size∧w'.os=w.os∧w'.output=w.output
 |[],w,off,i,cs,hb,_,_=>⟨w,cs,by simp[storeCells],hb,rfl,fun k hk=>by simp at hk,fun _ _=>rfl,fun _ _=>rfl,rfl,rfl,rfl⟩
 |u::us,w,off,i,cs,hb,hlen,hf=>by
  simp only[List.length_cons]at hlen
  have hlt:off+i<cs.size:=by omega
  have hcell:w.cell? ⟨b,off+i,none⟩=some cs[off+i]:=by rw[zhv hb];simp[hlt]
  have hfr:w.frozen? ⟨b,off+i,none⟩=false:=frozen_of_row w b (off+i) cs e hb
  have hb':(w.setCell ⟨b,off+i,none⟩ u).heap[b]? =some (.cells (cs.setIfInBounds (off+i) u) e (0,0)):=heap_setCell_same w b (off+i) cs e u hb
  obtain⟨w',cs',h1,h2,h3,h4,h5,h6,h7⟩:=zbJ (P:=P) us (w.setCell ⟨b,off+i,none⟩ u) off (i+1) _ hb' (by simp;omega) (fun u' hu=>hf u' (by simp[hu]))
  refine⟨w',cs', ?_,h2,by simpa using h3,fun k hk=> ?_,fun k hk=> ?_,fun b' hne=> ?_,by simpa using h7.1,h7.2⟩
  ·simp only[storeCells,Sem.run_bind,zcu]
   rw[run_store P w _ u .plain (zlR (hf u (by simp)))]
   simp only[hcell,hfr,Bool.false_eq_true,if_false,Result.andThen_ok]
   exact h1
  ·cases k with
   |zero=>
    rw[h5 _ (.inl (by omega))]
    simp[hlt]
   |succ k=>
    have:=h4 k (by simpa using hk)
    rw[show off+i+(k+1)=off+(i+1)+k by omega,this]
    simp
  ·rw[h5 k (by simp only[List.length_cons]at hk;omega)]
   rw[Array.getElem?_setIfInBounds_ne (by simp only[List.length_cons]at hk;omega)]
  ·rw[h6 b' hne]
   exact heap_setCell_other w _ b' u hne
theorem znP {A Tp:Nat→Prop}:∀{ds:List D} {b o:Nat},RdT w A Tp ds (some ⟨b,o,none⟩)→
  ∃us:List Value,us.length=ds.length∧(∀j u,us[j]? =some u→w.cell? ⟨b,o+j,none⟩=some u)∧
   (∀(k:Nat) (d:D),ds[k]? =some d→∃u,us[k]? =some u∧Rd w A d u)∧∀u∈us,flat u=true
 |[],b,o,_=>⟨[],rfl,fun j u hj=>by simp at hj,fun k d hk=>by simp at hk,fun u hu=>by simp at hu⟩
 |d::ds,b,o,h=>by
  obtain⟨b',o',u,e1,_,e2,e3,e4⟩:=h
  cases e1
  obtain⟨us,g1,g2,g3,g4⟩:=znP e4
  refine⟨u::us,by simp[g1],fun j u' hj=> ?_,fun k d' hk=> ?_,fun u' hu=> ?_⟩
  ·cases j with
   |zero=>simp only[List.getElem?_cons_zero,Option.some.injEq]at hj;subst hj;simpa using e2
   |succ j=>have:=g2 j u' (by simpa using hj);rwa[Nat.add_assoc,Nat.add_comm 1 j]at this
  ·cases k with
   |zero=>simp only[List.getElem?_cons_zero,Option.some.injEq]at hk;subst hk;exact⟨u,by simp,e3⟩
   |succ k=>simpa using g3 k d' (by simpa using hk)
  ·rcases List.mem_cons.1 hu with rfl|hu
   ·exact e3.flat
   ·exact g4 u' hu
theorem zea {A Tp:Nat→Prop} {P:Program} {ds:List D} {ad:Option Addr} {n cap m size:Nat} (h:RdT w A Tp ds ad) (hlen:ds.length=m*size):
  ∃us:List Value,us.length=ds.length∧(Builtin.firstCells size m (.slice ad n cap)).run P w= .ok us.toArray w∧
   (∀(k:Nat) (d:D),ds[k]? =some d→∃u,us[k]? =some u∧Rd w A d u)∧∀u∈us,flat u=true:=by
 by_cases hds:ds=[]
 ·subst hds
  refine⟨[],rfl, ?_,fun k d hk=>by simp at hk,fun u hu=>by simp at hu⟩
  simp only[List.length_nil]at hlen
  cases ad with
  |none=>simp[Builtin.firstCells]
  |some ad=>simp[Builtin.firstCells,←hlen,loadCells,loadCellsFrom]
 ·obtain⟨b,o,rfl⟩:=h.addr hds
  obtain⟨us,g1,g2,g3,g4⟩:=znP h
  refine⟨us,g1, ?_,g3,g4⟩
  have:=run_loadCells_list (P:=P) w ⟨b,o,none⟩ us (fun j u hj=>by rw[zcu];exact g2 j u hj)
  rw[g1,hlen]at this
  simpa[Builtin.firstCells]using this
theorem zdp (h:Holds cx ⟨v,r⟩ a w β) {x:C} {u:Value} {n:Nat} {ds:List D} (hx:ReC cx w r β x u) (hr:rowOf r x=some (n,ds)):
  ∃ad cap,u= .slice ad n cap∧n≤cap∧RdT w (Av cx r β) (fun _=>True) ds ad:=by
 unfold rowOf at hr
 split at hr
 ·cases hr
  simp only[ReC,Rd]at hx
  obtain⟨ad,cap,h1,h2,h3⟩:=hx
  exact⟨ad,cap,h1,h2,(zdd.1 h3).imp fun _ _=>trivial⟩
 ·cases hr
  exact⟨none,0,(zbp.1 hx).1,Nat.le_refl _,trivial⟩
 ·cases hr
  simp only[ReC]at hx
  obtain⟨ad,cap,h1,h2,h3⟩:=hx
  exact⟨ad,cap,h1,h2,h3.imp fun _ _=>trivial⟩
 ·rename_i hd lo n'
  split at hr
  ·rename_i res g1
   split at hr
   ·rename_i ds' g2
    cases hr
    simp only[ReC]at hx
    have hown:=hx.2.2 res g1
    obtain⟨hl,_⟩:=zad g1
    obtain⟨ds0,k1,k2,_⟩:=(h.rs _ _ _ hl).1.row hown.1
    rw[k1,zdc,zbq]at g2
    cases g2
    exact zft hown k2 k1 (fun _ _ _=>trivial)
   ·cases hr
  ·cases hr
 ·rename_i hd lo n' k
  split at hr
  ·rename_i res g1
   split at hr
   ·rename_i ds' g2
    cases hr
    simp only[ReC]at hx
    obtain⟨x1,x2,x3,ad,rfl,x4⟩:=hx
    obtain⟨y1,y2⟩:=x4 res g1
    obtain⟨hl,_⟩:=zad g1
    obtain⟨ds0,k1,k2,_⟩:=(h.rs _ _ _ hl).1.row y1
    rw[k1,zdc,zbq]at g2
    cases g2
    exact⟨ad,_,rfl,by omega,zko x3 y2 k2 (fun _ _ _=>trivial)⟩
   ·cases hr
  ·cases hr
 ·cases hr
theorem src_ok (h:Holds cx ⟨v,r⟩ a w β) {x:AV} {u:Value} {m size:Nat} {ds:List D} (hx:ReA cx w r β x u) (hr:srcOf r x=some (m,ds)) (hlen:ds.length=m*size):
  ∃us:List Value,us.length=ds.length∧(Builtin.lenOf u).run cx.P w= .ok m w∧(Builtin.firstCells size m u).run cx.P w= .ok us.toArray w∧
   (∀(k:Nat) (d:D),ds[k]? =some d→∃u,us[k]? =some u∧Rd w (Av cx r β) d u)∧∀u∈us,flat u=true:=by
 unfold srcOf at hr
 split at hr
 ·rename_i s
  cases hr
  have e1:=(zas.1 hx).1
  subst e1
  refine⟨s.data.toList.map fun x=> .int .u8 x.toNat,by simp,by simp[Builtin.lenOf], ?_,fun k d hk=> ?_,fun u hu=> ?_⟩
  ·have he:(s.extract 0 s.size).data=s.data:=by
    have:s.extract 0 s.size=s:=by simp
    rw[this]
   simp only[Builtin.firstCells,Sem.run_pure,he]
   congr 1
   apply Array.ext'
   simp
  ·rw[List.getElem?_map]at hk
   obtain⟨y,hy,rfl⟩:=Option.map_eq_some_iff.1 hk
   exact⟨_,by rw[List.getElem?_map,hy];rfl,by simp only[Rd];exact⟨trivial,rfl⟩⟩
  ·obtain⟨y,_,rfl⟩:=List.mem_map.1 hu
   rfl
 ·rename_i y
  obtain⟨ad,cap,rfl,h2,h3⟩:=zdp h (zaN.1 hx) hr
  obtain⟨us,g1,g2,g3,g4⟩:=zea (P:=cx.P) (n:=m) (cap:=cap) h3 hlen
  exact⟨us,g1,by simp[Builtin.lenOf],g2,g3,g4⟩
 ·cases hr
end
section
variable {cx:Cx} {v:List AV} {r:Rs} {a:Act} {w:World} {β:Nat→Nat→Pl} {T:Nat→Option TI} {c:Bool}
theorem ztZ (hT:TOK cx.P T) {t:Nat} (h:(isSl T (some t)||isStr T (some t))=true) (w:World):
  (∃e,(underlying t).run cx.P w= .ok (.slice e) w)∨(underlying t).run cx.P w= .ok .string w:=by
 simp only[Bool.or_eq_true]at h
 rcases h with h|h
 ·obtain⟨e,h1,_⟩:=zeY hT h w;exact .inl ⟨_,h1⟩
 ·obtain⟨h1,_⟩:=zhw hT h w;exact .inr h1
theorem run_append_fits (hT:TOK cx.P T) {ts:Array TypeId} {ty t t1 e:Nat} {ei:TI} (ht:ts[0]? =some t) (ht1:ts[1]? =some t1) (he:elemSz T t=some (e,ei))
  (hni:(isSl T (some t1)||isStr T (some t1))=true) {base:Option Addr} {n cap m:Nat} {u:Value} {us:List Value}
  (hl:(Builtin.lenOf u).run cx.P w= .ok m w) (hf:(Builtin.firstCells ei.size m u).run cx.P w= .ok us.toArray w) (hfit:n+m≤cap):
  (Builtin.append_ ts ty #[.slice base n cap,u]).run cx.P w=match base with
   |some ad=>((storeCells (ad.add (n*ei.size)) us).run cx.P w).andThen fun _ w'=> .ok (.slice base (n+m) cap) w'
   |none=> .ok (.slice none (n+m) cap) w:=by
 obtain⟨e1,e2,_⟩:=zbv hT he w
 rcases ztZ hT hni w with⟨e',e3⟩|e3
 ·cases base with
  |none=>simp[Builtin.append_,ht,ht1,e1,e2,e3,hl,hf,hfit]
  |some ad=>simp[Builtin.append_,ht,ht1,e1,e2,e3,hl,hf,hfit]
 ·cases base with
  |none=>simp[Builtin.append_,ht,ht1,e1,e2,e3,hl,hf,hfit]
  |some ad=>simp[Builtin.append_,ht,ht1,e1,e2,e3,hl,hf,hfit]
theorem zdF (hT:TOK cx.P T) {ts:Array TypeId} {ty t t1 e:Nat} {ei:TI} (ht:ts[0]? =some t) (ht1:ts[1]? =some t1) (he:elemSz T t=some (e,ei))
  (hni:(isSl T (some t1)||isStr T (some t1))=true) {base:Option Addr} {n cap m:Nat} {u:Value} {us old:List Value}
  (hl:(Builtin.lenOf u).run cx.P w= .ok m w) (hf:(Builtin.firstCells ei.size m u).run cx.P w.drew= .ok us.toArray w.drew)
  (ho:(Builtin.firstCells ei.size n (.slice base n cap)).run cx.P w.drew= .ok old.toArray w.drew) (hmore:cap<n+m) (hb0:ei.bytes≠0) (hb:(n+m)*ei.bytes≤2^47):
  ∃(nc:Nat) (rest:List Value),n+m≤nc∧rest.length=(nc - (n+m))*ei.size∧
   (Builtin.append_ ts ty #[.slice base n cap,u]).run cx.P w= .ok (.slice (some ⟨w.heap.size,0,none⟩) (n+m) nc) (w.drew.alloc (.cells (old++us++rest).toArray e (0,0))):=by
 obtain⟨e1,e2,hty,_⟩:=zbv hT he w
 obtain⟨i,e5,e6,_⟩:=hty.run_info w
 obtain⟨z,e7,e8⟩:=hty.run_zero w.drew
 have e5':∀w,(typeInfo e).run cx.P w= .ok i w:=fun w'=>by
  obtain⟨⟨i',z',d',g1,_⟩,_,_⟩:=hty
  have:i'=i:=by
   have:=e5
   simp[typeInfo,g1]at this
   exact this
  subst this
  simp[typeInfo,g1]
 let nc:=(Question.appendCap (n+m) cap e).cut (w.tape w.drawn (.appendCap (n+m) cap e))
 have hnc:n+m≤nc:=by simp only[nc,Question.cut];omega
 have hmul:n+m≤(n+m)*ei.bytes:=Nat.le_mul_of_pos_right _ (by omega)
 have h63:¬(9223372036854775807<((n:Int)+(m:Int))):=by
  have:n+m≤140737488355328:=Nat.le_trans hmul hb
  omega
 have hfit:¬(281474976710656<Builtin.nextslicecap (n+m) cap*i.bytes):=by
  rw[e6]
  have:=growslice_fits hmore hb
  omega
 have hn:¬(n+m≤cap):=by omega
 refine⟨nc,(Builtin.zeroCells z.cells (nc - (n+m))).toList,hnc, ?_, ?_⟩
 ·simp only[Builtin.zeroCells,Array.toList_map,List.length_map,Array.length_toList,Array.size_range]
  rw[←Array.length_toList,e8,hty.len]
 ·rcases ztZ hT hni w with⟨e',e3⟩|e3
  all_goals
   simp[Builtin.append_,ht,ht1,e1,e2,e3,hl,hn,e5',h63,hfit,Question.forced,ho,hf,e7,newRow,nc]
   congr 2
   apply Array.ext'
   simp
variable (hT:TOK cx.P T) (h:Holds cx ⟨v,r⟩ a w β) (hc:c=true) {o:Oper}
include h hc
omit h hc in
theorem Holds.drew (h:Holds cx ⟨v,r⟩ a w β):Holds cx ⟨v,r⟩ a w.drew β:=by
 have x:Ext cx w r β w.drew r β:=⟨fun _=>Nat.le_refl _,fun hd res' _ hg=>⟨res',hg,rfl,rfl,rfl,Nat.le_refl _⟩,⟨fun _ _ _=>rfl,fun _ _ h=>h⟩,fun _ _ _=>rfl,rfl,rfl⟩
 exact h.mk' x (fun s j res hl=>⟨(h.rs s j res hl).1.ext x (fun _ _ _=>rfl) (fun b o hb=>(h.rs s j res hl).1.lt hb),(h.rs s j res hl).2⟩) h.inj h.fr (Nat.le_refl _)
omit h hc in
theorem zb9 {s j:Nat} {res:Res} {rs:RS} (hl:lookR r s j=some res) (hrs:findR s r=some rs):rs.l[j]? =some (some res):=by
 unfold lookR at hl
 simp only[hrs]at hl
 split at hl
 ·rename_i q hq;cases hl;exact hq
 ·cases hl
omit h hc in
theorem znQ {s j e next:Nat} {res':Res} {rs:RS} (hj:j<rs.l.length) {res:Res}
  (hg:getR (setR s ⟨next,rs.l.set j (some res')⟩ r) ⟨s,j,e⟩=some res):res=res':=by
 obtain⟨hl,_⟩:=zad hg
 rw[zax,if_pos rfl]at hl
 simp[hj]at hl
 exact hl.symm
theorem zoJ (hT:TOK cx.P T) {ts:Array TypeId} {ty t t1 e:Nat} {ei:TI} (ht:ts[0]? =some t) (ht1:ts[1]? =some t1) (he:elemSz T t=some (e,ei))
  (hni:(isSl T (some t1)||isStr T (some t1))=true) {hd:Hd} {lo n m:Nat} {s u:Value} {x:AV} {ds2 ds1:List D} {res:Res} {rs:RS}
  (hs:ReC cx w r β (.own hd lo n) s) (hx:ReA cx w r β x u) (hsrc:srcOf r x=some (m,ds2)) (hlen:ds2.length=m*ei.size)
  (hg:getR r hd=some res) (hrs:findR hd.s r=some rs) (hds1:toDs (sub lo n res.sz res.cells)=some ds1) (hb0:ei.bytes≠0) (hfz:res.fz=false) (hsz:res.sz=ei.size)
  (hb:(n+m)*ei.bytes≤2^47):
  ∃u' w' β',(Builtin.append_ ts ty #[s,u]).run cx.P w= .ok u' w'∧
   Holds cx ⟨v,setR hd.s ⟨rs.next+1,rs.l.set hd.j (some {res with e:=rs.next,sz:=ei.size,cells:=(ds1++ds2).map C.d})⟩ r⟩ a w' β'∧
   ReA cx w' (setR hd.s ⟨rs.next+1,rs.l.set hd.j (some {res with e:=rs.next,sz:=ei.size,cells:=(ds1++ds2).map C.d})⟩ r) β' (.one (.own ⟨hd.s,hd.j,rs.next⟩ 0 (n+m))) u':=by
 obtain⟨hl,hee⟩:=zad hg
 have hj:=zb9 hl hrs
 have hjlt:hd.j<rs.l.length:=(List.getElem?_eq_some_iff.1 hj).1
 simp only[ReC]at hs
 obtain⟨_,hlt,hown⟩:=hs
 have hown:=hown res hg
 obtain⟨p1,p2,p3,ad,rfl,p5⟩:=hown
 have hok:=h.rs _ _ _ hl
 obtain⟨ds0,k1,k2,k3⟩:=hok.1.row p1
 rw[k1,zdc,zbq]at hds1
 cases hds1
 have hds1len:((ds0.drop (lo*res.sz)).take (n*res.sz)).length=n*ei.size:=by
  rw[k1,List.length_map]at p2
  rw[List.length_take,List.length_drop,hsz]
  rw[hsz]at p2
  omega
 obtain⟨us,g1,g2,g3,g4,g5⟩:=src_ok h hx hsrc hlen
 -- what follows once the memory is known
 have fin:∀(w':World) (pl':Pl) (ad':Option Addr),
   (∀b o,pl'.base=some (b,o)→(∃o',(β hd.s hd.j).base=some (b,o'))∨w.heap.size≤b)→
   (∀b,b<w.heap.size→(∀o,(β hd.s hd.j).base≠some (b,o))→w'.heap[b]? =w.heap[b]?)→w.heap.size≤w'.heap.size→
   (w'.os=w.os∧w'.output=w.output)→(∀A',Stb w (Av cx r β) w' A'→RowM w' A' pl' ei.size ((ds0.drop (lo*res.sz)).take (n*res.sz)++ds2))→n+m≤pl'.cap→
   (pl'.cap=0∨∃b o,pl'.base=some (b,o)∧ad'=some ⟨b,o,none⟩)→
   (Builtin.append_ ts ty #[.slice ad n ((β hd.s hd.j).cap - lo),u]).run cx.P w= .ok (.slice ad' (n+m) pl'.cap) w'→
   ∃u' w' β',(Builtin.append_ ts ty #[.slice ad n ((β hd.s hd.j).cap - lo),u]).run cx.P w= .ok u' w'∧
    Holds cx ⟨v,setR hd.s ⟨rs.next+1,rs.l.set hd.j (some {res with e:=rs.next,sz:=ei.size,cells:=((ds0.drop (lo*res.sz)).take (n*res.sz)++ds2).map C.d})⟩ r⟩ a w' β'∧
    ReA cx w' (setR hd.s ⟨rs.next+1,rs.l.set hd.j (some {res with e:=rs.next,sz:=ei.size,cells:=((ds0.drop (lo*res.sz)).take (n*res.sz)++ds2).map C.d})⟩ r) β'
     (.one (.own ⟨hd.s,hd.j,rs.next⟩ 0 (n+m))) u':=by
  intro w' pl' ad' q1 q2 q3 hos q4 q5 q6 hrun
  obtain⟨β',m1,m2,m3,m4⟩:=h.upd (w':=w') (res':={res with e:=rs.next,sz:=ei.size,cells:=((ds0.drop (lo*res.sz)).take (n*res.sz)++ds2).map C.d}) (pl':=pl')
   (next':=rs.next+1) hrs hj (Nat.le_succ _) (Nat.lt_succ_self _) rfl (.inr (Nat.le_refl _)) (fun hf=>hf) q1 (fun b hb' hor=>by
    rcases hor with hor|hor
    ·exact q2 b hb' hor
    ·rw[hfz]at hor;cases hor) q3
   (fun β' e1 e2 e3=>zcM p1 rfl hfz (q4 _ e2.st)) hos
  refine⟨_,w',β',hrun,m1, ?_⟩
  simp only[ReA,ReC]
  refine⟨rfl,by rw[zaL,if_pos rfl];exact Nat.lt_succ_self _,fun res2 hr=> ?_⟩
  have:=znQ hjlt hr
  subst this
  rw[m2]
  refine⟨p1, ?_,by omega,ad',by simp, ?_⟩
  ·simp only[List.length_map,List.length_append,hds1len,hlen,Nat.zero_mul,Nat.zero_add,Nat.add_mul]
   exact Nat.le_refl _
  ·rcases q6 with q6|⟨b,o,q6,q7⟩
   ·exact .inl (by omega)
   ·exact .inr ⟨b,o,q6,by simpa using q7⟩
 by_cases hroom:n+m≤(β hd.s hd.j).cap - lo
 ·have hrun:=run_append_fits hT (ty:=ty) ht ht1 he hni (base:=ad) g2 g3 hroom
  by_cases hz:(β hd.s hd.j).cap - lo=0
  ·have hn0:n=0:=by omega
   have hm0:m=0:=by omega
   subst hn0;subst hm0
   have hus:us=[]:=List.eq_nil_of_length_eq_zero (by rw[g1,hlen];simp)
   have hds2:ds2=[]:=List.eq_nil_of_length_eq_zero (by rw[hlen];simp)
   subst hus;subst hds2
   refine fin w ⟨none,0⟩ ad (fun b o hb=>by cases hb) (fun _ _ _=>rfl) (Nat.le_refl _) ⟨rfl,rfl⟩ (fun A' _=>by simp[RowM]) (by simp) (.inl rfl) ?_
   rw[hrun,hz]
   cases ad<;>simp[storeCells]
  ·obtain⟨b,o,hbase,rfl⟩:=p5.resolve_left hz
   simp only[RowM,hbase]at k2
   obtain⟨cs,et,r1,r2,r3,r4⟩:=k2
   have hfit:o+lo*res.sz+n*ei.size+0+us.length≤cs.size:=by
    have h1:(lo+n+m)*res.sz≤(β hd.s hd.j).cap*res.sz:=Nat.mul_le_mul_right _ (by omega)
    rw[Nat.add_mul,Nat.add_mul]at h1
    rw[g1,hlen,←hsz]
    omega
   obtain⟨w',cs',t1,t2,t3,t4,t5,t6,t7⟩:=zbJ (P:=cx.P) us w (o+lo*res.sz+n*ei.size) 0 cs r1 hfit g5
   refine fin w' ⟨some (b,o+lo*res.sz),(β hd.s hd.j).cap - lo⟩ (some ⟨b,o+lo*res.sz,none⟩) (fun b' o' hb'=>by cases hb';exact .inl ⟨o,hbase⟩)
    (fun b' hb' hne=>t6 b' (fun e=>hne o (e▸hbase))) (by omega) t7.2 (fun A' hst=> ?_) hroom (.inr ⟨b,_,rfl,rfl⟩) ?_
   ·simp only[RowM]
    refine⟨cs',et,t2, ?_, ?_,fun k d hk=> ?_⟩
    ·rw[t3,←hsz]
     have:lo*res.sz+((β hd.s hd.j).cap - lo)*res.sz=(β hd.s hd.j).cap*res.sz:=by rw[←Nat.add_mul];congr 1;omega
     omega
    ·rw[List.length_append,hds1len,hlen,←Nat.add_mul]
     exact Nat.mul_le_mul_right _ hroom
    ·by_cases hk1:k<n*ei.size
     ·rw[List.getElem?_append_left (by rw[hds1len];exact hk1),List.getElem?_take_of_lt (by rw[hsz];exact hk1),List.getElem?_drop]at hk
      obtain⟨u',f1,f2⟩:=r4 _ _ hk
      refine⟨u', ?_,f2.stb hst⟩
      rw[t5 _ (.inl (by omega)),Nat.add_assoc]
      exact f1
     ·rw[List.getElem?_append_right (by rw[hds1len];omega),hds1len]at hk
      obtain⟨u',f1,f2⟩:=g4 _ _ hk
      have hklt:k - n*ei.size<us.length:=(List.getElem?_eq_some_iff.1 f1).1
      refine⟨u', ?_,f2.stb hst⟩
      have:=t4 _ hklt
      rw[f1]at this
      rw[←this]
      congr 1
      omega
   ·rw[hrun]
    simp only[zcu,t1,Result.andThen_ok]
 ·have hmore:(β hd.s hd.j).cap - lo<n+m:=by omega
  have hdr:=h.drew
  have x0:Ext cx w r β w.drew r β:=⟨fun _=>Nat.le_refl _,fun hd res' _ hg=>⟨res',hg,rfl,rfl,rfl,Nat.le_refl _⟩,⟨fun _ _ _=>rfl,fun _ _ h=>h⟩,fun _ _ _=>rfl,rfl,rfl⟩
  obtain⟨us',g1',g2',g3',g4',g5'⟩:=src_ok hdr (hx.ext x0) hsrc hlen
  have hread:RdT w.drew (Av cx r β) (fun _=>True) ((ds0.drop (lo*res.sz)).take (n*res.sz)) ad:=by
   obtain⟨ad2,cap2,e1,e2,e3⟩:=zft (Tp:=fun _=>True) (⟨p1,p2,p3,ad,rfl,p5⟩:OwnV (β hd.s hd.j) res lo n (.slice ad n ((β hd.s hd.j).cap - lo))) k2 k1 (fun _ _ _=>trivial)
   cases e1
   exact e3.stb (⟨fun _ _ _=>rfl,fun _ _ h=>h⟩:Stb w (Av cx r β) w.drew (Av cx r β)) (fun _ _ _=>⟨trivial,rfl⟩)
  obtain⟨old,o1,o2,o3,o4⟩:=zea (P:=cx.P) (n:=n) (cap:=(β hd.s hd.j).cap - lo) hread hds1len
  obtain⟨nc,rest,n1,n2,n3⟩:=zdF hT (ty:=ty) ht ht1 he hni g2 g3' o2 hmore hb0 hb
  refine fin _ ⟨some (w.heap.size,0),nc⟩ (some ⟨w.heap.size,0,none⟩) (fun b o hb=>by cases hb;exact .inr (Nat.le_refl _))
   (fun b hb' _=>zc3 w.drew _ hb') (by simp) ⟨rfl,rfl⟩ (fun A' hst=> ?_) n1 (.inr ⟨_,_,rfl,rfl⟩) n3
  simp only[RowM]
  refine⟨_,e,zfu w.drew _, ?_, ?_,fun k d hk=> ?_⟩
  ·simp only[List.size_toArray,List.length_append,o1,g1',hds1len,hlen,n2,Nat.zero_add,←Nat.add_mul]
   exact Nat.mul_le_mul_right _ (by omega)
  ·rw[List.length_append,hds1len,hlen,←Nat.add_mul]
   exact Nat.mul_le_mul_right _ n1
  ·have hst':Stb w.drew (Av cx r β) (w.drew.alloc (.cells (old++us'++rest).toArray e (0,0))) A':=⟨hst.hp,hst.av⟩
   by_cases hk1:k<n*ei.size
   ·rw[List.getElem?_append_left (by rw[hds1len];exact hk1)]at hk
    obtain⟨u',f1,f2⟩:=o3 _ _ hk
    refine⟨u', ?_,f2.stb hst'⟩
    have hklt:k<old.length:=(List.getElem?_eq_some_iff.1 f1).1
    simp only[Nat.zero_add,List.getElem?_toArray]
    rw[List.append_assoc,List.getElem?_append_left hklt]
    exact f1
   ·rw[List.getElem?_append_right (by rw[hds1len];omega),hds1len]at hk
    obtain⟨u',f1,f2⟩:=g4' _ _ hk
    refine⟨u', ?_,f2.stb hst'⟩
    have hklt:k - n*ei.size<us'.length:=(List.getElem?_eq_some_iff.1 f1).1
    simp only[Nat.zero_add,List.getElem?_toArray]
    rw[List.append_assoc,List.getElem?_append_right (by rw[o1,hds1len];omega),o1,hds1len,List.getElem?_append_left hklt]
    exact f1
theorem append_nil (hT:TOK cx.P T) {ts:Array TypeId} {ty t t1 e d:Nat} {ei:TI} (ht:ts[0]? =some t) (ht1:ts[1]? =some t1) (he:elemSz T t=some (e,ei))
  (hni:(isSl T (some t1)||isStr T (some t1))=true) {m:Nat} {u:Value} {x:AV} {ds2:List D}
  (hx:ReA cx w r β x u) (hsrc:srcOf r x=some (m,ds2)) (hlen:ds2.length=m*ei.size) (hb0:ei.bytes≠0) (hb:m*ei.bytes≤2^47):
  ∃u' w' β',(Builtin.append_ ts ty #[.slice none 0 0,u]).run cx.P w= .ok u' w'∧
   Holds cx ⟨v,setR d ⟨nxt r d+1,[none,some {e:=nxt r d,var:=false,fz:=false,sz:=ei.size,cells:=ds2.map C.d}]⟩ r⟩ a w' β'∧
   ReA cx w' (setR d ⟨nxt r d+1,[none,some {e:=nxt r d,var:=false,fz:=false,sz:=ei.size,cells:=ds2.map C.d}]⟩ r) β' (.one (.own ⟨d,1,nxt r d⟩ 0 m)) u':=by
 obtain⟨us,g1,g2,g3,g4,g5⟩:=src_ok h hx hsrc hlen
 by_cases hm:m=0
 ·subst hm
  have hus:us=[]:=List.eq_nil_of_length_eq_zero (by rw[g1,hlen];simp)
  have hds2:ds2=[]:=List.eq_nil_of_length_eq_zero (by rw[hlen];simp)
  subst hus;subst hds2
  have hrun:=run_append_fits hT (ty:=ty) ht ht1 he hni (base:=none) (n:=0) (cap:=0) g2 g3 (by omega)
  obtain⟨β',q1,q2⟩:=ze0 h hc (d:=d) (n:=0) (sz:=ei.size) (ds:=[]) (pl0:=⟨none,0⟩) (w':=w) (fun b o hb=>by cases hb) (fun _ _=>rfl) (Nat.le_refl _)
   (by simp) (Nat.le_refl _) (fun A' _=>by simp[RowM])
  exact⟨_,w,β',hrun,q1,q2⟩
 ·have hdr:=h.drew
  have x0:Ext cx w r β w.drew r β:=⟨fun _=>Nat.le_refl _,fun hd res' _ hg=>⟨res',hg,rfl,rfl,rfl,Nat.le_refl _⟩,⟨fun _ _ _=>rfl,fun _ _ h=>h⟩,fun _ _ _=>rfl,rfl,rfl⟩
  obtain⟨us',g1',g2',g3',g4',g5'⟩:=src_ok hdr (hx.ext x0) hsrc hlen
  have o2:(Builtin.firstCells ei.size 0 (.slice none 0 0)).run cx.P w.drew= .ok ([]:List Value).toArray w.drew:=by simp[Builtin.firstCells]
  obtain⟨nc,rest,n1,n2,n3⟩:=zdF hT (ty:=ty) ht ht1 he hni g2 g3' o2 (by omega) hb0 (by simpa using hb)
  simp only[Nat.zero_add,List.nil_append]at n1 n2 n3
  obtain⟨β',q1,q2⟩:=ze0 hdr hc (d:=d) (n:=m) (sz:=ei.size) (ds:=ds2) (pl0:=⟨some (w.heap.size,0),nc⟩) (w':=w.drew.alloc (.cells (us'++rest).toArray e (0,0)))
   (fun b o hb=>by cases hb;rfl) (fun b hb'=>zc3 w.drew _ hb') (by simp) (by omega) n1 (fun A' hA=>by
    have hst':Stb w.drew (Av cx r β) (w.drew.alloc (.cells (us'++rest).toArray e (0,0))) A':=⟨fun b hb' _=>zc3 w.drew _ hb',hA⟩
    simp only[RowM]
    refine⟨_,e,zfu w.drew _, ?_, ?_,fun k d' hk=> ?_⟩
    ·simp only[List.size_toArray,List.length_append,g1',hlen,n2,Nat.zero_add,←Nat.add_mul]
     exact Nat.mul_le_mul_right _ (by omega)
    ·rw[hlen]
     exact Nat.mul_le_mul_right _ n1
    ·obtain⟨u',f1,f2⟩:=g4' _ _ hk
     refine⟨u', ?_,f2.stb hst'⟩
     have hklt:k<us'.length:=(List.getElem?_eq_some_iff.1 f1).1
     simp only[Nat.zero_add,List.getElem?_toArray]
     rw[List.getElem?_append_left hklt]
     exact f1)
  exact⟨_,_,β',n3,q1,q2⟩
theorem zkq (hT:TOK cx.P T) {ts:Array TypeId} {ty t t1 e:Nat} {ei:TI} (ht:ts[0]? =some t) (ht1:ts[1]? =some t1) (he:elemSz T t=some (e,ei))
  (hni:(isSl T (some t1)||isStr T (some t1))=true) {hd:Hd} {lo n k m:Nat} {s u:Value} {x:AV} {ds2 ds1:List D} {res:Res} {rs:RS}
  (hs:ReC cx w r β (.gap hd lo n k) s) (hx:ReA cx w r β x u) (hsrc:srcOf r x=some (m,ds2)) (hlen:ds2.length=m*ei.size)
  (hg:getR r hd=some res) (hrs:findR hd.s r=some rs) (hds1:toDs (sub lo n res.sz res.cells)=some ds1) (hfz:res.fz=false) (hsz:res.sz=ei.size)
  (hcov:(lo+n)*res.sz≤res.cells.length) (hroom:lo+n+m≤k):
  ∃u' w' β',(Builtin.append_ ts ty #[s,u]).run cx.P w= .ok u' w'∧
   Holds cx ⟨v,setR hd.s ⟨rs.next+1,rs.l.set hd.j (some {res with e:=rs.next,sz:=ei.size,cells:=(ds1++ds2).map C.d})⟩ r⟩ a w' β'∧
   ReA cx w' (setR hd.s ⟨rs.next+1,rs.l.set hd.j (some {res with e:=rs.next,sz:=ei.size,cells:=(ds1++ds2).map C.d})⟩ r) β' (.one (.gap ⟨hd.s,hd.j,rs.next⟩ 0 (n+m) (k - lo))) u':=by
 obtain⟨hl,hee⟩:=zad hg
 have hj:=zb9 hl hrs
 have hjlt:hd.j<rs.l.length:=(List.getElem?_eq_some_iff.1 hj).1
 simp only[ReC]at hs
 obtain⟨_,hlt,hle,ad,rfl,hp⟩:=hs
 obtain⟨p1,pc,p5⟩:=hp res hg
 have hok:=h.rs _ _ _ hl
 obtain⟨ds0,k1,k2,k3⟩:=hok.1.row p1
 rw[k1,zdc,zbq]at hds1
 cases hds1
 have hds1len:((ds0.drop (lo*res.sz)).take (n*res.sz)).length=n*ei.size:=by
  rw[k1,List.length_map,Nat.add_mul]at hcov
  rw[List.length_take,List.length_drop,hsz]
  rw[hsz]at hcov
  omega
 obtain⟨us,g1,g2,g3,g4,g5⟩:=src_ok h hx hsrc hlen
 have fin:∀(w':World) (pl':Pl),
   (∀b o,pl'.base=some (b,o)→(∃o',(β hd.s hd.j).base=some (b,o'))∨w.heap.size≤b)→
   (∀b,b<w.heap.size→(∀o,(β hd.s hd.j).base≠some (b,o))→w'.heap[b]? =w.heap[b]?)→w.heap.size≤w'.heap.size→
   (w'.os=w.os∧w'.output=w.output)→(∀A',Stb w (Av cx r β) w' A'→RowM w' A' pl' ei.size ((ds0.drop (lo*res.sz)).take (n*res.sz)++ds2))→pl'.cap=k - lo→
   (k - lo=0∨∃b o,pl'.base=some (b,o)∧ad=some ⟨b,o,none⟩)→
   (Builtin.append_ ts ty #[.slice ad n (k - lo),u]).run cx.P w= .ok (.slice ad (n+m) (k - lo)) w'→
   ∃u' w' β',(Builtin.append_ ts ty #[.slice ad n (k - lo),u]).run cx.P w= .ok u' w'∧
    Holds cx ⟨v,setR hd.s ⟨rs.next+1,rs.l.set hd.j (some {res with e:=rs.next,sz:=ei.size,cells:=((ds0.drop (lo*res.sz)).take (n*res.sz)++ds2).map C.d})⟩ r⟩ a w' β'∧
    ReA cx w' (setR hd.s ⟨rs.next+1,rs.l.set hd.j (some {res with e:=rs.next,sz:=ei.size,cells:=((ds0.drop (lo*res.sz)).take (n*res.sz)++ds2).map C.d})⟩ r) β'
     (.one (.gap ⟨hd.s,hd.j,rs.next⟩ 0 (n+m) (k - lo))) u':=by
  intro w' pl' q1 q2 q3 hos q4 q5 q6 hrun
  obtain⟨β',m1,m2,m3,m4⟩:=h.upd (w':=w') (res':={res with e:=rs.next,sz:=ei.size,cells:=((ds0.drop (lo*res.sz)).take (n*res.sz)++ds2).map C.d}) (pl':=pl')
   (next':=rs.next+1) hrs hj (Nat.le_succ _) (Nat.lt_succ_self _) rfl (.inr (Nat.le_refl _)) (fun hf=>hf) q1 (fun b hb' hor=>by
    rcases hor with hor|hor
    ·exact q2 b hb' hor
    ·rw[hfz]at hor;cases hor) q3
   (fun β' e1 e2 e3=>zcM p1 rfl hfz (q4 _ e2.st)) hos
  refine⟨_,w',β',hrun,m1, ?_⟩
  simp only[ReA,ReC]
  refine⟨rfl,by rw[zaL,if_pos rfl];exact Nat.lt_succ_self _,by omega,ad,by simp,fun res2 hr=> ?_⟩
  have:=znQ hjlt hr
  subst this
  rw[m2]
  refine⟨p1,q5, ?_⟩
  rcases q6 with q6|⟨b,o,q6,q7⟩
  ·exact .inl (by omega)
  ·exact .inr ⟨b,o,q6,by simpa using q7⟩
 have hrun:=run_append_fits hT (ty:=ty) ht ht1 he hni (base:=ad) (n:=n) (cap:=k - lo) g2 g3 (by omega)
 by_cases hz:k - lo=0
 ·have hn0:n=0:=by omega
  have hm0:m=0:=by omega
  subst hn0;subst hm0
  have hus:us=[]:=List.eq_nil_of_length_eq_zero (by rw[g1,hlen];simp)
  have hds2:ds2=[]:=List.eq_nil_of_length_eq_zero (by rw[hlen];simp)
  subst hus;subst hds2
  refine fin w ⟨none,0⟩ (fun b o hb=>by cases hb) (fun _ _ _=>rfl) (Nat.le_refl _) ⟨rfl,rfl⟩ (fun A' _=>by simp[RowM]) hz.symm (.inl hz) ?_
  rw[hrun]
  cases ad<;>simp[storeCells]
 ·obtain⟨b,o,hbase,rfl⟩:=p5.resolve_left hz
  simp only[RowM,hbase]at k2
  obtain⟨cs,et,r1,r2,r3,r4⟩:=k2
  have hfit:o+lo*res.sz+n*ei.size+0+us.length≤cs.size:=by
   have h1:(lo+n+m)*res.sz≤(β hd.s hd.j).cap*res.sz:=Nat.mul_le_mul_right _ (by omega)
   rw[Nat.add_mul,Nat.add_mul]at h1
   rw[g1,hlen,←hsz]
   omega
  obtain⟨w',cs',t1,t2,t3,t4,t5,t6,t7⟩:=zbJ (P:=cx.P) us w (o+lo*res.sz+n*ei.size) 0 cs r1 hfit g5
  refine fin w' ⟨some (b,o+lo*res.sz),k - lo⟩ (fun b' o' hb'=>by cases hb';exact .inl ⟨o,hbase⟩)
   (fun b' hb' hne=>t6 b' (fun e=>hne o (e▸hbase))) (by omega) t7.2 (fun A' hst=> ?_) rfl (.inr ⟨b,_,rfl,rfl⟩) ?_
  ·simp only[RowM]
   refine⟨cs',et,t2, ?_, ?_,fun j d hj=> ?_⟩
   ·rw[t3,←hsz]
    have:lo*res.sz+(k - lo)*res.sz=(β hd.s hd.j).cap*res.sz:=by rw[←Nat.add_mul];congr 1;omega
    omega
   ·rw[List.length_append,hds1len,hlen,←Nat.add_mul]
    exact Nat.mul_le_mul_right _ (by omega)
   ·by_cases hk1:j<n*ei.size
    ·rw[List.getElem?_append_left (by rw[hds1len];exact hk1),List.getElem?_take_of_lt (by rw[hsz];exact hk1),List.getElem?_drop]at hj
     obtain⟨u',f1,f2⟩:=r4 _ _ hj
     refine⟨u', ?_,f2.stb hst⟩
     rw[t5 _ (.inl (by omega)),Nat.add_assoc]
     exact f1
    ·rw[List.getElem?_append_right (by rw[hds1len];omega),hds1len]at hj
     obtain⟨u',f1,f2⟩:=g4 _ _ hj
     have hklt:j - n*ei.size<us.length:=(List.getElem?_eq_some_iff.1 f1).1
     refine⟨u', ?_,f2.stb hst⟩
     have:=t4 _ hklt
     rw[f1]at this
     rw[←this]
     congr 1
     omega
  ·rw[hrun]
   simp only[zcu,t1,Result.andThen_ok]
theorem zqz (hT:TOK cx.P T) {hd:Hd} {lo n k:Nat} {s:Value} {ds1:List D} {res:Res} {sz:Nat}
  (hs:ReC cx w r β (.gap hd lo n k) s) (hg:getR r hd=some res) (hds1:toDs (sub lo n res.sz res.cells)=some ds1) (hsz:res.sz=sz) (hcov:(lo+n)*res.sz≤res.cells.length):
  ∃(ad:Option Addr) (old:List Value),s= .slice ad n (k - lo)∧ds1.length=n*sz∧old.length=ds1.length∧(Builtin.firstCells sz n (.slice ad n (k - lo))).run cx.P w.drew= .ok old.toArray w.drew∧
   (∀(j:Nat) (d:D),ds1[j]? =some d→∃u,old[j]? =some u∧Rd w.drew (Av cx r β) d u):=by
 simp only[ReC]at hs
 obtain⟨_,hlt,hle,ad,rfl,hp⟩:=hs
 obtain⟨p1,pc⟩:=hp res hg
 obtain⟨hl,_⟩:=zad hg
 obtain⟨ds0,k1,k2,k3⟩:=(h.rs _ _ _ hl).1.row p1
 rw[k1,zdc,zbq]at hds1
 cases hds1
 have hds1len:((ds0.drop (lo*res.sz)).take (n*res.sz)).length=n*sz:=by
  rw[k1,List.length_map,Nat.add_mul]at hcov
  rw[List.length_take,List.length_drop,hsz]
  rw[hsz]at hcov
  omega
 have hread:RdT w.drew (Av cx r β) (fun _=>True) ((ds0.drop (lo*res.sz)).take (n*res.sz)) ad:=
  (zko (Tp:=fun _=>True) hle pc k2 (fun _ _ _=>trivial)).stb (⟨fun _ _ _=>rfl,fun _ _ h=>h⟩:Stb w (Av cx r β) w.drew (Av cx r β)) (fun _ _ _=>⟨trivial,rfl⟩)
 obtain⟨old,o1,o2,o3,o4⟩:=zea (P:=cx.P) (n:=n) (cap:=k - lo) hread hds1len
 exact⟨ad,old,rfl,hds1len,o1,o2,o3⟩
omit hc in
theorem zha (hc:c=true) {d e n m sz nc:Nat} {ds1 ds2:List D} {old us rest:List Value} (hl1:ds1.length=n*sz) (hl2:ds2.length=m*sz) (ho:old.length=ds1.length) (hu:us.length=ds2.length)
  (hr:rest.length=(nc - (n+m))*sz) (hnc:n+m≤nc)
  (h1:∀(j:Nat) (d:D),ds1[j]? =some d→∃u,old[j]? =some u∧Rd w.drew (Av cx r β) d u) (h2:∀(j:Nat) (d:D),ds2[j]? =some d→∃u,us[j]? =some u∧Rd w.drew (Av cx r β) d u):
  ∃β',Holds cx ⟨v,setR d ⟨nxt r d+1,[none,some {e:=nxt r d,var:=false,fz:=false,sz:=sz,cells:=(ds1++ds2).map C.d}]⟩ r⟩ a (w.drew.alloc (.cells (old++us++rest).toArray e (0,0))) β'∧
   ReA cx (w.drew.alloc (.cells (old++us++rest).toArray e (0,0))) (setR d ⟨nxt r d+1,[none,some {e:=nxt r d,var:=false,fz:=false,sz:=sz,cells:=(ds1++ds2).map C.d}]⟩ r) β'
    (.one (.own ⟨d,1,nxt r d⟩ 0 (n+m))) (.slice (some ⟨w.heap.size,0,none⟩) (n+m) nc):=by
 obtain⟨β',q1,q2⟩:=ze0 h.drew hc (d:=d) (n:=n+m) (sz:=sz) (ds:=ds1++ds2) (pl0:=⟨some (w.heap.size,0),nc⟩) (w':=w.drew.alloc (.cells (old++us++rest).toArray e (0,0)))
  (fun b o hb=>by cases hb;rfl) (fun b hb'=>zc3 w.drew _ hb') (by simp) (by rw[List.length_append,hl1,hl2,←Nat.add_mul];exact Nat.le_refl _) hnc (fun A' hA=>by
   have hst':Stb w.drew (Av cx r β) (w.drew.alloc (.cells (old++us++rest).toArray e (0,0))) A':=⟨fun b hb' _=>zc3 w.drew _ hb',hA⟩
   simp only[RowM]
   refine⟨_,e,zfu w.drew _, ?_, ?_,fun j d' hj=> ?_⟩
   ·simp only[List.size_toArray,List.length_append,ho,hu,hl1,hl2,hr,Nat.zero_add,←Nat.add_mul]
    exact Nat.mul_le_mul_right _ (by omega)
   ·rw[List.length_append,hl1,hl2,←Nat.add_mul]
    exact Nat.mul_le_mul_right _ hnc
   ·simp only[Nat.zero_add,List.getElem?_toArray]
    by_cases hk1:j<ds1.length
    ·rw[List.getElem?_append_left hk1]at hj
     obtain⟨u',f1,f2⟩:=h1 _ _ hj
     exact⟨u',by rw[List.append_assoc,List.getElem?_append_left (by omega)];exact f1,f2.stb hst'⟩
    ·rw[List.getElem?_append_right (by omega)]at hj
     obtain⟨u',f1,f2⟩:=h2 _ _ hj
     have hlt:j - ds1.length<us.length:=(List.getElem?_eq_some_iff.1 f1).1
     exact⟨u',by rw[List.append_assoc,List.getElem?_append_right (by omega),ho,List.getElem?_append_left hlt];exact f1,f2.stb hst'⟩)
 exact⟨β',q1,q2⟩
omit h hc in
theorem zmT (hT:TOK cx.P T) {t:Nat} (h:isInt T t=true) (w:World):∃k,(underlying t).run cx.P w= .ok (.int k) w:=by
 unfold isInt at h
 split at h
 ·rename_i ti h1
  split at h
  ·rename_i k h2
   obtain⟨d,g1,g2,_⟩:=(hT t ti h1).1.run_under w
   rw[h2]at g2
   have hd:d= .int k:=by cases d<;>simp[zeB]at g2;rw[g2]
   exact⟨k,by rw[g1,hd]⟩
  ·cases h
 ·cases h
omit h hc in
theorem zsF {z:List Value} {sz n j:Nat} (hz:z.length=sz) {d:D} (hj:(ze1 z n)[j]? =some d):∃x,d= .v x∧z[j % sz]? =some x∧j<n*sz:=by
 induction n generalizing j with
 |zero=>simp[ze1]at hj
 |succ n ih=>
  have e:ze1 z (n+1)=z.map D.v++ze1 z n:=by simp[ze1,List.replicate_succ]
  rw[e]at hj
  by_cases hlt:j<sz
  ·rw[List.getElem?_append_left (by simpa[hz]using hlt),List.getElem?_map]at hj
   obtain⟨x,hx,rfl⟩:=Option.map_eq_some_iff.1 hj
   refine⟨x,rfl,by rw[Nat.mod_eq_of_lt hlt];exact hx, ?_⟩
   rw[Nat.add_mul];omega
  ·rw[List.getElem?_append_right (by simp[hz];omega)]at hj
   simp only[List.length_map,hz]at hj
   obtain⟨x,h1,h2,h3⟩:=ih hj
   have hsz:0<sz:=by
    rcases Nat.eq_zero_or_pos sz with h0|h0
    ·rw[h0]at h3;omega
    ·exact h0
   refine⟨x,h1, ?_,by rw[Nat.add_mul];omega⟩
   rw[←h2]
   congr 1
   conv=>lhs;rw[show j=j - sz+sz by omega]
   rw[Nat.add_mod_right]
omit h hc in
theorem zgg {z:Array Value} {sz n j:Nat} (hz:z.size=sz) (hj:j<n*sz):(Builtin.zeroCells z n)[j]? =z[j % sz]? :=by
 have hsz:0<sz:=by
  rcases Nat.eq_zero_or_pos sz with h0|h0
  ·rw[h0]at hj;omega
  ·exact h0
 have hm:j % sz<z.size:=by rw[hz];exact Nat.mod_lt _ hsz
 simp only[Builtin.zeroCells,Array.getElem?_map,hz]
 rw[Array.getElem?_range,if_pos hj]
 simp[getElem!_pos z (j % sz) hm,getElem?_pos z (j % sz) hm]
omit h hc in
theorem zeb {e:TypeId} {ei:TI} (hty:TyOK cx.P e ei) {z:Value} (hz:z.cells.toList=ei.zero) {n:Nat} {A:Nat→Prop}:
  (Builtin.zeroCells z.cells n).toList.length=n*ei.size∧(∀(j:Nat) (d:D),(ze1 ei.zero n)[j]? =some d→∃u,(Builtin.zeroCells z.cells n).toList[j]? =some u∧Rd w A d u)∧
   ∀u∈(Builtin.zeroCells z.cells n).toList,flat u=true:=by
 have hsz:z.cells.size=ei.size:=by rw[←Array.length_toList,hz,hty.len]
 have hl:(Builtin.zeroCells z.cells n).toList.length=n*ei.size:=by
  simp only[Builtin.zeroCells,Array.toList_map,List.length_map,Array.length_toList,Array.size_range,hsz]
 refine⟨hl,fun j d hj=> ?_,fun u hu=> ?_⟩
 ·obtain⟨x,rfl,h2,h3⟩:=zsF hty.len hj
  refine⟨x, ?_, ?_⟩
  ·rw[Array.getElem?_toList,zgg hsz h3,←Array.getElem?_toList,hz];exact h2
  ·simp only[Rd]
   exact⟨trivial,hty.flat x (List.mem_of_getElem? h2)⟩
 ·obtain⟨j,hj,rfl⟩:=List.getElem_of_mem hu
  rw[hl]at hj
  have:=zgg hsz hj
  rw[←Array.getElem?_toList,←Array.getElem?_toList,hz]at this
  rw[List.getElem?_eq_getElem (by rw[hl];exact hj)]at this
  exact hty.flat _ (List.mem_of_getElem? this.symm)
omit h hc in
theorem zhn (hT:TOK cx.P T) {ts:Array TypeId} {ty t t1 e:Nat} {ei:TI} (ht:ts[0]? =some t) (ht1:ts[1]? =some t1) (he:elemSz T t=some (e,ei))
  (hni:isInt T t1=true) {base:Option Addr} {n cap:Nat} {l:Int} {kk:IntKind} {old:List Value} (hl0:0≤l) (hl1:l<2^62) (hsz0:ei.size≠0)
  (ho:(Builtin.firstCells ei.size n (.slice base n cap)).run cx.P w.drew= .ok old.toArray w.drew) (hmore:cap<n+l.toNat) (hb0:ei.bytes≠0) (hb:(n+l.toNat)*ei.bytes≤2^47):
  ∃(nc:Nat) (us rest:List Value),n+l.toNat≤nc∧rest.length=(nc - (n+l.toNat))*ei.size∧us.length=l.toNat*ei.size∧
   (∀(j:Nat) (d:D),(ze1 ei.zero l.toNat)[j]? =some d→∃u,us[j]? =some u∧Rd w.drew (Av cx r β) d u)∧
   (Builtin.append_ ts ty #[.slice base n cap, .int kk l]).run cx.P w= .ok (.slice (some ⟨w.heap.size,0,none⟩) (n+l.toNat) nc) (w.drew.alloc (.cells (old++us++rest).toArray e (0,0))):=by
 obtain⟨e1,e2,hty,_⟩:=zbv hT he w
 obtain⟨i,e5,e6,_⟩:=hty.run_info w
 obtain⟨z,e7,e8⟩:=hty.run_zero w.drew
 obtain⟨k,e3⟩:=zmT hT hni w
 have e5':∀w,(typeInfo e).run cx.P w= .ok i w:=fun w'=>by
  obtain⟨⟨i',z',d',g1,_⟩,_,_⟩:=hty
  have:i'=i:=by
   have:=e5
   simp[typeInfo,g1]at this
   exact this
  subst this
  simp[typeInfo,g1]
 obtain⟨m,hm⟩:∃m:Nat,l=m:=⟨l.toNat,by omega⟩
 subst hm
 simp only[Int.toNat_natCast]at*
 let nc:=(Question.appendCap (n+m) cap e).cut (w.tape w.drawn (.appendCap (n+m) cap e))
 have hnc:n+m≤nc:=by simp only[nc,Question.cut];omega
 have hmul:n+m≤(n+m)*ei.bytes:=Nat.le_mul_of_pos_right _ (by omega)
 have h63:¬(9223372036854775807<((n:Int)+(m:Int))):=by
  have:n+m≤140737488355328:=Nat.le_trans hmul hb
  omega
 have hfit:¬(281474976710656<Builtin.nextslicecap (n+m) cap*i.bytes):=by
  rw[e6]
  have:=growslice_fits hmore hb
  omega
 have hn:¬(n+m≤cap):=by omega
 have hw:IntKind.i64.wrap (m:Int)=m:=by
  rw[IntKind.wrap_i64];omega
 have hbig:¬((281474976710656:Int)<(m:Int)*(i.bytes:Int)):=by
  rw[e6]
  have h1:m*ei.bytes≤(n+m)*ei.bytes:=Nat.mul_le_mul_right _ (by omega)
  have h2:((m*ei.bytes:Nat):Int)≤140737488355328:=by
   have:=Nat.le_trans h1 hb
   omega
  rw[Int.natCast_mul]at h2
  omega
 obtain⟨z1,z2,_⟩:=zeb (w:=w.drew) (A:=Av cx r β) hty e8 (n:=m)
 refine⟨nc,(Builtin.zeroCells z.cells m).toList,(Builtin.zeroCells z.cells (nc - (n+m))).toList,hnc,(zeb (w:=w) (A:=Av cx r β) hty e8).1,z1,z2, ?_⟩
 have hz0:m*ei.size=0→Builtin.zeroCells z.cells m= #[]:=fun h0=>by
  apply Array.ext'
  exact List.eq_nil_of_length_eq_zero (by rw[z1,h0])
 have hneg:¬((m:Int)<0):=by omega
 by_cases hm':m=0
 ·subst hm'
  have h0:=hz0 (Nat.zero_mul _)
  have hw0:IntKind.i64.wrap 0=0:=by decide
  have hn':¬(n≤cap):=by omega
  simp only[Nat.add_zero,Int.natCast_zero,Int.add_zero]at hn h63 hfit
  simp[Builtin.append_,ht,ht1,e1,e2,e3,asInt,asIntOf,hw0,hn',e5',h63,hfit,Question.forced,ho,e7,newRow,nc,h0]
  congr 2
  apply Array.ext'
  simp
 ·have hz1:m*ei.size≠0:=Nat.mul_ne_zero hm' hsz0
  simp[Builtin.append_,ht,ht1,e1,e2,e3,asInt,asIntOf,hw,hn,hneg,hz1,e5',h63,hfit,hbig,Question.forced,ho,e7,newRow,nc,hm',hsz0]
  congr 2
  apply Array.ext'
  simp
theorem zqA (hT:TOK cx.P T) {ts:Array TypeId} {as:Array Operand} (ho:o.op= .call ⟨.builtin .append,as,ts⟩) (hs:(aop T c v r o.dst o.op).sc):
  Does cx v a w (execOp a.eval o) (aop T c v r o.dst o.op).x (aop T c v r o.dst o.op).r:=by
 simp only[ho,aop]at hs⊢
 split at hs
 ·rename_i s x h0
  try simp only[h0]
  simp only[Out.with]at hs⊢
  obtain⟨⟨s1,s2⟩,hs⟩:=hs
  have e1:=zbl h hc s1
  have e2:=zbl h hc s2
  have hmap:as.map a.eval= #[a.eval s,a.eval x]:=by
   have:as= #[s,x]:=by rw[←Array.toArray_toList (xs:=as),h0]
   rw[this];simp
  have hrun:∀{u' w'},(Builtin.append_ ts o.type #[a.eval s,a.eval x]).run cx.P w= .ok u' w'→(execOp a.eval o).run cx.P w= .ok (.value u') w':=by
   intro u' w' hr
   simp[execOp,ho,resolve,hmap,invoke,builtin,hr]
  unfold appA at hs⊢
  split at hs
  ·rename_i e ei m ds2 hd lo n h1 h2 h3 h4
   split at hs
   ·rename_i res rs g1 g2
    split at hs
    ·rename_i ds1 g3
     simp only[g1,g2,g3]
     obtain⟨q1,q2,q3,q4,q5,q6⟩:=hs
     rw[h4]at e1
     obtain⟨t,ht,he⟩:=Option.bind_eq_some_iff.1 h1
     cases ht1:ts[1]? with
     |none=>rw[ht1]at h2;simp[isSl,isStr]at h2
     |some t1=>
      rw[ht1]at h2
      obtain⟨u',w',β',m1,m2,m3⟩:=zoJ h hc hT (ty:=o.type) ht ht1 he h2 (zaN.1 e1) e2 h3 q3 g1 g2 g3 q2 q4 q5 (q6 hc)
      exact⟨_,w',β',u',hrun m1, .inl rfl,m2,m3⟩
    ·exact hs.elim
   ·exact hs.elim
  ·rename_i e ei m ds2 h1 h2 h3 h4
   split at hs
   ·rename_i d hd
    simp only[hd]
    obtain⟨q1,q2,q3,q4⟩:=hs
    rw[h4]at e1
    obtain⟨t,ht,he⟩:=Option.bind_eq_some_iff.1 h1
    cases ht1:ts[1]? with
    |none=>rw[ht1]at h2;simp[isSl,isStr]at h2
    |some t1=>
     rw[ht1]at h2
     have e3:=(zas.1 e1).1
     obtain⟨u',w',β',m1,m2,m3⟩:=append_nil h hc hT (ty:=o.type) (d:=d) ht ht1 he h2 e2 h3 q3 q2 (q4 hc)
     rw[←e3]at m1
     exact⟨_,w',β',u',hrun m1, .inl rfl,m2,m3⟩
   ·exact hs.elim
  ·rename_i e ei m ds2 hd lo n k h1 h2 h3 h4
   obtain⟨t,ht,he⟩:=Option.bind_eq_some_iff.1 h1
   cases ht1:ts[1]? with
   |none=>rw[ht1]at h2;simp[isSl,isStr]at h2
   |some t1=>
    rw[ht1]at h2
    rw[h4]at e1
    unfold appG at hs⊢
    split at hs
    ·rename_i res rs g1 g2
     split at hs
     ·rename_i ds1 g3
      try simp only[g1,g2,g3]
      split at hs
      ·rename_i hfit
       try rw[if_pos hfit]
       obtain⟨q1,q2,q3,q4,q5⟩:=hs
       obtain⟨u',w',β',m1,m2,m3⟩:=zkq h hc hT (ty:=o.type) ht ht1 he h2 (zaN.1 e1) e2 h3 q2 g1 g2 g3 q3 q4 q5 hfit
       exact⟨_,w',β',u',hrun m1, .inl rfl,m2,m3⟩
      ·rename_i hfit
       try rw[if_neg hfit]
       split at hs
       ·rename_i d hd
        try simp only[hd]
        obtain⟨q1,q2,q3,q4,q5,q6⟩:=hs
        obtain⟨ad,old,f1,f2,f3,f4,f5⟩:=zqz h hc hT (zaN.1 e1) g1 g3 q4 q5
        obtain⟨us,k1,k2,k3,k4,k5⟩:=src_ok h e2 h3 q3
        have x0:Ext cx w r β w.drew r β:=⟨fun _=>Nat.le_refl _,fun hd res' _ hg=>⟨res',hg,rfl,rfl,rfl,Nat.le_refl _⟩,⟨fun _ _ _=>rfl,fun _ _ h=>h⟩,fun _ _ _=>rfl,rfl,rfl⟩
        obtain⟨us',k1',k2',k3',k4',k5'⟩:=src_ok h.drew (e2.ext x0) h3 q3
        have hle:lo+n≤k:=by
         have:=zaN.1 e1
         simp only[ReC]at this
         exact this.2.2.1
        obtain⟨nc,rest,n1,n2,n3⟩:=zdF hT (ty:=o.type) ht ht1 he h2 k2 k3' f4 (by omega) q2 (q6 hc)
        rw[←f1]at n3
        obtain⟨β',m1,m2⟩:=zha h hc (d:=d) (e:=e) f2 q3 f3 k1' n2 n1 f5 k4'
        exact⟨_,_,β',_,hrun n3, .inl rfl,m1,m2⟩
       ·exact hs.elim
     ·exact hs.elim
    ·exact hs.elim
  ·unfold appZ at hs⊢
   split at hs
   ·rename_i e ei kk l hd lo n k h1 h2 h3 h4
    obtain⟨t,ht,he⟩:=Option.bind_eq_some_iff.1 h1
    cases ht1:ts[1]? with
    |none=>rw[ht1]at h2;cases h2
    |some t1=>
     rw[ht1]at h2
     rw[h4]at e1
     rw[h3]at e2
     split at hs
     ·rename_i res d g1 hd
      split at hs
      ·rename_i ds1 g3
       try simp only[g1,hd,g3]
       obtain⟨q1,q2,q3,q4,q5⟩:=hs
       obtain⟨q5,q6,q7,q8⟩:=q5 hc
       obtain⟨ad,old,f1,f2,f3,f4,f5⟩:=zqz h hc hT (zaN.1 e1) g1 g3 q3 q4
       have hle:lo+n≤k:=by
        have:=zaN.1 e1
        simp only[ReC]at this
        exact this.2.2.1
       obtain⟨nc,us,rest,n1,n2,n4,n5,n3⟩:=zhn (r:=r) (β:=β) hT (ty:=o.type) (kk:=kk) ht ht1 he h2 q5 q6 q1 f4 (by omega) q2 q8
       rw[←f1,←(zas.1 e2).1]at n3
       have hzl:(ze1 ei.zero l.toNat).length=l.toNat*ei.size:=by
        obtain⟨_,_,hty,_⟩:=zbv hT he w
        rw[zgh,hty.len]
       obtain⟨β',m1,m2⟩:=zha h hc (d:=d) (e:=e) f2 hzl f3 (by rw[n4,hzl]) n2 n1 f5 n5
       exact⟨_,_,β',_,hrun n3, .inl rfl,m1,m2⟩
      ·exact hs.elim
     ·exact hs.elim
   ·exact hs.elim
 ·exact hs.elim
end
section
variable {cx:Cx} {v:List AV} {r:Rs} {a:Act} {w:World} {β:Nat→Nat→Pl} {T:Nat→Option TI} {c:Bool}
theorem zu3 {pl:Pl} {res:Res} (e:Nat) (h:ResOK cx w r β pl res):ResOK cx w r β pl {res with e:=e}:=by
 unfold ResOK at*
 exact h
theorem Holds.ghost (h:Holds cx ⟨v,r⟩ a w β) {r':Rs} {β':Nat→Nat→Pl} (nx:∀s,nxt r s≤nxt r' s)
  (org:∀s j res',lookR r' s j=some res'→res'.e<nxt r' s∧∃s0 j0 res,lookR r s0 j0=some res∧β' s j=β s0 j0∧res'={res with e:=res'.e})
  (one:∀s j res1 s' j' res2 s0 j0,lookR r' s j=some res1→lookR r' s' j'=some res2→β' s j=β s0 j0→β' s' j'=β s0 j0→(∃res,lookR r s0 j0=some res)→
   ((β s0 j0).base=none∨(s=s'∧j=j')∨res1.fz=true∨res2.fz=true))
  (old:∀(hd:Hd) (res':Res),hd.e<nxt r hd.s→getR r' hd=some res'→getR r hd=some res'∧β' hd.s hd.j=β hd.s hd.j):
  Holds cx ⟨v,r'⟩ a w β'∧Ext cx w r β w r' β':=by
 have x:Ext cx w r β w r' β':=by
  refine⟨nx,fun hd res' hlt hg=> ?_,⟨fun _ _ _=>rfl,fun b _ hA=> ?_⟩,fun _ _ _=>rfl,rfl,rfl⟩
  ·obtain⟨h1,h2⟩:=old hd res' hlt hg
   exact⟨res',h1,h2,rfl,rfl,Nat.le_refl _⟩
  ·rcases hA with hA|⟨s,j,res',o,hl,hf,hb⟩
   ·exact .inl hA
   ·obtain⟨_,s0,j0,res,g1,g2,g3⟩:=org s j res' hl
    exact .inr ⟨s0,j0,res,o,g1,by rw[g3]at hf;exact hf,by rw[←g2];exact hb⟩
 refine⟨h.mk' x (fun s j res' hl=> ?_) (fun s j res1 s' j' res2 b o o' hl hf hl' hf' hb hb'=> ?_) (fun s j res' b o hl hf hb=> ?_) (Nat.le_refl _),x⟩
 ·obtain⟨g0,s0,j0,res,g1,g2,g3⟩:=org s j res' hl
  obtain⟨g4,_⟩:=h.rs _ _ _ g1
  rw[g2,g3]
  exact⟨zu3 _ (g4.ext x (fun _ _ _=>rfl) (fun b o hb=>g4.lt hb)),by rw[g3]at g0;exact g0⟩
 ·obtain⟨_,s0,j0,q1,g1,g2,g3⟩:=org s j res1 hl
  obtain⟨_,s1,j1,q2,k1,k2,k3⟩:=org s' j' res2 hl'
  rw[g2]at hb
  rw[k2]at hb'
  obtain⟨e1,e2⟩:=h.inj _ _ _ _ _ _ _ _ _ g1 (by rw[g3]at hf;exact hf) k1 (by rw[k3]at hf';exact hf') hb hb'
  subst e1;subst e2
  rcases one _ _ _ _ _ _ _ _ hl hl' g2 k2 ⟨_,g1⟩with p|p|p|p
  ·rw[p]at hb;cases hb
  ·exact p
  ·rw[hf]at p;cases p
  ·rw[hf']at p;cases p
 ·obtain⟨_,s0,j0,res,g1,g2,g3⟩:=org s j res' hl
  rw[g2]at hb
  have:=h.fr _ _ _ _ _ g1 (by rw[g3]at hf;exact hf) hb
  rw[g3]
  exact this
theorem zec {r r':Rs} (h:∀s,findR s r=findR s r') (s j:Nat):lookR r s j=lookR r' s j:=by unfold lookR;rw[h s]
theorem znR {r r':Rs} (h:∀s,findR s r=findR s r') (s:Nat):nxt r s=nxt r' s:=by unfold nxt;rw[h s]
theorem zqB {r r':Rs} (h:∀s,findR s r=findR s r') (hd:Hd):getR r hd=getR r' hd:=by unfold getR;rw[zec h]
theorem zkr {r':Rs} (hf:∀s,findR s r=findR s r'):Ext cx w r β w r' β:=by
 refine⟨fun s=>by rw[znR hf];exact Nat.le_refl _,fun hd res' hlt hg=>⟨res',by rw[zqB hf];exact hg,rfl,rfl,rfl,Nat.le_refl _⟩,⟨fun _ _ _=>rfl,fun b _ hA=> ?_⟩,fun _ _ _=>rfl,rfl,rfl⟩
 rcases hA with hA|⟨s,j,res',o,hl,hf',hb⟩
 ·exact .inl hA
 ·exact .inr ⟨s,j,res',o,by rw[zec hf];exact hl,hf',hb⟩
theorem Holds.congr (h:Holds cx ⟨v,r⟩ a w β) {r':Rs} (hf:∀s,findR s r=findR s r'):Holds cx ⟨v,r'⟩ a w β:=by
 have x:Ext cx w r β w r' β:=zkr hf
 refine h.mk' x (fun s j res hl=> ?_) (fun s j res s' j' res' b o o' hl hq hl' hq'=> ?_) (fun s j res b o hl=> ?_) (Nat.le_refl _)
 ·rw[←zec hf]at hl
  obtain⟨g1,g2⟩:=h.rs s j res hl
  exact⟨g1.ext x (fun _ _ _=>rfl) (fun b o hb=>g1.lt hb),by rw[←znR hf];exact g2⟩
 ·rw[←zec hf]at hl hl'
  exact h.inj _ _ _ _ _ _ _ _ _ hl hq hl' hq'
 ·rw[←zec hf]at hl
  exact h.fr _ _ _ _ _ hl
theorem Holds.drop (h:Holds cx ⟨v,r⟩ a w β) {d:Nat} {L:List (Option Res)} (hL:∀j res,L[j]? =some (some res)→lookR r d j=some res) (next':Nat) (hn:nxt r d≤next'):
  Holds cx ⟨v,setR d ⟨next',L⟩ r⟩ a w β∧Ext cx w r β w (setR d ⟨next',L⟩ r) β:=by
 have hl:∀s j res,lookR (setR d ⟨next',L⟩ r) s j=some res→lookR r s j=some res:=fun s j res hq=>by
  rw[zax]at hq
  split at hq
  ·rename_i e
   subst e
   simp only at hq
   split at hq
   ·rename_i q hq2;cases hq;exact hL _ _ hq2
   ·cases hq
  ·exact hq
 have hnx:∀s,nxt r s≤nxt (setR d ⟨next',L⟩ r) s:=fun s=>by
  rw[zaL]
  split
  ·rename_i e;subst e;exact hn
  ·exact Nat.le_refl _
 refine h.ghost hnx (fun s j res' hq=>⟨Nat.lt_of_lt_of_le (h.rs _ _ _ (hl _ _ _ hq)).2 (hnx s),s,j,res',hl _ _ _ hq,rfl,rfl⟩) (fun s j res1 s' j' res2 s0 j0 h1 h2 e1 e2 he=> ?_)
  (fun hd res' hlt hg=> ?_)
 ·cases hb:(β s0 j0).base with
  |none=>exact .inl rfl
  |some p=>
   by_cases f1:res1.fz=true
   ·exact .inr (.inr (.inl f1))
   ·by_cases f2:res2.fz=true
    ·exact .inr (.inr (.inr f2))
    ·exact .inr (.inl (h.inj s j res1 s' j' res2 p.1 p.2 p.2 (hl _ _ _ h1) (by simpa using f1) (hl _ _ _ h2) (by simpa using f2) (by rw[e1,hb]) (by rw[e2,hb])))
 ·obtain⟨g1,g2⟩:=zad hg
  exact⟨zao (hl _ _ _ g1) g2,rfl⟩
theorem Holds.move (h:Holds cx ⟨v,r⟩ a w β) {d j:Nat} {hd:Hd} {res:Res} {rs rd:RS} (hg:getR r hd=some res) (hfz:res.fz=false) (hne:hd.s≠d)
  (hrs:findR hd.s r=some rs) (hrd:findR d r=some rd) (hj:rd.l[j]? =some none):
  ∃β',Holds cx ⟨v,setR d ⟨rd.next+1,rd.l.set j (some {res with e:=rd.next})⟩ (setR hd.s ⟨rs.next,rs.l.set hd.j none⟩ r)⟩ a w β'∧
   Ext cx w r β w (setR d ⟨rd.next+1,rd.l.set j (some {res with e:=rd.next})⟩ (setR hd.s ⟨rs.next,rs.l.set hd.j none⟩ r)) β'∧
   (∀lo n u,ReC cx w r β (.own hd lo n) u→
    ReC cx w (setR d ⟨rd.next+1,rd.l.set j (some {res with e:=rd.next})⟩ (setR hd.s ⟨rs.next,rs.l.set hd.j none⟩ r)) β' (.own ⟨d,j,rd.next⟩ lo n) u):=by
 obtain⟨hlk,hee⟩:=zad hg
 have hjlt:j<rd.l.length:=(List.getElem?_eq_some_iff.1 hj).1
 have hhj:=zb9 hlk hrs
 have hnd:nxt r d=rd.next:=by unfold nxt;simp only[hrd]
 have hns:nxt r hd.s=rs.next:=by unfold nxt;simp only[hrs]
 let r':=setR d ⟨rd.next+1,rd.l.set j (some {res with e:=rd.next})⟩ (setR hd.s ⟨rs.next,rs.l.set hd.j none⟩ r)
 let β':Nat→Nat→Pl:=fun s k=>if s=d∧k=j then β hd.s hd.j else β s k
 have hβ0:β' d j=β hd.s hd.j:=by simp[β']
 have hβ1:∀s k,¬(s=d∧k=j)→β' s k=β s k:=fun s k hn=>by simp only[β',if_neg hn]
 have hnew:lookR r' d j=some {res with e:=rd.next}:=by
  show lookR (setR d _ _) d j=_
  rw[zax,if_pos rfl];simp[hjlt]
 have hold:∀s k q,¬(s=d∧k=j)→lookR r' s k=some q→lookR r s k=some q∧¬(s=hd.s∧k=hd.j):=fun s k q hn hq=>by
  have hq:lookR (setR d ⟨rd.next+1,rd.l.set j (some {res with e:=rd.next})⟩ (setR hd.s ⟨rs.next,rs.l.set hd.j none⟩ r)) s k=some q:=hq
  rw[zax]at hq
  by_cases hs:d=s
  ·subst hs
   rw[if_pos rfl]at hq
   have hk:j≠k:=fun e=>hn ⟨rfl,e.symm⟩
   simp only[List.getElem?_set_ne hk]at hq
   refine⟨?_,fun e=>hne e.1.symm⟩
   unfold lookR
   simp only[hrd]
   exact hq
  ·rw[if_neg hs,zax]at hq
   by_cases hs2:hd.s=s
   ·subst hs2
    rw[if_pos rfl]at hq
    by_cases hk:hd.j=k
    ·subst hk
     rw[List.getElem?_set_self (List.getElem?_eq_some_iff.1 hhj).1]at hq
     cases hq
    ·simp only[List.getElem?_set_ne hk]at hq
     refine⟨?_,fun e=>hk e.2.symm⟩
     unfold lookR
     simp only[hrs]
     exact hq
   ·rw[if_neg hs2]at hq
    exact⟨hq,fun e=>hs2 e.1.symm⟩
 have hnx:∀s,nxt r s≤nxt r' s:=fun s=>by
  show _≤nxt (setR d _ _) s
  rw[zaL]
  split
  ·rename_i e;subst e;rw[hnd];exact Nat.le_succ _
  ·rw[zaL]
   split
   ·rename_i e;subst e;rw[hns];exact Nat.le_refl _
   ·exact Nat.le_refl _
 have hh:Holds cx ⟨v,r'⟩ a w β'∧Ext cx w r β w r' β':=by
  refine h.ghost (r':=r') (β':=β') hnx (fun s k q hq=> ?_) (fun s k q1 s' k' q2 s0 j0 h1 h2 e1 e2 he=> ?_) (fun hd' q hlt hq=> ?_)
  ·by_cases hn:s=d∧k=j
   ·obtain⟨rfl,rfl⟩:=hn
    rw[hnew]at hq
    cases hq
    refine⟨?_,hd.s,hd.j,res,hlk,hβ0,rfl⟩
    show rd.next<nxt (setR s _ _) s
    rw[zaL,if_pos rfl]
    exact Nat.lt_succ_self _
   ·obtain⟨g1,_⟩:=hold _ _ _ hn hq
    exact⟨Nat.lt_of_lt_of_le (h.rs _ _ _ g1).2 (hnx s),s,k,q,g1,hβ1 _ _ hn,rfl⟩
  ·cases hb:(β s0 j0).base with
   |none=>exact .inl rfl
   |some p=>
    by_cases f1:q1.fz=true
    ·exact .inr (.inr (.inl f1))
    ·by_cases f2:q2.fz=true
     ·exact .inr (.inr (.inr f2))
     ·refine .inr (.inl ?_)
      by_cases hn:s=d∧k=j<;>by_cases hn':s'=d∧k'=j
      ·exact⟨by rw[hn.1,hn'.1],by rw[hn.2,hn'.2]⟩
      ·obtain⟨g1,g2⟩:=hold _ _ _ hn' h2
       rw[hn.1,hn.2,hβ0]at e1
       rw[hβ1 _ _ hn']at e2
       exact absurd (h.inj s' k' q2 hd.s hd.j res p.1 p.2 p.2 g1 (by simpa using f2) hlk hfz (by rw[e2,hb]) (by rw[e1,hb])) g2
      ·obtain⟨g1,g2⟩:=hold _ _ _ hn h1
       rw[hn'.1,hn'.2,hβ0]at e2
       rw[hβ1 _ _ hn]at e1
       exact absurd (h.inj s k q1 hd.s hd.j res p.1 p.2 p.2 g1 (by simpa using f1) hlk hfz (by rw[e1,hb]) (by rw[e2,hb])) g2
      ·obtain⟨g1,_⟩:=hold _ _ _ hn h1
       obtain⟨g2,_⟩:=hold _ _ _ hn' h2
       rw[hβ1 _ _ hn]at e1
       rw[hβ1 _ _ hn']at e2
       exact h.inj s k q1 s' k' q2 p.1 p.2 p.2 g1 (by simpa using f1) g2 (by simpa using f2) (by rw[e1,hb]) (by rw[e2,hb])
  ·obtain⟨g1,g2⟩:=zad hq
   by_cases hn:hd'.s=d∧hd'.j=j
   ·rw[hn.1,hn.2,hnew]at g1
    cases g1
    rw[hn.1,hnd]at hlt
    simp only at g2
    omega
   ·obtain⟨g3,_⟩:=hold _ _ _ hn g1
    exact⟨zao g3 g2,hβ1 _ _ hn⟩
 obtain⟨m1,m2⟩:=hh
 refine⟨β',m1,m2,fun lo n u hu=> ?_⟩
 simp only[ReC]at hu⊢
 refine⟨hu.1, ?_,fun res2 hr=> ?_⟩
 ·show rd.next<nxt (setR d _ _) d
  rw[zaL,if_pos rfl]
  exact Nat.lt_succ_self _
 ·obtain⟨g1,g2⟩:=zad hr
  rw[hnew]at g1
  cases g1
  rw[hβ0]
  exact(hu.2.2 res hg).same rfl rfl (Nat.le_refl _)
end
section
variable {cx:Cx} {v:List AV} {r:Rs} {a:Act} {w:World} {β:Nat→Nat→Pl} {T:Nat→Option TI} {c:Bool}
theorem znS:∀{l:List C} {us:List Value} {k:Nat} {x:C} {u:Value},ReCs cx w r β l us→us[k]? =some u→ReC cx w r β x u→ReCs cx w r β (l.set k x) us
 |[],us,k,x,u,h,hk,_=>by simp only[ReCs]at h;simp[h]at hk
 |y::l,us,0,x,u,h,hk,hx=>by
  simp only[ReCs,List.set_cons_zero]at h⊢
  obtain⟨u',us',rfl,h1,h2⟩:=h
  simp only[List.getElem?_cons_zero,Option.some.injEq]at hk
  subst hk
  exact⟨u',us',rfl,hx,h2⟩
 |y::l,us,k+1,x,u,h,hk,hx=>by
  simp only[ReCs,List.set_cons_succ]at h⊢
  obtain⟨u',us',rfl,h1,h2⟩:=h
  exact⟨u',us',rfl,h1,znS h2 (by simpa using hk) hx⟩
theorem Holds.recell (h:Holds cx ⟨v,r⟩ a w β) {d k b e:Nat} {V:Res} {rd:RS} {cs:Array Value} {x:C} {u:Value} {next':Nat} (hrd:findR d r=some rd)
  (h0:rd.l[0]? =some (some V)) (hv:V.var=true) (hb:(β d 0).base=some (b,0)) (hcs:w.heap[b]? =some (.cells cs e (0,0))) (hu:cs[k]? =some u)
  (hx:ReC cx w r β x u) (hn:rd.next≤next'):
  ∃β',Holds cx ⟨v,setR d ⟨next',rd.l.set 0 (some {V with cells:=V.cells.set k x})⟩ r⟩ a w β'∧β' d 0=β d 0∧
   Ext cx w r β w (setR d ⟨next',rd.l.set 0 (some {V with cells:=V.cells.set k x})⟩ r) β':=by
 have hlk:lookR r d 0=some V:=by unfold lookR;simp only[hrd,h0]
 have hok:=h.rs _ _ _ hlk
 have hnd:nxt r d=rd.next:=by unfold nxt;simp only[hrd]
 obtain⟨β',q1,q2,_,q4⟩:=h.upd (w':=w) (res':={V with cells:=V.cells.set k x}) (pl':=β d 0) (next':=next') hrd h0 hn
  (by have:=hok.2;rw[hnd]at this;exact Nat.lt_of_lt_of_le this hn) rfl (.inl ⟨rfl,rfl,rfl,rfl,by simp⟩) (fun hf=>hf) (fun b' o' hb'=> .inl ⟨o',hb'⟩) (fun _ _ _=>rfl) (Nat.le_refl _)
  (fun β' e1 e2 e3=>by
   have hok2:=hok.1.ext e2 (fun _ _ _=>rfl) (fun b o hb=>hok.1.lt hb)
   unfold ResOK at hok2⊢
   rw[if_pos hv]at hok2
   rw[if_pos (by exact hv)]
   obtain⟨p0,b',cs',e',p1,p2,p3,p4⟩:=hok2
   rw[hb]at p1
   cases p1
   rw[hcs]at p2
   cases p2
   exact⟨p0,b,cs,e,hb,hcs,znS p3 (by simpa using hu) (hx.ext e2),p4⟩)
 exact⟨β',q1,q2,q4⟩
theorem zgN {α:Type}:∀(xs:List α) (i j:Nat) (l:List α) (y:α),j<i→fillAt i xs (l.set j y)=(fillAt i xs l).set j y
 |[],_,_,_,_,_=>rfl
 |x::xs,i,j,l,y,h=>by
  simp only[fillAt]
  rw[List.set_comm _ _ (by omega),zgN xs (i+1) j _ y (by omega)]
theorem zks {α:Type} {l:List α} {i:Nat} {x:α} (h:l[i]? =some x):l.set i x=l:=by
 apply List.ext_getElem?
 intro j
 rw[List.getElem?_set]
 split
 ·rename_i e;subst e
  split
  ·exact h.symm
  ·rename_i hlt;rw[List.getElem?_eq_none (by omega)]at h;cases h
 ·rfl
theorem za6 {d s:Nat} {y:RS} (h:s≠d):findR s (setR d y r)=findR s r:=by rw[zak,if_neg (Ne.symm h)]
theorem zbS {d:Nat} {y:RS}:findR d (setR d y r)=some y:=by rw[zak,if_pos rfl]
theorem zjB {r r':Rs} {d:Nat} (h:∀s,s≠d→findR s r=findR s r') {hd:Hd} (hs:hd.s≠d):getR r hd=getR r' hd:=by
 unfold getR lookR
 rw[h _ hs]
theorem zkt {d:Nat}:∀(cs:List C) (k E:Nat) (r R:Rs) (β:Nat→Nat→Pl) (L:List (Option Res)) (V:Res),Holds cx ⟨v,R⟩ a w β→
  (∀s,s≠d→findR s R=findR s r)→findR d R=some ⟨E,L⟩→L[0]? =some (some V)→V.var=true→
  (∀i x,cs[i]? =some x→V.cells[k+i]? =some x∧L[k+1+i]? =some none)→
  ∃β' R',Holds cx ⟨v,R'⟩ a w β'∧Ext cx w R β w R' β'∧β' d 0=β d 0∧(∀s,s≠d→findR s R'=findR s (homeCs d E k cs r).2.2)∧
   findR d R'=some ⟨E+cs.length,fillAt (k+1) (homeCs d E k cs r).2.1 (L.set 0 (some {V with cells:=fillAt k (homeCs d E k cs r).1 V.cells}))⟩
 |[],k,E,r,R,β,L,V,h,h1,h2,h3,_,_=>by
  refine⟨β,R,h,zkr (fun _=>rfl),rfl,h1, ?_⟩
  simp only[homeCs,fillAt,List.length_nil,Nat.add_zero]
  rw[zks h3]
  exact h2
 |x::cs,k,E,r,R,β,L,V,h,h1,h2,h3,hv,h4=>by
  have hlk:lookR R d 0=some V:=by unfold lookR;simp only[h2,h3]
  have hnd:nxt R d=E:=by unfold nxt;simp only[h2]
  obtain⟨hok,hVe⟩:=h.rs _ _ _ hlk
  have hok0:=hok
  unfold ResOK at hok0
  rw[if_pos hv]at hok0
  obtain⟨p0,b,arr,e,p1,p2,p3,p4⟩:=hok0
  obtain⟨hxk,hLk⟩:=h4 0 x (by simp)
  simp only[Nat.add_zero]at hxk hLk
  obtain⟨u,hu1,hu2⟩:=zbz p3 hxk
  have hu3:arr[k]? =some u:=by simpa using hu1
  have hklt:k<V.cells.length:=(List.getElem?_eq_some_iff.1 hxk).1
  -- one step:what the cell becomes,and the rows behind
  have step:∃(β1:Nat→Nat→Pl) (R1:Rs),Holds cx ⟨v,R1⟩ a w β1∧Ext cx w R β w R1 β1∧β1 d 0=β d 0∧(∀s,s≠d→findR s R1=findR s (home1 d E k x r).2.2)∧
    findR d R1=some ⟨E+1,(L.set (k+1) (home1 d E k x r).2.1).set 0 (some {V with cells:=V.cells.set k (home1 d E k x r).1})⟩:=by
   have keep:∀(x':C),ReC cx w R β x' u→∃(β1:Nat→Nat→Pl) (R1:Rs),Holds cx ⟨v,R1⟩ a w β1∧Ext cx w R β w R1 β1∧β1 d 0=β d 0∧(∀s,s≠d→findR s R1=findR s r)∧
     findR d R1=some ⟨E+1,(L.set (k+1) none).set 0 (some {V with cells:=V.cells.set k x'})⟩:=fun x' hx'=>by
    obtain⟨β1,q1,q2,q3⟩:=h.recell (next':=E+1) h2 h3 hv p1 p2 hu3 hx' (Nat.le_succ E)
    refine⟨β1,_,q1,q3,q2,fun s hs=>by rw[za6 hs];exact h1 s hs, ?_⟩
    rw[zbS,zks hLk]
   cases x with
   |own hd lo n=>
    simp only[home1]
    by_cases hs:hd.s=d
    ·rw[if_pos hs]
     exact keep .dead (by simp[ReC])
    ·rw[if_neg hs]
     split
     ·rename_i res rs g1 g2
      rw[←zjB h1 hs]at g1
      rw[←h1 _ hs]at g2
      split
      ·exact keep _ hu2
      ·rename_i hfz
       obtain⟨β1,q1,q2,q3⟩:=h.move (j:=k+1) g1 (by simpa using hfz) hs g2 h2 hLk
       have hβ:β1 d 0=β d 0:=(q2.old ⟨d,0,V.e⟩ V hVe (zao (by
        rw[zax,if_pos rfl]
        simp only[List.getElem?_set_ne (show k+1≠0 by omega),h3]) rfl)).choose_spec.2.1
       have hrd1:findR d (setR d ⟨E+1,L.set (k+1) (some {res with e:=E})⟩ (setR hd.s ⟨rs.next,rs.l.set hd.j none⟩ R))=some ⟨E+1,L.set (k+1) (some {res with e:=E})⟩:=zbS
       obtain⟨β2,t1,t2,t3⟩:=q1.recell (next':=E+1) (x:= .own ⟨d,k+1,E⟩ lo n) (V:=V) hrd1 (by simp only[List.getElem?_set_ne (show k+1≠0 by omega),h3]) hv (by rw[hβ];exact p1) p2 hu3
        (q3 lo n u hu2) (Nat.le_refl _)
       refine⟨β2,_,t1, ?_,by rw[t2,hβ],fun s hs'=> ?_,zbS⟩
       ·refine⟨fun s=>Nat.le_trans (q2.nx s) (t3.nx s),fun hd' res' hlt hg=> ?_,⟨fun _ _ _=>rfl,fun b hb hA=>q2.st.av b hb (t3.st.av b hb hA)⟩,fun _ _ _=>rfl,rfl,rfl⟩
        obtain⟨m1,m2,m3,m4,m5,m6⟩:=t3.old hd' res' (Nat.lt_of_lt_of_le hlt (q2.nx _)) hg
        obtain⟨n1,n2,n3,n4,n5,n6⟩:=q2.old hd' m1 hlt m2
        exact⟨n1,n2,by rw[m3,n3],by rw[m4,n4],by rw[m5,n5],Nat.le_trans n6 m6⟩
       ·rw[za6 hs',za6 hs',zak,zak,h1 s hs']
     ·exact keep .dead (by simp[ReC])
   |gap hd lo n k'=>
    simp only[home1]
    exact keep .dead (by simp[ReC])
   |lk hd n x'=>
    simp only[home1]
    exact keep .dead (by simp[ReC])
   |_=>exact keep _ hu2
  obtain⟨β1,R1,s1,s2,s3,s4,s5⟩:=step
  obtain⟨β2,R2,t1,t2,t3,t4,t5⟩:=zkt cs (k+1) (E+1) (home1 d E k x r).2.2 R1 β1 _ {V with cells:=V.cells.set k (home1 d E k x r).1} s1 s4 s5
   (by
    have hlen:0<(L.set (k+1) (home1 d E k x r).2.1).length:=by
     rw[List.length_set]
     exact(List.getElem?_eq_some_iff.1 h3).1
    rw[List.getElem?_set_self hlen]) hv (fun i y hy=>by
    obtain⟨g1,g2⟩:=h4 (i+1) y (by simpa using hy)
    refine⟨?_, ?_⟩
    ·simp only
     rw[List.getElem?_set_ne (by omega),show k+1+i=k+(i+1) by omega]
     exact g1
    ·rw[List.getElem?_set_ne (by omega),List.getElem?_set_ne (by omega),show k+1+1+i=k+1+(i+1) by omega]
     exact g2)
  refine⟨β2,R2,t1, ?_,by rw[t3,s3],t4, ?_⟩
  ·refine⟨fun s=>Nat.le_trans (s2.nx s) (t2.nx s),fun hd' res' hlt hg=> ?_,⟨fun _ _ _=>rfl,fun b hb hA=>s2.st.av b hb (t2.st.av b hb hA)⟩,fun _ _ _=>rfl,rfl,rfl⟩
   obtain⟨m1,m2,m3,m4,m5,m6⟩:=t2.old hd' res' (Nat.lt_of_lt_of_le hlt (s2.nx _)) hg
   obtain⟨n1,n2,n3,n4,n5,n6⟩:=s2.old hd' m1 hlt m2
   exact⟨n1,n2,by rw[m3,n3],by rw[m4,n4],by rw[m5,n5],Nat.le_trans n6 m6⟩
  ·rw[t5]
   simp only[homeCs,fillAt,List.length_cons,List.set_set]
   congr 2
   ·omega
   ·rw[List.set_comm _ _ (show k+1≠0 by omega)]
end
end Go.Pk
