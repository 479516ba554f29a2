import Derived.Test.YtjdbaocjeeficaaGreatK1
import Derived.Laws.Sem
import Derived.Laws.Cells
import Derived.Laws.World
import Derived.Laws.Rows
import Derived.Laws.Append
import Derived.Laws.Slices
set_option linter.unusedVariables false
set_option linter.unusedSimpArgs false
set_option linter.unusedSectionVars false
namespace Go.Pk
structure iL (P:Program) (t:Nat) (ti:TI):Prop where
 ty:∃i z d,P.info? t=some i/\P.underlying t=some d/\i.zero=some z/\ti.size=i.size/\ti.bytes=i.bytes/\ti.zero=z.cells.toList/\ti.desc=cK d
 flat:∀v∈ti.zero,flat v=true
 len:ti.zero.length=ti.size
theorem DT {P:Program} {eqs:List Nat} {t:Nat} {ti:TI} (h:kO P eqs t=some ti):iL P t ti:=by
 unfold kO at h;split at h
 .rename_i i d hi hd;split at h
  .rename_i z hz;split at h
   .rename_i hf;cases h;simp only[cg,gx]at hf;exact⟨⟨i,z,d,hi,hd,hz,rfl,rfl,rfl,rfl⟩,λ v hv=>gT.1 hf.1 v hv,hf.2⟩
   .cases h
  .cases h
 .cases h
section
variable {P:Program} {t:Nat} {ti:TI} (h:iL P t ti) (w:World)
include h
theorem iL.run_sizeOf:(sizeOf t).run P w= .ok ti.size w:=by obtain⟨⟨i,z,d,hi,_,_,h1,_⟩,_,_⟩:=h;simp[sizeOf,typeInfo,hi,h1]
theorem iL.va:∃i,(typeInfo t).run P w= .ok i w/\i.bytes=ti.bytes/\i.size=ti.size:=by obtain⟨⟨i,z,d,hi,_,_,h1,h2,_⟩,_,_⟩:=h;exact⟨i,by simp[typeInfo,hi],h2.symm,h1.symm⟩
theorem iL.lj:∃z,(zeroValue t).run P w= .ok z w/\z.cells.toList=ti.zero:=by obtain⟨⟨i,z,d,hi,_,hz,_,_,h3,_⟩,_,_⟩:=h;exact⟨z,by simp[zeroValue,typeInfo,hi,hz],h3.symm⟩
theorem iL.eC:∃d,(underlying t).run P w= .ok d w/\cK d=ti.desc/\P.underlying t=some d:=by obtain⟨⟨i,z,d,_,hd,_,_,_,_,h4⟩,_,_⟩:=h;exact⟨d,by simp[underlying,hd],h4.symm,hd⟩
omit w in
theorem iL.under:∃d,P.underlying t=some d/\cK d=ti.desc:=by obtain⟨⟨i,z,d,_,hd,_,_,_,_,h4⟩,_,_⟩:=h;exact⟨d,hd,h4.symm⟩
theorem iL.tY:(isAgg t).run P w= .ok (lX ti.desc) w:=by obtain⟨d,h1,h2,_⟩:=h.eC w;unfold isAgg;rw[eS,h1,dZ,←h2];cases d<;>rfl
end
def bx (P:Program) (T:Nat->Option TI):Prop:=∀t ti,T t=some ti->iL P t ti/\
 (ti.eq=true->∀(xs ys:List Value) (w:World),xs.map cb=ti.zero.map cb->ys.map cb=ti.zero.map cb->
  (∀o x y,(o= .eql∨o= .neq)->(eqGuard o t x y (.agg xs.toArray) (.agg ys.toArray)).run P w= .ok () w)/\
  (Op.equal t (.agg xs.toArray) (.agg ys.toArray)).run P w= .ok (dx xs ys) w)
section
variable {cx:Cx} {v:List AV} {r:Rs} {a:Act} {w:World} {β:Nat->Nat->Pl}
theorem mC (h:aw cx ⟨v,r⟩ a w β) (x:Operand):ak cx w r β (aW v x) (a.eval x):=by
 cases x with
 |tmp t=>
  simp only[aW,Act.eval];rw[fe];cases ht:v[t]? with
  |none=>simp[ak,ae]
  |some y=>
   obtain⟨u,h1,h2⟩:=h.sl t y ht;simp only[Array.getD_eq_getD_getElem?,h1,Option.getD_some];exact h2
 |const z=>
  simp only[aW,Act.eval,ak];split
  .rename_i hf;simp only[ae,Rd];exact⟨trivial,hf⟩
  .simp[ae]
 |global g=>simp[aW,ak,ae]
 |func f=>simp only[aW,Act.eval,ak,ae,Rd];exact⟨trivial,rfl⟩
theorem bH (h:aw cx ⟨v,r⟩ a w β) {x:Operand} {c:Bool} (hc:c=true) (hs:aO c v x):ak cx w r β (ev v x) (a.eval x):=by
 have hg:=mC h x;unfold ev aO at*;split
 .rename_i c' y he;rw[he]at hg hs;simp only[ak]at hg;exact hg.1 (hs hc)
 .rename_i y he;rw[he]at hg;exact hg
 .rename_i y he;rw[he]at hg;exact hg
 .rename_i y he;rw[he]at hg;exact hg
theorem iw (h:aw cx ⟨v,r⟩ a w β) {c:Bool} (hc:c=true):∀{xs:List Operand},cr c v xs->aL cx w r β (cj v xs) (xs.map a.eval)
 |[],_=>by simp[cj,aL]
 |x::xs,hs=>by simp only[cj,aL,fF];simp only[cr]at hs;exact⟨_,_,rfl,bH h hc hs.1,iw h hc hs.2⟩
def cd (cx:Cx) (v:List AV) (a:Act) (w:World) (s:Sem Next) (x:AV) (r':Rs):Prop:=
 ∃n w' β' u,s.run cx.P w= .ok n w'/\(n= .value u∨(n= .skip/\u=undef))/\aw cx ⟨v,r'⟩ a w' β'/\ak cx w' r' β' x u
theorem cd.val (h:aw cx ⟨v,r⟩ a w β) {s:Sem Next} {x:AV} {u:Value} (hr:s.run cx.P w= .ok (.value u) w) (hx:ak cx w r β x u):cd cx v a w s x r:=
 ⟨_,w,β,u,hr, .inl rfl,h,hx⟩
theorem dN {x u:Value}:ae cx w r β (.d (.v x)) u↔u=x/\flat x=true:=by simp[ae,Rd]
theorem Eu {x:C} {u:Value} (o:Option FuncId) (h:ae cx w r β x u):ae cx w r β (j5 o x) (nn o u):=by
 cases o with
 |none=>exact h
 |some f=>simp only[j5,nn,ae,ar];exact⟨#[u],rfl,u,[],rfl,h,rfl⟩
theorem ck {x:C} {u:Value}:ak cx w r β (.one x) u↔ae cx w r β x u:=by simp[ak]
theorem bj {x u:Value}:ak cx w r β (.one (.d (.v x))) u↔u=x/\flat x=true:=by simp[ak,ae,Rd]
theorem ec {l:List C} {u:Value}:ak cx w r β (.agg l) u↔∃us,u= .agg us/\ar cx w r β l us.toList:=by simp[ak]
theorem uo {y:AV} {u:Value} {c p:Bool} (h:ak cx w r β y u) (hb:jo y=some (c,p)) (hc:c=true):u= .bool p:=by
 unfold jo at hb;split at hb
 .cases hb;exact(bj.1 h).1
 .cases hb;simp only[ak]at h;have:=h.1 hc;exact(dN.1 this).1
 .cases hb;cases hc
 .cases hb
end
section
variable {cx:Cx} {v:List AV} {r:Rs} {a:Act} {w:World} {β:Nat->Nat->Pl} {T:Nat->Option TI} {c:Bool}
variable (hT:bx cx.P T) (h:aw cx ⟨v,r⟩ a w β) (hc:c=true) {o:Oper}
include h hc
theorem DK {x:Operand} (ho:o.op= .move x) (hs:(ah T c v r o.dst o.op).sc):cd cx v a w (execOp a.eval o) (ah T c v r o.dst o.op).x (ah T c v r o.dst o.op).r:=by simp only[ho,ah]at hs⊢;exact .val h (by simp[execOp,ho]) (bH h hc hs)
theorem DG {t x z:Operand} (ho:o.op= .pick t x z) (hs:(ah T c v r o.dst o.op).sc):cd cx v a w (execOp a.eval o) (ah T c v r o.dst o.op).x (ah T c v r o.dst o.op).r:=by
 simp only[ho,ah]at hs⊢;split at hs
 .rename_i b cx' p cz q h1 h2 h3;simp only[h1,h2,h3];obtain⟨g1,g2,g3⟩:=hs;have e1:=bH h hc g1;rw[h1]at e1;have e2:=(bj.1 e1).1;refine .val h (u:= .bool (jP b p q)) ?_ (bj.2 ⟨rfl,rfl⟩);simp only[execOp,ho,e2];cases b with
  |true=>have:=uo (mC h x) h2 (g2 hc rfl);simp[asBool,this,jP]
  |false=>have:=uo (mC h z) h3 (g3 hc rfl);simp[asBool,this,jP]
 .exact hs.elim
theorem Ea {t:TypeId} {x:Operand} (ho:o.op= .unOp .not t x) (hs:(ah T c v r o.dst o.op).sc):cd cx v a w (execOp a.eval o) (ah T c v r o.dst o.op).x (ah T c v r o.dst o.op).r:=by
 simp only[ho,ah]at hs⊢;split at hs
 .rename_i b h1;simp only[h1];have e1:=bH h hc hs;rw[h1]at e1;have e2:=(bj.1 e1).1;exact .val h (u:= .bool !b) (by simp[execOp,ho,e2,Op.unary]) (bj.2 ⟨rfl,rfl⟩)
 .exact hs.elim
omit h hc in
theorem DH {op:BinOp} {t:TypeId} {x0 y0:Operand} {x y z:Value} (hz:mV op x y=some z):
  ((do eqGuard op t x0 y0 x y;binOp op t x y:Sem Value)).run cx.P w= .ok z w/\flat z=true:=by
 unfold mV at hz;split at hz
 .rename_i k n k' m;split at hz
  .rename_i hk;subst hk;have hg:(eqGuard op t x0 y0 (.int k n) (.int k m)).run cx.P w= .ok () w:=by unfold eqGuard;cases op<;>simp
   cases op<;>simp only[aF,reduceCtorEq]at hz<;>first
    |(subst hz;refine⟨?_,rfl⟩;simp[hg,binOp,Op.intArith,Op.intCmp,Op.intBits];done)
    | (split at hz
       .cases hz
       .rename_i hb;cases hz;refine⟨?_,rfl⟩;simp[hg,binOp,Op.shift,hb];done)
    | (split at hz
       .cases hz
       .rename_i hb;cases hz;refine⟨?_,rfl⟩;simp[hg,binOp,Op.intDiv,hb])
  .have hg:(eqGuard op t x0 y0 (.int k n) (.int k' m)).run cx.P w= .ok () w:=by unfold eqGuard;cases op<;>simp
   cases op<;>simp only[aF,reduceCtorEq]at hz<;>
    (split at hz
     .cases hz
     .rename_i hb;cases hz;refine⟨?_,rfl⟩;simp[hg,binOp,Op.shift,hb])
 .rename_i s u;have hg:(eqGuard op t x0 y0 (.string s) (.string u)).run cx.P w= .ok () w:=by unfold eqGuard;cases op<;>simp
  cases op<;>simp only[aF,reduceCtorEq]at hz<;>
   (subst hz;refine⟨?_,rfl⟩;simp[hg,binOp,Op.stringOp])
 .cases hz
omit h hc in
theorem C4 (hT:bx cx.P T) {t:Nat} (h:jr T t=true):∃e,cx.P.underlying t=some (.pointer e):=by
 unfold jr at h;split at h
 .rename_i ti ht;split at h
  .rename_i e hd;obtain⟨d,e3,e2⟩:=(hT t ti (by simpa using ht)).1.under;rw[hd]at e2;cases d with
   |pointer e'=>exact⟨e',e3⟩
   |_=>simp[cK]at e2
  .cases h
 .cases h
omit h hc in
theorem Cu (hT:bx cx.P T) {t:Nat} (h:isBool T t=true):cx.P.underlying t=some .bool:=by
 unfold isBool at h;split at h
 .rename_i ti ht;split at h
  .rename_i hd;obtain⟨d,e3,e2⟩:=(hT t ti (by simpa using ht)).1.under;rw[hd]at e2;cases d with
   |bool=>exact e3
   |_=>simp[cK]at e2
  .cases h
 .cases h
omit h hc in
theorem Bm (hT:bx cx.P T) {t:Nat} (h:cO T (some t)=true):∃e,cx.P.underlying t=some (.slice e):=by
 unfold cO at h;split at h
 .rename_i ti ht;split at h
  .rename_i e hd;obtain⟨d,e3,e2⟩:=(hT t ti (by simpa using ht)).1.under;rw[hd]at e2;cases d with
   |slice e'=>exact⟨e',e3⟩
   |_=>simp[cK]at e2
  .cases h
 .cases h
section
variable {P:Program}
omit h hc
theorem Bs {t e d:Nat} {a:Option Addr} {n c:Nat} (hu:P.underlying t=some (.slice e)):(Op.equalIn (d+1) t (.slice a n c) (.slice none 0 0)).run P w= .ok a.isNone w:=by cases a<;>simp[Op.equalIn,mT hu]
theorem Db {t e d:Nat} {a:Option Addr} (hu:P.underlying t=some (.pointer e)):(Op.equalIn (d+1) t (.pointer a) (.pointer none)).run P w= .ok a.isNone w:=by cases a<;>simp[Op.equalIn,mT hu]
theorem B2 {t d:Nat} {a b:Bool} (hu:P.underlying t=some .bool):(Op.equalIn (d+1) t (.bool a) (.bool b)).run P w= .ok (a==b) w:=by simp[Op.equalIn,mT hu]
theorem qz {op:BinOp} {t:Nat} {x y:Value} {x0 y0:Operand} {b:Bool} (hop:op= .eql∨op= .neq) (hg:(eqGuard op t x0 y0 x y).run P w= .ok () w)
  (hq:(Op.equal t x y).run P w= .ok b w) (h1:∀op',binOp op' t x y=(match op' with| .eql=>do pure (.bool (←Op.equal t x y))| .neq=>do pure (.bool (!(←Op.equal t x y)))|_=>binOp op' t x y)):
  ((do eqGuard op t x0 y0 x y;binOp op t x y:Sem Value)).run P w= .ok (.bool (if op= .eql then b else !b)) w:=by
 rcases hop with rfl|rfl
 .rw[h1];simp[hg,hq]
 .rw[h1];simp[hg,hq]
end
omit h hc in
theorem vo {op:BinOp} {x:Option Bool} {z:C} (hz:gf op x=some z) {b:Bool} (hb:∀b',x=some b'->b=b'):(op= .eql∨op= .neq)/\ae cx w r β z (.bool (if op= .eql then b else !b)):=by
 unfold gf at hz;split at hz
 .cases hz;rename_i b';rw[hb b' rfl];exact⟨.inl rfl,by simp[ae,Rd,flat]⟩
 .cases hz;rename_i b';rw[hb b' rfl];exact⟨.inr rfl,by simp[ae,Rd,flat]⟩
 .cases hz;exact⟨.inl rfl,by simp[ae]⟩
 .cases hz;exact⟨.inr rfl,by simp[ae]⟩
 .cases hz
omit h hc in
theorem wH (hT:bx cx.P T) {op:BinOp} {t:TypeId} {x0 y0:Operand} {x y z:C} {p:Prop} {ux uy:Value} (hz:iN T r op t x y=some (p,z)) (hp:p) (hx:ae cx w r β x ux) (hy:ae cx w r β y uy):
  ∃u,((do eqGuard op t x0 y0 ux uy;binOp op t ux uy:Sem Value)).run cx.P w= .ok u w/\ae cx w r β z u:=by
 have hslice:∀{a:Option Addr} {n c:Nat} {o:Option Bool},cO T (some t)=true->gf op o=some z->(∀b,o=some b->a.isNone=b)->
   ∃u,((do eqGuard op t x0 y0 (.slice a n c) (.slice none 0 0);binOp op t (.slice a n c) (.slice none 0 0):Sem Value)).run cx.P w= .ok u w/\ae cx w r β z u:=λ {a n c o} h1 h2 h3=>by
  obtain⟨e,he⟩:=Bm (cx:=cx) hT h1;obtain⟨g1,g2⟩:=vo (cx:=cx) (r:=r) (w:=w) (β:=β) h2 (b:=a.isNone) h3;refine⟨_,qz g1 ?_ (Bs (d:=9999) he) (λ op'=>by cases op'<;>rfl),g2⟩;unfold eqGuard;rcases g1 with rfl|rfl<;>simp
 have hptr:∀{a:Option Addr} {o:Option Bool},jr T t=true->gf op o=some z->(∀b,o=some b->a.isNone=b)->
   ∃u,((do eqGuard op t x0 y0 (.pointer a) (.pointer none);binOp op t (.pointer a) (.pointer none):Sem Value)).run cx.P w= .ok u w/\ae cx w r β z u:=λ {a o} h1 h2 h3=>by
  obtain⟨e,he⟩:=C4 (cx:=cx) hT h1;obtain⟨g1,g2⟩:=vo (cx:=cx) (r:=r) (w:=w) (β:=β) h2 (b:=a.isNone) h3;refine⟨_,qz g1 ?_ (Db (d:=9999) he) (λ op'=>by cases op'<;>rfl),g2⟩;unfold eqGuard;rcases g1 with rfl|rfl<;>simp
 have hbool:∀{a b:Bool},(op= .eql∨op= .neq)->isBool T t=true->
   ((do eqGuard op t x0 y0 (.bool a) (.bool b);binOp op t (.bool a) (.bool b):Sem Value)).run cx.P w= .ok (.bool (if op= .eql then a==b else !(a==b))) w:=λ {a b} g1 h1=>by
  refine qz g1 ?_ (B2 (d:=9999) (Cu (cx:=cx) hT h1)) (λ op'=>by cases op'<;>rfl);unfold eqGuard;rcases g1 with rfl|rfl<;>simp
 unfold iN at hz;split at hz
 .rename_i a b;have e1:=(dN.1 hx).1;have e2:=(dN.1 hy).1;subst e1 e2;cases op<;>simp only[aF,gU,reduceCtorEq]at hz
  .obtain⟨rfl,rfl⟩:=hz;exact⟨_,hbool (.inl rfl) hp,by simp[ae,Rd,flat]⟩
  .obtain⟨rfl,rfl⟩:=hz;exact⟨_,hbool (.inr rfl) hp,by simp[ae,Rd,flat,bne]⟩
 .have e1:=(dN.1 hx).1;have e2:=(dN.1 hy).1;subst e1 e2;obtain⟨z',g1,g2⟩:=fj.1 hz;cases g2;exact hslice hp g1 (λ b hb=>by cases hb;rfl)
 .rename_i n ds;have e2:=(dN.1 hy).1;subst e2;obtain⟨z',g1,g2⟩:=fj.1 hz;cases g2;simp only[ae]at hx;obtain⟨a,cap,rfl,_,hr⟩:=hx;refine hslice hp.1 g1 (λ b hb=> ?_);split at hb
  .cases hb
  .rename_i hn;cases hb;obtain⟨b,o,rfl⟩:=hr.addr (hp.2 hn);rfl
 .rename_i n ds;have e2:=(dN.1 hy).1;subst e2;obtain⟨z',g1,g2⟩:=fj.1 hz;cases g2;simp only[ae,Rd]at hx;obtain⟨a,cap,rfl,_,hr⟩:=hx;refine hslice hp.1 g1 (λ b hb=> ?_);split at hb
  .cases hb
  .rename_i hn;cases hb;obtain⟨b,o,rfl⟩:=(fS.1 hr).addr (hp.2 hn);rfl
 .rename_i hd lo n;have e2:=(dN.1 hy).1;subst e2;split at hz
  .rename_i res hg;obtain⟨z',g1,g2⟩:=fj.1 hz;cases g2;simp only[ae]at hx;obtain⟨_,_,hcap,a,rfl,ha⟩:=hx.2.2 res hg;refine hslice hp g1 (λ b hb=> ?_);split at hb
   .cases hb
   .rename_i hn;cases hb;obtain⟨b,o,_,rfl⟩:=ha.resolve_left (by omega);rfl
  .cases hz
 .have e1:=(dN.1 hx).1;have e2:=(dN.1 hy).1;subst e1 e2;obtain⟨z',g1,g2⟩:=fj.1 hz;cases g2;exact hptr hp g1 (λ b hb=>by cases hb;rfl)
 .rename_i hd off;have e2:=(dN.1 hy).1;subst e2;split at hz
  .rename_i res hg;obtain⟨z',g1,g2⟩:=fj.1 hz;cases g2;simp only[ae]at hx;obtain⟨b,o,_,rfl⟩:=hx.2.2 res hg;exact hptr hp g1 (λ b hb=>by cases hb;rfl)
  .cases hz
 .have e2:=(dN.1 hy).1;subst e2;obtain⟨z',g1,g2⟩:=fj.1 hz;cases g2;simp only[ae]at hx;obtain⟨b,o,rfl,_⟩:=hx;exact hptr hp g1 (λ b hb=>by cases hb;rfl)
 .have e2:=(dN.1 hy).1;subst e2;obtain⟨z',g1,g2⟩:=fj.1 hz;cases g2;simp only[ae]at hx;obtain⟨b,o,us,rfl,_⟩:=hx;exact hptr hp g1 (λ b hb=>by cases hb;rfl)
 .cases hz
omit h hc in
theorem nE:∀{l:List C} {xs us:List Value},ix l=some xs->ar cx w r β l us->us=xs
 |[],xs,us,h1,h2=>by simp only[ix,aF]at h1;simp only[ar]at h2;rw[h2,h1]
 |x::l,xs,us,h1,h2=>by
  simp only[ix]at h1;split at h1
  .rename_i y ys g1 g2;cases h1;simp only[ar]at h2;obtain⟨u,us',rfl,g3,g4⟩:=h2;rw[nE g2 g4];unfold o5 at g1;split at g1
   .cases g1;rw[(dN.1 g3).1]
   .cases g1
  .cases h1
include hT in
theorem Eg {op:BinOp} {t yt:TypeId} {x y:Operand} (ho:o.op= .binOp op t x y yt) (hs:(ah T c v r o.dst o.op).sc):
  cd cx v a w (execOp a.eval o) (ah T c v r o.dst o.op).x (ah T c v r o.dst o.op).r:=by
 simp only[ho,ah,Out.with]at hs⊢;obtain⟨⟨s1,s2⟩,hs⟩:=hs;have e1:=bH h hc s1;have e2:=bH h hc s2;unfold hC at hs⊢;split at hs
 .rename_i x1 y1 h1 h2;simp only[h1,h2]at e1 e2;have f1:=(bj.1 e1).1;have f2:=(bj.1 e2).1;split at hs
  .rename_i z hz;obtain⟨g1,g2⟩:=DH (cx:=cx) (w:=w) (t:=t) (x0:=x) (y0:=y) hz;simp only[hz];refine .val h (u:=z) ?_ (bj.2 ⟨rfl,g2⟩);rw[←f1,←f2]at g1;simp only[execOp,ho,eS]at g1⊢;simp only[g1,dZ,iJ]
  .rename_i hn;split at hs
   .rename_i p z hz;simp only[hn,hz];obtain⟨u,g1,g2⟩:=wH hT (x0:=x) (y0:=y) hz hs (ck.1 e1) (ck.1 e2);refine .val h (u:=u) ?_ (ck.2 g2);simp only[execOp,ho,eS]at g1⊢;simp only[g1,dZ,iJ]
   .exact hs.elim
 .rename_i x1 y1 hnv h1 h2;simp only[h1,h2]at e1 e2;split at hs
  .rename_i p z hz;simp only[hz];obtain⟨u,g1,g2⟩:=wH hT (x0:=x) (y0:=y) hz hs (ck.1 e1) (ck.1 e2);refine .val h (u:=u) ?_ (ck.2 g2);simp only[execOp,ho,eS]at g1⊢;simp only[g1,dZ,iJ]
  .exact hs.elim
 .rename_i l m h1 h2;simp only[h1,h2]at e1 e2;obtain⟨us1,f1,f2⟩:=ec.1 e1;obtain⟨us2,f3,f4⟩:=ec.1 e2;split at hs
  .rename_i ti xs ys k1 k2 k3;have d1:=nE k2 f2;have d2:=nE k3 f4;have hrun:∀op',(op'= .eql∨op'= .neq)->ti.eq=true/\xs.map cb=ti.zero.map cb/\ys.map cb=ti.zero.map cb->
     ((do eqGuard op' t x y (a.eval x) (a.eval y);binOp op' t (a.eval x) (a.eval y):Sem Value)).run cx.P w= .ok (.bool (if op'= .eql then dx xs ys else !(dx xs ys))) w:=by
    rintro op' hop ⟨q1,q2,q3⟩
    obtain⟨q4,q5⟩:=(hT t ti k1).2 q1 xs ys w q2 q3;have e3:a.eval x= .agg xs.toArray:=by rw[f1,←d1]
    have e4:a.eval y= .agg ys.toArray:=by rw[f3,←d2]
    rw[e3,e4];simp only[eS,q4 op' x y hop,dZ];rcases hop with rfl|rfl<;>simp[binOp,q5]
   split at hs
   .simp only[k1,k2,k3];refine .val h (u:= .bool (dx xs ys)) ?_ (bj.2 ⟨rfl,rfl⟩);have:=hrun _ (.inl rfl) hs;simp only[execOp,ho,eS]at this⊢;simp only[this,dZ,iJ,eP]
   .simp only[k1,k2,k3];refine .val h (u:= .bool !(dx xs ys)) ?_ (bj.2 ⟨rfl,rfl⟩);have:=hrun _ (.inr rfl) hs;simp only[execOp,ho,eS]at this⊢;simp only[this,dZ,iJ,reduceCtorEq,jm]
   .exact hs.elim
  .exact hs.elim
 .exact hs.elim
omit h hc in
theorem uk:∀{l:List AV} {us:List Value} {i:Nat} {z:AV},aL cx w r β l us->l[i]? =some z->∃u,us[i]? =some u/\ak cx w r β z u
 |[],us,i,z,_,h2=>by simp at h2
 |x::l,us,0,z,h1,h2=>by simp only[aL]at h1;obtain⟨u,us',rfl,g1,_⟩:=h1;simp only[bG,aF]at h2;exact⟨u,by simp,h2▸g1⟩
 |x::l,us,i+1,z,h1,h2=>by simp only[aL]at h1;obtain⟨u,us',rfl,_,g1⟩:=h1;simpa using uk (i:=i) g1 (by simpa using h2)
theorem BI {x:Operand} {i:Nat} (ho:o.op= .extract x i) (hs:(ah T c v r o.dst o.op).sc):
  cd cx v a w (execOp a.eval o) (ah T c v r o.dst o.op).x (ah T c v r o.dst o.op).r:=by
 simp only[ho,ah]at hs⊢;split at hs
 .rename_i l h1
  try simp only[h1]
  split at hs
  .rename_i z h2;simp only[h2];have e1:=bH h hc hs;rw[h1]at e1;simp only[ak]at e1;obtain⟨us,f1,f2⟩:=e1;obtain⟨u,g1,g2⟩:=uk f2 h2;have g3:us[i]? =some u:=by simpa using g1
   exact .val h (u:=u) (by simp[execOp,ho,Instr.extract,f1,g3]) g2
  .exact hs.elim
 .exact hs.elim
end
section
variable {cx:Cx} {v:List AV} {r:Rs} {a:Act} {w:World} {β:Nat->Nat->Pl} {T:Nat->Option TI} {c:Bool}
theorem gJ {b o n:Nat}:(⟨b,o,none⟩:Addr).add n=⟨b,o+n,none⟩:=by
 unfold Addr.add;split
 .rename_i h;subst h;rfl
 .rfl
def gM (cx:Cx) (w:World) (r:Rs) (β:Nat->Nat->Pl) (l:List C) (b o:Nat):Prop:=
 ∀(k:Nat) (x:C),l[k]? =some x->∃u,w.cell? ⟨b,o+k,none⟩=some u/\ae cx w r β x u/\flat u=true
theorem pO {l:List C}:∀{us:List Value} {k:Nat} {x:C},ar cx w r β l us->l[k]? =some x->∃u,us[k]? =some u/\ae cx w r β x u:=by
 induction l with
 |nil=>intro us k x _ hk;simp at hk
 |cons y l ih=>
  intro us k x h hk;simp only[ar]at h;obtain⟨u,us',rfl,h1,h2⟩:=h;cases k with
  |zero=>simp only[bG,aF]at hk;subst hk;exact⟨u,rfl,h1⟩
  |succ k=>simpa using ih h2 (by simpa using hk)
theorem tK {l:List C}:∀{us:List Value} {k:Nat},ar cx w r β l us->ar cx w r β (l.drop k) (us.drop k):=by
 induction l with
 |nil=>intro us k h;simp only[ar]at h;subst h;simp[ar]
 |cons y l ih=>
  intro us k h;cases k with
  |zero=>simpa using h
  |succ k=>
   simp only[ar]at h;obtain⟨u,us',rfl,h1,h2⟩:=h;simpa using ih h2
theorem gM.drop {l:List C} {b o k:Nat} (h:gM cx w r β l b o):gM cx w r β (l.drop k) b (o+k):=λ j x hx=>by
 rw[kG]at hx;have:=h _ _ hx
 rwa[←cq]at this
theorem r6:∀{n:Nat} {l:List C} {b o:Nat},gM cx w r β l b o->n≤l.length->
  ∃us:List Value,us.length=n/\ar cx w r β (l.take n) us/\∀j u,us[j]? =some u->w.cell? ⟨b,o+j,none⟩=some u
 |0,l,b,o,_,_=>⟨[],rfl,by simp[ar],λ j u hj=>by simp at hj⟩
 |n+1,[],b,o,_,hn=>by simp at hn
 |n+1,x::l,b,o,h,hn=>by
  obtain⟨u,h1,h2,_⟩:=h 0 x (by simp);have h':gM cx w r β l b (o+1):=by simpa using h.drop (k:=1)
  obtain⟨us,g1,g2,g3⟩:=r6 (n:=n) h' (by simpa using hn);refine⟨u::us,by simp[g1],by simp only[mS,ar];exact⟨u,us,rfl,h2,g2⟩,λ j u' hj=> ?_⟩;cases j with
  |zero=>simp only[bG,aF]at hj;subst hj;simpa using h1
  |succ j=>have:=g3 j u' (by simpa using hj);rwa[cq,gW 1 j]at this
theorem ot (hT:bx cx.P T) {t:Nat} {l:List C} {b o:Nat} (hl:gM cx w r β l b o) (hs:(fK T t l).1):
  ∃u,(loadVar t ⟨b,o,none⟩).run cx.P w= .ok u w/\ak cx w r β (fK T t l).2 u:=by
 unfold fK at hs⊢;split at hs
 .rename_i ti ht;have hty:=(hT t ti ht).1;have e1:=hty.tY w;have e2:=hty.run_sizeOf w;split at hs
  .rename_i hag;rw[ao hag];obtain⟨us,g1,g2,g3⟩:=r6 hl hs;refine⟨.agg us.toArray, ?_,ec.2 ⟨us.toArray,rfl,by simpa using g2⟩⟩;have:=run_loadCells_list (P:=cx.P) w ⟨b,o,none⟩ us (λ j u hj=>by rw[gJ];exact g3 j u hj);rw[g1]at this;simp[loadVar,e1,e2,hag,this]
  .rename_i hag;rw[aj hag];split at hs
   .rename_i x l';obtain⟨u,h1,h2,_⟩:=hl 0 x (by simp);refine⟨u, ?_,ck.2 h2⟩;simp only[eo]at h1;simp[loadVar,e1,hag,h1]
   .exact hs.elim
 .exact hs.elim
theorem eL:∀{l:List C} {us:List Value} {i:Nat} {z:C},ar cx w r β l us->l[i]? =some z->∃u,us[i]? =some u/\ae cx w r β z u
 |[],us,i,z,_,h2=>by simp at h2
 |x::l,us,0,z,h1,h2=>by simp only[ar]at h1;obtain⟨u,us',rfl,g1,_⟩:=h1;simp only[bG,aF]at h2;exact⟨u,by simp,h2▸g1⟩
 |x::l,us,i+1,z,h1,h2=>by simp only[ar]at h1;obtain⟨u,us',rfl,_,g1⟩:=h1;simpa using eL (i:=i) g1 (by simpa using h2)
theorem nY {b o:Nat} {cs:Array Value} {e:TypeId} {fr:Nat×Nat} (h:w.heap[b]? =some (.cells cs e fr)):w.cell? ⟨b,o,none⟩=cs[o]? :=by simp[World.cell?,h]
theorem bn.cells {pl:Pl} {res:aM} {b o:Nat} (h:bn cx w r β pl res) (hb:pl.base=some (b,o)):gM cx w r β res.cells b o:=by
 intro k x hx;unfold bn at h;split at h
 .obtain⟨_,b',cs,e,h1,h2,h3,h4⟩:=h;rw[hb]at h1;cases h1;obtain⟨u,g1,g2⟩:=eL h3 hx;have g3:cs[k]? =some u:=by simpa using g1
  exact⟨u,by rw[nY h2,bu];exact g3,g2,h4 u (by simpa using Array.mem_of_getElem? g3)⟩
 .obtain⟨ds,h1,h2,_⟩:=h;rw[h1,eK]at hx;obtain⟨d,hd,rfl⟩:=fj.1 hx;simp only[bL,hb]at h2;obtain⟨cs,e,g1,_,_,g4⟩:=h2;obtain⟨u,g5,g6⟩:=g4 k d hd;exact⟨u,by rw[nY g1];exact g5,by simp only[ae];exact g6,g6.flat⟩
theorem BM {ds:List D} {b o:Nat} {A T:Nat->Prop} (hA:A=Av cx r β) (h:ba w A T ds (some ⟨b,o,none⟩)):gM cx w r β (ds.map C.d) b o:=by intro k x hx;rw[eK]at hx;obtain⟨d,hd,rfl⟩:=fj.1 hx;obtain⟨_,u,h1,h2⟩:=h.get hd;subst hA;exact⟨u,h1,by simp only[ae];exact h2,h2.flat⟩
variable (hT:bx cx.P T) (h:aw cx ⟨v,r⟩ a w β) (hc:c=true) {o:Oper}
include h hc
include hT in
theorem DS {t:TypeId} {x:Operand} (ho:o.op= .load t x) (hs:(ah T c v r o.dst o.op).sc):
  cd cx v a w (execOp a.eval o) (ah T c v r o.dst o.op).x (ah T c v r o.dst o.op).r:=by
 simp only[ho,ah]at hs⊢;split at hs
 .rename_i hd off h1
  try simp only[h1]
  split at hs
  .rename_i res h2;simp only[h2];obtain⟨s1,s2,s3⟩:=hs;have e1:=bH h hc s1;rw[h1]at e1;simp only[ak,ae]at e1;obtain⟨b,o',g1,g2⟩:=e1.2.2 res h2;obtain⟨hl,_⟩:=bh h2;have hcs:=((h.rs _ _ _ hl).1.cells g1).drop (k:=off);obtain⟨u,f1,f2⟩:=ot hT hcs s3;exact .val h (u:=u) (by simp[execOp,ho,Instr.loadAt,Instr.sureAddr,g2,f1]) f2
  .exact hs.elim
 .rename_i ds h1
  try simp only[h1]
  obtain⟨s1,s3⟩:=hs;have e1:=bH h hc s1;rw[h1]at e1;simp only[ak,ae]at e1;obtain⟨b,o',g1,g2⟩:=e1;obtain⟨u,f1,f2⟩:=ot hT (BM rfl g2) s3;exact .val h (u:=u) (by simp[execOp,ho,Instr.loadAt,Instr.sureAddr,g1,f1]) f2
 .rename_i cs h1
  try simp only[h1]
  obtain⟨s1,s3⟩:=hs;have e1:=bH h hc s1;rw[h1]at e1;simp only[ak,ae]at e1;obtain⟨b,o',us,g1,g2,g3,g4,g5⟩:=e1;have hcs:gM cx w r β cs b o':=λ j x hx=>by obtain⟨u',q1,q2⟩:=pO g5 hx;obtain⟨q3,q4⟩:=g4 j u' q1;exact⟨u',q3,q2,q4⟩
  obtain⟨u,f1,f2⟩:=ot hT hcs s3;exact .val h (u:=u) (by simp[execOp,ho,Instr.loadAt,Instr.sureAddr,g1,f1]) f2
 .exact hs.elim
include hT in
omit h hc in
theorem qi {t f k:Nat} (hf:mj T t f=some k) {b o:Nat}:
  (Instr.fieldAt t (.pointer (some ⟨b,o,none⟩)) f).run cx.P w= .ok (.pointer (some ⟨b,o+k,none⟩)) w:=by
 unfold mj at hf;split at hf
 .rename_i ti ht;split at hf
  .rename_i fs hd;split at hf
   .rename_i k' ft hfs;split at hf
    .rename_i fi hft;split at hf
     .cases hf
     .rename_i hne;cases hf;obtain⟨d,e1,e2,_⟩:=(hT t ti ht).1.eC w;rw[hd]at e2;cases d with
      |struct fields=> ?_
      |_=>simp[cK]at e2
      simp only[cK,TD.struct.injEq]at e2;rw[←e2,eK]at hfs;obtain⟨fd,hfd,hfd2⟩:=fj.1 hfs;cases hfd2;have hfd':fields[f]? =some fd:=by simpa using hfd
      have e3:=(hT fd.type fi hft).1.run_sizeOf w;simp[Instr.fieldAt,e1,hfd',Instr.sureAddr,fieldPlace,e3,hne,gJ]
    .cases hf
   .cases hf
  .cases hf
 .cases hf
include hT in
theorem CE {t:TypeId} {f:Nat} {x:Operand} (ho:o.op= .fieldAddr t x f) (hs:(ah T c v r o.dst o.op).sc):
  cd cx v a w (execOp a.eval o) (ah T c v r o.dst o.op).x (ah T c v r o.dst o.op).r:=by
 simp only[ho,ah]at hs⊢;split at hs
 .rename_i k hd off h1 h2
  try simp only[h1,h2]
  split at hs
  .rename_i res h3;simp only[h3];have e1:=bH h hc hs;rw[h2]at e1;simp only[ak,ae]at e1;obtain⟨b,o',g1,g2⟩:=e1.2.2 res h3;refine .val h (u:= .pointer (some ⟨b,o'+off+k,none⟩)) (by simp[execOp,ho,g2,qi hT h1]) ?_;simp only[ak,ae];refine⟨rfl,e1.2.1,λ res' hr=>⟨b,o',g1,by rw[cq]⟩⟩
  .exact hs.elim
 .rename_i k ds h1 h2
  try simp only[h1,h2]
  obtain⟨s1,s2⟩:=hs;have e1:=bH h hc s1;rw[h2]at e1;simp only[ak,ae]at e1;obtain⟨b,o',g1,g2⟩:=e1;refine .val h (u:= .pointer (some ⟨b,o'+k,none⟩)) (by simp[execOp,ho,g1,qi hT h1]) ?_;simp only[ak,ae];exact⟨b,o'+k,rfl,g2.drop⟩
 .rename_i k cs h1 h2
  try simp only[h1,h2]
  obtain⟨s1,s2⟩:=hs;have e1:=bH h hc s1;rw[h2]at e1;simp only[ak,ae]at e1;obtain⟨b,o',us,g1,g2,g3,g4,g5⟩:=e1;refine .val h (u:= .pointer (some ⟨b,o'+k,none⟩)) (by simp[execOp,ho,g1,qi hT h1]) ?_;simp only[ak,ae]
  exact⟨b,o'+k,us.drop k,rfl,g2,g3,λ j u' hj=>by
   rw[kG]at hj;have:=g4 _ _ hj
   rwa[←cq]at this,tK g5⟩
 .exact hs.elim
end
section
variable {cx:Cx} {v:List AV} {r:Rs} {a:Act} {w:World} {β:Nat->Nat->Pl} {T:Nat->Option TI} {c:Bool}
theorem fv (hT:bx cx.P T) {t e:Nat} {ei:TI} (h:dI T t=some (e,ei)) (w:World):
  (underlying t).run cx.P w= .ok (.slice e) w/\(sizeOf e).run cx.P w= .ok ei.size w/\iL cx.P e ei/\cx.P.underlying t=some (.slice e):=by
 unfold dI at h;split at h
 .rename_i ti ht;split at h
  .rename_i e' hd;split at h
   .rename_i ei' he;cases h;obtain⟨d,e1,e2,e3⟩:=(hT t ti ht).1.eC w;rw[hd]at e2;cases d with
    |slice e''=>simp only[cK,TD.slice.injEq]at e2;subst e2;exact⟨e1,(hT _ _ he).1.run_sizeOf w,(hT _ _ he).1,e3⟩
    |_=>simp[cK]at e2
   .cases h
  .cases h
 .cases h
theorem pk (hT:bx cx.P T) {t e:Nat} {ei:TI} (he:dI T t=some (e,ei)) {k:IntKind} {n:Int} {b o m cap:Nat} (h0:0≤n) (h1:n<m):
  (Instr.indexAt t (.slice (some ⟨b,o,none⟩) m cap) (.int k n)).run cx.P w= .ok (.pointer (some ⟨b,o+n.toNat*ei.size,none⟩)) w:=by
 obtain⟨e1,e2,_⟩:=fv hT he w;simp[Instr.indexAt,asIntOf,e1,e2,h0,h1,gJ]
theorem CD (hT:bx cx.P T) {t n:Nat} {ei:TI} (h:i2 T t=some (n,ei)) (w:World):
  ∃e,(underlying t).run cx.P w= .ok (.array n e) w/\(sizeOf e).run cx.P w= .ok ei.size w:=by
 unfold i2 at h;split at h
 .rename_i ti ht;split at h
  .rename_i n' e' hd;split at h
   .rename_i ei' he;cases h;obtain⟨d,e1,e2,e3⟩:=(hT t ti ht).1.eC w;rw[hd]at e2;cases d with
    |array m e''=>simp only[cK,TD.array.injEq]at e2;obtain⟨rfl,rfl⟩:=e2;exact⟨_,e1,(hT _ _ he).1.run_sizeOf w⟩
    |_=>simp[cK]at e2
   .cases h
  .cases h
 .cases h
theorem D' (hT:bx cx.P T) {t n:Nat} {ei:TI} (h:i2 T t=some (n,ei)) (hi:mr ei=true) (w:World):
  ∃e k,(underlying t).run cx.P w= .ok (.array n e) w/\(sizeOf e).run cx.P w= .ok 1 w/\((underlying e).run cx.P w= .ok (.int k) w∨∃d,(underlying e).run cx.P w= .ok (.pointer d) w):=by
 unfold i2 at h;split at h
 .rename_i ti ht;split at h
  .rename_i n' e' hd;split at h
   .rename_i ei' he;cases h;obtain⟨d,e1,e2,e3⟩:=(hT t ti ht).1.eC w;rw[hd]at e2;unfold mr at hi;split at hi
    .rename_i k hk;obtain⟨d',f1,f2,f3⟩:=(hT _ _ he).1.eC w;rw[hk]at f2;have hsz:ei.size=1:=by simpa using hi
     have h4:=(hT _ _ he).1.run_sizeOf w;rw[hsz]at h4;cases d with
     |array m e''=>
      simp only[cK,TD.array.injEq]at e2;obtain⟨rfl,rfl⟩:=e2;cases d' with
      |int k'=>simp only[cK,TD.int.injEq]at f2;subst f2;exact⟨_,_,e1,h4, .inl f1⟩
      |_=>simp[cK]at f2
     |_=>simp[cK]at e2
    .rename_i k hk;obtain⟨d',f1,f2,f3⟩:=(hT _ _ he).1.eC w;rw[hk]at f2;have hsz:ei.size=1:=by simpa using hi
     have h4:=(hT _ _ he).1.run_sizeOf w;rw[hsz]at h4;cases d with
     |array m e''=>
      simp only[cK,TD.array.injEq]at e2;obtain⟨rfl,rfl⟩:=e2;cases d' with
      |pointer k'=>exact⟨_, .i64,e1,h4, .inr ⟨_,f1⟩⟩
      |_=>simp[cK]at f2
     |_=>simp[cK]at e2
    .cases hi
   .cases h
  .cases h
 .cases h
theorem rT (hT:bx cx.P T) {t m:Nat} {ei:TI} (he:i2 T t=some (m,ei)) {k:IntKind} {n:Int} {b o:Nat} (h0:0≤n) (h1:n<m):
  (Instr.indexAt t (.pointer (some ⟨b,o,none⟩)) (.int k n)).run cx.P w= .ok (.pointer (some ⟨b,o+n.toNat*ei.size,none⟩)) w:=by
 obtain⟨e,e1,e2⟩:=CD hT he w;simp[Instr.indexAt,Instr.sureAddr,asIntOf,e1,e2,h0,h1,gJ]
variable (hT:bx cx.P T) (h:aw cx ⟨v,r⟩ a w β) (hc:c=true) {o:Oper}
include h hc
omit h hc in
theorem ba.nonempty {A Tp:Nat->Prop} {ds:List D} {ad:Option Addr} (h:ba w A Tp ds ad) (hn:0<ds.length):∃b o,ad=some ⟨b,o,none⟩:=
 h.addr (by intro he;simp[he]at hn)
include hT in
theorem Ei {t:TypeId} {x i:Operand} (ho:o.op= .indexAddr t x i) (hs:(ah T c v r o.dst o.op).sc):
  cd cx v a w (execOp a.eval o) (ah T c v r o.dst o.op).x (ah T c v r o.dst o.op).r:=by
 simp only[ho,ah,Out.with]at hs⊢;obtain⟨⟨s1,s2⟩,hs⟩:=hs;have e1:=bH h hc s1;have e2:=bH h hc s2;unfold gY at hs⊢;split at hs
 .rename_i e ei k n hd lo m h1 h2 h3;rw[h3]at e1;rw[h2]at e2;have f2:=(bj.1 e2).1;split at hs
  .rename_i res h4;simp only[h4];obtain⟨q1,q2,q3⟩:=hs;obtain⟨q3,q4⟩:=q3 hc;simp only[ak,ae]at e1;obtain⟨k1,k2,k3⟩:=e1;obtain⟨p1,p2,p3,ad,p4,p5⟩:=k3 res h4;have hcap:(β hd.s hd.j).cap - lo≠0:=by omega
   obtain⟨b,o',p6,p7⟩:=p5.resolve_left hcap;subst p7;refine .val h (u:= .pointer (some ⟨b,o'+lo*res.sz+n.toNat*ei.size,none⟩)) ?_ ?_
   .simp[execOp,ho,p4,f2,pk hT h1 q3 q4]
   .simp only[ak,ae];refine⟨rfl,k2,λ res' hr=>⟨b,o',p6, ?_⟩⟩;rw[q1,cV,cq]
  .exact hs.elim
 .rename_i e ei k n m ds h1 h2 h3;rw[h3]at e1;rw[h2]at e2;have f2:=(bj.1 e2).1;obtain⟨q1,q2,q3⟩:=hs;obtain⟨q3,q4⟩:=q3 hc;simp only[ak,ae]at e1;obtain⟨ad,cap,p1,p2,p3⟩:=e1;obtain⟨b,o',rfl⟩:=ba.nonempty p3 (by rw[q2];exact Nat.mul_pos (by omega) (by omega));refine .val h (u:= .pointer (some ⟨b,o'+n.toNat*ei.size,none⟩)) ?_ ?_
  .simp[execOp,ho,p1,f2,pk hT h1 q3 q4]
  .simp only[ak,ae];exact⟨b,_,rfl,p3.drop⟩
 .rename_i e ei k n m ds h1 h2 h3;rw[h3]at e1;rw[h2]at e2;have f2:=(bj.1 e2).1;obtain⟨q1,q2,q3⟩:=hs;obtain⟨q3,q4⟩:=q3 hc;simp only[ak,ae,Rd]at e1;obtain⟨ad,cap,p1,p2,p3⟩:=e1;have p3:=(fS.1 p3).imp (T':=ib cx (Av cx r β)) (λ b hb=> .inl hb);obtain⟨b,o',rfl⟩:=ba.nonempty p3 (by rw[q2];exact Nat.mul_pos (by omega) (by omega));refine .val h (u:= .pointer (some ⟨b,o'+n.toNat*ei.size,none⟩)) ?_ ?_
  .simp[execOp,ho,p1,f2,pk hT h1 q3 q4]
  .simp only[ak,ae];exact⟨b,_,rfl,p3.drop⟩
 .rename_i k n hd off h1 h2 h3;rw[h3]at e1;rw[h2]at e2;have f2:=(bj.1 e2).1;split at hs
  .rename_i m ei res h4 h5;simp only[h4,h5];obtain⟨q3,q4⟩:=hs hc;simp only[ak,ae]at e1;obtain⟨k1,k2,k3⟩:=e1;obtain⟨b,o',p6,p7⟩:=k3 res h5;refine .val h (u:= .pointer (some ⟨b,o'+off+n.toNat*ei.size,none⟩)) ?_ ?_
   .simp[execOp,ho,p7,f2,rT hT h4 q3 q4]
   .simp only[ak,ae];exact⟨rfl,k2,λ res' hr=>⟨b,o',by rw[←p6],by rw[cq]⟩⟩
  .exact hs.elim
 .rename_i k n ds h1 h2 h3;rw[h3]at e1;rw[h2]at e2;have f2:=(bj.1 e2).1;split at hs
  .rename_i m ei h4;simp only[h4];obtain⟨q3,q4⟩:=hs hc;simp only[ak,ae]at e1;obtain⟨b,o',p1,p3⟩:=e1;refine .val h (u:= .pointer (some ⟨b,o'+n.toNat*ei.size,none⟩)) ?_ ?_
   .simp[execOp,ho,p1,f2,rT hT h4 q3 q4]
   .simp only[ak,ae];exact⟨b,_,rfl,p3.drop⟩
  .exact hs.elim
 .exact hs.elim
omit h hc in
theorem nU (hT:bx cx.P T) {t:Nat} (h:isStr T (some t)=true) (w:World):(underlying t).run cx.P w= .ok .string w/\cx.P.underlying t=some .string:=by
 unfold isStr at h;split at h
 .rename_i ti ht;split at h
  .rename_i hd;obtain⟨d,e1,e2,e3⟩:=(hT t ti (by simpa using ht)).1.eC w;rw[hd]at e2;cases d with
   |string=>exact⟨e1,e3⟩
   |_=>simp[cK]at e2
  .cases h
 .cases h
omit h hc in
theorem jK (hT:bx cx.P T) {t:Nat} (h:cO T (some t)=true) (w:World):∃e,(underlying t).run cx.P w= .ok (.slice e) w/\cx.P.underlying t=some (.slice e):=by
 unfold cO at h;split at h
 .rename_i ti ht;split at h
  .rename_i e hd;obtain⟨d,e1,e2,e3⟩:=(hT t ti (by simpa using ht)).1.eC w;rw[hd]at e2;cases d with
   |slice e'=>exact⟨e',e1,e3⟩
   |_=>simp[cK]at e2
  .cases h
 .cases h
include hT in
theorem C8 {t:TypeId} {x i:Operand} (ho:o.op= .index t x i) (hs:(ah T c v r o.dst o.op).sc):
  cd cx v a w (execOp a.eval o) (ah T c v r o.dst o.op).x (ah T c v r o.dst o.op).r:=by
 simp only[ho,ah]at hs⊢;split at hs
 .rename_i k n s h1 h2
  try simp only[h1,h2]
  obtain⟨s1,s2,s3,s4⟩:=hs;obtain⟨q1,q2⟩:=s4 hc;have e1:=bH h hc s1;have e2:=bH h hc s2;rw[h2]at e1;rw[h1]at e2;have f1:=(bj.1 e1).1;have f2:=(bj.1 e2).1;obtain⟨g1,_⟩:=nU hT s3 w;have hlt:n.toNat<s.size:=by omega
  refine .val h (u:= .int .u8 (s.data.getD n.toNat 0).toNat) ?_ (bj.2 ⟨rfl,rfl⟩);have hb:s[n.toNat]? =some (s.data.getD n.toNat 0):=by have:n.toNat<s.data.size:=hlt;rw[getElem?_pos s n.toNat hlt];simp[Array.getD,this];rw[dif_pos hlt];rfl
  simp[execOp,ho,Instr.index,asIntOf,f1,f2,g1,q1,hb]
 .rename_i k n l h1 h2;split at hs
  .rename_i m ei y h3 h4
   try simp only[h1,h2,h3,h4]
   obtain⟨s1,s2,s3,s4⟩:=hs;obtain⟨q1,q2⟩:=s4 hc;have e1:=bH h hc s1;have e2:=bH h hc s2;rw[h2]at e1;rw[h1]at e2;obtain⟨us,f1,f3⟩:=ec.1 e1;have f2:=(bj.1 e2).1;obtain⟨u,g1,g2⟩:=pO f3 h4;obtain⟨e,k2,t1,t2,t3⟩:=D' hT h3 s3 w;have g1':us[n.toNat]? =some u:=by rw[←gw];exact g1
   refine .val h (u:=u) ?_ (ck.2 g2);rcases t3 with t3|⟨d,t3⟩<;>simp[execOp,ho,Instr.index,asIntOf,f1,f2,t1,t2,t3,q1,q2,part,isAgg,g1']
  .exact hs.elim
 .exact hs.elim
omit h hc in
theorem tq:∀{l:List C} {us:List Value} {k:Nat},ar cx w r β l us->ar cx w r β (l.take k) (us.take k)
 |[],us,k,h=>by simp only[ar]at h;subst h;simp[ar]
 |x::l,us,0,h=>by simp[ar]
 |x::l,us,k+1,h=>by simp only[ar]at h;obtain⟨u,us',rfl,h1,h2⟩:=h;simp only[mS,ar];exact⟨u,us'.take k,rfl,h1,tq h2⟩
include hT in
theorem Cb {t:TypeId} {f:Nat} {x:Operand} (ho:o.op= .field t x f) (hs:(ah T c v r o.dst o.op).sc):
  cd cx v a w (execOp a.eval o) (ah T c v r o.dst o.op).x (ah T c v r o.dst o.op).r:=by
 simp only[ho,ah,Out.with]at hs⊢;obtain⟨s1,hs⟩:=hs;have e1:=bH h hc s1;unfold gO at hs⊢;split at hs
 .rename_i l ti h1 h2;rw[h1]at e1;obtain⟨us,f1,f2⟩:=ec.1 e1;split at hs
  .rename_i fs hd;split at hs
   .rename_i o' ft hfs;simp only[h1,h2,hd,hfs];obtain⟨d,q1,q2,_⟩:=(hT t ti h2).1.eC w;rw[hd]at q2;cases d with
    |struct fields=> ?_
    |_=>simp[cK]at q2
    simp only[cK,TD.struct.injEq]at q2;rw[←q2,eK]at hfs;obtain⟨fd,hfd,hfd2⟩:=fj.1 hfs;cases hfd2;have hfd':fields[f]? =some fd:=by simpa using hfd
    have hex:(execOp a.eval o).run cx.P w=((λ u=>Next.value u)<$>part fd.type us fd.offset).run cx.P w:=by simp[execOp,ho,Instr.field,q1,hfd',f1,asAgg]
    unfold fK at hs⊢;split at hs
    .rename_i fi hfi;have hty:=(hT _ fi hfi).1;have g1:=hty.tY w;have g2:=hty.run_sizeOf w
     try simp only[hfi]
     split at hs
     .rename_i hag;rw[ao hag];refine .val h (u:= .agg (us.extract fd.offset (fd.offset+fi.size))) ?_ (ec.2 ⟨_,rfl, ?_⟩)
      .rw[hex];simp[part,g1,g2,hag]
      .have:=tq (k:=fi.size) (tK (k:=fd.offset) f2);rw[Array.toList_extract];simpa[List.extract]using this
     .rename_i hag;rw[aj hag];split at hs
      .rename_i y l' hl;obtain⟨u,p1,p2⟩:=pO f2 (k:=fd.offset) (x:=y) (by have:=congrArg List.head? hl;rw[List.head?_drop]at this;simpa using this);have p1':us[fd.offset]? =some u:=by rw[←gw];exact p1
       try simp only[hl]
       refine .val h (u:=u) ?_ (ck.2 p2);rw[hex];simp[part,g1,hag,p1']
      .exact hs.elim
    .exact hs.elim
   .exact hs.elim
  .exact hs.elim
 .exact hs.elim
omit h hc in
theorem mg (h:aw cx ⟨v,r⟩ a w β) (hc:c=true) {x:Option Operand} {d i:Int} (hs:ew c v x) (hb:sliceB (dM v x) d=some i):
  (x=none/\i=d)∨∃y k,x=some y/\a.eval y= .int k i:=by
 cases x with
 |none=>simp only[dM,sliceB,aF]at hb;exact .inl ⟨rfl,hb.symm⟩
 |some y=>
  simp only[dM,ew]at hb hs;have e1:=bH h hc hs;unfold sliceB at hb;split at hb
  .rename_i h1;cases h1
  .rename_i k n h1;cases hb;simp only[aF]at h1;rw[h1]at e1;exact .inr ⟨y,k,rfl,(bj.1 e1).1⟩
  .cases hb
omit h hc in
theorem sg (h:aw cx ⟨v,r⟩ a w β) (hc:c=true) {lo hi:Option Operand} {isS:Bool} {len cap:Nat} {i j:Int}
  (s1:ew c v lo) (s2:ew c v hi) (b1:sliceB (dM v lo) 0=some i) (b2:sliceB (dM v hi) len=some j) (hlc:len≤cap)
  (q1:0≤i) (q2:i≤j) (q3:j≤cap):
  (Instr.sliceBounds isS len cap (lo.map a.eval) (hi.map a.eval) none).run cx.P w= .ok (i.toNat,j.toNat,cap) w:=by
 have hj:∀k,(Instr.sliceBound (.int k j) cap (if isS=true then .sliceAcap else .sliceAlen)).run cx.P w= .ok j.toNat w:=λ k=>by
  have:0≤j/\j≤(cap:Int):=by omega
  simp[Instr.sliceBound,asIntOf,this]
 have hi':∀k,(Instr.sliceBound (.int k i) j.toNat .sliceB).run cx.P w= .ok i.toNat w:=λ k=>by
  have:0≤i/\i≤(j.toNat:Int):=by omega
  unfold Instr.sliceBound;simp only[asIntOf,pure_bind];rw[ao this];rfl
 rcases mg h hc s1 b1 with⟨rfl,rfl⟩|⟨y1,k1,rfl,g1⟩<;>rcases mg h hc s2 b2 with⟨rfl,rfl⟩|⟨y2,k2,rfl,g2⟩
 .simp[Instr.sliceBounds]
 .simp[Instr.sliceBounds,g2,hj]
 .have:=hi' k1;simp[Instr.sliceBounds,g1]at this⊢;simp[this]
 .simp[Instr.sliceBounds,g1,g2,hj,hi']
omit h hc in
theorem nv (h:aw cx ⟨v,r⟩ a w β) (hc:c=true) {lo hi:Option Operand} {isS:Bool} {len cap:Nat} {i j:Int}
  (s1:ew c v lo) (s2:ew c v hi) (b1:sliceB (dM v lo) 0=some i) (b2:sliceB (dM v hi) len=some j) (hlc:len≤cap)
  (q1:0≤i) (q2:i≤j) (q3:j≤len):
  (Instr.sliceBounds isS len cap (lo.map a.eval) (hi.map a.eval) none).run cx.P w= .ok (i.toNat,j.toNat,cap) w:=
 sg h hc s1 s2 b1 b2 hlc q1 q2 (by omega)
omit h hc in
theorem Be (h:aw cx ⟨v,r⟩ a w β) (hc:c=true) {lo:Option Operand} {hi mx:Operand} {len cap:Nat} {i j q:Int}
  (s1:ew c v lo) (s2:ew c v (some hi)) (s3:ew c v (some mx)) (b1:sliceB (dM v lo) 0=some i) (b2:sliceB (dM v (some hi)) len=some j) (b3:sliceB (dM v (some mx)) len=some q)
  (q1:0≤i) (q2:i≤j) (q3:j≤q) (q4:q≤cap):
  (Instr.sliceBounds true len cap (lo.map a.eval) (some (a.eval hi)) (some (a.eval mx))).run cx.P w= .ok (i.toNat,j.toNat,q.toNat) w:=by
 have hb:∀k (n:Int) (m:Nat) (t:_),0≤n->n≤(m:Int)->(Instr.sliceBound (.int k n) m t).run cx.P w= .ok n.toNat w:=λ k n m t h0 h1=>by unfold Instr.sliceBound;simp only[asIntOf,pure_bind];rw[ao ⟨h0,h1⟩];rfl
 rcases mg h hc s2 b2 with⟨h0,_⟩|⟨y2,k2,e2,g2⟩
 .cases h0
 .cases e2;rcases mg h hc s3 b3 with⟨h0,_⟩|⟨y3,k3,e3,g3⟩
  .cases h0
  .cases e3;have h3:=hb k3 q cap .slice3Acap (by omega) q4;have h2:=hb k2 j q.toNat .slice3B (by omega) (by omega);rcases mg h hc s1 b1 with⟨rfl,rfl⟩|⟨y1,k1,rfl,g1⟩
   .simp[Instr.sliceBounds,g2,g3,h2,h3]
   .have h1:=hb k1 i j.toNat .slice3C q1 (by omega);simp[Instr.sliceBounds,g1,g2,g3,h1,h2,h3]
include hT in
theorem C7 {t:TypeId} {x:Operand} {lo hi:Option Operand} (ho:o.op= .slice t x lo hi none) (hs:(ah T c v r o.dst o.op).sc):
  cd cx v a w (execOp a.eval o) (ah T c v r o.dst o.op).x (ah T c v r o.dst o.op).r:=by
 simp only[ho,ah,Out.with]at hs⊢;obtain⟨⟨s1,s2,s3⟩,hs⟩:=hs;have e1:=bH h hc s1;unfold gR at hs⊢;split at hs
 .rename_i s h1;rw[h1]at e1;have f1:=(bj.1 e1).1;split at hs
  .rename_i i j h2 h3 h4;simp only[h2,h3,h4];obtain⟨q1,q2,q3⟩:=hs hc;obtain⟨g1,_⟩:=nU hT h2 w;have hb:=nv h hc (isS:=false) (cap:=s.size) s2 s3 h3 h4 (Nat.le_refl _) q1 q2 q3;refine .val h (u:= .string (s.extract i.toNat j.toNat)) ?_ (bj.2 ⟨rfl,rfl⟩);simp[execOp,ho,Instr.sliceAt,Instr.slice,g1,f1,hb]
  .exact hs.elim
 .rename_i hd lo' n h1;rw[h1]at e1;split at hs
  .rename_i e ei i j res h2 h3 h4 h5;simp only[h2,h3,h4,h5];obtain⟨q0,q⟩:=hs;obtain⟨q1,q2,q3⟩:=q hc;simp only[ak,ae]at e1;obtain⟨k1,k2,k3⟩:=e1;obtain⟨p1,p2,p3,ad,p4,p5⟩:=k3 res h5;obtain⟨g1,g2,_⟩:=fv hT h2 w;have hb:=nv h hc (isS:=true) (cap:=(β hd.s hd.j).cap - lo') s2 s3 h3 h4 (by omega) q1 q2 q3;refine .val h (u:= .slice (if(β hd.s hd.j).cap - lo'=i.toNat then ad else ad.map (·.add (i.toNat*ei.size))) (j.toNat - i.toNat) ((β hd.s hd.j).cap - lo' - i.toNat)) ?_ ?_
   .simp[execOp,ho,Instr.sliceAt,Instr.slice,g1,g2,p4,hb]
   .simp only[ak,ae];refine⟨rfl,k2,λ res' hr=> ?_⟩;rw[h5]at hr;cases hr;have hle:(lo'+i.toNat)*res.sz+(j.toNat - i.toNat)*res.sz≤lo'*res.sz+n*res.sz:=by rw[←cV,←cV];exact fk _ (by omega)
    refine⟨p1,eR hle p2,by omega,_,by rw[Nat.sub_sub], ?_⟩;by_cases hz:(β hd.s hd.j).cap - (lo'+i.toNat)=0
    .exact .inl hz
    .right
     obtain⟨b,o',p6,p7⟩:=p5.resolve_left (by omega);refine⟨b,o',p6, ?_⟩;rw[aj (by omega),p7];simp only[fZ,gJ,q0,cV,cq]
  .exact hs.elim
 .rename_i hd lo' n k h1;rw[h1]at e1;split at hs
  .rename_i e ei i j res h2 h3 h4 h5;simp only[h2,h3,h4,h5];obtain⟨q0,q⟩:=hs;obtain⟨q1,q2,q3⟩:=q hc;simp only[ak,ae]at e1;obtain⟨k1,k2,k3,ad,p4,p5⟩:=e1;obtain⟨p1,p2,p3⟩:=p5 res h5;obtain⟨g1,g2,_⟩:=fv hT h2 w;have hb:=sg h hc (isS:=true) (cap:=k - lo') s2 s3 h3 h4 (by omega) q1 q2 (by omega);refine .val h (u:= .slice (if k - lo'=i.toNat then ad else ad.map (·.add (i.toNat*ei.size))) (j.toNat - i.toNat) (k - lo' - i.toNat)) ?_ ?_
   .simp[execOp,ho,Instr.sliceAt,Instr.slice,g1,g2,p4,hb]
   .simp only[ak,ae];refine⟨rfl,k2,by omega,_,by rw[Nat.sub_sub],λ res' hr=> ?_⟩;rw[h5]at hr;cases hr;refine⟨p1,p2, ?_⟩;by_cases hz:k - (lo'+i.toNat)=0
    .exact .inl hz
    .right
     obtain⟨b,o',p6,p7⟩:=p3.resolve_left (by omega);refine⟨b,o',p6, ?_⟩;rw[aj (by omega),p7];simp only[fZ,gJ,q0,cV,cq]
  .exact hs.elim
 .rename_i n ds h1;rw[h1]at e1;split at hs
  .rename_i e ei i j h2 h3 h4;simp only[h2,h3,h4];obtain⟨q0,q⟩:=hs;obtain⟨q1,q2,q3⟩:=q hc;simp only[ak,ae]at e1;obtain⟨ad,cap,p1,p2,p3⟩:=e1;obtain⟨g1,g2,_⟩:=fv hT h2 w;have hb:=nv h hc (isS:=true) (cap:=cap) s2 s3 h3 h4 (by omega) q1 q2 q3;refine .val h (u:= .slice (if cap=i.toNat then ad else ad.map (·.add (i.toNat*ei.size))) (j.toNat - i.toNat) (cap - i.toNat)) ?_ ?_
   .simp[execOp,ho,Instr.sliceAt,Instr.slice,g1,g2,p1,hb]
   .simp only[ak,ae];refine⟨_,_,rfl,by omega, ?_⟩;by_cases hz:j.toNat - i.toNat=0
    .simp[hz,ba]
    .by_cases hds:ds=[]
     .simp[hds,ba]
     obtain⟨b,o',rfl⟩:=p3.addr hds;by_cases hci:cap=i.toNat
     .omega
     .rw[aj hci];simp only[fZ,gJ];exact p3.drop.take
  .exact hs.elim
 .rename_i n ds h1;rw[h1]at e1;split at hs
  .rename_i e ei i j h2 h3 h4;simp only[h2,h3,h4];obtain⟨q0,q⟩:=hs;obtain⟨q1,q2,q3⟩:=q hc;simp only[ak,ae,Rd]at e1;obtain⟨ad,cap,p1,p2,p3⟩:=e1;have p3:=fS.1 p3;obtain⟨g1,g2,_⟩:=fv hT h2 w;have hb:=nv h hc (isS:=true) (cap:=cap) s2 s3 h3 h4 (by omega) q1 q2 q3;refine .val h (u:= .slice (if cap=i.toNat then ad else ad.map (·.add (i.toNat*ei.size))) (j.toNat - i.toNat) (cap - i.toNat)) ?_ ?_
   .simp[execOp,ho,Instr.sliceAt,Instr.slice,g1,g2,p1,hb]
   .simp only[ak,ae,Rd];refine⟨_,_,rfl,by omega,fS.2 ?_⟩;by_cases hz:j.toNat - i.toNat=0
    .simp[hz,ba]
    .by_cases hds:ds=[]
     .simp[hds,ba]
     obtain⟨b,o',rfl⟩:=p3.addr hds;by_cases hci:cap=i.toNat
     .omega
     .rw[aj hci];simp only[fZ,gJ];exact p3.drop.take
  .exact hs.elim
 .exact hs.elim
include hT in
theorem Cf {t:TypeId} {x:Operand} {lo hi:Option Operand} {mx:Operand} (ho:o.op= .slice t x lo hi (some mx)) (hs:(ah T c v r o.dst o.op).sc):
  cd cx v a w (execOp a.eval o) (ah T c v r o.dst o.op).x (ah T c v r o.dst o.op).r:=by
 simp only[ho,ah,Out.with]at hs⊢;obtain⟨⟨s1,s2,s3,s4⟩,hs⟩:=hs;have e1:=bH h hc s1;unfold gL at hs⊢;split at hs
 .rename_i hd lo' n k h1;rw[h1]at e1;split at hs
  .rename_i ee i j q res h2 h3 h4 h5 h6;obtain⟨e,ei⟩:=ee;simp only[h2,h3,h4,h5,h6];obtain⟨q1,q2,q3,q4⟩:=hs hc;cases hi with
   |none=>simp[dM]at h4
   |some hi=>
    simp only[dM]at h4 h5;simp only[ak,ae]at e1;obtain⟨k1,k2,k3,ad,p4,_⟩:=e1;obtain⟨g1,g2,_⟩:=fv hT h2 w;have hb:=Be h hc (cap:=k - lo') s2 s3 (by simpa[ew]using s4) h3 (by simpa[dM]using h4) (by simpa[dM]using h5) q1 q2 q3 (by omega);refine .val h (u:= .slice (if q.toNat=i.toNat then ad else ad.map (·.add (i.toNat*ei.size))) (j.toNat - i.toNat) (q.toNat - i.toNat)) ?_ (by simp[ak,ae]);simp[execOp,ho,Instr.sliceAt,Instr.slice,g1,g2,p4,hb]
  .exact hs.elim
 .exact hs.elim
omit h hc in
theorem pv:∀{l m:List C} {us vs:List Value},ar cx w r β l us->ar cx w r β m vs->ar cx w r β (l++m) (us++vs)
 |[],m,us,vs,h1,h2=>by simp only[ar]at h1;subst h1;simpa using h2
 |x::l,m,us,vs,h1,h2=>by simp only[ar]at h1;obtain⟨u,us',rfl,g1,g2⟩:=h1;simp only[iE,ar];exact⟨u,us'++vs,rfl,g1,pv g2 h2⟩
theorem Ev {x:Operand} (ho:o.op= .nilCheck x) (hs:(ah T c v r o.dst o.op).sc):
  cd cx v a w (execOp a.eval o) (ah T c v r o.dst o.op).x (ah T c v r o.dst o.op).r:=by
 simp only[ho,ah]at hs⊢;split at hs
 .rename_i hd off h1
  try simp only[h1]
  split at hs
  .rename_i res h2;simp only[h2];have e1:=bH h hc hs;rw[h1]at e1;have e0:=e1;simp only[ak,ae]at e1;obtain⟨b,o',g1,g2⟩:=e1.2.2 res h2;exact .val h (u:=a.eval x) (by simp[execOp,ho,g2]) e0
  .exact hs.elim
 .rename_i ds h1
  try simp only[h1]
  have e1:=bH h hc hs;rw[h1]at e1;have e0:=e1;simp only[ak,ae]at e1;obtain⟨b,o',g1,g2⟩:=e1;exact .val h (u:=a.eval x) (by simp[execOp,ho,g1]) e0
 .rename_i cs h1
  try simp only[h1]
  have e1:=bH h hc hs;rw[h1]at e1;have e0:=e1;simp only[ak,ae]at e1;obtain⟨b,o',us,g1,g2⟩:=e1;exact .val h (u:=a.eval x) (by simp[execOp,ho,g1]) e0
 .rename_i f caps h1
  try simp only[h1]
  have e1:=bH h hc hs;rw[h1]at e1;have e0:=e1;simp only[ak,ae]at e1;obtain⟨us,g1,g2⟩:=e1;exact .val h (u:=a.eval x) (by simp[execOp,ho,g1]) e0
 .exact hs.elim
include hT in
theorem EH {x:Operand} {ts:Array TypeId} {as:Array Operand} (ho:o.op= .call ⟨.builtin .len,as,ts⟩) (hs:(ah T c v r o.dst o.op).sc):
  cd cx v a w (execOp a.eval o) (ah T c v r o.dst o.op).x (ah T c v r o.dst o.op).r:=by
 simp only[ho,ah]at hs⊢;split at hs
 .rename_i x h0
  try simp only[h0]
  simp only[Out.with]at hs⊢;obtain⟨s1,hs⟩:=hs;have e1:=bH h hc s1;have hmap:as.map a.eval= #[a.eval x]:=by
   have:as= #[x]:=by rw[←lJ (xs:=as),h0]
   rw[this];simp
  have hrun:∀n:Nat,(∀t,ts[0]? =some t->(Builtin.len_ ts o.type #[a.eval x]).run cx.P w= .ok (goInt n) w)->(∃t,ts[0]? =some t)->
    (execOp a.eval o).run cx.P w= .ok (.value (.int .i64 n)) w:=by
   rintro n hn ⟨t,ht⟩
   have:=hn t ht;simp[execOp,ho,resolve,hmap,invoke,builtin,this,goInt]
  unfold hU at hs⊢;split at hs
  .rename_i hd lo n h1;split at hs
   .rename_i res h2;simp only[h2];rw[h1]at e1;simp only[ak,ae]at e1;obtain⟨p1,p2,p3,ad,p4,p5⟩:=e1.2.2 res h2;cases ht:ts[0]? with
    |none=>rw[ht]at hs;simp[cO]at hs
    |some t=>
     rw[ht]at hs;obtain⟨e,g1,_⟩:=jK hT hs w;refine .val h (hrun n (λ t' ht'=> ?_) ⟨t,ht⟩) (bj.2 ⟨rfl,rfl⟩);simp[Builtin.len_,ht,g1,p4]
   .exact hs.elim
  .rename_i hd lo n k h1;split at hs
   .rename_i res h2;simp only[h2];rw[h1]at e1;simp only[ak,ae]at e1;obtain⟨_,_,_,ad,p4,_⟩:=e1;cases ht:ts[0]? with
    |none=>rw[ht]at hs;simp[cO]at hs
    |some t=>
     rw[ht]at hs;obtain⟨e,g1,_⟩:=jK hT hs w;refine .val h (hrun n (λ t' ht'=> ?_) ⟨t,ht⟩) (bj.2 ⟨rfl,rfl⟩);simp[Builtin.len_,ht,g1,p4]
   .exact hs.elim
  .rename_i n ds h1;rw[h1]at e1;simp only[ak,ae]at e1;obtain⟨ad,cap,p4,_⟩:=e1;cases ht:ts[0]? with
   |none=>rw[ht]at hs;simp[cO]at hs
   |some t=>
    rw[ht]at hs;obtain⟨e,g1,_⟩:=jK hT hs w;refine .val h (hrun n (λ t' ht'=> ?_) ⟨t,ht⟩) (bj.2 ⟨rfl,rfl⟩);simp[Builtin.len_,ht,g1,p4]
  .rename_i n ds h1;rw[h1]at e1;simp only[ak,ae,Rd]at e1;obtain⟨ad,cap,p4,_⟩:=e1;cases ht:ts[0]? with
   |none=>rw[ht]at hs;simp[cO]at hs
   |some t=>
    rw[ht]at hs;obtain⟨e,g1,_⟩:=jK hT hs w;refine .val h (hrun n (λ t' ht'=> ?_) ⟨t,ht⟩) (bj.2 ⟨rfl,rfl⟩);simp[Builtin.len_,ht,g1,p4]
  .rename_i h1;rw[h1]at e1;have p4:=(bj.1 e1).1;cases ht:ts[0]? with
   |none=>rw[ht]at hs;simp[cO]at hs
   |some t=>
    rw[ht]at hs;obtain⟨e,g1,_⟩:=jK hT hs w;refine .val h (hrun 0 (λ t' ht'=> ?_) ⟨t,ht⟩) (bj.2 ⟨rfl,rfl⟩);simp[Builtin.len_,ht,g1,p4]
  .rename_i a' n c' h1;rw[h1]at e1;simp only[ak,ae,Rd]at e1;obtain⟨p4,_⟩:=e1;cases ht:ts[0]? with
   |none=>rw[ht]at hs;simp[cO]at hs
   |some t=>
    rw[ht]at hs;obtain⟨e,g1,_⟩:=jK hT hs w;refine .val h (hrun n (λ t' ht'=> ?_) ⟨t,ht⟩) (bj.2 ⟨rfl,rfl⟩);simp[Builtin.len_,ht,g1,p4]
  .rename_i s h1;rw[h1]at e1;have p4:=(bj.1 e1).1;cases ht:ts[0]? with
   |none=>rw[ht]at hs;simp[isStr]at hs
   |some t=>
    rw[ht]at hs;obtain⟨g1,_⟩:=nU hT hs w;refine .val h (hrun s.size (λ t' ht'=> ?_) ⟨t,ht⟩) (bj.2 ⟨rfl,rfl⟩);simp[Builtin.len_,ht,g1,p4]
  .exact hs.elim
 .exact hs.elim
include hT in
theorem Ej {ts:Array TypeId} {as:Array Operand} (ho:o.op= .call ⟨.builtin .cap,as,ts⟩) (hs:(ah T c v r o.dst o.op).sc):
  cd cx v a w (execOp a.eval o) (ah T c v r o.dst o.op).x (ah T c v r o.dst o.op).r:=by
 simp only[ho,ah]at hs⊢;split at hs
 .rename_i x h0
  try simp only[h0]
  simp only[Out.with]at hs⊢;obtain⟨s1,hs⟩:=hs;have e1:=bH h hc s1;have hmap:as.map a.eval= #[a.eval x]:=by
   have:as= #[x]:=by rw[←lJ (xs:=as),h0]
   rw[this];simp
  unfold gZ at hs⊢;split at hs
  .rename_i hd lo n k h1;split at hs
   .rename_i res h2;simp only[h2];rw[h1]at e1;simp only[ak,ae]at e1;obtain⟨_,_,_,ad,p4,_⟩:=e1;cases ht:ts[0]? with
    |none=>rw[ht]at hs;simp[cO]at hs
    |some t=>
     rw[ht]at hs;obtain⟨e,g1,_⟩:=jK hT hs w;refine .val h (u:= .int .i64 (k - lo:Nat)) ?_ (bj.2 ⟨rfl,rfl⟩);simp[execOp,ho,resolve,hmap,invoke,builtin,Builtin.cap_,ht,g1,p4,goInt]
   .exact hs.elim
  .exact hs.elim
 .exact hs.elim
theorem wO {mx:Bool} {ts:Array TypeId} {as:Array Operand} (ho:o.op= .call ⟨.builtin (if mx=true then .max else .min),as,ts⟩)
  (hs:((fu r mx (cj v as.toList)).with (cr c v as.toList)).sc):
  cd cx v a w (execOp a.eval o) (fu r mx (cj v as.toList)).x (fu r mx (cj v as.toList)).r:=by
 simp only[Out.with]at hs;obtain⟨s1,hs⟩:=hs;have e1:=iw h hc s1;unfold fu at hs⊢;split at hs
 .rename_i k m k' n h1
  try simp only[h1]
  rw[h1]at e1;simp only[aL]at e1;obtain⟨u1,us1,g1,g2,u2,us2,g3,g4,g5⟩:=e1;have f1:=(bj.1 g2).1;have f2:=(bj.1 g4).1;subst g5 g3 f1 f2;have hm:(as.map a.eval)= #[.int k m, .int k' n]:=by apply er;simpa using g1
  refine .val h (u:= .int k (if mx=true then max m n else min m n)) ?_ (bj.2 ⟨rfl,rfl⟩);cases mx
  .simp[execOp,ho,resolve,hm,invoke,builtin,Builtin.min_,Builtin.min2];split<;>omega
  .simp[execOp,ho,resolve,hm,invoke,builtin,Builtin.max_,Builtin.max2];split<;>omega
 .exact hs.elim
omit h hc in
theorem ae.flat {x:C} {u:Value} (h:ae cx w r β x u) (hl:live x=true):flat u=true:=by
 cases x with
 |d x=>simp only[ae]at h;exact h.flat
 |aI n ds=>simp only[ae]at h;obtain⟨a,b,rfl,_⟩:=h;rfl
 |own hd lo n=>simp only[ae]at h;exact h.1
 |ptr hd off=>simp only[ae]at h;exact h.1
 |cZ ds=>simp only[ae]at h;obtain⟨a,b,rfl,_⟩:=h;rfl
 |dF f caps=>simp only[ae]at h;obtain⟨us,rfl,_⟩:=h;rfl
 |ab=>simp only[ae]at h;obtain⟨b,rfl⟩:=h;rfl
 |dead=>simp[live]at hl
 |cN cs=>simp only[ae]at h;obtain⟨b,o,us,rfl,_⟩:=h;rfl
 |cP hd lo n k=>simp only[ae]at h;exact h.1
 |lk hd n x=>simp[live]at hl
omit h hc in
theorem Bp {u:Value} (hf:flat u=true):u.cells= #[u]:=by cases u<;>first|rfl|simp[flat]at hf
omit h hc in
theorem jE {y:AV} {u:Value} (h:ak cx w r β y u) (hg:cellsOf y≠[]):ar cx w r β (cellsOf y) u.cells.toList:=by
 cases y with
 |one x=>
  have hx:=ck.1 h;simp only[cellsOf]at hg⊢;split
  .rename_i hl;rw[Bp (hx.flat hl)];simp only[ar];exact⟨u,[],rfl,hx,rfl⟩
  .rename_i hl;simp[hl]at hg
 |agg l=>obtain⟨us,rfl,g⟩:=ec.1 h;simpa[cellsOf,Value.cells]using g
 |eW l=>simp[cellsOf]at hg
 |gd c y=>simp[cellsOf]at hg
omit h hc in
theorem gp:∀{l:List C} {us:List Value},ar cx w r β l us->us.length=l.length
 |[],us,h=>by simp only[ar]at h;simp[h]
 |x::l,us,h=>by simp only[ar]at h;obtain⟨u,us',rfl,_,g⟩:=h;simp[gp g]
omit h hc in
theorem nH:∀{l:List C} {us:List Value},ar cx w r β l us->gP l=true->∀u∈us,flat u=true
 |[],us,h,_,u,hu=>by simp only[ar]at h;simp[h]at hu
 |x::l,us,h,hl,u,hu=>by
  simp only[ar]at h;obtain⟨u',us',rfl,g1,g2⟩:=h;simp only[gP,cg]at hl;rcases dw.1 hu with rfl|hu
  .exact g1.flat hl.1
  .exact nH g2 hl.2 u hu
omit h hc in
theorem tf:∀{ys:List AV} {xs:List C} {us:List Value},iW ys=some xs->aL cx w r β ys us->ar cx w r β xs us
 |[],xs,us,h1,h2=>by simp only[iW,aF]at h1;subst h1;simpa[aL,ar]using h2
 |y::ys,xs,us,h1,h2=>by
  simp only[iW]at h1;split at h1
  .rename_i x xs' g1;cases h1;simp only[aL]at h2;obtain⟨u,us',rfl,g2,g3⟩:=h2;simp only[ar];exact⟨u,us',rfl,ck.1 g2,tf g1 g3⟩
  .cases h1
theorem Dt {f:FuncId} {first caps:Array Operand} (ho:o.op= .makeFunc (.func f) first caps) (hs:(ah T c v r o.dst o.op).sc):
  cd cx v a w (execOp a.eval o) (ah T c v r o.dst o.op).x (ah T c v r o.dst o.op).r:=by
 obtain⟨first⟩:=first
 cases first with
 |cons z zs=>
  simp only[ho,ah];exact .val h (u:= .func (.func f) ((⟨z::zs⟩:Array Operand).map a.eval) (caps.map a.eval)) (by simp[execOp,ho,Instr.makeFunc]) (by simp only[ak,ae,Rd];rfl)
 |nil=>
  simp only[ho,ah]at hs⊢;split at hs
  .rename_i xs h1;simp only[h1];have e1:=iw h hc hs;have e2:=tf h1 e1;refine .val h (u:= .func (.func f) #[] (caps.map a.eval)) (by simp[execOp,ho,Instr.makeFunc]) ?_;simp only[ak,ae];exact⟨_,rfl,by simpa using e2⟩
  .exact hs.elim
end
section
variable {cx:Cx} {v:List AV} {r:Rs} {a:Act} {w w':World} {β:Nat->Nat->Pl}
theorem c6 {r:Rs} {s t:Nat} {y:RS}:af (az s y r) t=if s=t then y.next else af r t:=by
 unfold af;rw[bX];by_cases h:s=t
 .simp[h]
 .simp[h]
theorem dy {r:Rs} {s t j:Nat} {y:RS}:aq (az s y r) t j=if s=t then(match y.l[j]? with|some (some res)=>some res|_=>none)else aq r t j:=by
 unfold aq;rw[bX];by_cases h:s=t
 .simp only[ao h];rfl
 .simp only[aj h]
theorem aw.mk' {r':Rs} {β':Nat->Nat->Pl} (h:aw cx ⟨v,r⟩ a w β) (x:Ext cx w r β w' r' β')
  (rs:∀s j res,aq r' s j=some res->bn cx w' r' β' (β' s j) res/\res.e<af r' s)
  (inj:∀s j res s' j' res' b o o',aq r' s j=some res->res.fz=false->aq r' s' j'=some res'->res'.fz=false->
   (β' s j).base=some (b,o)->(β' s' j').base=some (b,o')->s=s'/\j=j')
  (fr:∀s j res b o,aq r' s j=some res->res.fz=false->(β' s j).base=some (b,o)->(cx.n0≤b∨cx.aH b)/\(res.cf=false->cx.n0≤b))
  (hsz:w.heap.size≤w'.heap.size):aw cx ⟨v,r'⟩ a w' β' where
 sz:=h.sz
 df:=h.df
 sl:=h.Ew x
 rs:=rs
 inj:=inj
 fr:=fr
 n0:=eR h.n0 hsz
 aP:=λ b hb hn=>by rw[x.tp b hb hn];exact h.aP b hb hn
 a0:=h.a0
 cf:=h.cf
 ob:=λ p b hm=>⟨c9 (h.ob p b hm).1 (x.nx p),λ res hg=>by obtain⟨res0,g1,g2,_⟩:=x.aP ⟨p,0,0⟩ res (h.ob p b hm).1 hg;rw[show β' p 0=β p 0 from g2];exact(h.ob p b hm).2 res0 g1⟩
 rw:=λ p n u hm=>(h.rw p n u hm).ext x
 os:=x.os.trans h.os
 out:=x.out.trans h.out
theorem aw.fresh (h:aw cx ⟨v,r⟩ a w β) {d j0:Nat} {L:List (Option aM)} {res0:aM} {pl0:Pl} (hj0:L[j0]? =some (some res0))
  (hL:∀j res,L[j]? =some (some res)->j=j0) (he:res0.e=af r d) (hfz:res0.fz=false)
  (hb:∀b o,pl0.base=some (b,o)->b=w.heap.size)
  (hw:∀b,b<w.heap.size->w'.heap[b]? =w.heap[b]?) (hsz:w.heap.size≤w'.heap.size)
  (hres:∀β',Ext cx w r β w' (az d ⟨af r d+1,L⟩ r) β'->(∀b,b=w.heap.size->¬cx.A0 b)->bn cx w' (az d ⟨af r d+1,L⟩ r) β' pl0 res0)
  (hos:w'.os=w.os/\w'.output=w.output:=by exact⟨rfl,rfl⟩):
  ∃β',aw cx ⟨v,az d ⟨af r d+1,L⟩ r⟩ a w' β'/\β' d j0=pl0/\Ext cx w r β w' (az d ⟨af r d+1,L⟩ r) β':=by
 have hlook:∀j res,aq (az d ⟨af r d+1,L⟩ r) d j=some res->j=j0/\res=res0:=λ j res hl=>by
  rw[dy,ao rfl]at hl;simp only at hl;split at hl
  .rename_i res' hj;cases hl;have:=hL j _ hj;subst this;rw[hj0]at hj;cases hj;exact⟨rfl,rfl⟩
  .cases hl
 have hlook2:∀s j,s≠d->aq (az d ⟨af r d+1,L⟩ r) s j=aq r s j:=λ s j hs=>by rw[dy,aj (du hs)]
 have hOBlt:∀s j res b o,aq r s j=some res->(β s j).base=some (b,o)->b<w.heap.size:=λ s j res b o hl hbs=>(h.rs s j res hl).1.lt hbs
 let β':Nat->Nat->Pl:=λ s j=>if s=d then(if j=j0 then pl0 else⟨none,0⟩)else β s j
 have hβ0:β' d j0=pl0:=by simp[β']
 have hβ1:∀s j,s≠d->β' s j=β s j:=λ s j hs=>by simp[β',hs]
 have hx:Ext cx w r β w' (az d ⟨af r d+1,L⟩ r) β':=by
  refine⟨λ s=> ?_,λ hd res' hlt hg=> ?_,⟨λ b hb' _=>hw b hb',λ b hb' hA=> ?_⟩,λ b hb' hn=>hw b (c9 hb' h.n0),hos.1,hos.2⟩
  .rw[c6];split
   .rename_i hs;subst hs;exact kB _
   .exact Nat.le_refl _
  .obtain⟨hl,hee⟩:=bh hg;by_cases hs:hd.s=d
   .rw[hs]at hl;obtain⟨_,rfl⟩:=hlook _ _ hl;rw[hs]at hlt;omega
   .rw[hlook2 _ _ hs]at hl;exact⟨res',dH hl hee,hβ1 _ _ hs,rfl,rfl,Nat.le_refl _⟩
  .rcases hA with hA|⟨s,j,res,o,hl,hf,hbs⟩
   .exact .inl hA
   .by_cases hs:s=d
    .subst hs;obtain⟨rfl,rfl⟩:=hlook _ _ hl;rw[hβ0]at hbs;have:=hb _ _ hbs;omega
    .rw[hlook2 _ _ hs]at hl;rw[hβ1 _ _ hs]at hbs;exact .inr ⟨s,j,res,o,hl,hf,hbs⟩
 have hA0:∀b,b=w.heap.size->¬cx.A0 b:=λ b hb' hA=>by have h1:=h.a0 b hA;have h2:=h.n0;omega
 refine⟨β',h.mk' hx (λ s j res hl=> ?_) (λ s j res s' j' res' b o o' hl hf hl' hf' hbs hbs'=> ?_) (λ s j res b o hl hf hbs=> ?_) hsz,hβ0,hx⟩
 .by_cases hs:s=d
  .subst hs;obtain⟨rfl,rfl⟩:=hlook _ _ hl;rw[hβ0];exact⟨hres β' hx hA0,by rw[c6,ao rfl,he];exact eH _⟩
  .rw[hlook2 _ _ hs]at hl;rw[hβ1 _ _ hs];obtain⟨g1,g2⟩:=h.rs s j res hl;exact⟨g1.ext hx (λ b o hbs=>hw b (g1.lt hbs)) (λ b o hbs=>g1.lt hbs),by rw[c6,aj (du hs)];exact g2⟩
 .by_cases hs:s=d<;>by_cases hs':s'=d
  .subst hs;subst hs';obtain⟨rfl,rfl⟩:=hlook _ _ hl;obtain⟨rfl,rfl⟩:=hlook _ _ hl';exact⟨rfl,rfl⟩
  .subst hs;obtain⟨rfl,rfl⟩:=hlook _ _ hl;rw[hlook2 _ _ hs']at hl';rw[hβ1 _ _ hs']at hbs';rw[hβ0]at hbs;have h1:=hb _ _ hbs;have h2:=hOBlt _ _ _ _ _ hl' hbs';omega
  .subst hs';obtain⟨rfl,rfl⟩:=hlook _ _ hl';rw[hlook2 _ _ hs]at hl;rw[hβ1 _ _ hs]at hbs;rw[hβ0]at hbs';have h1:=hb _ _ hbs';have h2:=hOBlt _ _ _ _ _ hl hbs;omega
  .rw[hlook2 _ _ hs]at hl;rw[hlook2 _ _ hs']at hl';rw[hβ1 _ _ hs]at hbs;rw[hβ1 _ _ hs']at hbs';exact h.inj _ _ _ _ _ _ _ _ _ hl hf hl' hf' hbs hbs'
 .by_cases hs:s=d
  .subst hs;obtain⟨rfl,rfl⟩:=hlook _ _ hl;rw[hβ0]at hbs;have:=hb _ _ hbs;have h2:=h.n0;exact⟨.inl (by omega),λ _=>by omega⟩
  .rw[hlook2 _ _ hs]at hl;rw[hβ1 _ _ hs]at hbs;exact h.fr _ _ _ _ _ hl hf hbs
theorem aw.vz (h:aw cx ⟨v,r⟩ a w β):∀s j res,aq r s j=some res->res.fz=true->res.var=false:=λ s j res hl hf=>by
 have hok:=(h.rs _ _ _ hl).1;unfold bn at hok;cases hv:res.var with
 |false=>rfl
 |true=>rw[ao hv]at hok;rw[hok.1]at hf;cases hf
theorem aw.other (h:aw cx ⟨v,r⟩ a w β) {s j s' j':Nat} {res res':aM} {b o o':Nat} (hl:aq r s j=some res) (hf:res.fz=false)
  (hbs:(β s j).base=some (b,o)) (hl':aq r s' j'=some res') (hbs':(β s' j').base=some (b,o')):s=s'/\j=j':=by
 cases hf':res'.fz with
 |false=>exact h.inj _ _ _ _ _ _ _ _ _ hl hf hl' hf' hbs hbs'
 |true=>
  have hok:=(h.rs _ _ _ hl').1;unfold bn at hok;rw[aj (by simp[h.vz _ _ _ hl' hf'])]at hok;obtain⟨_,_,_,g⟩:=hok;exact absurd (Or.inr ⟨s,j,res,o,hl,hf,hbs⟩) (g hf' b o' hbs')
theorem aw.j8 (h:aw cx ⟨v,r⟩ a w β) {s j:Nat} {res res':aM} {rs:RS} {next':Nat} {pl':Pl} (hrs:aa s r=some rs) (hl:rs.l[j]? =some (some res))
  (hn:rs.next≤next') (he':res'.e<next') (hbor:res'.cf=res.cf)
  (hep:(res'.e=res.e/\pl'=β s j/\res'.var=res.var/\res'.sz=res.sz/\res.cells.length≤res'.cells.length)∨rs.next≤res'.e)
  (hfz:res'.fz=false->res.fz=false)
  (hpl:∀b o,pl'.base=some (b,o)->(∃o',(β s j).base=some (b,o'))∨(w.heap.size≤b))
  (hw:∀b,b<w.heap.size->(∀o,(β s j).base≠some (b,o))∨res.fz=true->w'.heap[b]? =w.heap[b]?)
  (hsz:w.heap.size≤w'.heap.size)
  (hres:∀β',β' s j=pl'->Ext cx w r β w' (az s ⟨next',rs.l.set j (some res')⟩ r) β'->
   (res'.fz=true->∀b o,pl'.base=some (b,o)->OB (az s ⟨next',rs.l.set j (some res')⟩ r) β' b->False)->
   bn cx w' (az s ⟨next',rs.l.set j (some res')⟩ r) β' pl' res')
  (hos:w'.os=w.os/\w'.output=w.output:=by exact⟨rfl,rfl⟩):
  ∃β',aw cx ⟨v,az s ⟨next',rs.l.set j (some res')⟩ r⟩ a w' β'/\β' s j=pl'/\(∀t k,¬(t=s/\k=j)->β' t k=β t k)/\
   Ext cx w r β w' (az s ⟨next',rs.l.set j (some res')⟩ r) β':=by
 have hlk:aq r s j=some res:=by unfold aq;simp only[hrs,hl]
 have hjlt:j<rs.l.length:=(bq.1 hl).1;have hsame:aq (az s ⟨next',rs.l.set j (some res')⟩ r) s j=some res':=by rw[dy,ao rfl];simp[hjlt]
 have hother:∀t k,¬(t=s/\k=j)->aq (az s ⟨next',rs.l.set j (some res')⟩ r) t k=aq r t k:=λ t k hne=>by
  rw[dy];by_cases ht:s=t
  .subst ht;rw[ao rfl];have hk:j≠k:=λ e=>hne ⟨rfl,e.symm⟩
   simp only[fV hk];unfold aq;simp only[hrs];rfl
  .rw[aj ht]
 let β':Nat->Nat->Pl:=λ t k=>if t=s/\k=j then pl' else β t k
 have hβ0:β' s j=pl':=by simp[β']
 have hβ1:∀t k,¬(t=s/\k=j)->β' t k=β t k:=λ t k hne=>by simp only[β',aj hne]
 have hnx:af r s=rs.next:=by unfold af;simp only[hrs]
 have hOB:∀b,b<w.heap.size->OB (az s ⟨next',rs.l.set j (some res')⟩ r) β' b->OB r β b:=by
  rintro b hb' ⟨t,k,q,o,hq,hqf,hqb⟩
  by_cases hne:t=s/\k=j
  .obtain⟨rfl,rfl⟩:=hne;rw[hsame]at hq;cases hq;rw[hβ0]at hqb;rcases hpl b o hqb with⟨o',ho'⟩|hge
   .exact⟨_,_,res,o',hlk,hfz hqf,ho'⟩
   .omega
  .rw[hother _ _ hne]at hq;rw[hβ1 _ _ hne]at hqb;exact⟨t,k,q,o,hq,hqf,hqb⟩
 have hkeep:∀b,b<w.heap.size->¬Av cx r β b->w'.heap[b]? =w.heap[b]? :=λ b hb' hA=>by
  by_cases hf:res.fz=true
  .exact hw b hb' (.inr hf)
  .refine hw b hb' (.inl λ o ho=>hA (.inr ⟨s,j,res,o,hlk,by simpa using hf,ho⟩))
 have hx:Ext cx w r β w' (az s ⟨next',rs.l.set j (some res')⟩ r) β':=by
  refine⟨λ t=> ?_,λ hd q hlt hg=> ?_,⟨hkeep,λ b hb' hA=> ?_⟩,λ b hb' hnb=> ?_,hos.1,hos.2⟩
  .rw[c6];split
   .rename_i e;subst e;rw[hnx];exact hn
   .exact Nat.le_refl _
  .obtain⟨g1,g2⟩:=bh hg;by_cases hne:hd.s=s/\hd.j=j
   .rw[hne.1,hne.2,hsame]at g1;cases g1;rw[hne.1,hnx]at hlt;rcases hep with⟨p1,p2,p3,p4,p5⟩|p
    .exact⟨res,dH (by rw[hne.1,hne.2];exact hlk) (by omega),by rw[hne.1,hne.2,hβ0,p2],p3,p4,p5⟩
    .omega
   .rw[hother _ _ hne]at g1;exact⟨q,dH g1 g2,hβ1 _ _ hne,rfl,rfl,Nat.le_refl _⟩
  .rcases hA with hA|hA
   .exact .inl hA
   .exact .inr (hOB b hb' hA)
  .by_cases hf:res.fz=true
   .exact hw b (c9 hb' h.n0) (.inr hf)
   .refine hw b (c9 hb' h.n0) (.inl λ o ho=> ?_);rcases(h.fr _ _ _ _ _ hlk (by simpa using hf) ho).1 with h1|h1
    .omega
    .exact hnb h1
 have hblk:∀t k q,¬(t=s/\k=j)->aq r t k=some q->∀b o,(β t k).base=some (b,o)->w'.heap[b]? =w.heap[b]? :=λ t k q hne hq b o hbs=>by
  have hlt:=(h.rs t k q hq).1.lt hbs;by_cases hf:res.fz=true
  .exact hw b hlt (.inr hf)
  .refine hw b hlt (.inl λ o' ho'=> ?_);obtain⟨e1,e2⟩:=h.other hlk (by simpa using hf) ho' hq hbs;exact hne ⟨e1.symm,e2.symm⟩
 refine⟨β',h.mk' hx (λ t k q hq=> ?_) (λ t k q t' k' q' b o o' hq hqf hq' hqf' hb1 hb2=> ?_) (λ t k q b o hq hqf hb1=> ?_) hsz,hβ0,hβ1,hx⟩
 .by_cases hne:t=s/\k=j
  .obtain⟨rfl,rfl⟩:=hne;rw[hsame]at hq;cases hq;rw[hβ0];refine⟨hres β' hβ0 hx λ hf b o hbs hob=> ?_,by rw[c6,ao rfl];exact he'⟩;obtain⟨t',k',q,o',hq,hqf,hqb⟩:=hob;by_cases hne2:t'=t/\k'=k
   .obtain⟨rfl,rfl⟩:=hne2;rw[hsame]at hq;cases hq;rw[hf]at hqf;cases hqf
   .rw[hother _ _ hne2]at hq;rw[hβ1 _ _ hne2]at hqb;have hlt:=(h.rs _ _ _ hq).1.lt hqb;rcases hpl b o hbs with⟨o2,ho2⟩|hge
    .exact hne2 (h.other hq hqf hqb hlk ho2)
    .omega
  .rw[hother _ _ hne]at hq;rw[hβ1 _ _ hne];obtain⟨g1,g2⟩:=h.rs t k q hq;refine⟨g1.ext hx (hblk t k q hne hq) (λ b o hbs=>g1.lt hbs),c9 g2 (hx.nx t)⟩
 .have key:∀t k q b o o',¬(t=s/\k=j)->aq r t k=some q->q.fz=false->(β t k).base=some (b,o)->res'.fz=false->pl'.base=some (b,o')->False:=
   λ t k q b o o' hne hq hqf hb1 hf hb2=>by
    have hlt:=(h.rs _ _ _ hq).1.lt hb1;rcases hpl b o' hb2 with⟨o2,ho2⟩|hge
    .exact hne (h.inj _ _ _ _ _ _ _ _ _ hq hqf hlk (hfz hf) hb1 ho2)
    .omega
  by_cases hne:t=s/\k=j<;>by_cases hne':t'=s/\k'=j
  .exact⟨by rw[hne.1,hne'.1],by rw[hne.2,hne'.2]⟩
  .rw[hne.1,hne.2,hsame]at hq;cases hq;rw[hother _ _ hne']at hq';rw[hβ1 _ _ hne']at hb2;rw[hne.1,hne.2,hβ0]at hb1;exact(key _ _ _ _ _ _ hne' hq' hqf' hb2 hqf hb1).elim
  .rw[hne'.1,hne'.2,hsame]at hq';cases hq';rw[hother _ _ hne]at hq;rw[hβ1 _ _ hne]at hb1;rw[hne'.1,hne'.2,hβ0]at hb2;exact(key _ _ _ _ _ _ hne hq hqf hb1 hqf' hb2).elim
  .rw[hother _ _ hne]at hq;rw[hβ1 _ _ hne]at hb1;rw[hother _ _ hne']at hq';rw[hβ1 _ _ hne']at hb2;exact h.inj _ _ _ _ _ _ _ _ _ hq hqf hq' hqf' hb1 hb2
 .by_cases hne:t=s/\k=j
  .rw[hne.1,hne.2,hsame]at hq;cases hq;rw[hne.1,hne.2,hβ0]at hb1;rcases hpl b o hb1 with⟨o2,ho2⟩|hge
   .have:=h.fr _ _ _ _ _ hlk (hfz hqf) ho2;rw[hbor];exact this
   .have:=h.n0;exact⟨.inl (by omega),λ _=>by omega⟩
  .rw[hother _ _ hne]at hq;rw[hβ1 _ _ hne]at hb1;exact h.fr _ _ _ _ _ hq hqf hb1
theorem eE:∀(l:List D),cQ (l.map C.d)=some l
 |[]=>rfl
 |d::l=>by simp only[fF,cQ,C.jC,eE l]
theorem gN {lo n sz:Nat} {l:List D}:sub lo n sz (l.map C.d)=((l.drop (lo*sz)).take (n*sz)).map C.d:=by simp[sub,List.map_drop,List.map_take]
theorem qc {A:Nat->Prop} {d:D} {u:Value} (h:Rd w A d u):Rd w A (lQ d) u:=by
 unfold lQ;split
 .simp only[Rd]at h⊢;obtain⟨rfl,_⟩:=h;exact⟨none,0,rfl,Nat.le_refl _,by simp[ek]⟩
 .exact h
theorem lu {pl:Pl} {res:aM} {lo n:Nat} {u:Value} {A Tp:Nat->Prop} {ds:List D} (ho:hE pl res lo n u) (hm:bL w A pl res.sz ds)
  (hcells:res.cells=ds.map C.d) (hTp:∀b o,pl.base=some (b,o)->Tp b):
  ∃a cap,u= .slice a n cap/\n≤cap/\ba w A Tp ((ds.drop (lo*res.sz)).take (n*res.sz)) a:=by
 obtain⟨_,h2,h3,ad,h4,h5⟩:=ho;refine⟨ad,_,h4,by omega, ?_⟩;by_cases hz:pl.cap - lo=0
 .have:n=0:=by omega
  simp[this,ba]
 .obtain⟨b,o,hb,rfl⟩:=h5.resolve_left hz;simp only[bL,hb]at hm;obtain⟨c,e,g1,_,_,g4⟩:=hm;refine ba.take (ba.mk (hTp b o hb) λ k d hk=> ?_);rw[kG]at hk;obtain⟨x,p1,p2⟩:=g4 _ _ hk;exact⟨x,by rw[nY g1,cq];exact p1,p2⟩
theorem qg {pl:Pl} {res:aM} {lo n k:Nat} {ad:Option Addr} {A Tp:Nat->Prop} {ds:List D} (hk:lo+n≤k) (hp:pl.cap=k/\(k - lo=0∨∃b o,pl.base=some (b,o)/\ad=some ⟨b,o+lo*res.sz,none⟩))
  (hm:bL w A pl res.sz ds) (hT:∀b o,pl.base=some (b,o)->Tp b):ba w A Tp ((ds.drop (lo*res.sz)).take (n*res.sz)) ad:=by
 obtain⟨hc,hp⟩:=hp;rcases hp with hz|⟨b,o,hb,rfl⟩
 .have:n=0:=by omega
  subst this;simp[ba]
 .simp only[bL,hb]at hm;obtain⟨c,e,h1,h2,h3,h4⟩:=hm;refine ba.take (ba.mk (hT b o hb) λ j d hj=> ?_);rw[kG]at hj;obtain⟨u,g1,g2⟩:=h4 _ _ hj;exact⟨u,by unfold World.cell?;simp only[h1];rw[show o+lo*res.sz+j=o+(lo*res.sz+j) by omega];exact g1,g2⟩
theorem bn.row {pl:Pl} {res:aM} (h:bn cx w r β pl res) (hv:res.var=false):
  ∃ds:List D,res.cells=ds.map C.d/\bL w (Av cx r β) pl res.sz ds/\(res.fz=true->∀b o,pl.base=some (b,o)->¬Av cx r β b):=by
 unfold bn at h
 rwa[aj (by simp[hv])]at h
theorem CZ (h:aw cx ⟨v,r⟩ a w β) {x:C} {d:D} {r':Rs} {u:Value} (hs:gV r x=some (d,r')) (hu:ae cx w r β x u):
  ∃β',aw cx ⟨v,r'⟩ a w β'/\Ext cx w r β w r' β'/\Rd w (Av cx r' β') d u:=by
 unfold gV at hs;split at hs
 .cases hs;exact⟨β,h,⟨λ _=>Nat.le_refl _,λ hd res' _ hg=>⟨res',hg,rfl,rfl,rfl,Nat.le_refl _⟩,eV.rfl,λ _ _ _=>rfl,rfl,rfl⟩,by simp only[ae]at hu;exact qc hu⟩
 .rename_i hd lo n;split at hs
  .rename_i res rs g1 g2;split at hs
   .cases hs
   .rename_i hbor;split at hs
    .rename_i ds g3;cases hs;simp only[ae]at hu;have hown:=hu.2.2 res g1;obtain⟨hl,he⟩:=bh g1;have hok:=h.rs _ _ _ hl;obtain⟨ds0,k1,k2,k3⟩:=hok.1.row hown.1;have hj:rs.l[hd.j]? =some (some res):=by
      unfold aq at hl;simp only[g2]at hl;split at hl
      .rename_i q hq;cases hl;exact hq
      .cases hl
     have hnx:af r hd.s=rs.next:=by unfold af;simp only[g2]
     have hlt:res.e<rs.next:=by rw[←hnx];exact hok.2
     obtain⟨β',q1,q2,q3,q4⟩:=h.j8 (w':=w) (res':={res with fz:=true}) (pl':=β hd.s hd.j) g2 hj (Nat.le_refl _) hlt rfl (.inl ⟨rfl,rfl,rfl,rfl,Nat.le_refl _⟩)
      (λ hf=>by cases hf) (λ b o hb=> .inl ⟨o,hb⟩) (λ _ _ _=>rfl) (Nat.le_refl _)
      (λ β' e1 e2 e3=>by
       have hok2:=hok.1.ext e2 (λ _ _ _=>rfl) (λ b o hb=>hok.1.lt hb);unfold bn at hok2⊢;rw[aj (by simp[hown.1])]at hok2⊢;obtain⟨ds1,p1,p2,p3⟩:=hok2;refine⟨ds1,p1,p2,λ _ b o hb hA=> ?_⟩;rcases hA with hA|hA
       .cases hf:res.fz with
        |true=>exact k3 hf b o hb (.inl hA)
        |false=>
         have:=(h.fr _ _ _ _ _ hl hf hb).2 (by simpa using hbor);have h2:=h.a0 b hA;omega
       .exact e3 rfl b o hb hA)
     refine⟨β',q1,q4, ?_⟩;rw[k1,gN,eE]at g3;cases g3
     have hok3:=q1.rs hd.s hd.j {res with fz:=true} (by rw[dy,ao rfl];simp[(bq.1 hj).1])
     rw[q2]at hok3;obtain⟨ds2,p1,p2,p3⟩:=hok3.1.row hown.1;have hds:ds2=ds0:=by
      have e1:ds2.map C.d=ds0.map C.d:=by rw[←p1,←k1]
      have e2:=congrArg cQ e1;rw[eE,eE]at e2;cases e2;rfl
     subst hds;obtain⟨ad,cap,m1,m2,m3⟩:=lu (Tp:=λ b=>¬Av cx _ β' b) hown p2 k1 (λ b o hb=>p3 rfl b o hb);simp only[Rd];exact⟨ad,cap,m1,m2,fS.2 m3⟩
    .cases hs
  .cases hs
 .cases hs
theorem nZ:∀{xs:List C} {ds:List D} {r r':Rs} {us:List Value} {β:Nat->Nat->Pl},aw cx ⟨v,r⟩ a w β->eG r xs=some (ds,r')->ar cx w r β xs us->
  ∃β',aw cx ⟨v,r'⟩ a w β'/\Ext cx w r β w r' β'/\ds.length=us.length/\∀(k:Nat) (d:D),ds[k]? =some d->∃u,us[k]? =some u/\Rd w (Av cx r' β') d u
 |[],ds,r,r',us,β,h,hs,hu=>by simp only[eG,aF,gU]at hs;obtain⟨rfl,rfl⟩:=hs;simp only[ar]at hu;exact⟨β,h,⟨λ _=>Nat.le_refl _,λ hd res' _ hg=>⟨res',hg,rfl,rfl,rfl,Nat.le_refl _⟩,eV.rfl,λ _ _ _=>rfl,rfl,rfl⟩,by simp[hu],λ k d hk=>by simp at hk⟩
 |x::xs,ds,r,r',us,β,h,hs,hu=>by
  simp only[eG]at hs;split at hs
  .rename_i d r1 g1;split at hs
   .rename_i ds' r2 g2;simp only[aF,gU]at hs;obtain⟨rfl,rfl⟩:=hs;simp only[ar]at hu;obtain⟨u,us',rfl,e1,e2⟩:=hu;obtain⟨β1,p1,p2,p3⟩:=CZ h g1 e1;obtain⟨β2,q1,q2,q3,q4⟩:=nZ p1 g2 (e2.ext p2);refine⟨β2,q1, ?_,by simp[q3],λ k d' hk=> ?_⟩
    .refine⟨λ s=>eR (p2.nx s) (q2.nx s),λ hd res' hlt hg=> ?_,⟨λ _ _ _=>rfl,λ b hb hA=>p2.st.av b hb (q2.st.av b hb hA)⟩,λ _ _ _=>rfl,rfl,rfl⟩;obtain⟨m1,m2,m3,m4,m5,m6⟩:=q2.aP hd res' (c9 hlt (p2.nx _)) hg;obtain⟨n1,n2,n3,n4,n5,n6⟩:=p2.aP hd m1 hlt m2;exact⟨n1,n2,by rw[m3,n3],by rw[m4,n4],by rw[m5,n5],eR n6 m6⟩
    .cases k with
     |zero=>
      simp only[bG,aF]at hk;subst hk;exact⟨u,by simp,p3.bC q2.st⟩
     |succ k=>simpa using q4 k d' (by simpa using hk)
   .cases hs
  .cases hs
end
section
variable {cx:Cx} {v:List AV} {r:Rs} {a:Act} {w:World} {β:Nat->Nat->Pl} {T:Nat->Option TI} {c:Bool}
theorem pQ:∀{us:List Value},(∀u∈us,flat u=true)->ar cx w r β (us.map λ v=>C.d (.v v)) us
 |[],_=>by simp[ar]
 |u::us,h=>by simp only[fF,ar];exact⟨u,us,rfl,dN.2 ⟨rfl,h u (by simp)⟩,pQ λ u' hu=>h u' (by simp[hu])⟩
theorem lq (w:World) (o:Obj):(w.alloc o).heap[w.heap.size]? =some o:=heap_alloc_new w o
theorem il (w:World) (o:Obj) {b:Nat} (h:b<w.heap.size):(w.alloc o).heap[b]? =w.heap[b]? :=heap_alloc_old w o b h
variable (hT:bx cx.P T) (h:aw cx ⟨v,r⟩ a w β) (hc:c=true) {o:Oper}
include h hc
include hT in
theorem CG {t:TypeId} (ho:o.op= .alloc t) (hs:(ah T c v r o.dst o.op).sc):
  cd cx v a w (execOp a.eval o) (ah T c v r o.dst o.op).x (ah T c v r o.dst o.op).r:=by
 simp only[ho,ah]at hs⊢;split at hs
 .rename_i ti d h1 h2
  try simp only[h1,h2]
  have hty:=(hT t ti h1).1;obtain⟨z,e1,e2⟩:=hty.lj w;obtain⟨β',q1,q2,q3⟩:=h.fresh (d:=d) (j0:=0) (L:=some {e:=af r d,var:=true,fz:=false,sz:=0,cells:=lN ti}::List.replicate ti.zero.length none)
   (pl0:=⟨some (w.heap.size,0),0⟩) (w':=w.alloc (.cells z.cells t (0,0))) rfl
   (λ j res hj=>by
    cases j with
    |zero=>rfl
    |succ j=>
     simp only[fI,o6]at hj;split at hj<;>cases hj) rfl rfl
   (λ b o hb=>by cases hb;rfl) (λ b hb=>il w _ hb) (by simp)
   (λ β' hx hA=>by unfold bn;rw[ao rfl];exact⟨rfl,w.heap.size,z.cells,t,rfl,lq w _,by rw[e2];exact pQ hty.flat,λ u hu=>hty.flat u (by rw[←e2];exact hu)⟩)
  refine⟨_,_,β', .pointer (some ⟨w.heap.size,0,none⟩), ?_, .inl rfl,q1, ?_⟩
  .simp[execOp,ho,Instr.alloc,e1,newVar,newRow]
  .simp only[ak,ae];refine⟨rfl,by rw[c6,ao rfl];exact eH _,λ res hr=>⟨w.heap.size,0,by rw[q2],by simp⟩⟩
 .exact hs.elim
omit h hc in
theorem vn {A:Nat->Prop} {w:World} {ds:List D} {us:List Value} {e sz n:Nat} (hlen:ds.length=us.length) (hn:us.length=n*sz)
  (hd:∀(k:Nat) (d:D),ds[k]? =some d->∃u,us[k]? =some u/\Rd (w.alloc (.cells us.toArray e (0,0))) A d u):
  bL (w.alloc (.cells us.toArray e (0,0))) A ⟨some (w.heap.size,0),n⟩ sz ds:=by
 simp only[bL];refine⟨us.toArray,e,lq w _,by simp[hn],by omega,λ k d hk=> ?_⟩;obtain⟨u,g1,g2⟩:=hd k d hk;exact⟨u,by simpa using g1,g2⟩
omit h hc in
theorem jH {w:World} {r:Rs} {β:Nat->Nat->Pl} {pl:Pl} {res:aM} {ds:List D} (hv:res.var=false) (hc:res.cells=ds.map C.d) (hf:res.fz=false)
  (hm:bL w (Av cx r β) pl res.sz ds):bn cx w r β pl res:=by
 unfold bn;rw[aj (by simp[hv])];exact⟨ds,hc,hm,λ h=>by rw[hf]at h;cases h⟩
theorem mc {d n sz:Nat} {ds:List D} {pl0:Pl} {w':World}
  (hb:∀b o,pl0.base=some (b,o)->b=w.heap.size)
  (hw:∀b,b<w.heap.size->w'.heap[b]? =w.heap[b]?) (hsz:w.heap.size≤w'.heap.size)
  (hlen:n*sz≤ds.length) (hcap:n≤pl0.cap)
  (hm:∀A',(∀b,b<w.heap.size->A' b->Av cx r β b)->bL w' A' pl0 sz ds)
  (hos:w'.os=w.os/\w'.output=w.output:=by exact⟨rfl,rfl⟩):
  ∃β',aw cx ⟨v,az d ⟨af r d+1,[none,some {e:=af r d,var:=false,fz:=false,sz:=sz,cells:=ds.map C.d}]⟩ r⟩ a w' β'/\
   ak cx w' (az d ⟨af r d+1,[none,some {e:=af r d,var:=false,fz:=false,sz:=sz,cells:=ds.map C.d}]⟩ r) β' (.one (.own ⟨d,1,af r d⟩ 0 n))
    (.slice (pl0.base.map λ p=>⟨p.1,p.2,none⟩) n pl0.cap):=by
 obtain⟨β',q1,q2,q3⟩:=h.fresh (d:=d) (j0:=1) (L:=[none,some {e:=af r d,var:=false,fz:=false,sz:=sz,cells:=ds.map C.d}])
  (pl0:=pl0) (w':=w') rfl
  (λ j res hj=>by
   match j with
   |0=>simp at hj
   |1=>rfl
   |j+2=>simp at hj) rfl rfl hb hw hsz
  (λ β' hx hA=>jH rfl rfl rfl (hm _ hx.st.av)) hos
 refine⟨β',q1, ?_⟩;simp only[ak,ae];refine⟨rfl,by rw[c6,ao rfl];exact eH _,λ res hr=> ?_⟩;obtain⟨hl,_⟩:=bh hr;rw[dy,ao rfl]at hl;simp only[fI,bG,aF]at hl;subst hl;rw[q2];refine⟨rfl,by simpa using hlen,by omega,_,rfl, ?_⟩;cases hp:pl0.base with
 |none=>
  have:=hm (λ _=>False) (λ _ _ h=>h.elim);simp only[bL,hp]at this;exact .inl (by omega)
 |some p=>exact .inr ⟨p.1,p.2,rfl,by simp⟩
end
section
variable {cx:Cx} {v:List AV} {r:Rs} {a:Act} {w:World} {β:Nat->Nat->Pl} {T:Nat->Option TI} {c:Bool}
theorem AZ {u:Value} (h:flat u=true):u.oneCell'=true:=by cases u<;>first|rfl|simp[flat]at h
theorem ka {P:Program} {b e:Nat}:∀(us:List Value) (w:World) (off i:Nat) (cs:Array Value),w.heap[b]? =some (.cells cs e (0,0))->off+i+us.length≤cs.size->
  (∀u∈us,flat u=true)->∃w' cs',(storeCells ⟨b,off,none⟩ us i).run P w= .ok () w'/\w'.heap[b]? =some (.cells cs' e (0,0))/\cs'.size=cs.size/\
   (∀k,k<us.length->cs'[off+i+k]? =us[k]?)/\(∀k,k<off+i∨off+i+us.length≤k->cs'[k]? =cs[k]?)/\
   (∀b',b'≠b->w'.heap[b']? =w.heap[b']?)/\w'.heap.size=w.heap.size/\w'.os=w.os/\w'.output=w.output
 |[],w,off,i,cs,hb,_,_=>⟨w,cs,by simp[storeCells],hb,rfl,λ k hk=>by simp at hk,λ _ _=>rfl,λ _ _=>rfl,rfl,rfl,rfl⟩
 |u::us,w,off,i,cs,hb,hlen,hf=>by
  simp only[dK]at hlen;have hlt:off+i<cs.size:=by omega
  have hcell:w.cell? ⟨b,off+i,none⟩=some cs[off+i]:=by rw[nY hb];simp[hlt]
  have hfr:w.frozen? ⟨b,off+i,none⟩=false:=frozen_of_row w b (off+i) cs e hb;have hb':(w.setCell ⟨b,off+i,none⟩ u).heap[b]? =some (.cells (cs.setIfInBounds (off+i) u) e (0,0)):=heap_setCell_same w b (off+i) cs e u hb;obtain⟨w',cs',h1,h2,h3,h4,h5,h6,h7⟩:=ka (P:=P) us (w.setCell ⟨b,off+i,none⟩ u) off (i+1) _ hb' (by simp;omega) (λ u' hu=>hf u' (by simp[hu]));refine⟨w',cs', ?_,h2,by simpa using h3,λ k hk=> ?_,λ k hk=> ?_,λ b' hne=> ?_,by simpa using h7.1,h7.2⟩
  .simp only[storeCells,eS,gJ];rw[run_store P w _ u .plain (AZ (hf u (by simp)))];simp only[hcell,hfr,lP,jm,dZ];exact h1
  .cases k with
   |zero=>
    rw[h5 _ (.inl (by omega))];simp[hlt]
   |succ k=>
    have:=h4 k (by simpa using hk);rw[show off+i+(k+1)=off+(i+1)+k by omega,this];simp
  .rw[h5 k (by simp only[dK]at hk;omega)];rw[Array.getElem?_setIfInBounds_ne (by simp only[dK]at hk;omega)]
  .rw[h6 b' hne];exact heap_setCell_other w _ b' u hne
theorem uZ {A Tp:Nat->Prop}:∀{ds:List D} {b o:Nat},ba w A Tp ds (some ⟨b,o,none⟩)->
  ∃us:List Value,us.length=ds.length/\(∀j u,us[j]? =some u->w.cell? ⟨b,o+j,none⟩=some u)/\
   (∀(k:Nat) (d:D),ds[k]? =some d->∃u,us[k]? =some u/\Rd w A d u)/\∀u∈us,flat u=true
 |[],b,o,_=>⟨[],rfl,λ j u hj=>by simp at hj,λ k d hk=>by simp at hk,λ u hu=>by simp at hu⟩
 |d::ds,b,o,h=>by
  obtain⟨b',o',u,e1,_,e2,e3,e4⟩:=h;cases e1;obtain⟨us,g1,g2,g3,g4⟩:=uZ e4;refine⟨u::us,by simp[g1],λ j u' hj=> ?_,λ k d' hk=> ?_,λ u' hu=> ?_⟩
  .cases j with
   |zero=>simp only[bG,aF]at hj;subst hj;simpa using e2
   |succ j=>have:=g2 j u' (by simpa using hj);rwa[cq,gW 1 j]at this
  .cases k with
   |zero=>simp only[bG,aF]at hk;subst hk;exact⟨u,by simp,e3⟩
   |succ k=>simpa using g3 k d' (by simpa using hk)
  .rcases dw.1 hu with rfl|hu
   .exact e3.flat
   .exact g4 u' hu
theorem mb {A Tp:Nat->Prop} {P:Program} {ds:List D} {ad:Option Addr} {n cap m size:Nat} (h:ba w A Tp ds ad) (hlen:ds.length=m*size):
  ∃us:List Value,us.length=ds.length/\(Builtin.firstCells size m (.slice ad n cap)).run P w= .ok us.toArray w/\
   (∀(k:Nat) (d:D),ds[k]? =some d->∃u,us[k]? =some u/\Rd w A d u)/\∀u∈us,flat u=true:=by
 by_cases hds:ds=[]
 .subst hds;refine⟨[],rfl, ?_,λ k d hk=>by simp at hk,λ u hu=>by simp at hu⟩;simp only[jq]at hlen;cases ad with
  |none=>simp[Builtin.firstCells]
  |some ad=>simp[Builtin.firstCells,←hlen,loadCells,loadCellsFrom]
 .obtain⟨b,o,rfl⟩:=h.addr hds;obtain⟨us,g1,g2,g3,g4⟩:=uZ h;refine⟨us,g1, ?_,g3,g4⟩;have:=run_loadCells_list (P:=P) w ⟨b,o,none⟩ us (λ j u hj=>by rw[gJ];exact g2 j u hj);rw[g1,hlen]at this;simpa[Builtin.firstCells]using this
theorem kX (h:aw cx ⟨v,r⟩ a w β) {x:C} {u:Value} {n:Nat} {ds:List D} (hx:ae cx w r β x u) (hr:rowOf r x=some (n,ds)):
  ∃ad cap,u= .slice ad n cap/\n≤cap/\ba w (Av cx r β) (λ _=>True) ds ad:=by
 unfold rowOf at hr;split at hr
 .cases hr;simp only[ae,Rd]at hx;obtain⟨ad,cap,h1,h2,h3⟩:=hx;exact⟨ad,cap,h1,h2,(fS.1 h3).imp λ _ _=>trivial⟩
 .cases hr;exact⟨none,0,(dN.1 hx).1,Nat.le_refl _,trivial⟩
 .cases hr;simp only[ae]at hx;obtain⟨ad,cap,h1,h2,h3⟩:=hx;exact⟨ad,cap,h1,h2,h3.imp λ _ _=>trivial⟩
 .rename_i hd lo n';split at hr
  .rename_i res g1;split at hr
   .rename_i ds' g2;cases hr;simp only[ae]at hx;have hown:=hx.2.2 res g1;obtain⟨hl,_⟩:=bh g1;obtain⟨ds0,k1,k2,_⟩:=(h.rs _ _ _ hl).1.row hown.1;rw[k1,gN,eE]at g2;cases g2;exact lu hown k2 k1 (λ _ _ _=>trivial)
   .cases hr
  .cases hr
 .rename_i hd lo n' k;split at hr
  .rename_i res g1;split at hr
   .rename_i ds' g2;cases hr;simp only[ae]at hx;obtain⟨x1,x2,x3,ad,rfl,x4⟩:=hx;obtain⟨y1,y2⟩:=x4 res g1;obtain⟨hl,_⟩:=bh g1;obtain⟨ds0,k1,k2,_⟩:=(h.rs _ _ _ hl).1.row y1;rw[k1,gN,eE]at g2;cases g2;exact⟨ad,_,rfl,by omega,qg x3 y2 k2 (λ _ _ _=>trivial)⟩
   .cases hr
  .cases hr
 .cases hr
theorem kr (h:aw cx ⟨v,r⟩ a w β) {x:AV} {u:Value} {m size:Nat} {ds:List D} (hx:ak cx w r β x u) (hr:iC r x=some (m,ds)) (hlen:ds.length=m*size):
  ∃us:List Value,us.length=ds.length/\(Builtin.lenOf u).run cx.P w= .ok m w/\(Builtin.firstCells size m u).run cx.P w= .ok us.toArray w/\
   (∀(k:Nat) (d:D),ds[k]? =some d->∃u,us[k]? =some u/\Rd w (Av cx r β) d u)/\∀u∈us,flat u=true:=by
 unfold iC at hr;split at hr
 .rename_i s;cases hr;have e1:=(bj.1 hx).1;subst e1;refine⟨s.data.toList.map λ x=> .int .u8 x.toNat,by simp,by simp[Builtin.lenOf], ?_,λ k d hk=> ?_,λ u hu=> ?_⟩
  .have he:(s.extract 0 s.size).data=s.data:=by
    have:s.extract 0 s.size=s:=by simp
    rw[this]
   simp only[Builtin.firstCells,iJ,he];congr 1;apply er;simp
  .rw[eK]at hk;obtain⟨y,hy,rfl⟩:=fj.1 hk;exact⟨_,by rw[eK,hy];rfl,by simp only[Rd];exact⟨trivial,rfl⟩⟩
  .obtain⟨y,_,rfl⟩:=List.mem_map.1 hu;rfl
 .rename_i y;obtain⟨ad,cap,rfl,h2,h3⟩:=kX h (ck.1 hx) hr;obtain⟨us,g1,g2,g3,g4⟩:=mb (P:=cx.P) (n:=m) (cap:=cap) h3 hlen;exact⟨us,g1,by simp[Builtin.lenOf],g2,g3,g4⟩
 .cases hr
end
section
variable {cx:Cx} {v:List AV} {r:Rs} {a:Act} {w:World} {β:Nat->Nat->Pl} {T:Nat->Option TI} {c:Bool}
theorem wj (hT:bx cx.P T) {t:Nat} (h:(cO T (some t)||isStr T (some t))=true) (w:World):
  (∃e,(underlying t).run cx.P w= .ok (.slice e) w)∨(underlying t).run cx.P w= .ok .string w:=by
 simp only[jl]at h;rcases h with h|h
 .obtain⟨e,h1,_⟩:=jK hT h w;exact .inl ⟨_,h1⟩
 .obtain⟨h1,_⟩:=nU hT h w;exact .inr h1
theorem run_append_fits (hT:bx cx.P T) {ts:Array TypeId} {ty t t1 e:Nat} {ei:TI} (ht:ts[0]? =some t) (ht1:ts[1]? =some t1) (he:dI T t=some (e,ei))
  (hni:(cO T (some t1)||isStr T (some t1))=true) {base:Option Addr} {n cap m:Nat} {u:Value} {us:List Value}
  (hl:(Builtin.lenOf u).run cx.P w= .ok m w) (hf:(Builtin.firstCells ei.size m u).run cx.P w= .ok us.toArray w) (hfit:n+m≤cap):
  (Builtin.append_ ts ty #[.slice base n cap,u]).run cx.P w=match base with
   |some ad=>((storeCells (ad.add (n*ei.size)) us).run cx.P w).andThen λ _ w'=> .ok (.slice base (n+m) cap) w'
   |none=> .ok (.slice none (n+m) cap) w:=by
 obtain⟨e1,e2,_⟩:=fv hT he w;rcases wj hT hni w with⟨e',e3⟩|e3
 .cases base with
  |none=>simp[Builtin.append_,ht,ht1,e1,e2,e3,hl,hf,hfit]
  |some ad=>simp[Builtin.append_,ht,ht1,e1,e2,e3,hl,hf,hfit]
 .cases base with
  |none=>simp[Builtin.append_,ht,ht1,e1,e2,e3,hl,hf,hfit]
  |some ad=>simp[Builtin.append_,ht,ht1,e1,e2,e3,hl,hf,hfit]
theorem pn (hT:bx cx.P T) {ts:Array TypeId} {ty t t1 e:Nat} {ei:TI} (ht:ts[0]? =some t) (ht1:ts[1]? =some t1) (he:dI T t=some (e,ei))
  (hni:(cO T (some t1)||isStr T (some t1))=true) {base:Option Addr} {n cap m:Nat} {u:Value} {us aP:List Value}
  (hl:(Builtin.lenOf u).run cx.P w= .ok m w) (hf:(Builtin.firstCells ei.size m u).run cx.P w.drew= .ok us.toArray w.drew)
  (ho:(Builtin.firstCells ei.size n (.slice base n cap)).run cx.P w.drew= .ok aP.toArray w.drew) (hmore:cap<n+m) (hb0:ei.bytes≠0) (hb:(n+m)*ei.bytes≤2^47):
  ∃(nc:Nat) (rest:List Value),n+m≤nc/\rest.length=(nc - (n+m))*ei.size/\
   (Builtin.append_ ts ty #[.slice base n cap,u]).run cx.P w= .ok (.slice (some ⟨w.heap.size,0,none⟩) (n+m) nc) (w.drew.alloc (.cells (aP++us++rest).toArray e (0,0))):=by
 obtain⟨e1,e2,hty,_⟩:=fv hT he w;obtain⟨i,e5,e6,_⟩:=hty.va w;obtain⟨z,e7,e8⟩:=hty.lj w.drew;have e5':∀w,(typeInfo e).run cx.P w= .ok i w:=λ w'=>by
  obtain⟨⟨i',z',d',g1,_⟩,_,_⟩:=hty;have:i'=i:=by have:=e5;simp[typeInfo,g1]at this;exact this
  subst this;simp[typeInfo,g1]
 let nc:=(Question.appendCap (n+m) cap e).cut (w.tape w.drawn (.appendCap (n+m) cap e))
 have hnc:n+m≤nc:=by simp only[nc,Question.cut];omega
 have hmul:n+m≤(n+m)*ei.bytes:=Nat.le_mul_of_pos_right _ (by omega);have h63:¬(9223372036854775807<((n:Int)+(m:Int))):=by have:n+m≤140737488355328:=eR hmul hb;omega
 have hfit:¬(281474976710656<Builtin.nextslicecap (n+m) cap*i.bytes):=by rw[e6];have:=growslice_fits hmore hb;omega
 have hn:¬(n+m≤cap):=by omega
 refine⟨nc,(Builtin.zeroCells z.cells (nc - (n+m))).toList,hnc, ?_, ?_⟩
 .simp only[Builtin.zeroCells,lG,fG,js,Array.size_range];rw[←js,e8,hty.len]
 .rcases wj hT hni w with⟨e',e3⟩|e3
  all_goals
   simp[Builtin.append_,ht,ht1,e1,e2,e3,hl,hn,e5',h63,hfit,Question.forced,ho,hf,e7,newRow,nc];congr 2;apply er;simp
variable (hT:bx cx.P T) (h:aw cx ⟨v,r⟩ a w β) (hc:c=true) {o:Oper}
include h hc
omit h hc in
theorem aw.drew (h:aw cx ⟨v,r⟩ a w β):aw cx ⟨v,r⟩ a w.drew β:=by have x:Ext cx w r β w.drew r β:=⟨λ _=>Nat.le_refl _,λ hd res' _ hg=>⟨res',hg,rfl,rfl,rfl,Nat.le_refl _⟩,⟨λ _ _ _=>rfl,λ _ _ h=>h⟩,λ _ _ _=>rfl,rfl,rfl⟩;exact h.mk' x (λ s j res hl=>⟨(h.rs s j res hl).1.ext x (λ _ _ _=>rfl) (λ b o hb=>(h.rs s j res hl).1.lt hb),(h.rs s j res hl).2⟩) h.inj h.fr (Nat.le_refl _)
omit h hc in
theorem kc {s j:Nat} {res:aM} {rs:RS} (hl:aq r s j=some res) (hrs:aa s r=some rs):rs.l[j]? =some (some res):=by
 unfold aq at hl;simp only[hrs]at hl;split at hl
 .rename_i q hq;cases hl;exact hq
 .cases hl
omit h hc in
theorem uJ {s j e next:Nat} {res':aM} {rs:RS} (hj:j<rs.l.length) {res:aM}
  (hg:ax (az s ⟨next,rs.l.set j (some res')⟩ r) ⟨s,j,e⟩=some res):res=res':=by
 obtain⟨hl,_⟩:=bh hg;rw[dy,ao rfl]at hl;simp[hj]at hl;exact hl.symm
theorem Bu (hT:bx cx.P T) {ts:Array TypeId} {ty t t1 e:Nat} {ei:TI} (ht:ts[0]? =some t) (ht1:ts[1]? =some t1) (he:dI T t=some (e,ei))
  (hni:(cO T (some t1)||isStr T (some t1))=true) {hd:Hd} {lo n m:Nat} {s u:Value} {x:AV} {ds2 ds1:List D} {res:aM} {rs:RS}
  (hs:ae cx w r β (.own hd lo n) s) (hx:ak cx w r β x u) (hsrc:iC r x=some (m,ds2)) (hlen:ds2.length=m*ei.size)
  (hg:ax r hd=some res) (hrs:aa hd.s r=some rs) (hds1:cQ (sub lo n res.sz res.cells)=some ds1) (hb0:ei.bytes≠0) (hfz:res.fz=false) (hsz:res.sz=ei.size)
  (hb:(n+m)*ei.bytes≤2^47):
  ∃u' w' β',(Builtin.append_ ts ty #[s,u]).run cx.P w= .ok u' w'/\
   aw cx ⟨v,az hd.s ⟨rs.next+1,rs.l.set hd.j (some {res with e:=rs.next,sz:=ei.size,cells:=(ds1++ds2).map C.d})⟩ r⟩ a w' β'/\
   ak cx w' (az hd.s ⟨rs.next+1,rs.l.set hd.j (some {res with e:=rs.next,sz:=ei.size,cells:=(ds1++ds2).map C.d})⟩ r) β' (.one (.own ⟨hd.s,hd.j,rs.next⟩ 0 (n+m))) u':=by
 obtain⟨hl,hee⟩:=bh hg;have hj:=kc hl hrs;have hjlt:hd.j<rs.l.length:=(bq.1 hj).1;simp only[ae]at hs;obtain⟨_,hlt,hown⟩:=hs;have hown:=hown res hg;obtain⟨p1,p2,p3,ad,rfl,p5⟩:=hown;have hok:=h.rs _ _ _ hl;obtain⟨ds0,k1,k2,k3⟩:=hok.1.row p1;rw[k1,gN,eE]at hds1;cases hds1;have hds1len:((ds0.drop (lo*res.sz)).take (n*res.sz)).length=n*ei.size:=by rw[k1,fG]at p2;rw[jn,lC,hsz];rw[hsz]at p2;omega
 obtain⟨us,g1,g2,g3,g4,g5⟩:=kr h hx hsrc hlen
 -- what follows once the memory is known
 have fin:∀(w':World) (pl':Pl) (ad':Option Addr),
   (∀b o,pl'.base=some (b,o)->(∃o',(β hd.s hd.j).base=some (b,o'))∨w.heap.size≤b)->
   (∀b,b<w.heap.size->(∀o,(β hd.s hd.j).base≠some (b,o))->w'.heap[b]? =w.heap[b]?)->w.heap.size≤w'.heap.size->
   (w'.os=w.os/\w'.output=w.output)->(∀A',eV w (Av cx r β) w' A'->bL w' A' pl' ei.size ((ds0.drop (lo*res.sz)).take (n*res.sz)++ds2))->n+m≤pl'.cap->
   (pl'.cap=0∨∃b o,pl'.base=some (b,o)/\ad'=some ⟨b,o,none⟩)->
   (Builtin.append_ ts ty #[.slice ad n ((β hd.s hd.j).cap - lo),u]).run cx.P w= .ok (.slice ad' (n+m) pl'.cap) w'->
   ∃u' w' β',(Builtin.append_ ts ty #[.slice ad n ((β hd.s hd.j).cap - lo),u]).run cx.P w= .ok u' w'/\
    aw cx ⟨v,az hd.s ⟨rs.next+1,rs.l.set hd.j (some {res with e:=rs.next,sz:=ei.size,cells:=((ds0.drop (lo*res.sz)).take (n*res.sz)++ds2).map C.d})⟩ r⟩ a w' β'/\
    ak cx w' (az hd.s ⟨rs.next+1,rs.l.set hd.j (some {res with e:=rs.next,sz:=ei.size,cells:=((ds0.drop (lo*res.sz)).take (n*res.sz)++ds2).map C.d})⟩ r) β'
     (.one (.own ⟨hd.s,hd.j,rs.next⟩ 0 (n+m))) u':=by
  intro w' pl' ad' q1 q2 q3 hos q4 q5 q6 hrun;obtain⟨β',m1,m2,m3,m4⟩:=h.j8 (w':=w') (res':={res with e:=rs.next,sz:=ei.size,cells:=((ds0.drop (lo*res.sz)).take (n*res.sz)++ds2).map C.d}) (pl':=pl')
   (next':=rs.next+1) hrs hj (kB _) (eH _) rfl (.inr (Nat.le_refl _)) (λ hf=>hf) q1 (λ b hb' hor=>by
    rcases hor with hor|hor
    .exact q2 b hb' hor
    .rw[hfz]at hor;cases hor) q3
   (λ β' e1 e2 e3=>jH p1 rfl hfz (q4 _ e2.st)) hos
  refine⟨_,w',β',hrun,m1, ?_⟩;simp only[ak,ae];refine⟨rfl,by rw[c6,ao rfl];exact eH _,λ res2 hr=> ?_⟩;have:=uJ hjlt hr;subst this;rw[m2];refine⟨p1, ?_,by omega,ad',by simp, ?_⟩
  .simp only[fG,eh,hds1len,hlen,Nat.zero_mul,bu,cV];exact Nat.le_refl _
  .rcases q6 with q6|⟨b,o,q6,q7⟩
   .exact .inl (by omega)
   .exact .inr ⟨b,o,q6,by simpa using q7⟩
 by_cases hroom:n+m≤(β hd.s hd.j).cap - lo
 .have hrun:=run_append_fits hT (ty:=ty) ht ht1 he hni (base:=ad) g2 g3 hroom;by_cases hz:(β hd.s hd.j).cap - lo=0
  .have hn0:n=0:=by omega
   have hm0:m=0:=by omega
   subst hn0;subst hm0;have hus:us=[]:=fW (by rw[g1,hlen];simp);have hds2:ds2=[]:=fW (by rw[hlen];simp);subst hus;subst hds2;refine fin w ⟨none,0⟩ ad (λ b o hb=>by cases hb) (λ _ _ _=>rfl) (Nat.le_refl _) ⟨rfl,rfl⟩ (λ A' _=>by simp[bL]) (by simp) (.inl rfl) ?_;rw[hrun,hz];cases ad<;>simp[storeCells]
  .obtain⟨b,o,hbase,rfl⟩:=p5.resolve_left hz;simp only[bL,hbase]at k2;obtain⟨cs,et,r1,r2,r3,r4⟩:=k2;have hfit:o+lo*res.sz+n*ei.size+0+us.length≤cs.size:=by have h1:(lo+n+m)*res.sz≤(β hd.s hd.j).cap*res.sz:=fk _ (by omega);rw[cV,cV]at h1;rw[g1,hlen,←hsz];omega
   obtain⟨w',cs',t1,t2,t3,t4,t5,t6,t7⟩:=ka (P:=cx.P) us w (o+lo*res.sz+n*ei.size) 0 cs r1 hfit g5;refine fin w' ⟨some (b,o+lo*res.sz),(β hd.s hd.j).cap - lo⟩ (some ⟨b,o+lo*res.sz,none⟩) (λ b' o' hb'=>by cases hb';exact .inl ⟨o,hbase⟩)
    (λ b' hb' hne=>t6 b' (λ e=>hne o (e▸hbase))) (by omega) t7.2 (λ A' hst=> ?_) hroom (.inr ⟨b,_,rfl,rfl⟩) ?_
   .simp only[bL];refine⟨cs',et,t2, ?_, ?_,λ k d hk=> ?_⟩
    .rw[t3,←hsz];have:lo*res.sz+((β hd.s hd.j).cap - lo)*res.sz=(β hd.s hd.j).cap*res.sz:=by rw[←cV];congr 1;omega
     omega
    .rw[eh,hds1len,hlen,←cV];exact fk _ hroom
    .by_cases hk1:k<n*ei.size
     .rw[bJ (by rw[hds1len];exact hk1),List.getElem?_take_of_lt (by rw[hsz];exact hk1),kG]at hk;obtain⟨u',f1,f2⟩:=r4 _ _ hk;refine⟨u', ?_,f2.bC hst⟩;rw[t5 _ (.inl (by omega)),cq];exact f1
     .rw[bT (by rw[hds1len];omega),hds1len]at hk;obtain⟨u',f1,f2⟩:=g4 _ _ hk;have hklt:k - n*ei.size<us.length:=(bq.1 f1).1;refine⟨u', ?_,f2.bC hst⟩;have:=t4 _ hklt;rw[f1]at this;rw[←this];congr 1;omega
   .rw[hrun];simp only[gJ,t1,dZ]
 .have hmore:(β hd.s hd.j).cap - lo<n+m:=by omega
  have hdr:=h.drew;have x0:Ext cx w r β w.drew r β:=⟨λ _=>Nat.le_refl _,λ hd res' _ hg=>⟨res',hg,rfl,rfl,rfl,Nat.le_refl _⟩,⟨λ _ _ _=>rfl,λ _ _ h=>h⟩,λ _ _ _=>rfl,rfl,rfl⟩;obtain⟨us',g1',g2',g3',g4',g5'⟩:=kr hdr (hx.ext x0) hsrc hlen;have hread:ba w.drew (Av cx r β) (λ _=>True) ((ds0.drop (lo*res.sz)).take (n*res.sz)) ad:=by obtain⟨ad2,cap2,e1,e2,e3⟩:=lu (Tp:=λ _=>True) (⟨p1,p2,p3,ad,rfl,p5⟩:hE (β hd.s hd.j) res lo n (.slice ad n ((β hd.s hd.j).cap - lo))) k2 k1 (λ _ _ _=>trivial);cases e1;exact e3.bC (⟨λ _ _ _=>rfl,λ _ _ h=>h⟩:eV w (Av cx r β) w.drew (Av cx r β)) (λ _ _ _=>⟨trivial,rfl⟩)
  obtain⟨aP,o1,o2,o3,o4⟩:=mb (P:=cx.P) (n:=n) (cap:=(β hd.s hd.j).cap - lo) hread hds1len;obtain⟨nc,rest,n1,n2,n3⟩:=pn hT (ty:=ty) ht ht1 he hni g2 g3' o2 hmore hb0 hb;refine fin _ ⟨some (w.heap.size,0),nc⟩ (some ⟨w.heap.size,0,none⟩) (λ b o hb=>by cases hb;exact .inr (Nat.le_refl _))
   (λ b hb' _=>il w.drew _ hb') (by simp) ⟨rfl,rfl⟩ (λ A' hst=> ?_) n1 (.inr ⟨_,_,rfl,rfl⟩) n3
  simp only[bL];refine⟨_,e,lq w.drew _, ?_, ?_,λ k d hk=> ?_⟩
  .simp only[List.size_toArray,eh,o1,g1',hds1len,hlen,n2,bu,←cV];exact fk _ (by omega)
  .rw[eh,hds1len,hlen,←cV];exact fk _ n1
  .have hst':eV w.drew (Av cx r β) (w.drew.alloc (.cells (aP++us'++rest).toArray e (0,0))) A':=⟨hst.hp,hst.av⟩;by_cases hk1:k<n*ei.size
   .rw[bJ (by rw[hds1len];exact hk1)]at hk;obtain⟨u',f1,f2⟩:=o3 _ _ hk;refine⟨u', ?_,f2.bC hst'⟩;have hklt:k<aP.length:=(bq.1 f1).1;simp only[bu,jR];rw[i6,bJ hklt];exact f1
   .rw[bT (by rw[hds1len];omega),hds1len]at hk;obtain⟨u',f1,f2⟩:=g4' _ _ hk;refine⟨u', ?_,f2.bC hst'⟩;have hklt:k - n*ei.size<us'.length:=(bq.1 f1).1;simp only[bu,jR];rw[i6,bT (by rw[o1,hds1len];omega),o1,hds1len,bJ hklt];exact f1
theorem append_nil (hT:bx cx.P T) {ts:Array TypeId} {ty t t1 e d:Nat} {ei:TI} (ht:ts[0]? =some t) (ht1:ts[1]? =some t1) (he:dI T t=some (e,ei))
  (hni:(cO T (some t1)||isStr T (some t1))=true) {m:Nat} {u:Value} {x:AV} {ds2:List D}
  (hx:ak cx w r β x u) (hsrc:iC r x=some (m,ds2)) (hlen:ds2.length=m*ei.size) (hb0:ei.bytes≠0) (hb:m*ei.bytes≤2^47):
  ∃u' w' β',(Builtin.append_ ts ty #[.slice none 0 0,u]).run cx.P w= .ok u' w'/\
   aw cx ⟨v,az d ⟨af r d+1,[none,some {e:=af r d,var:=false,fz:=false,sz:=ei.size,cells:=ds2.map C.d}]⟩ r⟩ a w' β'/\
   ak cx w' (az d ⟨af r d+1,[none,some {e:=af r d,var:=false,fz:=false,sz:=ei.size,cells:=ds2.map C.d}]⟩ r) β' (.one (.own ⟨d,1,af r d⟩ 0 m)) u':=by
 obtain⟨us,g1,g2,g3,g4,g5⟩:=kr h hx hsrc hlen;by_cases hm:m=0
 .subst hm;have hus:us=[]:=fW (by rw[g1,hlen];simp);have hds2:ds2=[]:=fW (by rw[hlen];simp);subst hus;subst hds2;have hrun:=run_append_fits hT (ty:=ty) ht ht1 he hni (base:=none) (n:=0) (cap:=0) g2 g3 (by omega);obtain⟨β',q1,q2⟩:=mc h hc (d:=d) (n:=0) (sz:=ei.size) (ds:=[]) (pl0:=⟨none,0⟩) (w':=w) (λ b o hb=>by cases hb) (λ _ _=>rfl) (Nat.le_refl _)
   (by simp) (Nat.le_refl _) (λ A' _=>by simp[bL])
  exact⟨_,w,β',hrun,q1,q2⟩
 .have hdr:=h.drew;have x0:Ext cx w r β w.drew r β:=⟨λ _=>Nat.le_refl _,λ hd res' _ hg=>⟨res',hg,rfl,rfl,rfl,Nat.le_refl _⟩,⟨λ _ _ _=>rfl,λ _ _ h=>h⟩,λ _ _ _=>rfl,rfl,rfl⟩;obtain⟨us',g1',g2',g3',g4',g5'⟩:=kr hdr (hx.ext x0) hsrc hlen;have o2:(Builtin.firstCells ei.size 0 (.slice none 0 0)).run cx.P w.drew= .ok ([]:List Value).toArray w.drew:=by simp[Builtin.firstCells]
  obtain⟨nc,rest,n1,n2,n3⟩:=pn hT (ty:=ty) ht ht1 he hni g2 g3' o2 (by omega) hb0 (by simpa using hb);simp only[bu,kx]at n1 n2 n3;obtain⟨β',q1,q2⟩:=mc hdr hc (d:=d) (n:=m) (sz:=ei.size) (ds:=ds2) (pl0:=⟨some (w.heap.size,0),nc⟩) (w':=w.drew.alloc (.cells (us'++rest).toArray e (0,0)))
   (λ b o hb=>by cases hb;rfl) (λ b hb'=>il w.drew _ hb') (by simp) (by omega) n1 (λ A' hA=>by
    have hst':eV w.drew (Av cx r β) (w.drew.alloc (.cells (us'++rest).toArray e (0,0))) A':=⟨λ b hb' _=>il w.drew _ hb',hA⟩;simp only[bL];refine⟨_,e,lq w.drew _, ?_, ?_,λ k d' hk=> ?_⟩
    .simp only[List.size_toArray,eh,g1',hlen,n2,bu,←cV];exact fk _ (by omega)
    .rw[hlen];exact fk _ n1
    .obtain⟨u',f1,f2⟩:=g4' _ _ hk;refine⟨u', ?_,f2.bC hst'⟩;have hklt:k<us'.length:=(bq.1 f1).1;simp only[bu,jR];rw[bJ hklt];exact f1)
  exact⟨_,_,β',n3,q1,q2⟩
theorem AK (hT:bx cx.P T) {ts:Array TypeId} {ty t t1 e:Nat} {ei:TI} (ht:ts[0]? =some t) (ht1:ts[1]? =some t1) (he:dI T t=some (e,ei))
  (hni:(cO T (some t1)||isStr T (some t1))=true) {hd:Hd} {lo n k m:Nat} {s u:Value} {x:AV} {ds2 ds1:List D} {res:aM} {rs:RS}
  (hs:ae cx w r β (.cP hd lo n k) s) (hx:ak cx w r β x u) (hsrc:iC r x=some (m,ds2)) (hlen:ds2.length=m*ei.size)
  (hg:ax r hd=some res) (hrs:aa hd.s r=some rs) (hds1:cQ (sub lo n res.sz res.cells)=some ds1) (hfz:res.fz=false) (hsz:res.sz=ei.size)
  (hcov:(lo+n)*res.sz≤res.cells.length) (hroom:lo+n+m≤k):
  ∃u' w' β',(Builtin.append_ ts ty #[s,u]).run cx.P w= .ok u' w'/\
   aw cx ⟨v,az hd.s ⟨rs.next+1,rs.l.set hd.j (some {res with e:=rs.next,sz:=ei.size,cells:=(ds1++ds2).map C.d})⟩ r⟩ a w' β'/\
   ak cx w' (az hd.s ⟨rs.next+1,rs.l.set hd.j (some {res with e:=rs.next,sz:=ei.size,cells:=(ds1++ds2).map C.d})⟩ r) β' (.one (.cP ⟨hd.s,hd.j,rs.next⟩ 0 (n+m) (k - lo))) u':=by
 obtain⟨hl,hee⟩:=bh hg;have hj:=kc hl hrs;have hjlt:hd.j<rs.l.length:=(bq.1 hj).1;simp only[ae]at hs;obtain⟨_,hlt,hle,ad,rfl,hp⟩:=hs;obtain⟨p1,pc,p5⟩:=hp res hg;have hok:=h.rs _ _ _ hl;obtain⟨ds0,k1,k2,k3⟩:=hok.1.row p1;rw[k1,gN,eE]at hds1;cases hds1;have hds1len:((ds0.drop (lo*res.sz)).take (n*res.sz)).length=n*ei.size:=by rw[k1,fG,cV]at hcov;rw[jn,lC,hsz];rw[hsz]at hcov;omega
 obtain⟨us,g1,g2,g3,g4,g5⟩:=kr h hx hsrc hlen;have fin:∀(w':World) (pl':Pl),
   (∀b o,pl'.base=some (b,o)->(∃o',(β hd.s hd.j).base=some (b,o'))∨w.heap.size≤b)->
   (∀b,b<w.heap.size->(∀o,(β hd.s hd.j).base≠some (b,o))->w'.heap[b]? =w.heap[b]?)->w.heap.size≤w'.heap.size->
   (w'.os=w.os/\w'.output=w.output)->(∀A',eV w (Av cx r β) w' A'->bL w' A' pl' ei.size ((ds0.drop (lo*res.sz)).take (n*res.sz)++ds2))->pl'.cap=k - lo->
   (k - lo=0∨∃b o,pl'.base=some (b,o)/\ad=some ⟨b,o,none⟩)->
   (Builtin.append_ ts ty #[.slice ad n (k - lo),u]).run cx.P w= .ok (.slice ad (n+m) (k - lo)) w'->
   ∃u' w' β',(Builtin.append_ ts ty #[.slice ad n (k - lo),u]).run cx.P w= .ok u' w'/\
    aw cx ⟨v,az hd.s ⟨rs.next+1,rs.l.set hd.j (some {res with e:=rs.next,sz:=ei.size,cells:=((ds0.drop (lo*res.sz)).take (n*res.sz)++ds2).map C.d})⟩ r⟩ a w' β'/\
    ak cx w' (az hd.s ⟨rs.next+1,rs.l.set hd.j (some {res with e:=rs.next,sz:=ei.size,cells:=((ds0.drop (lo*res.sz)).take (n*res.sz)++ds2).map C.d})⟩ r) β'
     (.one (.cP ⟨hd.s,hd.j,rs.next⟩ 0 (n+m) (k - lo))) u':=by
  intro w' pl' q1 q2 q3 hos q4 q5 q6 hrun;obtain⟨β',m1,m2,m3,m4⟩:=h.j8 (w':=w') (res':={res with e:=rs.next,sz:=ei.size,cells:=((ds0.drop (lo*res.sz)).take (n*res.sz)++ds2).map C.d}) (pl':=pl')
   (next':=rs.next+1) hrs hj (kB _) (eH _) rfl (.inr (Nat.le_refl _)) (λ hf=>hf) q1 (λ b hb' hor=>by
    rcases hor with hor|hor
    .exact q2 b hb' hor
    .rw[hfz]at hor;cases hor) q3
   (λ β' e1 e2 e3=>jH p1 rfl hfz (q4 _ e2.st)) hos
  refine⟨_,w',β',hrun,m1, ?_⟩;simp only[ak,ae];refine⟨rfl,by rw[c6,ao rfl];exact eH _,by omega,ad,by simp,λ res2 hr=> ?_⟩;have:=uJ hjlt hr;subst this;rw[m2];refine⟨p1,q5, ?_⟩;rcases q6 with q6|⟨b,o,q6,q7⟩
  .exact .inl (by omega)
  .exact .inr ⟨b,o,q6,by simpa using q7⟩
 have hrun:=run_append_fits hT (ty:=ty) ht ht1 he hni (base:=ad) (n:=n) (cap:=k - lo) g2 g3 (by omega);by_cases hz:k - lo=0
 .have hn0:n=0:=by omega
  have hm0:m=0:=by omega
  subst hn0;subst hm0;have hus:us=[]:=fW (by rw[g1,hlen];simp);have hds2:ds2=[]:=fW (by rw[hlen];simp);subst hus;subst hds2;refine fin w ⟨none,0⟩ (λ b o hb=>by cases hb) (λ _ _ _=>rfl) (Nat.le_refl _) ⟨rfl,rfl⟩ (λ A' _=>by simp[bL]) hz.symm (.inl hz) ?_;rw[hrun];cases ad<;>simp[storeCells]
 .obtain⟨b,o,hbase,rfl⟩:=p5.resolve_left hz;simp only[bL,hbase]at k2;obtain⟨cs,et,r1,r2,r3,r4⟩:=k2;have hfit:o+lo*res.sz+n*ei.size+0+us.length≤cs.size:=by have h1:(lo+n+m)*res.sz≤(β hd.s hd.j).cap*res.sz:=fk _ (by omega);rw[cV,cV]at h1;rw[g1,hlen,←hsz];omega
  obtain⟨w',cs',t1,t2,t3,t4,t5,t6,t7⟩:=ka (P:=cx.P) us w (o+lo*res.sz+n*ei.size) 0 cs r1 hfit g5;refine fin w' ⟨some (b,o+lo*res.sz),k - lo⟩ (λ b' o' hb'=>by cases hb';exact .inl ⟨o,hbase⟩)
   (λ b' hb' hne=>t6 b' (λ e=>hne o (e▸hbase))) (by omega) t7.2 (λ A' hst=> ?_) rfl (.inr ⟨b,_,rfl,rfl⟩) ?_
  .simp only[bL];refine⟨cs',et,t2, ?_, ?_,λ j d hj=> ?_⟩
   .rw[t3,←hsz];have:lo*res.sz+(k - lo)*res.sz=(β hd.s hd.j).cap*res.sz:=by rw[←cV];congr 1;omega
    omega
   .rw[eh,hds1len,hlen,←cV];exact fk _ (by omega)
   .by_cases hk1:j<n*ei.size
    .rw[bJ (by rw[hds1len];exact hk1),List.getElem?_take_of_lt (by rw[hsz];exact hk1),kG]at hj;obtain⟨u',f1,f2⟩:=r4 _ _ hj;refine⟨u', ?_,f2.bC hst⟩;rw[t5 _ (.inl (by omega)),cq];exact f1
    .rw[bT (by rw[hds1len];omega),hds1len]at hj;obtain⟨u',f1,f2⟩:=g4 _ _ hj;have hklt:j - n*ei.size<us.length:=(bq.1 f1).1;refine⟨u', ?_,f2.bC hst⟩;have:=t4 _ hklt;rw[f1]at this;rw[←this];congr 1;omega
  .rw[hrun];simp only[gJ,t1,dZ]
theorem vG (hT:bx cx.P T) {hd:Hd} {lo n k:Nat} {s:Value} {ds1:List D} {res:aM} {sz:Nat}
  (hs:ae cx w r β (.cP hd lo n k) s) (hg:ax r hd=some res) (hds1:cQ (sub lo n res.sz res.cells)=some ds1) (hsz:res.sz=sz) (hcov:(lo+n)*res.sz≤res.cells.length):
  ∃(ad:Option Addr) (aP:List Value),s= .slice ad n (k - lo)/\ds1.length=n*sz/\aP.length=ds1.length/\(Builtin.firstCells sz n (.slice ad n (k - lo))).run cx.P w.drew= .ok aP.toArray w.drew/\
   (∀(j:Nat) (d:D),ds1[j]? =some d->∃u,aP[j]? =some u/\Rd w.drew (Av cx r β) d u):=by
 simp only[ae]at hs;obtain⟨_,hlt,hle,ad,rfl,hp⟩:=hs;obtain⟨p1,pc⟩:=hp res hg;obtain⟨hl,_⟩:=bh hg;obtain⟨ds0,k1,k2,k3⟩:=(h.rs _ _ _ hl).1.row p1;rw[k1,gN,eE]at hds1;cases hds1;have hds1len:((ds0.drop (lo*res.sz)).take (n*res.sz)).length=n*sz:=by rw[k1,fG,cV]at hcov;rw[jn,lC,hsz];rw[hsz]at hcov;omega
 have hread:ba w.drew (Av cx r β) (λ _=>True) ((ds0.drop (lo*res.sz)).take (n*res.sz)) ad:=
  (qg (Tp:=λ _=>True) hle pc k2 (λ _ _ _=>trivial)).bC (⟨λ _ _ _=>rfl,λ _ _ h=>h⟩:eV w (Av cx r β) w.drew (Av cx r β)) (λ _ _ _=>⟨trivial,rfl⟩)
 obtain⟨aP,o1,o2,o3,o4⟩:=mb (P:=cx.P) (n:=n) (cap:=k - lo) hread hds1len;exact⟨ad,aP,rfl,hds1len,o1,o2,o3⟩
omit hc in
theorem r8 (hc:c=true) {d e n m sz nc:Nat} {ds1 ds2:List D} {aP us rest:List Value} (hl1:ds1.length=n*sz) (hl2:ds2.length=m*sz) (ho:aP.length=ds1.length) (hu:us.length=ds2.length)
  (hr:rest.length=(nc - (n+m))*sz) (hnc:n+m≤nc)
  (h1:∀(j:Nat) (d:D),ds1[j]? =some d->∃u,aP[j]? =some u/\Rd w.drew (Av cx r β) d u) (h2:∀(j:Nat) (d:D),ds2[j]? =some d->∃u,us[j]? =some u/\Rd w.drew (Av cx r β) d u):
  ∃β',aw cx ⟨v,az d ⟨af r d+1,[none,some {e:=af r d,var:=false,fz:=false,sz:=sz,cells:=(ds1++ds2).map C.d}]⟩ r⟩ a (w.drew.alloc (.cells (aP++us++rest).toArray e (0,0))) β'/\
   ak cx (w.drew.alloc (.cells (aP++us++rest).toArray e (0,0))) (az d ⟨af r d+1,[none,some {e:=af r d,var:=false,fz:=false,sz:=sz,cells:=(ds1++ds2).map C.d}]⟩ r) β'
    (.one (.own ⟨d,1,af r d⟩ 0 (n+m))) (.slice (some ⟨w.heap.size,0,none⟩) (n+m) nc):=by
 obtain⟨β',q1,q2⟩:=mc h.drew hc (d:=d) (n:=n+m) (sz:=sz) (ds:=ds1++ds2) (pl0:=⟨some (w.heap.size,0),nc⟩) (w':=w.drew.alloc (.cells (aP++us++rest).toArray e (0,0)))
  (λ b o hb=>by cases hb;rfl) (λ b hb'=>il w.drew _ hb') (by simp) (by rw[eh,hl1,hl2,←cV];exact Nat.le_refl _) hnc (λ A' hA=>by
   have hst':eV w.drew (Av cx r β) (w.drew.alloc (.cells (aP++us++rest).toArray e (0,0))) A':=⟨λ b hb' _=>il w.drew _ hb',hA⟩;simp only[bL];refine⟨_,e,lq w.drew _, ?_, ?_,λ j d' hj=> ?_⟩
   .simp only[List.size_toArray,eh,ho,hu,hl1,hl2,hr,bu,←cV];exact fk _ (by omega)
   .rw[eh,hl1,hl2,←cV];exact fk _ hnc
   .simp only[bu,jR];by_cases hk1:j<ds1.length
    .rw[bJ hk1]at hj;obtain⟨u',f1,f2⟩:=h1 _ _ hj;exact⟨u',by rw[i6,bJ (by omega)];exact f1,f2.bC hst'⟩
    .rw[bT (by omega)]at hj;obtain⟨u',f1,f2⟩:=h2 _ _ hj;have hlt:j - ds1.length<us.length:=(bq.1 f1).1;exact⟨u',by rw[i6,bT (by omega),ho,bJ hlt];exact f1,f2.bC hst'⟩)
 exact⟨β',q1,q2⟩
omit h hc in
theorem Bc (hT:bx cx.P T) {t:Nat} (h:isInt T t=true) (w:World):∃k,(underlying t).run cx.P w= .ok (.int k) w:=by
 unfold isInt at h;split at h
 .rename_i ti h1;split at h
  .rename_i k h2;obtain⟨d,g1,g2,_⟩:=(hT t ti h1).1.eC w;rw[h2]at g2;have hd:d= .int k:=by cases d<;>simp[cK]at g2;rw[g2]
   exact⟨k,by rw[g1,hd]⟩
  .cases h
 .cases h
omit h hc in
theorem CJ {z:List Value} {sz n j:Nat} (hz:z.length=sz) {d:D} (hj:(dY z n)[j]? =some d):∃x,d= .v x/\z[j % sz]? =some x/\j<n*sz:=by
 induction n generalizing j with
 |zero=>simp[dY]at hj
 |succ n ih=>
  have e:dY z (n+1)=z.map D.v++dY z n:=by simp[dY,List.replicate_succ]
  rw[e]at hj;by_cases hlt:j<sz
  .rw[bJ (by simpa[hz]using hlt),eK]at hj;obtain⟨x,hx,rfl⟩:=fj.1 hj;refine⟨x,rfl,by rw[Nat.mod_eq_of_lt hlt];exact hx, ?_⟩;rw[cV];omega
  .rw[bT (by simp[hz];omega)]at hj;simp only[fG,hz]at hj;obtain⟨x,h1,h2,h3⟩:=ih hj;have hsz:0<sz:=by
    rcases Nat.eq_zero_or_pos sz with h0|h0
    .rw[h0]at h3;omega
    .exact h0
   refine⟨x,h1, ?_,by rw[cV];omega⟩;rw[←h2];congr 1
   conv=>lhs;rw[show j=j - sz+sz by omega]
   rw[Nat.add_mod_right]
omit h hc in
theorem r5 {z:Array Value} {sz n j:Nat} (hz:z.size=sz) (hj:j<n*sz):(Builtin.zeroCells z n)[j]? =z[j % sz]? :=by
 have hsz:0<sz:=by
  rcases Nat.eq_zero_or_pos sz with h0|h0
  .rw[h0]at hj;omega
  .exact h0
 have hm:j % sz<z.size:=by rw[hz];exact Nat.mod_lt _ hsz
 simp only[Builtin.zeroCells,Array.getElem?_map,hz];rw[Array.getElem?_range,ao hj];simp[getElem!_pos z (j % sz) hm,getElem?_pos z (j % sz) hm]
omit h hc in
theorem l9 {e:TypeId} {ei:TI} (hty:iL cx.P e ei) {z:Value} (hz:z.cells.toList=ei.zero) {n:Nat} {A:Nat->Prop}:
  (Builtin.zeroCells z.cells n).toList.length=n*ei.size/\(∀(j:Nat) (d:D),(dY ei.zero n)[j]? =some d->∃u,(Builtin.zeroCells z.cells n).toList[j]? =some u/\Rd w A d u)/\
   ∀u∈(Builtin.zeroCells z.cells n).toList,flat u=true:=by
 have hsz:z.cells.size=ei.size:=by rw[←js,hz,hty.len]
 have hl:(Builtin.zeroCells z.cells n).toList.length=n*ei.size:=by simp only[Builtin.zeroCells,lG,fG,js,Array.size_range,hsz]
 refine⟨hl,λ j d hj=> ?_,λ u hu=> ?_⟩
 .obtain⟨x,rfl,h2,h3⟩:=CJ hty.len hj;refine⟨x, ?_, ?_⟩
  .rw[gw,r5 hsz h3,←gw,hz];exact h2
  .simp only[Rd];exact⟨trivial,hty.flat x (kF h2)⟩
 .obtain⟨j,hj,rfl⟩:=List.getElem_of_mem hu;rw[hl]at hj;have:=r5 hsz hj;rw[←gw,←gw,hz]at this;rw[gy (by rw[hl];exact hj)]at this;exact hty.flat _ (kF this.symm)
omit h hc in
theorem Az (hT:bx cx.P T) {ts:Array TypeId} {ty t t1 e:Nat} {ei:TI} (ht:ts[0]? =some t) (ht1:ts[1]? =some t1) (he:dI T t=some (e,ei))
  (hni:isInt T t1=true) {base:Option Addr} {n cap:Nat} {l:Int} {kk:IntKind} {aP:List Value} (hl0:0≤l) (hl1:l<2^62) (hsz0:ei.size≠0)
  (ho:(Builtin.firstCells ei.size n (.slice base n cap)).run cx.P w.drew= .ok aP.toArray w.drew) (hmore:cap<n+l.toNat) (hb0:ei.bytes≠0) (hb:(n+l.toNat)*ei.bytes≤2^47):
  ∃(nc:Nat) (us rest:List Value),n+l.toNat≤nc/\rest.length=(nc - (n+l.toNat))*ei.size/\us.length=l.toNat*ei.size/\
   (∀(j:Nat) (d:D),(dY ei.zero l.toNat)[j]? =some d->∃u,us[j]? =some u/\Rd w.drew (Av cx r β) d u)/\
   (Builtin.append_ ts ty #[.slice base n cap, .int kk l]).run cx.P w= .ok (.slice (some ⟨w.heap.size,0,none⟩) (n+l.toNat) nc) (w.drew.alloc (.cells (aP++us++rest).toArray e (0,0))):=by
 obtain⟨e1,e2,hty,_⟩:=fv hT he w;obtain⟨i,e5,e6,_⟩:=hty.va w;obtain⟨z,e7,e8⟩:=hty.lj w.drew;obtain⟨k,e3⟩:=Bc hT hni w;have e5':∀w,(typeInfo e).run cx.P w= .ok i w:=λ w'=>by
  obtain⟨⟨i',z',d',g1,_⟩,_,_⟩:=hty;have:i'=i:=by have:=e5;simp[typeInfo,g1]at this;exact this
  subst this;simp[typeInfo,g1]
 obtain⟨m,hm⟩:∃m:Nat,l=m:=⟨l.toNat,by omega⟩;subst hm;simp only[Int.toNat_natCast]at*
 let nc:=(Question.appendCap (n+m) cap e).cut (w.tape w.drawn (.appendCap (n+m) cap e))
 have hnc:n+m≤nc:=by simp only[nc,Question.cut];omega
 have hmul:n+m≤(n+m)*ei.bytes:=Nat.le_mul_of_pos_right _ (by omega);have h63:¬(9223372036854775807<((n:Int)+(m:Int))):=by have:n+m≤140737488355328:=eR hmul hb;omega
 have hfit:¬(281474976710656<Builtin.nextslicecap (n+m) cap*i.bytes):=by rw[e6];have:=growslice_fits hmore hb;omega
 have hn:¬(n+m≤cap):=by omega
 have hw:IntKind.i64.wrap (m:Int)=m:=by rw[IntKind.wrap_i64];omega
 have hbig:¬((281474976710656:Int)<(m:Int)*(i.bytes:Int)):=by
  rw[e6];have h1:m*ei.bytes≤(n+m)*ei.bytes:=fk _ (by omega);have h2:((m*ei.bytes:Nat):Int)≤140737488355328:=by have:=eR h1 hb;omega
  rw[Int.natCast_mul]at h2;omega
 obtain⟨z1,z2,_⟩:=l9 (w:=w.drew) (A:=Av cx r β) hty e8 (n:=m);refine⟨nc,(Builtin.zeroCells z.cells m).toList,(Builtin.zeroCells z.cells (nc - (n+m))).toList,hnc,(l9 (w:=w) (A:=Av cx r β) hty e8).1,z1,z2, ?_⟩;have hz0:m*ei.size=0->Builtin.zeroCells z.cells m= #[]:=λ h0=>by apply er;exact fW (by rw[z1,h0])
 have hneg:¬((m:Int)<0):=by omega
 by_cases hm':m=0
 .subst hm';have h0:=hz0 (Nat.zero_mul _);have hw0:IntKind.i64.wrap 0=0:=by decide
  have hn':¬(n≤cap):=by omega
  simp only[eo,cA,Int.add_zero]at hn h63 hfit;simp[Builtin.append_,ht,ht1,e1,e2,e3,asInt,asIntOf,hw0,hn',e5',h63,hfit,Question.forced,ho,e7,newRow,nc,h0];congr 2;apply er;simp
 .have hz1:m*ei.size≠0:=Nat.mul_ne_zero hm' hsz0;simp[Builtin.append_,ht,ht1,e1,e2,e3,asInt,asIntOf,hw,hn,hneg,hz1,e5',h63,hfit,hbig,Question.forced,ho,e7,newRow,nc,hm',hsz0];congr 2;apply er;simp
theorem BT (hT:bx cx.P T) {ts:Array TypeId} {as:Array Operand} (ho:o.op= .call ⟨.builtin .append,as,ts⟩) (hs:(ah T c v r o.dst o.op).sc):
  cd cx v a w (execOp a.eval o) (ah T c v r o.dst o.op).x (ah T c v r o.dst o.op).r:=by
 simp only[ho,ah]at hs⊢;split at hs
 .rename_i s x h0
  try simp only[h0]
  simp only[Out.with]at hs⊢;obtain⟨⟨s1,s2⟩,hs⟩:=hs;have e1:=bH h hc s1;have e2:=bH h hc s2;have hmap:as.map a.eval= #[a.eval s,a.eval x]:=by
   have:as= #[s,x]:=by rw[←lJ (xs:=as),h0]
   rw[this];simp
  have hrun:∀{u' w'},(Builtin.append_ ts o.type #[a.eval s,a.eval x]).run cx.P w= .ok u' w'->(execOp a.eval o).run cx.P w= .ok (.value u') w':=by intro u' w' hr;simp[execOp,ho,resolve,hmap,invoke,builtin,hr]
  unfold iM at hs⊢;split at hs
  .rename_i e ei m ds2 hd lo n h1 h2 h3 h4;split at hs
   .rename_i res rs g1 g2;split at hs
    .rename_i ds1 g3;simp only[g1,g2,g3];obtain⟨q1,q2,q3,q4,q5,q6⟩:=hs;rw[h4]at e1;obtain⟨t,ht,he⟩:=ky.1 h1;cases ht1:ts[1]? with
     |none=>rw[ht1]at h2;simp[cO,isStr]at h2
     |some t1=>
      rw[ht1]at h2;obtain⟨u',w',β',m1,m2,m3⟩:=Bu h hc hT (ty:=o.type) ht ht1 he h2 (ck.1 e1) e2 h3 q3 g1 g2 g3 q2 q4 q5 (q6 hc);exact⟨_,w',β',u',hrun m1, .inl rfl,m2,m3⟩
    .exact hs.elim
   .exact hs.elim
  .rename_i e ei m ds2 h1 h2 h3 h4;split at hs
   .rename_i d hd;simp only[hd];obtain⟨q1,q2,q3,q4⟩:=hs;rw[h4]at e1;obtain⟨t,ht,he⟩:=ky.1 h1;cases ht1:ts[1]? with
    |none=>rw[ht1]at h2;simp[cO,isStr]at h2
    |some t1=>
     rw[ht1]at h2;have e3:=(bj.1 e1).1;obtain⟨u',w',β',m1,m2,m3⟩:=append_nil h hc hT (ty:=o.type) (d:=d) ht ht1 he h2 e2 h3 q3 q2 (q4 hc);rw[←e3]at m1;exact⟨_,w',β',u',hrun m1, .inl rfl,m2,m3⟩
   .exact hs.elim
  .rename_i e ei m ds2 hd lo n k h1 h2 h3 h4;obtain⟨t,ht,he⟩:=ky.1 h1;cases ht1:ts[1]? with
   |none=>rw[ht1]at h2;simp[cO,isStr]at h2
   |some t1=>
    rw[ht1]at h2;rw[h4]at e1;unfold m9 at hs⊢;split at hs
    .rename_i res rs g1 g2;split at hs
     .rename_i ds1 g3
      try simp only[g1,g2,g3]
      split at hs
      .rename_i hfit
       try rw[ao hfit]
       obtain⟨q1,q2,q3,q4,q5⟩:=hs;obtain⟨u',w',β',m1,m2,m3⟩:=AK h hc hT (ty:=o.type) ht ht1 he h2 (ck.1 e1) e2 h3 q2 g1 g2 g3 q3 q4 q5 hfit;exact⟨_,w',β',u',hrun m1, .inl rfl,m2,m3⟩
      .rename_i hfit
       try rw[aj hfit]
       split at hs
       .rename_i d hd
        try simp only[hd]
        obtain⟨q1,q2,q3,q4,q5,q6⟩:=hs;obtain⟨ad,aP,f1,f2,f3,f4,f5⟩:=vG h hc hT (ck.1 e1) g1 g3 q4 q5;obtain⟨us,k1,k2,k3,k4,k5⟩:=kr h e2 h3 q3;have x0:Ext cx w r β w.drew r β:=⟨λ _=>Nat.le_refl _,λ hd res' _ hg=>⟨res',hg,rfl,rfl,rfl,Nat.le_refl _⟩,⟨λ _ _ _=>rfl,λ _ _ h=>h⟩,λ _ _ _=>rfl,rfl,rfl⟩;obtain⟨us',k1',k2',k3',k4',k5'⟩:=kr h.drew (e2.ext x0) h3 q3;have hle:lo+n≤k:=by have:=ck.1 e1;simp only[ae]at this;exact this.2.2.1
        obtain⟨nc,rest,n1,n2,n3⟩:=pn hT (ty:=o.type) ht ht1 he h2 k2 k3' f4 (by omega) q2 (q6 hc);rw[←f1]at n3;obtain⟨β',m1,m2⟩:=r8 h hc (d:=d) (e:=e) f2 q3 f3 k1' n2 n1 f5 k4';exact⟨_,_,β',_,hrun n3, .inl rfl,m1,m2⟩
       .exact hs.elim
     .exact hs.elim
    .exact hs.elim
  .unfold nb at hs⊢;split at hs
   .rename_i e ei kk l hd lo n k h1 h2 h3 h4;obtain⟨t,ht,he⟩:=ky.1 h1;cases ht1:ts[1]? with
    |none=>rw[ht1]at h2;cases h2
    |some t1=>
     rw[ht1]at h2;rw[h4]at e1;rw[h3]at e2;split at hs
     .rename_i res d g1 hd;split at hs
      .rename_i ds1 g3
       try simp only[g1,hd,g3]
       obtain⟨q1,q2,q3,q4,q5⟩:=hs;obtain⟨q5,q6,q7,q8⟩:=q5 hc;obtain⟨ad,aP,f1,f2,f3,f4,f5⟩:=vG h hc hT (ck.1 e1) g1 g3 q3 q4;have hle:lo+n≤k:=by have:=ck.1 e1;simp only[ae]at this;exact this.2.2.1
       obtain⟨nc,us,rest,n1,n2,n4,n5,n3⟩:=Az (r:=r) (β:=β) hT (ty:=o.type) (kk:=kk) ht ht1 he h2 q5 q6 q1 f4 (by omega) q2 q8;rw[←f1,←(bj.1 e2).1]at n3;have hzl:(dY ei.zero l.toNat).length=l.toNat*ei.size:=by obtain⟨_,_,hty,_⟩:=fv hT he w;rw[nK,hty.len]
       obtain⟨β',m1,m2⟩:=r8 h hc (d:=d) (e:=e) f2 hzl f3 (by rw[n4,hzl]) n2 n1 f5 n5;exact⟨_,_,β',_,hrun n3, .inl rfl,m1,m2⟩
      .exact hs.elim
     .exact hs.elim
   .exact hs.elim
 .exact hs.elim
end
section
variable {cx:Cx} {v:List AV} {r:Rs} {a:Act} {w:World} {β:Nat->Nat->Pl} {T:Nat->Option TI} {c:Bool}
theorem Dv {pl:Pl} {res:aM} (e:Nat) (h:bn cx w r β pl res):bn cx w r β pl {res with e:=e}:=by unfold bn at*;exact h
theorem aw.ghost (h:aw cx ⟨v,r⟩ a w β) {r':Rs} {β':Nat->Nat->Pl} (nx:∀s,af r s≤af r' s)
  (org:∀s j res',aq r' s j=some res'->res'.e<af r' s/\∃s0 j0 res,aq r s0 j0=some res/\β' s j=β s0 j0/\res'={res with e:=res'.e})
  (one:∀s j fq s' j' res2 s0 j0,aq r' s j=some fq->aq r' s' j'=some res2->β' s j=β s0 j0->β' s' j'=β s0 j0->(∃res,aq r s0 j0=some res)->
   ((β s0 j0).base=none∨(s=s'/\j=j')∨fq.fz=true∨res2.fz=true))
  (aP:∀(hd:Hd) (res':aM),hd.e<af r hd.s->ax r' hd=some res'->ax r hd=some res'/\β' hd.s hd.j=β hd.s hd.j):
  aw cx ⟨v,r'⟩ a w β'/\Ext cx w r β w r' β':=by
 have x:Ext cx w r β w r' β':=by
  refine⟨nx,λ hd res' hlt hg=> ?_,⟨λ _ _ _=>rfl,λ b _ hA=> ?_⟩,λ _ _ _=>rfl,rfl,rfl⟩
  .obtain⟨h1,h2⟩:=aP hd res' hlt hg;exact⟨res',h1,h2,rfl,rfl,Nat.le_refl _⟩
  .rcases hA with hA|⟨s,j,res',o,hl,hf,hb⟩
   .exact .inl hA
   .obtain⟨_,s0,j0,res,g1,g2,g3⟩:=org s j res' hl;exact .inr ⟨s0,j0,res,o,g1,by rw[g3]at hf;exact hf,by rw[←g2];exact hb⟩
 refine⟨h.mk' x (λ s j res' hl=> ?_) (λ s j fq s' j' res2 b o o' hl hf hl' hf' hb hb'=> ?_) (λ s j res' b o hl hf hb=> ?_) (Nat.le_refl _),x⟩
 .obtain⟨g0,s0,j0,res,g1,g2,g3⟩:=org s j res' hl;obtain⟨g4,_⟩:=h.rs _ _ _ g1;rw[g2,g3];exact⟨Dv _ (g4.ext x (λ _ _ _=>rfl) (λ b o hb=>g4.lt hb)),by rw[g3]at g0;exact g0⟩
 .obtain⟨_,s0,j0,q1,g1,g2,g3⟩:=org s j fq hl;obtain⟨_,s1,j1,q2,k1,k2,k3⟩:=org s' j' res2 hl';rw[g2]at hb;rw[k2]at hb';obtain⟨e1,e2⟩:=h.inj _ _ _ _ _ _ _ _ _ g1 (by rw[g3]at hf;exact hf) k1 (by rw[k3]at hf';exact hf') hb hb';subst e1;subst e2;rcases one _ _ _ _ _ _ _ _ hl hl' g2 k2 ⟨_,g1⟩with p|p|p|p
  .rw[p]at hb;cases hb
  .exact p
  .rw[hf]at p;cases p
  .rw[hf']at p;cases p
 .obtain⟨_,s0,j0,res,g1,g2,g3⟩:=org s j res' hl;rw[g2]at hb;have:=h.fr _ _ _ _ _ g1 (by rw[g3]at hf;exact hf) hb;rw[g3];exact this
theorem ma {r r':Rs} (h:∀s,aa s r=aa s r') (s j:Nat):aq r s j=aq r' s j:=by unfold aq;rw[h s]
theorem uu {r r':Rs} (h:∀s,aa s r=aa s r') (s:Nat):af r s=af r' s:=by unfold af;rw[h s]
theorem Cl {r r':Rs} (h:∀s,aa s r=aa s r') (hd:Hd):ax r hd=ax r' hd:=by unfold ax;rw[ma h]
theorem pZ {r':Rs} (hf:∀s,aa s r=aa s r'):Ext cx w r β w r' β:=by
 refine⟨λ s=>by rw[uu hf];exact Nat.le_refl _,λ hd res' hlt hg=>⟨res',by rw[Cl hf];exact hg,rfl,rfl,rfl,Nat.le_refl _⟩,⟨λ _ _ _=>rfl,λ b _ hA=> ?_⟩,λ _ _ _=>rfl,rfl,rfl⟩;rcases hA with hA|⟨s,j,res',o,hl,hf',hb⟩
 .exact .inl hA
 .exact .inr ⟨s,j,res',o,by rw[ma hf];exact hl,hf',hb⟩
theorem aw.congr (h:aw cx ⟨v,r⟩ a w β) {r':Rs} (hf:∀s,aa s r=aa s r'):aw cx ⟨v,r'⟩ a w β:=by
 have x:Ext cx w r β w r' β:=pZ hf;refine h.mk' x (λ s j res hl=> ?_) (λ s j res s' j' res' b o o' hl hq hl' hq'=> ?_) (λ s j res b o hl=> ?_) (Nat.le_refl _)
 .rw[←ma hf]at hl;obtain⟨g1,g2⟩:=h.rs s j res hl;exact⟨g1.ext x (λ _ _ _=>rfl) (λ b o hb=>g1.lt hb),by rw[←uu hf];exact g2⟩
 .rw[←ma hf]at hl hl';exact h.inj _ _ _ _ _ _ _ _ _ hl hq hl' hq'
 .rw[←ma hf]at hl;exact h.fr _ _ _ _ _ hl
theorem aw.drop (h:aw cx ⟨v,r⟩ a w β) {d:Nat} {L:List (Option aM)} (hL:∀j res,L[j]? =some (some res)->aq r d j=some res) (next':Nat) (hn:af r d≤next'):
  aw cx ⟨v,az d ⟨next',L⟩ r⟩ a w β/\Ext cx w r β w (az d ⟨next',L⟩ r) β:=by
 have hl:∀s j res,aq (az d ⟨next',L⟩ r) s j=some res->aq r s j=some res:=λ s j res hq=>by
  rw[dy]at hq;split at hq
  .rename_i e;subst e;simp only at hq;split at hq
   .rename_i q hq2;cases hq;exact hL _ _ hq2
   .cases hq
  .exact hq
 have hnx:∀s,af r s≤af (az d ⟨next',L⟩ r) s:=λ s=>by
  rw[c6];split
  .rename_i e;subst e;exact hn
  .exact Nat.le_refl _
 refine h.ghost hnx (λ s j res' hq=>⟨c9 (h.rs _ _ _ (hl _ _ _ hq)).2 (hnx s),s,j,res',hl _ _ _ hq,rfl,rfl⟩) (λ s j fq s' j' res2 s0 j0 h1 h2 e1 e2 he=> ?_)
  (λ hd res' hlt hg=> ?_)
 .cases hb:(β s0 j0).base with
  |none=>exact .inl rfl
  |some p=>
   by_cases f1:fq.fz=true
   .exact .inr (.inr (.inl f1))
   .by_cases f2:res2.fz=true
    .exact .inr (.inr (.inr f2))
    .exact .inr (.inl (h.inj s j fq s' j' res2 p.1 p.2 p.2 (hl _ _ _ h1) (by simpa using f1) (hl _ _ _ h2) (by simpa using f2) (by rw[e1,hb]) (by rw[e2,hb])))
 .obtain⟨g1,g2⟩:=bh hg;exact⟨dH (hl _ _ _ g1) g2,rfl⟩
theorem aw.move (h:aw cx ⟨v,r⟩ a w β) {d j:Nat} {hd:Hd} {res:aM} {rs rd:RS} (hg:ax r hd=some res) (hfz:res.fz=false) (hne:hd.s≠d)
  (hrs:aa hd.s r=some rs) (hrd:aa d r=some rd) (hj:rd.l[j]? =some none):
  ∃β',aw cx ⟨v,az d ⟨rd.next+1,rd.l.set j (some {res with e:=rd.next})⟩ (az hd.s ⟨rs.next,rs.l.set hd.j none⟩ r)⟩ a w β'/\
   Ext cx w r β w (az d ⟨rd.next+1,rd.l.set j (some {res with e:=rd.next})⟩ (az hd.s ⟨rs.next,rs.l.set hd.j none⟩ r)) β'/\
   (∀lo n u,ae cx w r β (.own hd lo n) u->
    ae cx w (az d ⟨rd.next+1,rd.l.set j (some {res with e:=rd.next})⟩ (az hd.s ⟨rs.next,rs.l.set hd.j none⟩ r)) β' (.own ⟨d,j,rd.next⟩ lo n) u):=by
 obtain⟨hlk,hee⟩:=bh hg;have hjlt:j<rd.l.length:=(bq.1 hj).1;have hhj:=kc hlk hrs;have hnd:af r d=rd.next:=by unfold af;simp only[hrd]
 have hns:af r hd.s=rs.next:=by unfold af;simp only[hrs]
 let r':=az d ⟨rd.next+1,rd.l.set j (some {res with e:=rd.next})⟩ (az hd.s ⟨rs.next,rs.l.set hd.j none⟩ r)
 let β':Nat->Nat->Pl:=λ s k=>if s=d/\k=j then β hd.s hd.j else β s k
 have hβ0:β' d j=β hd.s hd.j:=by simp[β']
 have hβ1:∀s k,¬(s=d/\k=j)->β' s k=β s k:=λ s k hn=>by simp only[β',aj hn]
 have hnew:aq r' d j=some {res with e:=rd.next}:=by show aq (az d _ _) d j=_;rw[dy,ao rfl];simp[hjlt]
 have hold:∀s k q,¬(s=d/\k=j)->aq r' s k=some q->aq r s k=some q/\¬(s=hd.s/\k=hd.j):=λ s k q hn hq=>by
  have hq:aq (az d ⟨rd.next+1,rd.l.set j (some {res with e:=rd.next})⟩ (az hd.s ⟨rs.next,rs.l.set hd.j none⟩ r)) s k=some q:=hq;rw[dy]at hq;by_cases hs:d=s
  .subst hs;rw[ao rfl]at hq;have hk:j≠k:=λ e=>hn ⟨rfl,e.symm⟩
   simp only[fV hk]at hq;refine⟨?_,λ e=>hne e.1.symm⟩;unfold aq;simp only[hrd];exact hq
  .rw[aj hs,dy]at hq;by_cases hs2:hd.s=s
   .subst hs2;rw[ao rfl]at hq;by_cases hk:hd.j=k
    .subst hk;rw[lI (bq.1 hhj).1]at hq;cases hq
    .simp only[fV hk]at hq;refine⟨?_,λ e=>hk e.2.symm⟩;unfold aq;simp only[hrs];exact hq
   .rw[aj hs2]at hq;exact⟨hq,λ e=>hs2 e.1.symm⟩
 have hnx:∀s,af r s≤af r' s:=λ s=>by
  show _≤af (az d _ _) s;rw[c6];split
  .rename_i e;subst e;rw[hnd];exact kB _
  .rw[c6];split
   .rename_i e;subst e;rw[hns];exact Nat.le_refl _
   .exact Nat.le_refl _
 have hh:aw cx ⟨v,r'⟩ a w β'/\Ext cx w r β w r' β':=by
  refine h.ghost (r':=r') (β':=β') hnx (λ s k q hq=> ?_) (λ s k q1 s' k' q2 s0 j0 h1 h2 e1 e2 he=> ?_) (λ hd' q hlt hq=> ?_)
  .by_cases hn:s=d/\k=j
   .obtain⟨rfl,rfl⟩:=hn;rw[hnew]at hq;cases hq;refine⟨?_,hd.s,hd.j,res,hlk,hβ0,rfl⟩;show rd.next<af (az s _ _) s;rw[c6,ao rfl];exact eH _
   .obtain⟨g1,_⟩:=hold _ _ _ hn hq;exact⟨c9 (h.rs _ _ _ g1).2 (hnx s),s,k,q,g1,hβ1 _ _ hn,rfl⟩
  .cases hb:(β s0 j0).base with
   |none=>exact .inl rfl
   |some p=>
    by_cases f1:q1.fz=true
    .exact .inr (.inr (.inl f1))
    .by_cases f2:q2.fz=true
     .exact .inr (.inr (.inr f2))
     .refine .inr (.inl ?_);by_cases hn:s=d/\k=j<;>by_cases hn':s'=d/\k'=j
      .exact⟨by rw[hn.1,hn'.1],by rw[hn.2,hn'.2]⟩
      .obtain⟨g1,g2⟩:=hold _ _ _ hn' h2;rw[hn.1,hn.2,hβ0]at e1;rw[hβ1 _ _ hn']at e2;exact absurd (h.inj s' k' q2 hd.s hd.j res p.1 p.2 p.2 g1 (by simpa using f2) hlk hfz (by rw[e2,hb]) (by rw[e1,hb])) g2
      .obtain⟨g1,g2⟩:=hold _ _ _ hn h1;rw[hn'.1,hn'.2,hβ0]at e2;rw[hβ1 _ _ hn]at e1;exact absurd (h.inj s k q1 hd.s hd.j res p.1 p.2 p.2 g1 (by simpa using f1) hlk hfz (by rw[e1,hb]) (by rw[e2,hb])) g2
      .obtain⟨g1,_⟩:=hold _ _ _ hn h1;obtain⟨g2,_⟩:=hold _ _ _ hn' h2;rw[hβ1 _ _ hn]at e1;rw[hβ1 _ _ hn']at e2;exact h.inj s k q1 s' k' q2 p.1 p.2 p.2 g1 (by simpa using f1) g2 (by simpa using f2) (by rw[e1,hb]) (by rw[e2,hb])
  .obtain⟨g1,g2⟩:=bh hq;by_cases hn:hd'.s=d/\hd'.j=j
   .rw[hn.1,hn.2,hnew]at g1;cases g1;rw[hn.1,hnd]at hlt;simp only at g2;omega
   .obtain⟨g3,_⟩:=hold _ _ _ hn g1;exact⟨dH g3 g2,hβ1 _ _ hn⟩
 obtain⟨m1,m2⟩:=hh;refine⟨β',m1,m2,λ lo n u hu=> ?_⟩;simp only[ae]at hu⊢;refine⟨hu.1, ?_,λ res2 hr=> ?_⟩
 .show rd.next<af (az d _ _) d;rw[c6,ao rfl];exact eH _
 .obtain⟨g1,g2⟩:=bh hr;rw[hnew]at g1;cases g1;rw[hβ0];exact(hu.2.2 res hg).same rfl rfl (Nat.le_refl _)
end
section
variable {cx:Cx} {v:List AV} {r:Rs} {a:Act} {w:World} {β:Nat->Nat->Pl} {T:Nat->Option TI} {c:Bool}
theorem u9:∀{l:List C} {us:List Value} {k:Nat} {x:C} {u:Value},ar cx w r β l us->us[k]? =some u->ae cx w r β x u->ar cx w r β (l.set k x) us
 |[],us,k,x,u,h,hk,_=>by simp only[ar]at h;simp[h]at hk
 |y::l,us,0,x,u,h,hk,hx=>by simp only[ar,cm]at h⊢;obtain⟨u',us',rfl,h1,h2⟩:=h;simp only[bG,aF]at hk;subst hk;exact⟨u',us',rfl,hx,h2⟩
 |y::l,us,k+1,x,u,h,hk,hx=>by simp only[ar,cn]at h⊢;obtain⟨u',us',rfl,h1,h2⟩:=h;exact⟨u',us',rfl,h1,u9 h2 (by simpa using hk) hx⟩
theorem aw.oG (h:aw cx ⟨v,r⟩ a w β) {d k b e:Nat} {V:aM} {rd:RS} {cs:Array Value} {x:C} {u:Value} {next':Nat} (hrd:aa d r=some rd)
  (h0:rd.l[0]? =some (some V)) (hv:V.var=true) (hb:(β d 0).base=some (b,0)) (hcs:w.heap[b]? =some (.cells cs e (0,0))) (hu:cs[k]? =some u)
  (hx:ae cx w r β x u) (hn:rd.next≤next'):
  ∃β',aw cx ⟨v,az d ⟨next',rd.l.set 0 (some {V with cells:=V.cells.set k x})⟩ r⟩ a w β'/\β' d 0=β d 0/\
   Ext cx w r β w (az d ⟨next',rd.l.set 0 (some {V with cells:=V.cells.set k x})⟩ r) β':=by
 have hlk:aq r d 0=some V:=by unfold aq;simp only[hrd,h0]
 have hok:=h.rs _ _ _ hlk;have hnd:af r d=rd.next:=by unfold af;simp only[hrd]
 obtain⟨β',q1,q2,_,q4⟩:=h.j8 (w':=w) (res':={V with cells:=V.cells.set k x}) (pl':=β d 0) (next':=next') hrd h0 hn
  (by have:=hok.2;rw[hnd]at this;exact c9 this hn) rfl (.inl ⟨rfl,rfl,rfl,rfl,by simp⟩) (λ hf=>hf) (λ b' o' hb'=> .inl ⟨o',hb'⟩) (λ _ _ _=>rfl) (Nat.le_refl _)
  (λ β' e1 e2 e3=>by have hok2:=hok.1.ext e2 (λ _ _ _=>rfl) (λ b o hb=>hok.1.lt hb);unfold bn at hok2⊢;rw[ao hv]at hok2;rw[ao (by exact hv)];obtain⟨p0,b',cs',e',p1,p2,p3,p4⟩:=hok2;rw[hb]at p1;cases p1;rw[hcs]at p2;cases p2;exact⟨p0,b,cs,e,hb,hcs,u9 p3 (by simpa using hu) (hx.ext e2),p4⟩)
 exact⟨β',q1,q2,q4⟩
theorem pH {α:Type}:∀(xs:List α) (i j:Nat) (l:List α) (y:α),j<i->bz i xs (l.set j y)=(bz i xs l).set j y
 |[],_,_,_,_,_=>rfl
 |x::xs,i,j,l,y,h=>by simp only[bz];rw[List.set_comm _ _ (by omega),pH xs (i+1) j _ y (by omega)]
theorem qj {α:Type} {l:List α} {i:Nat} {x:α} (h:l[i]? =some x):l.set i x=l:=by
 apply lD;intro j;rw[kJ];split
 .rename_i e;subst e;split
  .exact h.symm
  .rename_i hlt;rw[mO (by omega)]at h;cases h
 .rfl
theorem eX {d s:Nat} {y:RS} (h:s≠d):aa s (az d y r)=aa s r:=by rw[bX,aj (du h)]
theorem gj {d:Nat} {y:RS}:aa d (az d y r)=some y:=by rw[bX,ao rfl]
theorem s9 {r r':Rs} {d:Nat} (h:∀s,s≠d->aa s r=aa s r') {hd:Hd} (hs:hd.s≠d):ax r hd=ax r' hd:=by unfold ax aq;rw[h _ hs]
theorem p8 {d:Nat}:∀(cs:List C) (k E:Nat) (r R:Rs) (β:Nat->Nat->Pl) (L:List (Option aM)) (V:aM),aw cx ⟨v,R⟩ a w β->
  (∀s,s≠d->aa s R=aa s r)->aa d R=some ⟨E,L⟩->L[0]? =some (some V)->V.var=true->
  (∀i x,cs[i]? =some x->V.cells[k+i]? =some x/\L[k+1+i]? =some none)->
  ∃β' R',aw cx ⟨v,R'⟩ a w β'/\Ext cx w R β w R' β'/\β' d 0=β d 0/\(∀s,s≠d->aa s R'=aa s (b8 d E k cs r).2.2)/\
   aa d R'=some ⟨E+cs.length,bz (k+1) (b8 d E k cs r).2.1 (L.set 0 (some {V with cells:=bz k (b8 d E k cs r).1 V.cells}))⟩
 |[],k,E,r,R,β,L,V,h,h1,h2,h3,_,_=>by refine⟨β,R,h,pZ (λ _=>rfl),rfl,h1, ?_⟩;simp only[b8,bz,jq,eo];rw[qj h3];exact h2
 |x::cs,k,E,r,R,β,L,V,h,h1,h2,h3,hv,h4=>by
  have hlk:aq R d 0=some V:=by unfold aq;simp only[h2,h3]
  have hnd:af R d=E:=by unfold af;simp only[h2]
  obtain⟨hok,hVe⟩:=h.rs _ _ _ hlk;have hok0:=hok;unfold bn at hok0;rw[ao hv]at hok0;obtain⟨p0,b,arr,e,p1,p2,p3,p4⟩:=hok0;obtain⟨hxk,hLk⟩:=h4 0 x (by simp);simp only[eo]at hxk hLk;obtain⟨u,hu1,hu2⟩:=eL p3 hxk;have hu3:arr[k]? =some u:=by simpa using hu1
  have hklt:k<V.cells.length:=(bq.1 hxk).1
  -- one step:what the cell becomes,and the rows behind
  have step:∃(β1:Nat->Nat->Pl) (R1:Rs),aw cx ⟨v,R1⟩ a w β1/\Ext cx w R β w R1 β1/\β1 d 0=β d 0/\(∀s,s≠d->aa s R1=aa s (dL d E k x r).2.2)/\
    aa d R1=some ⟨E+1,(L.set (k+1) (dL d E k x r).2.1).set 0 (some {V with cells:=V.cells.set k (dL d E k x r).1})⟩:=by
   have aT:∀(x':C),ae cx w R β x' u->∃(β1:Nat->Nat->Pl) (R1:Rs),aw cx ⟨v,R1⟩ a w β1/\Ext cx w R β w R1 β1/\β1 d 0=β d 0/\(∀s,s≠d->aa s R1=aa s r)/\
     aa d R1=some ⟨E+1,(L.set (k+1) none).set 0 (some {V with cells:=V.cells.set k x'})⟩:=λ x' hx'=>by
    obtain⟨β1,q1,q2,q3⟩:=h.oG (next':=E+1) h2 h3 hv p1 p2 hu3 hx' (kB E);refine⟨β1,_,q1,q3,q2,λ s hs=>by rw[eX hs];exact h1 s hs, ?_⟩;rw[gj,qj hLk]
   cases x with
   |own hd lo n=>
    simp only[dL];by_cases hs:hd.s=d
    .rw[ao hs];exact aT .dead (by simp[ae])
    .rw[aj hs];split
     .rename_i res rs g1 g2;rw[←s9 h1 hs]at g1;rw[←h1 _ hs]at g2;split
      .exact aT _ hu2
      .rename_i hfz;obtain⟨β1,q1,q2,q3⟩:=h.move (j:=k+1) g1 (by simpa using hfz) hs g2 h2 hLk
       have hβ:β1 d 0=β d 0:=(q2.aP ⟨d,0,V.e⟩ V hVe (dH (by rw[dy,ao rfl];simp only[fV (show k+1≠0 by omega),h3]) rfl)).choose_spec.2.1
       have hrd1:aa d (az d ⟨E+1,L.set (k+1) (some {res with e:=E})⟩ (az hd.s ⟨rs.next,rs.l.set hd.j none⟩ R))=some ⟨E+1,L.set (k+1) (some {res with e:=E})⟩:=gj;obtain⟨β2,t1,t2,t3⟩:=q1.oG (next':=E+1) (x:= .own ⟨d,k+1,E⟩ lo n) (V:=V) hrd1 (by simp only[fV (show k+1≠0 by omega),h3]) hv (by rw[hβ];exact p1) p2 hu3
        (q3 lo n u hu2) (Nat.le_refl _)
       refine⟨β2,_,t1, ?_,by rw[t2,hβ],λ s hs'=> ?_,gj⟩
       .refine⟨λ s=>eR (q2.nx s) (t3.nx s),λ hd' res' hlt hg=> ?_,⟨λ _ _ _=>rfl,λ b hb hA=>q2.st.av b hb (t3.st.av b hb hA)⟩,λ _ _ _=>rfl,rfl,rfl⟩;obtain⟨m1,m2,m3,m4,m5,m6⟩:=t3.aP hd' res' (c9 hlt (q2.nx _)) hg;obtain⟨n1,n2,n3,n4,n5,n6⟩:=q2.aP hd' m1 hlt m2;exact⟨n1,n2,by rw[m3,n3],by rw[m4,n4],by rw[m5,n5],eR n6 m6⟩
       .rw[eX hs',eX hs',bX,bX,h1 s hs']
     .exact aT .dead (by simp[ae])
   |cP hd lo n k'=>
    simp only[dL];exact aT .dead (by simp[ae])
   |lk hd n x'=>
    simp only[dL];exact aT .dead (by simp[ae])
   |_=>exact aT _ hu2
  obtain⟨β1,R1,s1,s2,s3,s4,s5⟩:=step;obtain⟨β2,R2,t1,t2,t3,t4,t5⟩:=p8 cs (k+1) (E+1) (dL d E k x r).2.2 R1 β1 _ {V with cells:=V.cells.set k (dL d E k x r).1} s1 s4 s5
   (by
    have hlen:0<(L.set (k+1) (dL d E k x r).2.1).length:=by rw[List.length_set];exact(bq.1 h3).1
    rw[lI hlen]) hv (λ i y hy=>by
    obtain⟨g1,g2⟩:=h4 (i+1) y (by simpa using hy);refine⟨?_, ?_⟩
    .simp only;rw[fV (by omega),show k+1+i=k+(i+1) by omega];exact g1
    .rw[fV (by omega),fV (by omega),show k+1+1+i=k+1+(i+1) by omega];exact g2)
  refine⟨β2,R2,t1, ?_,by rw[t3,s3],t4, ?_⟩
  .refine⟨λ s=>eR (s2.nx s) (t2.nx s),λ hd' res' hlt hg=> ?_,⟨λ _ _ _=>rfl,λ b hb hA=>s2.st.av b hb (t2.st.av b hb hA)⟩,λ _ _ _=>rfl,rfl,rfl⟩;obtain⟨m1,m2,m3,m4,m5,m6⟩:=t2.aP hd' res' (c9 hlt (s2.nx _)) hg;obtain⟨n1,n2,n3,n4,n5,n6⟩:=s2.aP hd' m1 hlt m2;exact⟨n1,n2,by rw[m3,n3],by rw[m4,n4],by rw[m5,n5],eR n6 m6⟩
  .rw[t5];simp only[b8,bz,dK,List.set_set];congr 2
   .omega
   .rw[List.set_comm _ _ (show k+1≠0 by omega)]
end
end Go.Pk
