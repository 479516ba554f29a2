import Derived.Test.YtliimajkpggbhaaGreatK3
import Derived.Laws.BytesString
import Derived.Laws.MakeOwn
set_option linter.unusedVariables false
set_option linter.unusedSimpArgs false
set_option linter.unusedSectionVars false
namespace Go.Pk
section
variable {cx:Cx} {v:List AV} {r:Rs} {a:Act} {w:World} {β:Nat→Nat→Pl} {T:Nat→Option TI} {c:Bool}
theorem RdT.imp_lt {A A' Tp Tp':Nat→Prop} (hA:∀b,A' b→A b) (hT:∀b,b<w.heap.size→Tp b→Tp' b):∀{ds:List D} {ad:Option Addr},RdT w A Tp ds ad→RdT w A' Tp' ds ad
 |[],_,_=>trivial
 |d::ds,ad,h=>by
  simp only[RdT]at h⊢
  obtain⟨b,o,u,h1,h2,h3,h4,h5⟩:=h
  exact⟨b,o,u,h1,hT b (lt_of_cell h3) h2,h3,h4.stb ⟨fun _ _ _=>rfl,fun b _ h=>hA b h⟩,RdT.imp_lt hA hT h5⟩
theorem zlC {ds:List D} {b o:Nat} (h:CellsAt cx w r β (ds.map C.d) b o):RdT w (Av cx r β) (fun _=>True) ds (some ⟨b,o,none⟩):=
 RdT.mk trivial fun k d hk=>by
  obtain⟨u,h1,h2,_⟩:=h k (.d d) (by rw[List.getElem?_map,hk];rfl)
  simp only[ReC]at h2
  exact⟨u,h1,h2⟩
theorem zmN:∀{l:List C} {ds:List D},toDs l=some ds→l=ds.map C.d
 |[],ds,h=>by simp only[toDs,Option.some.injEq]at h;subst h;rfl
 |c::cs,ds,h=>by
  simp only[toDs]at h
  split at h
  ·rename_i d ds' h1 h2
   cases h
   rw[zmN h2]
   cases c with
   |d x=>simp only[C.toD,Option.some.injEq]at h1;subst h1;rfl
   |_=>simp[C.toD]at h1
  ·cases h
theorem av0 {P:Program} {A0 Bor:Nat→Prop} {b:Nat}:Av (cx0 P w A0 Bor) [] (fun _ _=>⟨none,0⟩) b↔A0 b:=by
 unfold Av
 constructor
 ·rintro(h|⟨s,j,res,o,hl,_⟩)
  ·exact h
  ·simp[lookR,findR]at hl
 ·exact .inl
abbrev β0:Nat→Nat→Pl:=fun _ _=>⟨none,0⟩
abbrev noB:Nat→Prop:=fun _=>False
theorem zsi {A0:Nat→Prop} {A:Nat→Prop} {b:Nat} (h:b<w.heap.size):Top (cx0 cx.P w A0 noB) A b:= .inr ⟨h,fun h=>h.elim⟩
theorem zjs {l:List C}:∀{b o:Nat},CellsAt cx w r β l b o→∃us,(∀k v,us[k]? =some v→w.cell? ⟨b,o+k,none⟩=some v∧flat v=true)∧ReCs cx w r β l us:=by
 induction l with
 |nil=>intro b o _;exact⟨[],by simp,by simp[ReCs]⟩
 |cons x l ih=>
  intro b o h
  obtain⟨u,h1,h2,h3⟩:=h 0 x rfl
  obtain⟨us,g1,g2⟩:=ih (b:=b) (o:=o+1) (fun k y hk=>by
   have:=h (k+1) y (by simpa using hk)
   rwa[show o+(k+1)=o+1+k by omega]at this)
  refine⟨u::us,fun k y hk=> ?_,by simp only[ReCs];exact⟨u,us,rfl,h2,g2⟩⟩
  cases k with
  |zero=>simp only[List.getElem?_cons_zero,Option.some.injEq]at hk;subst hk;exact⟨h1,h3⟩
  |succ k=>
   have:=g1 k y (by simpa using hk)
   rwa[show o+1+k=o+(k+1) by omega]at this
theorem zsj (h:Holds cx ⟨v,r⟩ a w β) {s:Nat} {x y:C} {u:Value} (hl:lend0 r s x=some y) (hu:ReC cx w r β x u):ReC (cx0 cx.P w (Av cx r β) noB) w [] β0 y u:=by
 unfold lend0 at hl
 split at hl
 ·cases hl
  simp only[ReC]at hu⊢
  exact(zkn hu).stb ⟨fun _ _ _=>rfl,fun b _ hb=>av0.1 hb⟩
 ·cases hl
  simp only[ReC]at hu⊢
  obtain⟨ad,cap,h1,h2,h3⟩:=hu
  exact⟨ad,cap,h1,h2,h3.imp_lt (fun b hb=>av0.1 hb) (fun b hb _=>zsi hb)⟩
 ·split at hl
  ·split at hl
   ·rename_i n' ds hr
    cases hl
    obtain⟨ad,cap,h1,h2,h3⟩:=zdp h hu hr
    simp only[ReC]
    exact⟨ad,cap,h1,h2,h3.imp_lt (fun b hb=>av0.1 hb) (fun b hb _=>zsi hb)⟩
   ·cases hl
  ·cases hl
 ·cases hl
theorem zlD (h:Holds cx ⟨v,r⟩ a w β) {s:Nat}:∀{xs ys:List C} {us:List Value},lend0s r s xs=some ys→ReCs cx w r β xs us→ReCs (cx0 cx.P w (Av cx r β) noB) w [] β0 ys us
 |[],ys,us,hl,hu=>by simp only[lend0s,Option.some.injEq]at hl;subst hl;simpa[ReCs]using hu
 |x::xs,ys,us,hl,hu=>by
  simp only[lend0s]at hl
  split at hl
  ·rename_i y ys' g1 g2
   cases hl
   simp only[ReCs]at hu⊢
   obtain⟨u,us',rfl,h1,h2⟩:=hu
   exact⟨u,us',rfl,zsj h g1 h1,zlD h g2 h2⟩
  ·cases hl
mutual
theorem znK (h:Holds cx ⟨v,r⟩ a w β):∀{x y:C} {u:Value},lendC r x=some y→ReC cx w r β x u→ReC (cx0 cx.P w (Av cx r β) noB) w [] β0 y u
 | .d x,y,u,hl,hu=>by
  simp only[lendC,Option.some.injEq]at hl
  subst hl
  simp only[ReC]at hu⊢
  exact hu.stb ⟨fun _ _ _=>rfl,fun b _ hb=>av0.1 hb⟩
 | .lent n ds,y,u,hl,hu=>by
  simp only[lendC,Option.some.injEq]at hl
  subst hl
  simp only[ReC]at hu⊢
  obtain⟨ad,cap,h1,h2,h3⟩:=hu
  exact⟨ad,cap,h1,h2,h3.imp_lt (fun b hb=>av0.1 hb) (fun b hb _=>zsi hb)⟩
 | .own hd lo n,y,u,hl,hu=>by
  simp only[lendC]at hl
  split at hl
  ·rename_i n' ds hr
   cases hl
   obtain⟨ad,cap,h1,h2,h3⟩:=zdp h hu hr
   simp only[ReC]
   exact⟨ad,cap,h1,h2,h3.imp_lt (fun b hb=>av0.1 hb) (fun b hb _=>zsi hb)⟩
  ·cases hl
 | .ptr hd off,y,u,hl,hu=>by
  simp only[lendC]at hl
  split at hl
  ·rename_i res g1
   split at hl
   ·rename_i ds g2
    cases hl
    simp only[ReC]at hu⊢
    obtain⟨b,o,k1,k2⟩:=hu.2.2 res g1
    obtain⟨hlk,_⟩:=zad g1
    have hcs:=((h.rs _ _ _ hlk).1.cells k1).drop (k:=off)
    rw[zmN g2]at hcs
    exact⟨b,o+off,k2,(zlC hcs).imp_lt (fun b hb=>av0.1 hb) (fun b hb _=>zsi hb)⟩
   ·split at hl
    ·rename_i cs g3
     cases hl
     simp only[ReC]at hu⊢
     obtain⟨b,o,k1,k2⟩:=hu.2.2 res g1
     obtain⟨hlk,_⟩:=zad g1
     have hb:=(h.rs _ _ _ hlk).1.lt k1
     have hcs:=((h.rs _ _ _ hlk).1.cells k1).drop (k:=off)
     obtain⟨us,p1,p2⟩:=zjs hcs
     exact⟨b,o+off,us,k2,hb,zsi hb,p1,zlD h g3 p2⟩
    ·cases hl
  ·cases hl
 | .elt ds,y,u,hl,hu=>by
  simp only[lendC,Option.some.injEq]at hl
  subst hl
  simp only[ReC]at hu⊢
  obtain⟨b,o,h1,h3⟩:=hu
  exact⟨b,o,h1,h3.imp_lt (fun b hb=>av0.1 hb) (fun b hb _=>zsi hb)⟩
 | .clos f caps,y,u,hl,hu=>by
  simp only[lendC]at hl
  split at hl
  ·rename_i cs g1
   cases hl
   simp only[ReC]at hu⊢
   obtain⟨us,h1,h2⟩:=hu
   exact⟨us,h1,zga h g1 h2⟩
  ·cases hl
 | .ab,y,u,hl,_=>by simp[lendC]at hl
 | .dead,y,u,hl,_=>by simp[lendC]at hl
 | .eltR cs,y,u,hl,hu=>by
  simp only[lendC]at hl
  split at hl
  ·rename_i ys g1
   cases hl
   simp only[ReC]at hu⊢
   obtain⟨b,o,us,h1,h2,h3,h4,h5⟩:=hu
   exact⟨b,o,us,h1,h2,zsi h2,h4,zga h g1 h5⟩
  ·cases hl
 | .gap hd lo n k,y,u,hl,hu=>by
  simp only[lendC]at hl
  split at hl
  ·rename_i n' ds hr
   cases hl
   obtain⟨ad,cap,h1,h2,h3⟩:=zdp h hu hr
   simp only[ReC]
   exact⟨ad,cap,h1,h2,h3.imp_lt (fun b hb=>av0.1 hb) (fun b hb _=>zsi hb)⟩
  ·cases hl
 | .lk _ _ _,y,u,hl,_=>by simp[lendC]at hl
theorem zga (h:Holds cx ⟨v,r⟩ a w β):∀{xs ys:List C} {us:List Value},lendC.lendCs r xs=some ys→ReCs cx w r β xs us→ReCs (cx0 cx.P w (Av cx r β) noB) w [] β0 ys us
 |[],ys,us,hl,hu=>by
  simp only[lendC.lendCs,Option.some.injEq]at hl
  subst hl
  simpa[ReCs]using hu
 |x::xs,ys,us,hl,hu=>by
  simp only[lendC.lendCs]at hl
  split at hl
  ·rename_i y ys' g1 g2
   cases hl
   simp only[ReCs]at hu⊢
   obtain⟨u,us',h1,h2,h3⟩:=hu
   exact⟨u,us',h1,znK h g1 h2,zga h g2 h3⟩
  ·cases hl
end
theorem zsk (h:Holds cx ⟨v,r⟩ a w β) {x y:AV} {u:Value} (hl:lendA r x=some y) (hu:ReA cx w r β x u):ReA (cx0 cx.P w (Av cx r β) noB) w [] β0 y u:=by
 unfold lendA at hl
 split at hl
 ·split at hl
  ·rename_i y' g1
   cases hl
   exact zaN.2 (znK h g1 (zaN.1 hu))
  ·cases hl
 ·split at hl
  ·rename_i y' g1
   cases hl
   obtain⟨us,h1,h2⟩:=zbR.1 hu
   exact zbR.2 ⟨us,h1,zga h g1 h2⟩
  ·cases hl
 ·cases hl
theorem zdA (h:Holds cx ⟨v,r⟩ a w β):∀{xs:List AV} {ys:List Arg} {us:List Value},lendAs r xs=some ys→ReAs cx w r β xs us→
  ∀{zs:List Arg} {vs:List Value},zaq cx.P w (Av cx r β) noB (fun _=>⟨none,0⟩) 0 zs [] vs→zaq cx.P w (Av cx r β) noB (fun _=>⟨none,0⟩) 0 (ys++zs) [] (us++vs)
 |[],ys,us,hl,hu,zs,vs,hz=>by
  simp only[lendAs,Option.some.injEq]at hl
  subst hl
  simp only[ReAs]at hu
  subst hu
  simpa using hz
 |x::xs,ys,us,hl,hu,zs,vs,hz=>by
  simp only[lendAs]at hl
  split at hl
  ·rename_i y ys' g1 g2
   cases hl
   simp only[ReAs]at hu
   obtain⟨u,us',rfl,h2,h3⟩:=hu
   simp only[List.cons_append,zaq]
   exact⟨u,us'++vs,rfl,zsk h g1 h2,zdA h g2 h3 hz⟩
  ·cases hl
theorem zbI:∀{xs:List AV} {ys:List Arg},lendAs r xs=some ys→zal ys=[]
 |[],ys,hl=>by simp only[lendAs,Option.some.injEq]at hl;subst hl;rfl
 |x::xs,ys,hl=>by
  simp only[lendAs]at hl
  split at hl
  ·rename_i y ys' g1 g2
   cases hl
   simp only[zal]
   exact zbI g2
  ·cases hl
theorem za4:∀(xs ys:List Arg),zal (xs++ys)=zal xs++zal ys
 |[],_=>rfl
 | .f _::xs,ys=>za4 xs ys
 | .obj l::xs,ys=>by simp[zal,za4 xs ys]
 | .row .. ::xs,ys=>by simp[zal,za4 xs ys]
 | .agr .. ::xs,ys=>by simp[zal,za4 xs ys]
theorem zd7:∀{xs:List C} {us:List Value},ReCs cx w r β xs us→ReAs cx w r β (xs.map AV.one) us
 |[],us,h=>by simpa[ReCs,ReAs]using h
 |x::xs,us,h=>by
  simp only[ReCs]at h
  obtain⟨u,us',rfl,h1,h2⟩:=h
  simp only[List.map_cons,ReAs]
  exact⟨u,us',rfl,zaN.2 h1,zd7 h2⟩
theorem zuJ (h:Holds cx ⟨v,r⟩ a w β) {f:Operand} {args:Array Operand} {ts:Array TypeId} {n:FuncId} {as:List Arg} {post:List RF→List (List RO)→Prop} {o:Oper} (ho:o.op= .call ⟨.value f,args,ts⟩)
  (hc:c=true) (s1:evS c v f) (s2:evsS c v args.toList) (hcall:callA v r f args=some (n,as)) (hok:CallOK cx.P n as post):
  ∃us:Array Value,(execOp a.eval o).run cx.P w= .ok (.enter n us) w∧
   Calls cx.P n us w fun e w'=>∃rfs objs u,post rfs objs∧e= .returned u∧Ret w (Av cx r β) noB w' [] rfs objs u:=by
 have e1:=zbl h hc s1
 have e2:=zeW h hc s2
 unfold callA at hcall
 split at hcall
 ·rename_i n' caps as' g1 g2
  split at hcall
  ·rename_i cs g3
   cases hcall
   -- whom it calls
   have hcap:∃cv:Array Value,a.eval f= .func (.func n) #[] cv∧ReCs cx w r β caps cv.toList:=by
    unfold calleeOf at g1
    split at g1
    ·rename_i n' h1
     cases g1
     rw[h1]at e1
     exact⟨#[],(zas.1 e1).1,by simp[ReCs]⟩
    ·rename_i n' caps' h1
     cases g1
     rw[h1]at e1
     simp only[ReA,ReC]at e1
     obtain⟨us,k1,k2⟩:=e1
     exact⟨us,k1,k2⟩
    ·cases g1
   obtain⟨cv,k1,k2⟩:=hcap
   have hargs:=zdA h g2 e2 (zdA h g3 (zd7 k2) (zs:=[]) (vs:=[]) (by simp[zaq]))
   simp only[List.append_nil]at hargs
   have hobj:zal (as'++cs)=[]:=by rw[za4,zbI g2,zbI g3];rfl
   refine⟨(args.toList.map a.eval++cv.toList).toArray, ?_, ?_⟩
   ·have:=hok.1 (args.toList.map a.eval++cv.toList).toArray w
    have hm:(args.toList.map a.eval++cv.toList).toArray=args.map a.eval++cv:=by apply Array.ext';simp
    rw[hm]at this⊢
    simp[execOp,ho,resolve,k1,Deferred.ofValue,invoke,this]
   ·refine hok.2 w (Av cx r β) noB (fun _=>⟨none,0⟩) [] _ (fun b hb=> ?_) (fun b hb=>hb.elim) hargs (by rw[hobj];intro b hb;exact hb.elim) List.nodup_nil (by rw[hobj];intro i j b o o' sz n ds bo sz' n' ds' bo' h1;simp at h1)
    rcases hb with hb|⟨s,j,res,o,hl,_,hbs⟩
    ·exact Nat.lt_of_lt_of_le (h.a0 b hb) h.n0
    ·exact(h.rs _ _ _ hl).1.lt hbs
  ·cases hcall
 ·cases hcall
theorem zsl (h:Holds cx ⟨v,r⟩ a w β) {f:Operand} {args:Array Operand} {ts:Array TypeId} {n:FuncId} {as:List Arg} {post:List Hold→List RF→List (List RO)→Prop} {o:Oper} (ho:o.op= .call ⟨.value f,args,ts⟩)
  (hc:c=true) (s1:evS c v f) (s2:evsS c v args.toList) (hcall:callA v r f args=some (n,as)) (hok:zwD cx.P n as post):
  ∃us:Array Value,(execOp a.eval o).run cx.P w= .ok (.enter n us) w∧
   Calls cx.P n us w fun e w'=>∃bs rfs objs u,post bs rfs objs∧e= .returned u∧(∀b∈zdG bs,w.heap.size≤b)∧Ret w (fun b=>Av cx r β b∨b∈zdG bs) noB w' bs rfs objs u:=by
 have e1:=zbl h hc s1
 have e2:=zeW h hc s2
 unfold callA at hcall
 split at hcall
 ·rename_i n' caps as' g1 g2
  split at hcall
  ·rename_i cs g3
   cases hcall
   -- whom it calls
   have hcap:∃cv:Array Value,a.eval f= .func (.func n) #[] cv∧ReCs cx w r β caps cv.toList:=by
    unfold calleeOf at g1
    split at g1
    ·rename_i n' h1
     cases g1
     rw[h1]at e1
     exact⟨#[],(zas.1 e1).1,by simp[ReCs]⟩
    ·rename_i n' caps' h1
     cases g1
     rw[h1]at e1
     simp only[ReA,ReC]at e1
     obtain⟨us,k1,k2⟩:=e1
     exact⟨us,k1,k2⟩
    ·cases g1
   obtain⟨cv,k1,k2⟩:=hcap
   have hargs:=zdA h g2 e2 (zdA h g3 (zd7 k2) (zs:=[]) (vs:=[]) (by simp[zaq]))
   simp only[List.append_nil]at hargs
   have hobj:zal (as'++cs)=[]:=by rw[za4,zbI g2,zbI g3];rfl
   refine⟨(args.toList.map a.eval++cv.toList).toArray, ?_, ?_⟩
   ·have:=hok.1 (args.toList.map a.eval++cv.toList).toArray w
    have hm:(args.toList.map a.eval++cv.toList).toArray=args.map a.eval++cv:=by apply Array.ext';simp
    rw[hm]at this⊢
    simp[execOp,ho,resolve,k1,Deferred.ofValue,invoke,this]
   ·refine hok.2 w (Av cx r β) _ (fun b hb=> ?_) hargs
    rcases hb with hb|⟨s,j,res,o,hl,_,hbs⟩
    ·exact Nat.lt_of_lt_of_le (h.a0 b hb) h.n0
    ·exact(h.rs _ _ _ hl).1.lt hbs
  ·cases hcall
 ·cases hcall
end
section
variable {cx:Cx} {v:List AV} {r:Rs} {a:Act} {w:World} {β:Nat→Nat→Pl} {T:Nat→Option TI} {c:Bool}
theorem zjt:∀(ns:List Int) (s:ByteArray),ns.foldl (fun r n=>r.push (UInt8.ofNat n.toNat)) s=⟨s.data++(ns.map fun n=>UInt8.ofNat n.toNat).toArray⟩
 |[],s=>by simp
 |n::ns,s=>by
  rw[List.foldl_cons,zjt ns]
  simp[ByteArray.push]
theorem zju {w:World} {A:Nat→Prop}:∀{ds:List D} {l:List UInt8} {us:List Value},bytesOf ds=some l→us.length=ds.length→(∀(k:Nat) (d:D),ds[k]? =some d→∃u,us[k]? =some u∧Rd w A d u)→
  ∃ns:List Int,us=ns.map (Value.int .u8)∧l=ns.map fun n=>UInt8.ofNat n.toNat
 |[],l,us,h,hl,_=>by
  simp only[bytesOf,Option.some.injEq]at h
  subst h
  exact⟨[],by simpa using hl,rfl⟩
 |d::ds,l,us,h,hl,hu=>by
  cases us with
  |nil=>simp at hl
  |cons u us=>
   unfold bytesOf at h
   split at h
   ·rename_i heq;cases heq
   ·rename_i n ds' heq
    cases heq
    split at h
    ·rename_i l' h2
     cases h
     obtain⟨ns,e1,e2⟩:=zju h2 (by simpa using hl) fun k d hk=>by simpa using hu (k+1) d (by simpa using hk)
     obtain⟨u',g1,g2⟩:=hu 0 (.v (.int .u8 n)) rfl
     simp only[List.getElem?_cons_zero,Option.some.injEq]at g1
     subst g1
     simp only[Rd]at g2
     exact⟨n::ns,by rw[List.map_cons,←e1,g2.1],by rw[List.map_cons,←e2]⟩
    ·cases h
   ·cases h
theorem zuK (hT:TOK cx.P T) (h:Holds cx ⟨v,r⟩ a w β) (hc:c=true) {o:Oper} {s t:TypeId} {x:Operand} (ho:o.op= .convert s t x) (hs:(aop T c v r o.dst o.op).sc):
  Does cx v a w (execOp a.eval o) (aop T c v r o.dst o.op).x (aop T c v r o.dst o.op).r:=by
 simp only[ho,aop]at hs⊢
 obtain⟨s1,hs⟩:=hs
 have e1:=zbl h hc s1
 change Does cx v a w (execOp a.eval o) (convA T r s t (ev v x)).x (convA T r s t (ev v x)).r
 unfold convA at hs⊢
 split at hs
 ·rename_i ti h1
  split at hs
  ·rename_i k k0 n h3 h2
   rw[h2]at e1
   have f1:=(zas.1 e1).1
   have s2:=hs
   unfold isInt at s2
   split at s2
   ·rename_i si h4
    split at s2
    ·rename_i k3 h5
     obtain⟨d1,g1,g2,_⟩:=(hT t ti h1).1.run_under w
     obtain⟨d2,g3,g4,_⟩:=(hT s si h4).1.run_under w
     rw[h3]at g2
     rw[h5]at g4
     simp only[h1,h3,h2]
     refine .val h (u:= .int k (k.wrap n)) ?_ (zas.2 ⟨rfl,rfl⟩)
     have hd1:d1= .int k:=by cases d1<;>simp[zeB]at g2;rw[g2]
     have hd2:d2= .int k3:=by cases d2<;>simp[zeB]at g4;rw[g4]
     simp[execOp,ho,convert,g1,g3,hd1,hd2,f1,Conv.intToInt]
    ·cases s2
   ·cases s2
  ·rename_i y h3 h2
   rw[h2]at e1
   split at hs
   ·rename_i n ds h4
    split at hs
    ·rename_i l h5
     obtain⟨s2,s3⟩:=hs
     unfold isByS at s2
     split at s2
     ·rename_i e ei h6
      split at s2
      ·rename_i h7
       obtain⟨ad,cap,q1,q2,q3⟩:=zdp h (zaN.1 e1) h4
       obtain⟨f1,f2,hty,f4⟩:=zbv hT h6 w
       obtain⟨d1,g1,g2,g3⟩:=(hT t ti h1).1.run_under w
       obtain⟨d2,g4,g5,g6⟩:=hty.run_under w
       rw[h3]at g2
       rw[h7]at g5
       have hd1:d1= .string:=by cases d1<;>simp[zeB]at g2;rfl
       have hd2:d2= .int .u8:=by cases d2<;>simp[zeB]at g5;rw[g5]
       obtain⟨us,p1,p2,p3,_⟩:=zea (P:=cx.P) (n:=n) (cap:=cap) (m:=n) (size:=1) q3 (by omega)
       obtain⟨ns,r1,r2⟩:=zju h5 p1 p3
       simp only[h1,h3,h2,h4,h5]
       refine .val h (u:= .string ⟨l.toArray⟩) ?_ (zas.2 ⟨rfl,rfl⟩)
       have hrun:(convert s t (.slice ad n cap)).run cx.P w= .ok (.string ⟨l.toArray⟩) w:=by
        rw[run_convert_bytes_string w s t e ad n cap f4 (by rw[g6,hd2]) (by rw[g3,hd1])]
        cases ad with
        |none=>
         have:ds=[]:=by
          rcases Classical.em (ds=[])with h|h
          ·exact h
          ·obtain⟨_,_,hh⟩:=q3.addr h;cases hh
         subst this
         simp only[bytesOf,Option.some.injEq]at h5
         subst h5
         simp[Conv.bytesToString,ByteArray.empty,ByteArray.emptyWithCapacity]
         rfl
        |some b=>
         have hl:(loadCells b n).run cx.P w= .ok (ns.map (Value.int .u8)).toArray w:=by
          rw[←r1];simpa[Builtin.firstCells]using p2
         rw[run_bytesToString w b n cap ns hl,zjt,←r2]
         simp[ByteArray.empty,ByteArray.emptyWithCapacity]
         rfl
       simp[execOp,ho,q1,hrun]
      ·cases s2
     ·cases s2
    ·exact hs.elim
   ·exact hs.elim
  ·exact hs.elim
 ·exact hs.elim
theorem zoD {z:Array Value} {n size:Nat} (h:z.size=size):madeCells z (n*size)=Builtin.zeroCells z n:=by
 subst h
 rfl
theorem zuL (hT:TOK cx.P T) (h:Holds cx ⟨v,r⟩ a w β) (hc:c=true) {o:Oper} {t:TypeId} {x y:Operand} (ho:o.op= .makeSlice t x y) (hs:(aop T c v r o.dst o.op).sc):
  Does cx v a w (execOp a.eval o) (aop T c v r o.dst o.op).x (aop T c v r o.dst o.op).r:=by
 simp only[ho,aop]at hs⊢
 obtain⟨⟨s1,s2⟩,hs⟩:=hs
 have e1:=zbl h hc s1
 have e2:=zbl h hc s2
 change Does cx v a w (execOp a.eval o) (makeA T r c o.dst t (ev v x) (ev v y)).x (makeA T r c o.dst t (ev v x) (ev v y)).r
 unfold makeA at hs⊢
 split at hs
 ·rename_i e ei k n k2 m d h1 h2 h3 h4
  simp only[h1,h2,h3,h4]
  rw[h2]at e1
  rw[h3]at e2
  obtain⟨q1,q2,q3,q4⟩:=hs hc
  subst q2
  have f1:=(zas.1 e1).1
  have f2:=(zas.1 e2).1
  obtain⟨g1,g2,hty,g3⟩:=zbv hT h1 w
  have hty0:=hty
  obtain⟨⟨i,z,d0,hi,_,hz,hsz,hby,hzz,_⟩,_,_⟩:=hty0
  have hzs:z.cells.size=ei.size:=by rw[←Array.length_toList,←hzz,hty.len]
  have hrun:=run_make (P:=cx.P) w t e i z g3 hi hz k k2 n n q1 (Int.le_refl _) (by rw[←hby];omega) (by omega)
  rw[←hsz,zoD hzs]at hrun
  obtain⟨z1,z2,z3⟩:=zeb (cx:=cx) (w:=w.alloc (.cells (Builtin.zeroCells z.cells n.toNat) e)) (A:=fun _=>False) hty hzz.symm (n:=n.toNat)
  obtain⟨β2,t1,t2⟩:=ze0 h hc (d:=d) (n:=n.toNat) (sz:=ei.size) (ds:=ze1 ei.zero n.toNat) (pl0:=⟨some (w.heap.size,0),n.toNat⟩) (w':=w.alloc (.cells (Builtin.zeroCells z.cells n.toNat) e))
   (fun b o hb=>by cases hb;rfl) (fun b hb'=>zc3 w _ hb') (by simp) (by rw[zgh,hty.len];exact Nat.le_refl _) (Nat.le_refl _) (fun A' hA=>by
    have:=zqy (w:=w) (A:=A') (ds:=ze1 ei.zero n.toNat) (us:=(Builtin.zeroCells z.cells n.toNat).toList) (e:=e) (sz:=ei.size) (n:=n.toNat) (by rw[zgh,hty.len,z1]) z1
     (fun k d' hk=>by
      obtain⟨u,y1,y2⟩:=(zeb (cx:=cx) (w:=w.alloc (.cells (Builtin.zeroCells z.cells n.toNat).toList.toArray e (0,0))) (A:=A') hty hzz.symm (n:=n.toNat)).2.1 k d' hk
      exact⟨u,y1,y2⟩)
    simpa using this)
  refine⟨_,_,β2,_, ?_, .inl rfl,t1,t2⟩
  simp[execOp,ho,f1,f2,hrun]
 ·exact hs.elim
theorem zsm (hT:TOK cx.P T) (h:Holds cx ⟨v,r⟩ a w β) (hc:c=true) {o:Oper} {t:TypeId} {x:Operand} (ho:o.op= .makeInterface t x) (hs:(aop T c v r o.dst o.op).sc):
  Does cx v a w (execOp a.eval o) (aop T c v r o.dst o.op).x (aop T c v r o.dst o.op).r:=by
 simp only[ho,aop]at hs⊢
 obtain⟨s1,hs⟩:=hs
 have e1:=zbl h hc s1
 change Does cx v a w (execOp a.eval o) (ifaceA T r t (ev v x)).x (ifaceA T r t (ev v x)).r
 unfold ifaceA at hs⊢
 split at hs
 ·rename_i ti h1
  split at hs
  ·rename_i fs l h3 h2
   split at hs
   ·rename_i vs h4
    rw[h2]at e1
    obtain⟨us,f1,f2⟩:=zbR.1 e1
    have f3:=zge h4 f2
    obtain⟨d1,g1,g2,_⟩:=(hT t ti h1).1.run_under w
    rw[h3]at g2
    simp only[h1,h3,h2,h4]
    refine .val h (u:= .iface t (.agg vs.toArray)) ?_ (zas.2 ⟨rfl,rfl⟩)
    have hus:us=vs.toArray:=by rw[←f3]
    cases d1<;>simp[zeB]at g2<;>simp[execOp,ho,Instr.makeInterface,g1,f1,hus]
   ·exact hs.elim
  ·rename_i k0 k n h3 h2
   rw[h2]at e1
   have f1:=(zas.1 e1).1
   obtain⟨d1,g1,g2,_⟩:=(hT t ti h1).1.run_under w
   rw[h3]at g2
   simp only[h1,h3,h2]
   refine .val h (u:= .iface t (.int k n)) ?_ (zas.2 ⟨rfl,rfl⟩)
   cases d1<;>simp[zeB]at g2<;>simp[execOp,ho,Instr.makeInterface,g1,f1]
  ·exact hs.elim
 ·exact hs.elim
end
section
variable {cx:Cx} {v:List AV} {r:Rs} {a:Act} {w:World} {β:Nat→Nat→Pl} {T:Nat→Option TI} {c:Bool}
theorem zwk (h:Holds cx ⟨v,r⟩ a w β) (hc:c=true) {o:Oper} {ts:Array TypeId} {as:Array Operand} (ho:o.op= .call ⟨.builtin .min,as,ts⟩)
  (hs:(aop T c v r o.dst o.op).sc):Does cx v a w (execOp a.eval o) (aop T c v r o.dst o.op).x (aop T c v r o.dst o.op).r:=by
 simp only[ho,aop]at hs⊢
 exact zwC (mx:=false) h hc (by rw[ho];rfl) hs
theorem zwl (h:Holds cx ⟨v,r⟩ a w β) (hc:c=true) {o:Oper} {ts:Array TypeId} {as:Array Operand} (ho:o.op= .call ⟨.builtin .max,as,ts⟩)
  (hs:(aop T c v r o.dst o.op).sc):Does cx v a w (execOp a.eval o) (aop T c v r o.dst o.op).x (aop T c v r o.dst o.op).r:=by
 simp only[ho,aop]at hs⊢
 exact zwC (mx:=true) h hc (by rw[ho];rfl) hs
theorem ztS (hT:TOK cx.P T) (h:Holds cx ⟨v,r⟩ a w β) (hc:c=true) {o:Oper} (hs:(aop T c v r o.dst o.op).sc):
  Does cx v a w (execOp a.eval o) (aop T c v r o.dst o.op).x (aop T c v r o.dst o.op).r:=by
 have no:∀{op:Op},o.op=op→aop T c v r o.dst op=bad→Does cx v a w (execOp a.eval o) (aop T c v r o.dst o.op).x (aop T c v r o.dst o.op).r:=fun h1 h2=>by
  rw[h1,h2]at hs
  exact hs.elim
 cases ho:o.op with
 |move x=>rw[←ho];exact zuV h hc ho hs
 |assign x=>rw[←ho];exact zqo h hc ho hs
 |pick t x z=>rw[←ho];exact zuW h hc ho hs
 |alloc t=>rw[←ho];exact zsE hT h hc ho hs
 |box t x=>rw[←ho];exact zwv h hc ho hs
 |build t ps=>rw[←ho];exact zsw hT h hc ho hs
 |buildSlice t n ps=>rw[←ho];exact zkk hT h hc ho hs
 |makeSlice t x y=>rw[←ho];exact zuL hT h hc ho hs
 |load t x=>rw[←ho];exact zuY hT h hc ho hs
 |store t x y=>rw[←ho];exact zsv h hc hT ho hs
 |nilCheck x=>rw[←ho];exact zwz h hc ho hs
 |binOp op t x y yt=>rw[←ho];exact zwx hT h hc ho hs
 |unOp op t x=>
  cases op with
  |not=>rw[←ho];exact zww h hc ho hs
  |_=>rw[←ho];exact no ho rfl
 |convert s t x=>rw[←ho];exact zuK hT h hc ho hs
 |makeInterface t x=>rw[←ho];exact zsm hT h hc ho hs
 |makeFunc fn first caps=>
  cases fn with
  |func f=>rw[←ho];exact zu1 h hc ho hs
  |_=>rw[←ho];exact no ho rfl
 |slice t x lo hi mx=>
  cases mx with
  |none=>rw[←ho];exact zsD hT h hc ho hs
  |some _=>rw[←ho];exact zqx hT h hc ho hs
 |fieldAddr t x f=>rw[←ho];exact zsA hT h hc ho hs
 |indexAddr t x i=>rw[←ho];exact zwy hT h hc ho hs
 |index t x i=>rw[←ho];exact zsC hT h hc ho hs
 |field t x f=>rw[←ho];exact zqw hT h hc ho hs
 |extract x i=>rw[←ho];exact zoH h hc ho hs
 |call k=>
  obtain⟨callee,as,ts⟩:=k
  cases callee with
  |builtin b=>
   cases b with
   |append=>rw[←ho];exact zqA h hc hT ho hs
   |len=>rw[←ho];exact zwA (x:= .const undef) hT h hc ho hs
   |cap=>rw[←ho];exact zwB hT h hc ho hs
   |copy=>rw[←ho];exact zuT h hc hT ho hs
   |clear=>rw[←ho];exact zsx h hc hT ho hs
   |max=>rw[←ho];exact zwl h hc ho hs
   |min=>rw[←ho];exact zwk h hc ho hs
   |_=>rw[←ho];exact no ho rfl
  |_=>rw[←ho];exact no ho rfl
 |_=>rw[←ho];exact no ho rfl
theorem ztT {x:Out} {p:Prop}:(x.with p).r=x.r:=rfl
theorem zck {x:Out} {p:Prop} (h:(x.with p).sc):x.sc:=h.2
theorem zwm {o:BinOp} {t:Nat} {x y:AV} (hs:(binA T r o t x y).sc):(binA T r o t x y).r=r:=by
 unfold binA at*
 repeat' split at hs
 all_goals first|exact hs.elim|simp only[*]
theorem zwn {t:Nat} {x y:AV} (hs:(idxA T r c t x y).sc):(idxA T r c t x y).r=r:=by
 unfold idxA at*
 repeat' split at hs
 all_goals first|exact hs.elim|simp only[*]
theorem zsn {t f:Nat} {y:AV} (hs:(fieldA T r t f y).sc):(fieldA T r t f y).r=r:=by
 unfold fieldA at*
 repeat' split at hs
 all_goals first|exact hs.elim|simp only[*]
theorem zso {t:Nat} {y:AV} {l hi:Option AV} (hs:(sliceA T r c t y l hi).sc):(sliceA T r c t y l hi).r=r:=by
 unfold sliceA at*
 repeat' split at hs
 all_goals first|exact hs.elim|simp only[*]
theorem zqg {t:Nat} {y:AV} {l hi m:Option AV} (hs:(slice3A T r c t y l hi m).sc):(slice3A T r c t y l hi m).r=r:=by
 unfold slice3A at*
 repeat' split at hs
 all_goals first|exact hs.elim|simp only[*]
theorem zuM {e e2:Nat} {y:AV} (hs:(convA T r e e2 y).sc):(convA T r e e2 y).r=r:=by
 unfold convA at*
 repeat' split at hs
 all_goals first|exact hs.elim|simp only[*]
theorem zsp {t:Nat} {y:AV} (hs:(ifaceA T r t y).sc):(ifaceA T r t y).r=r:=by
 unfold ifaceA at*
 repeat' split at hs
 all_goals first|exact hs.elim|simp only[*]
theorem zwo {t:Option Nat} {y:AV} (hs:(lenA T r t y).sc):(lenA T r t y).r=r:=by
 unfold lenA at*
 repeat' split at hs
 all_goals first|exact hs.elim|simp only[*]
theorem zwp {mx:Bool} {y:List AV} (hs:(mmA r mx y).sc):(mmA r mx y).r=r:=by
 unfold mmA at*
 repeat' split at hs
 all_goals first|exact hs.elim|simp only[*]
theorem zkg {op:Op} {dst:Option Nat} (hg:znT op=true) (hs:(aop T c v r dst op).sc):(aop T c v r dst op).r=r:=by
 cases op with
 |move x=>rfl
 |pick t x z=>
  simp only[aop]at hs⊢
  repeat' split at hs
  all_goals first|exact hs.elim|simp only[*]
 |build t ps=>
  simp only[aop]at hs⊢
  repeat' split at hs
  all_goals first|exact hs.elim|simp only[*]
 |load t x=>
  simp only[aop]at hs⊢
  repeat' split at hs
  all_goals first|exact hs.elim|simp only[*]
 |nilCheck x=>
  simp only[aop]at hs⊢
  repeat' split at hs
  all_goals first|exact hs.elim|simp only[*]
 |binOp op t x y yt=>exact zwm (zck hs)
 |unOp op t x=>
  cases op with
  |not=>
   simp only[aop]at hs⊢
   repeat' split at hs
   all_goals first|exact hs.elim|simp only[*]
  |_=>exact hs.elim
 |convert s t x=>exact zuM (zck hs)
 |makeInterface t x=>exact zsp (zck hs)
 |makeFunc fn first caps=>
  cases fn with
  |func f=>
   obtain⟨first⟩:=first
   cases first with
   |nil=>
    simp only[aop]at hs⊢
    repeat' split at hs
    all_goals first|exact hs.elim|simp only[*]
   |cons _ _=>exact hs.elim
  |_=>exact hs.elim
 |slice t x lo hi mx=>
  cases mx with
  |none=>exact zso (zck hs)
  |some _=>exact zqg (zck hs)
 |fieldAddr t x f=>
  simp only[aop]at hs⊢
  repeat' split at hs
  all_goals first|exact hs.elim|simp only[*]
 |indexAddr t x i=>exact zwn (zck hs)
 |field t x f=>exact zsn (zck hs)
 |index t x i=>
  simp only[aop]at hs⊢
  repeat' split at hs
  all_goals first|exact hs.elim|simp only[*]
 |extract x i=>
  simp only[aop]at hs⊢
  repeat' split at hs
  all_goals first|exact hs.elim|simp only[*]
 |call k=>
  obtain⟨callee,as,ts⟩:=k
  cases callee with
  |builtin b=>
   cases b with
   |len=>
    simp only[aop]at hs⊢
    split at hs
    ·try simp only[*]
     exact zwo (zck hs)
    ·exact hs.elim
   |max=>exact zwp (zck hs)
   |min=>exact zwp (zck hs)
   |_=>cases hg
  |_=>cases hg
 |_=>cases hg
end
section
variable {cx:Cx} {v:List AV} {r r':Rs} {a:Act} {w w':World} {β β':Nat→Nat→Pl} {T:Nat→Option TI} {c:Bool}
def rowAt (e sz:Nat) (ds:List D):Res:={e,var:=false,fz:=false,sz,cells:=ds.map C.d}
def Bound (r':Rs) (β':Nat→Nat→Pl) (γ:Nat→Pl) (s e k:Nat) (l:List RO):Prop:=
 ∀(i sz n:Nat) (ds:List D) (bo:Bool),l[i]? =some (.own sz n ds bo)→(∃bb,getR r' ⟨s,k+i+1,e⟩=some {rowAt e sz ds with bor:=bb})∧β' s (k+i+1)=γ (k+i)∧e<nxt r' s
theorem Bound.tail {γ:Nat→Pl} {s e k:Nat} {x:RO} {l:List RO} (h:Bound r' β' γ s e k (x::l)):Bound r' β' γ s e (k+1) l:=fun i sz n ds bo hi=>by
 have:=h (i+1) sz n ds bo (by simpa using hi)
 simpa[Nat.add_assoc,Nat.add_comm 1 i]using this
theorem Bound.left {γ:Nat→Pl} {s e k:Nat} {l m:List RO} (h:Bound r' β' γ s e k (l++m)):Bound r' β' γ s e k l:=fun i sz n ds bo hi=>
 h i sz n ds bo (by rw[List.getElem?_append_left (List.getElem?_eq_some_iff.1 hi).1];exact hi)
theorem Bound.right {γ:Nat→Pl} {s e k:Nat} {l m:List RO} (h:Bound r' β' γ s e k (l++m)):Bound r' β' γ s e (k+l.length) m:=fun i sz n ds bo hi=>by
 have:=h (l.length+i) sz n ds bo (by rw[List.getElem?_append_right (Nat.le_add_right _ _)];simpa using hi)
 simpa[Nat.add_assoc]using this
theorem zdB {A:Nat→Prop} {γ:Nat→Pl} {s e:Nat} (hA:∀b,Av cx r' β' b→A b):∀{l:List RO} {k:Nat} {us:List Value},Bound r' β' γ s e k l→ROcs A w' γ k l us→ReCs cx w' r' β' (bindCs s e k l) us
 |[],k,us,_,h=>by simpa[ROcs,bindCs,ReCs]using h
 | .d x::l,k,us,hb,h=>by
  simp only[ROcs,ROc]at h
  obtain⟨u,us',rfl,h1,h2⟩:=h
  simp only[bindCs,ReCs,ReC]
  exact⟨u,us',rfl,h1.stb ⟨fun _ _ _=>rfl,fun b _ hb=>hA b hb⟩,zdB hA hb.tail h2⟩
 | .own sz n ds bo::l,k,us,hb,h=>by
  simp only[ROcs,ROc]at h
  obtain⟨u,us',rfl,⟨h1,h2,h3,ad,h4,h5⟩,h6⟩:=h
  simp only[bindCs,ReCs,ReC]
  obtain⟨⟨bb,g1⟩,g2,g3⟩:=hb 0 sz n ds bo (by simp)
  simp only[Nat.add_zero]at g1 g2
  refine⟨u,us',rfl,⟨by rw[h4];rfl,g3,fun res hres=> ?_⟩,zdB hA hb.tail h6⟩
  rw[g1]at hres
  cases hres
  rw[g2]
  refine⟨rfl,by simpa[rowAt]using h1,by simpa using h2,ad,by simpa using h4, ?_⟩
  rcases h5 with h5|⟨b,o,h5,h7⟩
  ·exact .inl (by simpa using h5)
  ·exact .inr ⟨b,o,h5,by simpa using h7⟩
theorem zd8 {s e:Nat}:∀{l:List RO} {k:Nat},(bindCs s e k l).length=l.length
 |[],_=>rfl
 | .d _::l,k=>by simp[bindCs,zd8 (l:=l)]
 | .own .. ::l,k=>by simp[bindCs,zd8 (l:=l)]
theorem zsq {A:Nat→Prop} {γ:Nat→Pl} {s e k:Nat} (hA:∀b,Av cx r' β' b→A b) {x:RF} {u:Value} (hb:Bound r' β' γ s e k x.cells) (h:RFv A w' γ k x u):
  ReA cx w' r' β' (bindF s e k x) u:=by
 cases x with
 |one x=>
  simp only[RFv]at h
  have:=zdB (us:=[u]) hA hb (by simp only[RF.cells,ROcs];exact⟨u,[],rfl,h,rfl⟩)
  simp only[RF.cells]at this
  unfold bindF
  cases hx:bindCs s e k [x]with
  |nil=>have:=congrArg List.length hx;simp[zd8]at this
  |cons y ys=>
   cases ys with
   |cons _ _=>have:=congrArg List.length hx;simp[zd8]at this
   |nil=>
    rw[hx]at this
    simp only[ReCs]at this
    obtain⟨u',us',h1,h2,_⟩:=this
    cases h1
    simp only[hx]
    exact zaN.2 h2
 |agg l=>
  simp only[RFv]at h
  obtain⟨us,rfl,h2⟩:=h
  exact zbR.2 ⟨us,rfl,zdB hA hb h2⟩
theorem zdC {A:Nat→Prop} {γ:Nat→Pl} {s e:Nat} (hA:∀b,Av cx r' β' b→A b):∀{rfs:List RF} {k:Nat} {us:List Value},Bound r' β' γ s e k (rfs.flatMap RF.cells)→RFvs A w' γ k rfs us→
  ReAs cx w' r' β' (bindFs s e k rfs) us
 |[],k,us,_,h=>by simpa[RFvs,bindFs,ReAs]using h
 |x::rfs,k,us,hb,h=>by
  simp only[RFvs]at h
  obtain⟨u,us',rfl,h1,h2⟩:=h
  simp only[List.flatMap_cons]at hb
  simp only[bindFs,ReAs]
  exact⟨u,us',rfl,zsq hA hb.left h1,zdC hA hb.right h2⟩
theorem zgb {l:List AV} {us:List Value} {u:Value} (hu:u=(match us with|[x]=>x|us=> .tuple us.toArray)) (h:ReAs cx w' r' β' l us):ReA cx w' r' β' (tupOf l) u:=by
 cases l with
 |nil=>simp only[ReAs]at h;subst h;subst hu;simp only[tupOf,ReA];exact⟨_,rfl,by simp[ReAs]⟩
 |cons x l=>
  simp only[ReAs]at h
  obtain⟨y,ys,rfl,h1,h2⟩:=h
  cases l with
  |nil=>simp only[ReAs]at h2;subst h2;subst hu;exact h1
  |cons x' l=>
   simp only[ReAs]at h2
   obtain⟨y',ys',rfl,h3,h4⟩:=h2
   subst hu
   simp only[tupOf,ReA]
   refine⟨_,rfl, ?_⟩
   simp only[ReAs]
   exact⟨y,_,rfl,h1,y',ys',rfl,h3,h4⟩
theorem zgc:∀{l:List RO},noOwn l=true→∀(i sz n:Nat) (ds:List D) (bo:Bool),l[i]? ≠some (RO.own sz n ds bo)
 |[],_,i,_,_,_,_=>by simp
 | .d x::l,h,0,_,_,_,_=>by simp
 | .d x::l,h,i+1,sz,n,ds,bo=>by simpa using zgc (l:=l) (by simpa[noOwn]using h) i sz n ds bo
 | .own .. ::l,h,_,_,_,_,_=>by simp[noOwn]at h
theorem zeQ {γ:Nat→Pl}:∀{l:List RO} {k i sz n b o:Nat} {ds:List D} {bo:Bool},l[i]? =some (.own sz n ds bo)→(γ (k+i)).base=some (b,o)→NB γ k l b
 |[],_,_,_,_,_,_,_,_,h,_=>by simp at h
 | .d x::l,k,0,_,_,_,_,_,_,h,_=>by simp at h
 | .own sz n ds _::l,k,0,_,_,_,o,_,_,h,hb=>by simp only[NB];exact .inl ⟨o,hb⟩
 | .d x::l,k,i+1,sz,n,b,o,ds,bo,h,hb=>by
  simp only[NB]
  exact zeQ (i:=i) (by simpa using h) (by rw[←hb];congr 2;omega)
 | .own _ _ _ _::l,k,i+1,sz,n,b,o,ds,bo,h,hb=>by
  simp only[NB]
  exact .inr (zeQ (i:=i) (by simpa using h) (by rw[←hb];congr 2;omega))
theorem zfo {B:Bool} {e:Nat}:∀{l:List RO} {j:Nat} {res:Res},(bindRs B e l)[j]? =some (some res)→∃sz n ds bo,l[j]? =some (.own sz n ds bo)∧res={rowAt e sz ds with bor:=bo&&B}
 |[],j,_,h=>by simp[bindRs]at h
 | .d x::l,0,_,h=>by simp[bindRs]at h
 | .own sz n ds bo::l,0,res,h=>by
  simp only[bindRs,List.getElem?_cons_zero,Option.some.injEq]at h
  exact⟨sz,n,ds,bo,by simp,h.symm⟩
 | .d x::l,j+1,res,h=>by simpa using zfo (l:=l) (j:=j) (by simpa[bindRs]using h)
 | .own .. ::l,j+1,res,h=>by simpa using zfo (l:=l) (j:=j) (by simpa[bindRs]using h)
theorem zdD {B:Bool} {e:Nat}:∀{l:List RO} {j sz n:Nat} {ds:List D} {bo:Bool},l[j]? =some (.own sz n ds bo)→(bindRs B e l)[j]? =some (some {rowAt e sz ds with bor:=bo&&B})
 |[],j,_,_,_,_,h=>by simp at h
 | .d x::l,0,_,_,_,_,h=>by simp at h
 | .own sz n ds bo::l,0,_,_,_,_,h=>by
  simp only[List.getElem?_cons_zero,Option.some.injEq,RO.own.injEq]at h
  obtain⟨rfl,rfl,rfl,rfl⟩:=h
  rfl
 | .d x::l,j+1,sz,n,ds,bo,h=>by simpa[bindRs]using zdD (B:=B) (e:=e) (l:=l) (j:=j) (by simpa using h)
 | .own .. ::l,j+1,sz,n,ds,bo,h=>by simpa[bindRs]using zdD (B:=B) (e:=e) (l:=l) (j:=j) (by simpa using h)
theorem ROcs.row {A:Nat→Prop} {γ:Nat→Pl}:∀{l:List RO} {k i sz n:Nat} {ds:List D} {bo:Bool} {us:List Value},ROcs A w' γ k l us→l[i]? =some (.own sz n ds bo)→RowM w' A (γ (k+i)) sz ds
 |[],_,_,_,_,_,_,_,_,h=>by simp at h
 |x::l,k,0,sz,n,ds,bo,us,h,hi=>by
  simp only[List.getElem?_cons_zero,Option.some.injEq]at hi
  subst hi
  simp only[ROcs,ROc]at h
  obtain⟨u,us',_,⟨_,_,h3,_⟩,_⟩:=h
  exact h3
 |x::l,k,i+1,sz,n,ds,bo,us,h,hi=>by
  simp only[ROcs]at h
  obtain⟨u,us',_,_,h2⟩:=h
  have:=ROcs.row h2 (i:=i) (by simpa using hi)
  rw[show k+(i+1)=k+1+i from by omega]
  exact this
theorem RFvs.row {A:Nat→Prop} {γ:Nat→Pl}:∀{rfs:List RF} {k i sz n:Nat} {ds:List D} {bo:Bool} {us:List Value},RFvs A w' γ k rfs us→(rfs.flatMap RF.cells)[i]? =some (.own sz n ds bo)→RowM w' A (γ (k+i)) sz ds
 |[],_,_,_,_,_,_,_,_,h=>by simp at h
 |x::rfs,k,i,sz,n,ds,bo,us,h,hi=>by
  simp only[RFvs]at h
  obtain⟨u,us',_,h1,h2⟩:=h
  rw[List.flatMap_cons]at hi
  rcases Nat.lt_or_ge i x.cells.length with hlt|hge
  ·rw[List.getElem?_append_left hlt]at hi
   cases x with
   |one x=>
    simp only[RFv]at h1
    exact ROcs.row (us:=[u]) (l:=[x]) (by simp only[ROcs];exact⟨u,[],rfl,h1,rfl⟩) hi
   |agg l=>
    simp only[RFv]at h1
    obtain⟨us,_,h3⟩:=h1
    exact ROcs.row h3 hi
  ·rw[List.getElem?_append_right hge]at hi
   have:=RFvs.row h2 hi
   rw[show k+x.cells.length+(i - x.cells.length)=k+i from by omega]at this
   exact this
theorem Holds.calm (h:Holds cx ⟨v,r⟩ a w β) (hsz:w.heap.size≤w'.heap.size) (hold:∀b,b<w.heap.size→w'.heap[b]? =w.heap[b]?) (hos:w'.os=w.os) (hout:w'.output=w.output):
  Holds cx ⟨v,r⟩ a w' β∧Ext cx w r β w' r β:=by
 have x:Ext cx w r β w' r β:=⟨fun _=>Nat.le_refl _,fun hd res' _ hg=>⟨res',hg,rfl,rfl,rfl,Nat.le_refl _⟩,⟨fun b hb _=>hold b hb,fun _ _ h=>h⟩,fun b hb _=>hold b (Nat.lt_of_lt_of_le hb h.n0),hos,hout⟩
 exact⟨h.mk' x (fun s j res hl=>⟨(h.rs s j res hl).1.ext x (fun b o hb=>hold b ((h.rs s j res hl).1.lt hb)) (fun b o hb=>(h.rs s j res hl).1.lt hb),(h.rs s j res hl).2⟩) h.inj h.fr hsz,x⟩
theorem zlE (h:Holds cx ⟨v,r⟩ a w β) {rfs:List RF} {u:Value} (hn:noOwn (rfs.flatMap RF.cells)=true) (hr:Ret w (Av cx r β) noB w' [] rfs [] u):
  Holds cx ⟨v,r⟩ a w' β∧ReA cx w' r β (tupOf (bindFs 0 0 0 rfs)) u:=by
 obtain⟨⟨γ,us,h1,h2,_,_,_⟩,h3,h4,h5,h6⟩:=hr
 obtain⟨g1,g2⟩:=h.calm h3 (fun b hb=>h4 b hb (fun h=>h.elim)) h5 h6
 refine⟨g1,zgb h1 (zdC (γ:=γ) (fun b hb=> .inl hb) (fun i sz n ds bo hi=>absurd hi (zgc hn i sz n ds bo)) h2)⟩
theorem zuN (h:Holds cx ⟨v,r⟩ a w β) {rfs:List RF} {u:Value} {d:Nat} (hr:Ret w (Av cx r β) noB w' [] rfs [] u):
  ∃β',Holds cx ⟨v,setR d {next:=nxt r d+1,l:=none::bindRs false (nxt r d) (rfs.flatMap RF.cells)} r⟩ a w' β'∧
   ReA cx w' (setR d {next:=nxt r d+1,l:=none::bindRs false (nxt r d) (rfs.flatMap RF.cells)} r) β' (tupOf (bindFs d (nxt r d) 0 rfs)) u:=by
 obtain⟨⟨γ,us,h1,h2,_,hnb,_,hap⟩,h3,h4,h5,h6⟩:=hr
 simp only[zbw,List.flatten_nil,List.append_nil]at h2 hnb hap
 generalize hcs:rfs.flatMap RF.cells=cs at*
 generalize hr':setR d {next:=nxt r d+1,l:=none::bindRs false (nxt r d) cs} r=r'
 have hlook:∀j res,lookR r' d j=some res→∃k sz n ds bo,j=k+1∧cs[k]? =some (.own sz n ds bo)∧res=rowAt (nxt r d) sz ds:=fun j res hl=>by
  rw[←hr',zax,if_pos rfl]at hl
  simp only at hl
  split at hl
  ·rename_i q hj
   cases hl
   cases j with
   |zero=>simp at hj
   |succ k=>
    obtain⟨sz,n,ds,bo,g1,g2⟩:=zfo (by simpa using hj)
    exact⟨k,sz,n,ds,bo,rfl,g1,by simpa[rowAt]using g2⟩
  ·cases hl
 have hlook2:∀s j,s≠d→lookR r' s j=lookR r s j:=fun s j hs=>by rw[←hr',zax,if_neg (Ne.symm hs)]
 have hnx:∀s,nxt r' s=if d=s then nxt r d+1 else nxt r s:=fun s=>by rw[←hr',zaL]
 let β':Nat→Nat→Pl:=fun s j=>if s=d then γ (j - 1)else β s j
 have hβ0:∀k,β' d (k+1)=γ k:=fun k=>by simp[β']
 have hβ1:∀s j,s≠d→β' s j=β s j:=fun s j hs=>by simp[β',hs]
 have hnew:∀{k sz n ds bo b o},cs[k]? =some (.own sz n ds bo)→(γ k).base=some (b,o)→w.heap.size≤b:=fun {k sz n ds bo b o} hk hb=>by
  have:=hnb b (zeQ (k:=0) hk (by simpa using hb))
  exact this.1.resolve_right fun h=>h
 have hlt:∀{s j res b o},lookR r s j=some res→(β s j).base=some (b,o)→b<w.heap.size:=fun hl hb=>(h.rs _ _ _ hl).1.lt hb
 have hAv:∀b,Av cx r' β' b→Av cx r β b∨NB γ 0 cs b:=fun b hA=>by
  rcases hA with hA|⟨s,j,res,o,hl,hf,hb⟩
  ·exact .inl (.inl hA)
  ·by_cases hs:s=d
   ·subst hs
    obtain⟨k,sz,n,ds,bo,rfl,g1,g2⟩:=hlook _ _ hl
    rw[hβ0]at hb
    exact .inr (zeQ (k:=0) g1 (by simpa using hb))
   ·rw[hlook2 _ _ hs]at hl
    rw[hβ1 _ _ hs]at hb
    exact .inl (.inr ⟨s,j,res,o,hl,hf,hb⟩)
 have hx:Ext cx w r β w' r' β':=by
  refine⟨fun s=> ?_,fun hd res' hlt' hg=> ?_,⟨fun b hb' _=>h4 b hb' (fun h=>h),fun b hb' hA=> ?_⟩,fun b hb' hn=>h4 b (Nat.lt_of_lt_of_le hb' h.n0) (fun h=>h),h5,h6⟩
  ·rw[hnx];split
   ·rename_i e;subst e;exact Nat.le_succ _
   ·exact Nat.le_refl _
  ·obtain⟨hl,hee⟩:=zad hg
   by_cases hs:hd.s=d
   ·rw[hs]at hl hlt'
    obtain⟨k,sz,n,ds,bo,_,_,rfl⟩:=hlook _ _ hl
    simp only[rowAt]at hee
    omega
   ·rw[hlook2 _ _ hs]at hl
    exact⟨res',zao hl hee,hβ1 _ _ hs,rfl,rfl,Nat.le_refl _⟩
  ·rcases hAv b hA with h'|h'
   ·exact h'
   ·have:=(hnb b h').1.resolve_right fun h=>h
    omega
 have hH:Holds cx ⟨v,r'⟩ a w' β':=by
  refine h.mk' hx (fun s j res hl=> ?_) (fun s j res s' j' res' b o o' hl hf hl' hf' hbs hbs'=> ?_) (fun s j res b o hl hf hbs=> ?_) h3
  ·by_cases hs:s=d
   ·subst hs
    obtain⟨k,sz,n,ds,bo,rfl,g1,rfl⟩:=hlook _ _ hl
    rw[hβ0]
    refine⟨?_,by rw[hnx,if_pos rfl];exact Nat.lt_succ_self _⟩
    unfold ResOK
    rw[if_neg (by simp[rowAt])]
    refine⟨ds,rfl, ?_,fun hf=>by simp[rowAt]at hf⟩
    have:=RFvs.row h2 (by rw[hcs];exact g1)
    rw[Nat.zero_add]at this
    exact this.stb ⟨fun _ _ _=>rfl,fun b _ hb=>hAv b hb⟩ (fun _ _ _=>rfl)
   ·rw[hlook2 _ _ hs]at hl
    rw[hβ1 _ _ hs]
    obtain⟨g1,g2⟩:=h.rs s j res hl
    exact⟨g1.ext hx (fun b o hb=>h4 b (g1.lt hb) (fun h=>h)) (fun b o hb=>g1.lt hb),by rw[hnx,if_neg (Ne.symm hs)];exact g2⟩
  ·by_cases hs:s=d<;>by_cases hs':s'=d
   ·subst hs;subst hs'
    obtain⟨k,sz,n,ds,bo,rfl,g1,rfl⟩:=hlook _ _ hl
    obtain⟨k',sz',n',ds',bo',rfl,g1',rfl⟩:=hlook _ _ hl'
    rw[hβ0]at hbs hbs'
    exact⟨rfl,by rw[hap k k' b o o' sz n ds bo sz' n' ds' bo' g1 g1' hbs hbs']⟩
   ·subst hs
    obtain⟨k,sz,n,ds,bo,rfl,g1,rfl⟩:=hlook _ _ hl
    rw[hβ0]at hbs
    rw[hlook2 _ _ hs']at hl'
    rw[hβ1 _ _ hs']at hbs'
    have h5:=hnew g1 hbs
    have h6:=hlt hl' hbs'
    omega
   ·subst hs'
    obtain⟨k,sz,n,ds,bo,rfl,g1,rfl⟩:=hlook _ _ hl'
    rw[hβ0]at hbs'
    rw[hlook2 _ _ hs]at hl
    rw[hβ1 _ _ hs]at hbs
    have h5:=hnew g1 hbs'
    have h6:=hlt hl hbs
    omega
   ·rw[hlook2 _ _ hs]at hl
    rw[hlook2 _ _ hs']at hl'
    rw[hβ1 _ _ hs]at hbs
    rw[hβ1 _ _ hs']at hbs'
    exact h.inj _ _ _ _ _ _ _ _ _ hl hf hl' hf' hbs hbs'
  ·by_cases hs:s=d
   ·subst hs
    obtain⟨k,sz,n,ds,bo,rfl,g1,rfl⟩:=hlook _ _ hl
    rw[hβ0]at hbs
    have h5:=hnew g1 hbs
    have h6:=h.n0
    exact⟨.inl (by omega),fun _=>by omega⟩
   ·rw[hlook2 _ _ hs]at hl
    rw[hβ1 _ _ hs]at hbs
    exact h.fr _ _ _ _ _ hl hf hbs
 refine⟨β',hH,zgb h1 (zdC (γ:=γ) hAv (fun i sz n ds bo hi=> ?_) h2)⟩
 rw[hcs]at hi
 refine⟨⟨false,zao ?_ rfl⟩,by rw[Nat.zero_add];exact hβ0 i,by rw[hnx,if_pos rfl];exact Nat.lt_succ_self _⟩
 rw[←hr',zax,if_pos rfl]
 simp[zdD hi,rowAt]
theorem zwq (h:Holds cx ⟨v,r⟩ a w β) {rfs:List RF} {u:Value} (hr:Ret w (Av cx r β) noB w' [] rfs [] u) (dst:Option Nat):
  ∃β',Holds cx ⟨v,(bindRet r dst rfs).2⟩ a w' β'∧ReA cx w' (bindRet r dst rfs).2 β' (bindRet r dst rfs).1 u:=by
 unfold bindRet bindRetB
 simp only
 split
 ·rename_i hn
  exact⟨β,zlE h hn hr⟩
 ·cases dst with
  |some d=>exact zuN h hr
  |none=>exact⟨β,(h.calm hr.size (fun b hb=>hr.old b hb (fun h=>h)) hr.os hr.out).1,by simp[ReA,ReC]⟩
end
def avRF (r:Rs):AV→Option RF
 | .one x=>match roC r x with|some y=>some (.one y)|none=>none
 | .agg l=>match roCs r l with|some y=>some (.agg y)|none=>none
 |_=>none
def avRFs (r:Rs):List AV→Option (List RF)
 |[]=>some []
 |x::xs=>match avRF r x,avRFs r xs with
  |some y,some ys=>some (y::ys)
  |_,_=>none
def avCells:AV→List C
 | .one x=>[x]
 | .agg l=>l
 |_=>[]
def avCellss:List AV→List C
 |[]=>[]
 |x::xs=>avCells x++avCellss xs
def flatCs:List (List C)→List C
 |[]=>[]
 |x::xs=>x++flatCs xs
section
variable (T:Nat→Option TI)
def resA (v:List AV) (r:Rs):ResultVar→Prop×AV
 | .tmp t=>(True,gev v (.tmp t))
 | .cell a t=>match gev v (.tmp a)with
  | .one (.ptr h off)=>match getR r h with
   |some res=>loadC T t (res.cells.drop off)
   |none=>(False, .one .dead)
  |_=>(False, .one .dead)
def resAs (v:List AV) (r:Rs):List ResultVar→Prop×List AV
 |[]=>(True,[])
 |x::xs=>((resA T v r x).1∧(resAs v r xs).1,(resA T v r x).2::(resAs v r xs).2)
inductive Pos where
 |o (p:Nat)
 |r (p n:Nat)
 |h (hd:Hd)
def objCs (r:Rs):List Pos→Option (List (List C))
 |[]=>some []
 | .o p::ps=>match getR r ⟨p,0,0⟩,objCs r ps with
  |some res,some cs=>if res.var=true then some (res.cells::cs)else none
  |_,_=>none
 | .r _ _::ps=>match objCs r ps with
  |some cs=>some ([]::cs)
  |none=>none
 | .h _::_=>none
def rowB (r:Rs) (rc:List (Nat×Nat)) (p n:Nat):List C:=
 match getR r ⟨p,1,0⟩with
 |some res=>if res.fz=true then []else if res.var=true then []else if rc.contains (p,1)=true then []else [C.own ⟨p,1,0⟩ 0 n]
 |none=>[]
def addRows (r:Rs) (rc:List (Nat×Nat)):List Pos→List (List C)→List (List C)
 |[],cs=>cs
 | .o _::ps,c::cs=>c::addRows r rc ps cs
 | .r p n::ps,_::cs=>rowB r rc p n::addRows r rc ps cs
 | .h _::ps,c::cs=>c::addRows r rc ps cs
 |_::_,[]=>[]
def objCsA (r:Rs) (ys:List AV) (ps:List Pos):Option (List (List C)):=
 match objCs r ps with
 |some cs=>some (addRows r (ownHs r (avCellss ys++flatCs cs)) ps cs)
 |none=>none
def closeB (r:Rs) (ys:List AV) (ocs:Option (List (List C))) (post:List RF→List (List RO)→Prop):Prop:=
 match avRFs r ys,ocs with
 |some rfs,some cs=>match roCss r cs with
  |some objs=>ndB (ownHs r (avCellss ys++flatCs cs))=true∧post rfs objs
  |none=>False
 |_,_=>False
def closeA (rvs:List ResultVar) (ps:List Pos) (post:List RF→List (List RO)→Prop) (g:G):Prop:=
 (resAs T g.v g.r rvs).1∧closeB g.r (resAs T g.v g.r rvs).2 (objCsA g.r (resAs T g.v g.r rvs).2 ps) post
end
section
variable {T:Nat→Option TI} {cx:Cx} {v:List AV} {r:Rs} {a:Act} {w:World} {β:Nat→Nat→Pl}
def γof (β:Nat→Nat→Pl) (L:List C) (k:Nat):Pl:=
 match L[k]? with
 |some (.own h _ _)=>β h.s h.j
 |_=>⟨none,0⟩
theorem zkh:∀{l:List C} {ys:List RO} {i:Nat} {y:RO},roCs r l=some ys→ys[i]? =some y→∃x,l[i]? =some x∧roC r x=some y
 |[],ys,i,y,h,hi=>by simp only[roCs,Option.some.injEq]at h;subst h;simp at hi
 |x::l,ys,i,y,h,hi=>by
  simp only[roCs]at h
  split at h
  ·rename_i y' ys' h1 h2
   cases h
   cases i with
   |zero=>simp only[List.getElem?_cons_zero,Option.some.injEq]at hi⊢;subst hi;exact⟨x,rfl,h1⟩
   |succ i=>simpa using zkh (i:=i) h2 (by simpa using hi)
  ·cases h
theorem zqh {x:C} {sz n:Nat} {ds:List D} {bo:Bool} (h:roC r x=some (.own sz n ds bo)):∃hd res,x= .own hd 0 n∧getR r hd=some res∧res.fz=false∧sz=res.sz∧toDs res.cells=some ds∧bo=res.bor:=by
 unfold roC at h
 split at h
 ·cases h
 ·rename_i hd lo m
  split at h
  ·rename_i res hg
   split at h
   ·split at h<;>cases h
   ·rename_i hf
    split at h
    ·rename_i ds' _ hd'
     cases h
     exact⟨hd,res,rfl,hg,by simpa using hf,rfl,hd',rfl⟩
    ·cases h
  ·cases h
 ·cases h
theorem zia {hd:Hd} {lo n:Nat} {res:Res} (hg:getR r hd=some res) (hf:res.fz=false):ownH r (.own hd lo n)=[(hd.s,hd.j)]:=by
 unfold ownH
 simp[hg,hf]
theorem zgd:∀{l:List C} {i:Nat} {x:C} {p:Nat×Nat},l[i]? =some x→p∈ownH r x→p∈ownHs r l
 |[],_,_,_,h,_=>by simp at h
 |y::l,0,x,p,h,hp=>by
  simp only[List.getElem?_cons_zero,Option.some.injEq]at h
  subst h
  simp[ownHs,hp]
 |y::l,i+1,x,p,h,hp=>by
  simp only[ownHs,List.mem_append]
  exact .inr (zgd (i:=i) (by simpa using h) hp)
theorem zjv:∀{l m:List (Nat×Nat)},ndB (l++m)=true→ndB m=true∧∀p∈l,p ∉ m
 |[],m,h=>⟨h,fun p hp=>by simp at hp⟩
 |x::l,m,h=>by
  simp only[List.cons_append,ndB,Bool.and_eq_true,Bool.not_eq_true',List.contains_eq_mem,List.mem_append,decide_eq_false_iff_not,not_or]at h
  obtain⟨g1,g2⟩:=zjv h.2
  refine⟨g1,fun p hp=> ?_⟩
  simp only[List.mem_cons]at hp
  rcases hp with rfl|hp
  ·exact h.1.2
  ·exact g2 p hp
theorem zmO:∀{l:List C} {i j:Nat} {x y:C} {p:Nat×Nat},ndB (ownHs r l)=true→l[i]? =some x→l[j]? =some y→p∈ownH r x→p∈ownH r y→i=j
 |[],_,_,_,_,_,_,h,_,_,_=>by simp at h
 |z::l,i,j,x,y,p,h,hx,hy,px,py=>by
  simp only[ownHs]at h
  obtain⟨g1,g2⟩:=zjv h
  cases i with
  |zero=>
   cases j with
   |zero=>rfl
   |succ j=>
    simp only[List.getElem?_cons_zero,Option.some.injEq]at hx
    subst hx
    exact absurd (zgd (i:=j) (by simpa using hy) py) (g2 p px)
  |succ i=>
   cases j with
   |zero=>
    simp only[List.getElem?_cons_zero,Option.some.injEq]at hy
    subst hy
    exact absurd (zgd (i:=i) (by simpa using hx) px) (g2 p py)
   |succ j=>
    have:=zmO (i:=i) (j:=j) g1 (by simpa using hx) (by simpa using hy) px py
    omega
theorem zwr (h:Holds cx ⟨v,r⟩ a w β) {A:Nat→Prop} (hA:∀b,A b→Av cx r β b) {x:C} {y:RO} {u:Value} {pl:Pl} (hr:roC r x=some y) (hu:ReC cx w r β x u)
  (hpl:∀hd lo n,x= .own hd lo n→pl=β hd.s hd.j):ROc A w pl y u:=by
 unfold roC at hr
 split at hr
 ·cases hr
  simp only[ReC]at hu
  exact hu.stb ⟨fun _ _ _=>rfl,fun b _ hb=>hA b hb⟩
 ·rename_i hd lo n
  have hq:=hpl hd lo n rfl
  clear hpl
  split at hr
  ·rename_i res hg
   simp only[ReC]at hu
   have hown:=hu.2.2 res hg
   obtain⟨hl,he⟩:=zad hg
   obtain⟨ds0,k1,k2,k3⟩:=(h.rs _ _ _ hl).1.row hown.1
   split at hr
   ·rename_i hf
    split at hr
    ·rename_i ds hd'
     cases hr
     rw[k1,zdc,zbq]at hd'
     cases hd'
     obtain⟨ad,cap,m1,m2,m3⟩:=zft (Tp:=fun b=>¬Av cx r β b) hown k2 k1 (fun b o hb=>k3 hf b o hb)
     simp only[ROc,Rd]
     exact⟨ad,cap,m1,m2,RdL.stb ⟨fun _ _ _=>rfl,fun b _ hb=>hA b hb⟩ (zdd.2 m3)⟩
    ·cases hr
   ·split at hr
    ·rename_i ds _ hd'
     cases hr
     rw[k1,zbq]at hd'
     cases hd'
     obtain⟨_,h2,h3,ad,h4,h5⟩:=hown
     simp only[ROc]
     rw[hq]
     refine⟨by rw[k1]at h2;simpa using h2,by omega,k2.stb ⟨fun _ _ _=>rfl,fun b _ hb=>hA b hb⟩ (fun _ _ _=>rfl),ad,by simpa using h4, ?_⟩
     rcases h5 with h5|⟨b,o,h5,h6⟩
     ·exact .inl (by simpa using h5)
     ·exact .inr ⟨b,o,h5,by simpa using h6⟩
    ·cases hr
  ·cases hr
 ·cases hr
theorem zfQ (h:Holds cx ⟨v,r⟩ a w β) {A:Nat→Prop} (hA:∀b,A b→Av cx r β b) {L:List C}:∀{l:List C} {k:Nat} {ys:List RO} {us:List Value},roCs r l=some ys→ReCs cx w r β l us→
  (∀i x,l[i]? =some x→L[k+i]? =some x)→ROcs A w (γof β L) k ys us
 |[],k,ys,us,hr,hu,_=>by
  simp only[roCs,Option.some.injEq]at hr
  subst hr
  simpa[ReCs,ROcs]using hu
 |x::l,k,ys,us,hr,hu,hL=>by
  simp only[roCs]at hr
  split at hr
  ·rename_i y ys' h1 h2
   cases hr
   simp only[ReCs]at hu
   obtain⟨u,us',rfl,g1,g2⟩:=hu
   simp only[ROcs]
   have hk:=hL 0 x (by simp)
   simp only[Nat.add_zero]at hk
   refine⟨u,us',rfl,zwr h hA h1 g1 (fun hd lo n he=>by unfold γof;rw[hk,he]),zfQ h hA h2 g2 fun i x' hi=> ?_⟩
   have:=hL (i+1) x' (by simpa using hi)
   rwa[show k+1+i=k+(i+1) from by omega]
  ·cases hr
theorem zfp:∀{l:List C} {ys:List RO},roCs r l=some ys→ys.length=l.length
 |[],ys,h=>by simp only[roCs,Option.some.injEq]at h;subst h;rfl
 |x::l,ys,h=>by
  simp only[roCs]at h
  split at h
  ·rename_i y ys' h1 h2
   cases h
   simp[zfp h2]
  ·cases h
theorem zuO (h:Holds cx ⟨v,r⟩ a w β) {A:Nat→Prop} (hA:∀b,A b→Av cx r β b) {L:List C} {x:AV} {k:Nat} {y:RF} {u:Value} (hr:avRF r x=some y) (hu:ReA cx w r β x u)
  (hL:∀i z,(avCells x)[i]? =some z→L[k+i]? =some z):RFv A w (γof β L) k y u∧y.cells.length=(avCells x).length∧roCs r (avCells x)=some y.cells:=by
 unfold avRF at hr
 split at hr
 ·rename_i x
  split at hr
  ·rename_i y' h1
   cases hr
   have h2:roCs r [x]=some [y']:=by simp[roCs,h1]
   have:=zfQ h hA (L:=L) (k:=k) h2 (us:=[u]) (by simp only[ReCs];exact⟨u,[],rfl,zaN.1 hu,rfl⟩) hL
   simp only[ROcs]at this
   obtain⟨u',us',e1,e2,_⟩:=this
   cases e1
   exact⟨e2,rfl,h2⟩
  ·cases hr
 ·rename_i l
  split at hr
  ·rename_i ys h1
   cases hr
   obtain⟨us,e1,e2⟩:=zbR.1 hu
   simp only[RFv]
   exact⟨⟨us,e1,zfQ h hA h1 e2 hL⟩,zfp h1,h1⟩
  ·cases hr
 ·cases hr
theorem zel:∀{l m:List C} {ys zs:List RO},roCs r l=some ys→roCs r m=some zs→roCs r (l++m)=some (ys++zs)
 |[],m,ys,zs,h1,h2=>by simp only[roCs,Option.some.injEq]at h1;subst h1;simpa using h2
 |x::l,m,ys,zs,h1,h2=>by
  simp only[roCs]at h1
  split at h1
  ·rename_i y ys' g1 g2
   cases h1
   simp[roCs,g1,zel g2 h2]
  ·cases h1
theorem zhu (h:Holds cx ⟨v,r⟩ a w β) {A:Nat→Prop} (hA:∀b,A b→Av cx r β b) {L:List C}:∀{xs:List AV} {k:Nat} {ys:List RF} {us:List Value},avRFs r xs=some ys→ReAs cx w r β xs us→
  (∀i z,(avCellss xs)[i]? =some z→L[k+i]? =some z)→RFvs A w (γof β L) k ys us∧roCs r (avCellss xs)=some (ys.flatMap RF.cells)
 |[],k,ys,us,hr,hu,_=>by
  simp only[avRFs,Option.some.injEq]at hr
  subst hr
  exact⟨by simpa[ReAs,RFvs]using hu,rfl⟩
 |x::xs,k,ys,us,hr,hu,hL=>by
  simp only[avRFs]at hr
  split at hr
  ·rename_i y ys' h1 h2
   cases hr
   simp only[ReAs]at hu
   obtain⟨u,us',rfl,g1,g2⟩:=hu
   obtain⟨e1,e2,e3⟩:=zuO h hA (L:=L) (k:=k) h1 g1 (fun i z hi=>hL i z (by simp only[avCellss];rw[List.getElem?_append_left (List.getElem?_eq_some_iff.1 hi).1];exact hi))
   obtain⟨e4,e5⟩:=zhu h hA (L:=L) (k:=k+y.cells.length) h2 g2 (fun i z hi=>by
    have:=hL ((avCells x).length+i) z (by simp only[avCellss];rw[List.getElem?_append_right (Nat.le_add_right _ _)];simpa using hi)
    rw[e2,Nat.add_assoc]
    exact this)
   simp only[RFvs,List.flatMap_cons,avCellss]
   exact⟨⟨u,us',rfl,e1,e4⟩,zel e3 e5⟩
  ·cases hr
theorem zjw:∀{cs:List (List C)} {objs:List (List RO)},roCss r cs=some objs→roCs r (flatCs cs)=some objs.flatten
 |[],objs,h=>by simp only[roCss,Option.some.injEq]at h;subst h;rfl
 |c::cs,objs,h=>by
  simp only[roCss]at h
  split at h
  ·rename_i y ys h1 h2
   cases h
   simp only[flatCs,List.flatten_cons]
   exact zel h1 (zjw h2)
  ·cases h
def zcG (r:Rs):List Pos→List (List C)→Prop
 |[],[]=>True
 | .o p::ps,c::cs=>(∃res,getR r ⟨p,0,0⟩=some res∧res.var=true∧c=res.cells)∧zcG r ps cs
 | .r p n::ps,c::cs=>(c=[]∨c=[C.own ⟨p,1,0⟩ 0 n])∧zcG r ps cs
 | .h hd::ps,c::cs=>(∃res,getR r hd=some res∧res.var=true∧c=res.cells)∧zcG r ps cs
 |_,_=>False
theorem zib {rc:List (Nat×Nat)}:∀{ps:List Pos} {cs:List (List C)},objCs r ps=some cs→zcG r ps (addRows r rc ps cs)
 |[],cs,h=>by simp only[objCs,Option.some.injEq]at h;subst h;simp[addRows,zcG]
 | .o p::ps,cs,h=>by
  simp only[objCs]at h
  split at h
  ·rename_i res cs' g1 g2
   split at h
   ·rename_i hv;cases h;simp only[addRows,zcG];exact⟨⟨res,g1,hv,rfl⟩,zib g2⟩
   ·cases h
  ·cases h
 | .r p n::ps,cs,h=>by
  simp only[objCs]at h
  split at h
  ·rename_i cs' g2
   cases h
   simp only[addRows,zcG]
   refine⟨?_,zib g2⟩
   unfold rowB
   split
   ·split
    ·exact .inl rfl
    ·split
     ·exact .inl rfl
     ·split
      ·exact .inl rfl
      ·exact .inr rfl
   ·exact .inl rfl
  ·cases h
 | .h hd::ps,cs,h=>by simp[objCs]at h
theorem zeR {ys:List AV} {ps:List Pos} {cs:List (List C)} (h:objCsA r ys ps=some cs):zcG r ps cs:=by
 unfold objCsA at h
 split at h
 ·rename_i cs' g;cases h;exact zib g
 ·cases h
def zbM (cx:Cx) (w:World) (r:Rs) (β:Nat→Nat→Pl):List Pos→List Hold→Prop
 |[],[]=>True
 | .o p::ps, .blk b::bs=>(∀res,getR r ⟨p,0,0⟩=some res→(β p 0).base=some (b,0))∧zbM cx w r β ps bs
 | .r p n::ps, .val u::bs=>ReC cx w r β (.own ⟨p,1,0⟩ 0 n) u∧zbM cx w r β ps bs
 | .h hd::ps, .blk b::bs=>(∀res,getR r hd=some res→(β hd.s hd.j).base=some (b,0))∧zbM cx w r β ps bs
 |_,_=>False
theorem zki (h:Holds cx ⟨v,r⟩ a w β) {A:Nat→Prop} (hA:∀b,A b→Av cx r β b) {L:List C}:∀{ps:List Pos} {bs:List Hold} {cs:List (List C)} {objs:List (List RO)} {k:Nat},zcG r ps cs→roCss r cs=some objs→
  zbM cx w r β ps bs→(∀i z,(flatCs cs)[i]? =some z→L[k+i]? =some z)→zb5 A w (γof β L) k objs bs
 |[],[],[],objs,k,h1,h2,hb,hL=>by
  simp only[roCss,Option.some.injEq]at h2
  subst h2
  simp[zb5]
 | .o p::ps, .blk b::bs,c0::cs',objs,k,h1,h2,hb,hL=>by
  simp only[zcG]at h1
  obtain⟨⟨res,g1,hv,rfl⟩,g2⟩:=h1
  simp only[zbM]at hb
  simp only[roCss]at h2
  split at h2
  ·rename_i ys yss g3 g4
   cases h2
   obtain⟨hl,_⟩:=zad g1
   have hok:=(h.rs _ _ _ hl).1
   unfold ResOK at hok
   rw[if_pos hv]at hok
   obtain⟨_,b',c,e,k1,k2,k3,k4⟩:=hok
   have hb0:=hb.1 res g1
   simp only at k1
   rw[hb0]at k1
   cases k1
   simp only[zb5]
   refine⟨⟨c,e,k2,zfQ h hA g3 k3 (fun i z hi=>hL i z ?_),k4⟩, ?_⟩
   ·simp only[flatCs];rw[List.getElem?_append_left (List.getElem?_eq_some_iff.1 hi).1];exact hi
   ·refine zki h hA g2 g4 hb.2 fun i z hi=> ?_
    have:=hL (res.cells.length+i) z (by simp only[flatCs];rw[List.getElem?_append_right (Nat.le_add_right _ _)];simpa using hi)
    rw[zfp g3,Nat.add_assoc]
    exact this
  ·cases h2
 | .h hd::ps, .blk b::bs,c0::cs',objs,k,h1,h2,hb,hL=>by
  simp only[zcG]at h1
  obtain⟨⟨res,g1,hv,rfl⟩,g2⟩:=h1
  simp only[zbM]at hb
  simp only[roCss]at h2
  split at h2
  ·rename_i ys yss g3 g4
   cases h2
   obtain⟨hl,_⟩:=zad g1
   have hok:=(h.rs _ _ _ hl).1
   unfold ResOK at hok
   rw[if_pos hv]at hok
   obtain⟨_,b',c,e,k1,k2,k3,k4⟩:=hok
   have hb0:=hb.1 res g1
   try simp only at k1
   rw[hb0]at k1
   cases k1
   simp only[zb5]
   refine⟨⟨c,e,k2,zfQ h hA g3 k3 (fun i z hi=>hL i z ?_),k4⟩, ?_⟩
   ·simp only[flatCs];rw[List.getElem?_append_left (List.getElem?_eq_some_iff.1 hi).1];exact hi
   ·refine zki h hA g2 g4 hb.2 fun i z hi=> ?_
    have:=hL (res.cells.length+i) z (by simp only[flatCs];rw[List.getElem?_append_right (Nat.le_add_right _ _)];simpa using hi)
    rw[zfp g3,Nat.add_assoc]
    exact this
  ·cases h2
 | .r p n::ps, .val u::bs,c0::cs',objs,k,h1,h2,hb,hL=>by
  simp only[zcG]at h1
  obtain⟨g1,g2⟩:=h1
  simp only[zbM]at hb
  simp only[roCss]at h2
  split at h2
  ·rename_i ys yss g3 g4
   cases h2
   simp only[zb5]
   refine⟨?_, ?_⟩
   ·rcases g1 with rfl|rfl
    ·simp only[roCs,Option.some.injEq]at g3;exact .inl g3.symm
    ·refine .inr (zfQ h hA (L:=L) g3 (us:=[u]) (by simp only[ReCs];exact⟨u,[],rfl,hb.1,rfl⟩) fun i z hi=>hL i z ?_)
     simp only[flatCs];rw[List.getElem?_append_left (List.getElem?_eq_some_iff.1 hi).1];exact hi
   ·refine zki h hA g2 g4 hb.2 fun i z hi=> ?_
    have:=hL (c0.length+i) z (by simp only[flatCs];rw[List.getElem?_append_right (Nat.le_add_right _ _)];simpa using hi)
    rw[zfp g3,Nat.add_assoc]
    exact this
  ·cases h2
 |[],_::_,_,_,_,_,_,hb,_=>by simp[zbM]at hb
 | .o _::_,[],_,_,_,_,_,hb,_=>by simp[zbM]at hb
 | .h _::_,[],_,_,_,_,_,hb,_=>by simp[zbM]at hb
 | .h _::_, .val _::_,_,_,_,_,_,hb,_=>by simp[zbM]at hb
 | .h _::_, .blk _::_,[],_,_,h1,_,_,_=>by simp[zcG]at h1
 | .r _ _::_,[],_,_,_,_,_,hb,_=>by simp[zbM]at hb
 | .o _::_, .val _::_,_,_,_,_,_,hb,_=>by simp[zbM]at hb
 | .r _ _::_, .blk _::_,_,_,_,_,_,hb,_=>by simp[zbM]at hb
 | .o _::_, .blk _::_,[],_,_,h1,_,_,_=>by simp[zcG]at h1
 | .r _ _::_, .val _::_,[],_,_,h1,_,_,_=>by simp[zcG]at h1
 |[],[],_::_,_,_,h1,_,_,_=>by simp[zcG]at h1
theorem zfD {γ:Nat→Pl}:∀{l:List RO} {k b:Nat},NB γ k l b→∃i sz n ds bo o,l[i]? =some (RO.own sz n ds bo)∧(γ (k+i)).base=some (b,o)
 |[],_,_,h=>h.elim
 | .d x::l,k,b,h=>by
  obtain⟨i,sz,n,ds,bo,o,h1,h2⟩:=zfD (l:=l) (by simpa[NB]using h)
  exact⟨i+1,sz,n,ds,bo,o,by simpa using h1,by rw[←h2];congr 2;omega⟩
 | .own sz n ds bo::l,k,b,h=>by
  simp only[NB]at h
  rcases h with⟨o,h⟩|h
  ·exact⟨0,sz,n,ds,bo,o,by simp,h⟩
  ·obtain⟨i,sz,n,ds,bo,o,h1,h2⟩:=zfD (l:=l) h
   exact⟨i+1,sz,n,ds,bo,o,by simpa using h1,by rw[←h2];congr 2;omega⟩
def zsr:List Value→Value
 |[x]=>x
 |us=> .tuple us.toArray
theorem zqi (h:Holds cx ⟨v,r⟩ a w β) {A1:Nat→Prop} (hA1:∀b,A1 b→Av cx r β b) {ys:List AV} {us:List Value} {u:Value} {ps:List Pos} {bs:List Hold} {cs:List (List C)} {rfs:List RF} {objs:List (List RO)} (hu:ReAs cx w r β ys us)
  (hus:u=zsr us) (h1:avRFs r ys=some rfs) (h2:zcG r ps cs) (h3:roCss r cs=some objs) (h4:ndB (ownHs r (avCellss ys++flatCs cs))=true)
  (hb:zbM cx w r β ps bs)
  (hbs:∀s j res b o,lookR r s j=some res→res.fz=false→res.var=false→(β s j).base=some (b,o)→b ∉ zdG bs):
  Ret cx.w0 A1 cx.Bor w bs rfs objs u:=by
 have hall:roCs r (avCellss ys++flatCs cs)=some (zbw rfs objs):=by
  unfold zbw
  exact zel (zhu h (A:=fun _=>False) (fun b hb=>hb.elim) (L:=avCellss ys) (k:=0) h1 hu (fun i z hi=>by simpa using hi)).2 (zjw h3)
 generalize hL:avCellss ys++flatCs cs=L at*
 have hown:∀{i sz n b o:Nat} {ds:List D} {bo:Bool},(zbw rfs objs)[i]? =some (.own sz n ds bo)→(γof β L i).base=some (b,o)→
   ∃hd lo m res,L[i]? =some (.own hd lo m)∧getR r hd=some res∧res.fz=false∧(β hd.s hd.j).base=some (b,o)∧bo=res.bor:=fun {i sz n b o ds bo} hi hbase=>by
  obtain⟨x,g1,g2⟩:=zkh hall hi
  obtain⟨hd,res,rfl,g3,g4,_,_,g5⟩:=zqh g2
  unfold γof at hbase
  rw[g1]at hbase
  exact⟨hd,0,n,res,g1,g3,g4,hbase,g5⟩
 have hNB:∀b,NB (γof β L) 0 (zbw rfs objs) b→∃s j res o,lookR r s j=some res∧res.fz=false∧(β s j).base=some (b,o)∧∃hd lo m i,hd.s=s∧hd.j=j∧L[i]? =some (C.own hd lo m)∧getR r hd=some res:=fun b hb'=>by
  obtain⟨i,sz,n,ds,bo,o,g1,g2⟩:=zfD hb'
  rw[Nat.zero_add]at g2
  obtain⟨hd,lo,m,res,g3,g4,g5,g6,_⟩:=hown g1 g2
  exact⟨hd.s,hd.j,res,o,(zad g4).1,g5,g6,hd,lo,m,i,rfl,rfl,g3,g4⟩
 have hA:∀b,(A1 b∨NB (γof β L) 0 (zbw rfs objs) b)→Av cx r β b:=fun b hb'=>by
  rcases hb' with hb'|hb'
  ·exact hA1 b hb'
  ·obtain⟨s,j,res,o,g1,g2,g3,_⟩:=hNB b hb'
   exact .inr ⟨s,j,res,o,g1,g2,g3⟩
 -- a row's handle is no variable's
 have hrow:∀{hd:Hd} {lo m i:Nat} {res:Res},L[i]? =some (C.own hd lo m)→getR r hd=some res→(zbw rfs objs)[i]? ≠none→res.var=false:=fun {hd lo m i res} g1 g2 g3=>by
  cases hi:(zbw rfs objs)[i]? with
  |none=>exact absurd hi g3
  |some y=>
   have hlt:i<L.length:=(List.getElem?_eq_some_iff.1 g1).1
   by_cases hv:res.var=true
   ·-- its value is a slice of the row:ReC says so
    have hcs:∃u,ReC cx w r β (.own hd lo m) u:=by
     subst hL
     rcases Nat.lt_or_ge i (avCellss ys).length with hlt2|hge
     ·rw[List.getElem?_append_left hlt2]at g1
      have:∀{xs:List AV} {vs:List Value} {k:Nat} {x:C},ReAs cx w r β xs vs→(avCellss xs)[k]? =some x→∃u,ReC cx w r β x u:=by
       intro xs
       induction xs with
       |nil=>intro vs k x _ hk;simp[avCellss]at hk
       |cons y' xs ih=>
        intro vs k x hvs hk
        simp only[ReAs]at hvs
        obtain⟨u0,us0,rfl,e1,e2⟩:=hvs
        simp only[avCellss]at hk
        rcases Nat.lt_or_ge k (avCells y').length with q|q
        ·rw[List.getElem?_append_left q]at hk
         unfold avCells at hk
         split at hk
         ·rename_i x'
          cases k with
          |zero=>simp only[List.getElem?_cons_zero,Option.some.injEq]at hk;subst hk;exact⟨_,zaN.1 e1⟩
          |succ k=>simp at hk
         ·rename_i l
          obtain⟨us1,_,e3⟩:=zbR.1 e1
          obtain⟨u1,_,e4⟩:=zbz e3 hk
          exact⟨u1,e4⟩
         ·simp at hk
        ·rw[List.getElem?_append_right q]at hk
         exact ih e2 hk
      exact this hu g1
     ·rw[List.getElem?_append_right hge]at g1
      have:∀{ps:List Pos} {bs:List Hold} {cs:List (List C)} {k:Nat} {x:C},zcG r ps cs→zbM cx w r β ps bs→(flatCs cs)[k]? =some x→∃u,ReC cx w r β x u:=by
       intro ps
       induction ps with
       |nil=>intro bs cs k x hcs hp hk;cases cs with
        |nil=>simp[flatCs]at hk
        |cons c cs=>simp[zcG]at hcs
       |cons p ps ih=>
        intro bs cs k x hcs hp hk
        cases cs with
        |nil=>cases p<;>simp[zcG]at hcs
        |cons c0 cs0=>
         cases bs with
         |nil=>cases p<;>simp[zbM]at hp
         |cons b0 bs0=>
          simp only[flatCs]at hk
          cases p with
          |o p=>
           cases b0 with
           |val u0=>simp[zbM]at hp
           |blk b0=>
            simp only[zcG]at hcs
            simp only[zbM]at hp
            obtain⟨⟨res0,q1,q3,rfl⟩,q2⟩:=hcs
            rcases Nat.lt_or_ge k res0.cells.length with q|q
            ·rw[List.getElem?_append_left q]at hk
             have hok:=(h.rs _ _ _ (zad q1).1).1
             unfold ResOK at hok
             rw[if_pos q3]at hok
             obtain⟨_,b',c,e,k1,k2,k3,k4⟩:=hok
             obtain⟨u1,_,e4⟩:=zbz k3 hk
             exact⟨u1,e4⟩
            ·rw[List.getElem?_append_right q]at hk
             exact ih q2 hp.2 hk
          |h hd=>
           cases b0 with
           |val u0=>simp[zbM]at hp
           |blk b0=>
            simp only[zcG]at hcs
            simp only[zbM]at hp
            obtain⟨⟨res0,q1,q3,rfl⟩,q2⟩:=hcs
            rcases Nat.lt_or_ge k res0.cells.length with q|q
            ·rw[List.getElem?_append_left q]at hk
             have hok:=(h.rs _ _ _ (zad q1).1).1
             unfold ResOK at hok
             rw[if_pos q3]at hok
             obtain⟨_,b',c,e,k1,k2,k3,k4⟩:=hok
             obtain⟨u1,_,e4⟩:=zbz k3 hk
             exact⟨u1,e4⟩
            ·rw[List.getElem?_append_right q]at hk
             exact ih q2 hp.2 hk
          |r p n=>
           cases b0 with
           |blk b0=>simp[zbM]at hp
           |val u0=>
            simp only[zcG]at hcs
            simp only[zbM]at hp
            rcases Nat.lt_or_ge k c0.length with q|q
            ·rw[List.getElem?_append_left q]at hk
             rcases hcs.1 with rfl|rfl
             ·simp at q
             ·cases k with
              |zero=>simp only[List.getElem?_cons_zero,Option.some.injEq]at hk;subst hk;exact⟨_,hp.1⟩
              |succ k=>simp at hk
            ·rw[List.getElem?_append_right q]at hk
             exact ih hcs.2 hp.2 hk
      exact this h2 hb g1
    obtain⟨u,hu'⟩:=hcs
    simp only[ReC]at hu'
    exact(hu'.2.2 res g2).1
   ·simpa using hv
 refine⟨⟨γof β L,us,by rw[hus];rfl, ?_, ?_,fun b hb'=> ?_,fun i sz n ds b o hi hbi=> ?_,fun i j b o o' sz n ds bo sz' n' ds' bo' hi hj hbi hbj=> ?_⟩,h.n0,h.old,h.os,h.out⟩
 ·exact(zhu h hA (L:=L) (k:=0) h1 hu (fun i z hi=>by rw[Nat.zero_add,←hL,List.getElem?_append_left (List.getElem?_eq_some_iff.1 hi).1];exact hi)).1
 ·have e1:(avCellss ys).length=(rfs.flatMap RF.cells).length:=by
   have:=zfp (zhu h (A:=fun _=>False) (fun b hb=>hb.elim) (L:=avCellss ys) (k:=0) h1 hu (fun i z hi=>by simpa using hi)).2
   exact this.symm
  exact zki h hA (L:=L) h2 h3 hb (fun i z hi=>by rw[←hL,←e1,List.getElem?_append_right (Nat.le_add_right _ _)];simpa using hi)
 ·obtain⟨i,sz,n,ds,bo,o,g1,g2⟩:=zfD hb'
  rw[Nat.zero_add]at g2
  obtain⟨hd,lo,m,res,g3,g4,g5,g6,_⟩:=hown g1 g2
  have hlk:=(zad g4).1
  exact⟨(h.fr _ _ _ _ _ hlk g5 g6).1,hbs _ _ _ _ _ hlk g5 (hrow g3 g4 (by rw[g1];simp)) g6⟩
 ·obtain⟨hd,lo,m,res,g3,g4,g5,g6,g7⟩:=hown hi hbi
  exact(h.fr _ _ _ _ _ (zad g4).1 g5 g6).2 g7.symm
 ·obtain⟨hd,lo,m,res,g3,g4,g5,g6,_⟩:=hown hi hbi
  obtain⟨hd',lo',m',res',g3',g4',g5',g6',_⟩:=hown hj hbj
  obtain⟨e1,e2⟩:=h.inj _ _ _ _ _ _ _ _ _ (zad g4).1 g5 (zad g4').1 g5' g6 g6'
  exact zmO h4 g3 g3' (by rw[zia g4 g5];exact List.mem_singleton.2 rfl) (by rw[zia g4' g5',e1,e2];exact List.mem_singleton.2 rfl)
end
section
variable {cx:Cx} {v:List AV} {r r':Rs} {a:Act} {w w':World} {β β':Nat→Nat→Pl} {T:Nat→Option TI} {c:Bool} {mv:Mv}
def Mv.has:Mv→Nat→Prop
 | .o _,_=>True
 | .r h _,j=>j=h.j
def MB (r:Rs) (β:Nat→Nat→Pl) (mv:Mv) (b:Nat):Prop:=
 ∃j res o,mv.has j∧lookR r mv.s j=some res∧res.fz=false∧(β mv.s j).base=some (b,o)
theorem MB.ob {b:Nat} (h:MB r β mv b):OB r β b:=by
 obtain⟨j,res,o,_,h2,h3,h4⟩:=h
 exact⟨mv.s,j,res,o,h2,h3,h4⟩
theorem MB.fr (h:Holds cx ⟨v,r⟩ a w β) {b:Nat} (hb:MB r β mv b):cx.n0≤b∨cx.Bor b:=by
 obtain⟨j,res,o,_,h2,h3,h4⟩:=hb
 exact(h.fr _ _ _ _ _ h2 h3 h4).1
theorem MB.lt (h:Holds cx ⟨v,r⟩ a w β) {b:Nat} (hb:MB r β mv b):b<w.heap.size:=by
 obtain⟨j,res,o,_,h2,h3,h4⟩:=hb
 exact(h.rs _ _ _ h2).1.lt h4
theorem zss (h:Holds cx ⟨v,r⟩ a w β) {b:Nat} (hb:b<w.heap.size) (ht:Top cx (Av cx r β) b):Top (cx0 cx.P w (Av cx r β) (MB r β mv)) (Av (cx0 cx.P w (Av cx r β) (MB r β mv)) [] β0) b:=by
 refine .inr ⟨hb,fun hm=> ?_⟩
 rcases ht with ht|⟨h1,h2⟩
 ·exact ht (.inr hm.ob)
 ·rcases hm.fr h with h3|h3
  ·exact absurd h1 (Nat.not_lt.2 h3)
  ·exact h2 h3
theorem zeS (h:Holds cx ⟨v,r⟩ a w β) {s j b o:Nat} {res:Res} (hl:lookR r s j=some res) (hb:(β s j).base=some (b,o)) (hs:s≠mv.s) (hlt:b<w.heap.size):
  Top (cx0 cx.P w (Av cx r β) (MB r β mv)) (Av (cx0 cx.P w (Av cx r β) (MB r β mv)) [] β0) b:=by
 refine .inr ⟨hlt,fun hm=> ?_⟩
 obtain⟨k,res',o',_,h2,h3,h4⟩:=hm
 cases hf:res.fz with
 |false=>exact hs (h.inj _ _ _ _ _ _ _ _ _ hl hf h2 h3 hb h4).1
 |true=>
  have hok:=(h.rs _ _ _ hl).1
  unfold ResOK at hok
  rw[if_neg (by simp[h.vz _ _ _ hl hf])]at hok
  obtain⟨_,_,_,g⟩:=hok
  exact g hf b o hb (.inr ⟨_,k,res',o',h2,h3,h4⟩)
theorem zqj {ds:List D} {b o:Nat} (h:CellsAt cx w r β (ds.map C.d) b o):RdT w (Av cx r β) (fun b'=>b'=b) ds (some ⟨b,o,none⟩):=
 RdT.mk (T:=fun b'=>b'=b) rfl fun k d hk=>by
  obtain⟨u,h1,h2,_⟩:=h k (.d d) (by rw[List.getElem?_map,hk];rfl)
  simp only[ReC]at h2
  exact⟨u,h1,h2⟩
abbrev cxM (cx:Cx) (w:World) (r:Rs) (β:Nat→Nat→Pl) (mv:Mv):Cx:=cx0 cx.P w (Av cx r β) (MB r β mv)
theorem zqk (h:Holds cx ⟨v,r⟩ a w β) {hd:Hd} {lo n:Nat} {y:C} {u:Value} (hl:lendC r (.own hd lo n)=some y) (hs:mv.s≠hd.s) (hu:ReC cx w r β (.own hd lo n) u):ReC (cxM cx w r β mv) w [] β0 y u:=by
  simp only[lendC,rowOf]at hl
  simp only[ReC]at hu
  cases hg:getR r hd with
  |none=>simp[hg]at hl
  |some res=>
   simp only[hg]at hl
   cases hds:toDs (sub lo n res.sz res.cells)with
   |none=>simp[hds]at hl
   |some ds=>
    simp only[hds,Option.some.injEq]at hl
    subst hl
    have hown:=hu.2.2 res hg
    obtain⟨hlk,_⟩:=zad hg
    obtain⟨ds0,k1,k2,k3⟩:=(h.rs _ _ _ hlk).1.row hown.1
    rw[k1,zdc,zbq]at hds
    cases hds
    obtain⟨ad,cap,m1,m2,m3⟩:=zft (Tp:=fun b=>∃o,(β hd.s hd.j).base=some (b,o)) hown k2 k1 (fun b o hb=>⟨o,hb⟩)
    simp only[ReC]
    exact⟨ad,cap,m1,m2,m3.imp_lt (fun b hb=>av0.1 hb) (fun b hb ⟨o,ho⟩=>zeS h hlk ho (fun e=>hs e.symm) hb)⟩
theorem zql (h:Holds cx ⟨v,r⟩ a w β) {s:Nat} {x y:C} {u:Value} (hl:lend0 r s x=some y) (hs:mv.s≠s) (hu:ReC cx w r β x u):ReC (cxM cx w r β mv) w [] β0 y u:=by
 unfold lend0 at hl
 split at hl
 ·cases hl
  simp only[ReC]at hu⊢
  exact(zkn hu).stb ⟨fun _ _ _=>rfl,fun b _ hb=>av0.1 hb⟩
 ·cases hl
  simp only[ReC]at hu⊢
  obtain⟨ad,cap,h1,h2,h3⟩:=hu
  exact⟨ad,cap,h1,h2,h3.imp_lt (fun b hb=>av0.1 hb) (fun b hb ht=>zss h hb ht)⟩
 ·split at hl
  ·rename_i hd lo n e
   refine zqk h (hd:=hd) (lo:=lo) (n:=n) ?_ (by rw[e];exact hs) hu
   simpa only[lendC]using hl
  ·cases hl
 ·cases hl
theorem zjx (h:Holds cx ⟨v,r⟩ a w β) {s:Nat}:∀{xs ys:List C} {us:List Value},lend0s r s xs=some ys→mv.s≠s→ReCs cx w r β xs us→ReCs (cxM cx w r β mv) w [] β0 ys us
 |[],ys,us,hl,_,hu=>by simp only[lend0s,Option.some.injEq]at hl;subst hl;simpa[ReCs]using hu
 |x::xs,ys,us,hl,hs,hu=>by
  simp only[lend0s]at hl
  split at hl
  ·rename_i y ys' g1 g2
   cases hl
   simp only[ReCs]at hu⊢
   obtain⟨u,us',rfl,h1,h2⟩:=hu
   exact⟨u,us',rfl,zql h g1 hs h1,zjx h g2 hs h2⟩
  ·cases hl
mutual
theorem znL (h:Holds cx ⟨v,r⟩ a w β):∀{x y:C} {u:Value},lendC r x=some y→mv.s ∉ slotsC x→ReC cx w r β x u→ReC (cxM cx w r β mv) w [] β0 y u
 | .d x,y,u,hl,_,hu=>by
  simp only[lendC,Option.some.injEq]at hl
  subst hl
  simp only[ReC]at hu⊢
  exact hu.stb ⟨fun _ _ _=>rfl,fun b _ hb=>av0.1 hb⟩
 | .lent n ds,y,u,hl,_,hu=>by
  simp only[lendC,Option.some.injEq]at hl
  subst hl
  simp only[ReC]at hu⊢
  obtain⟨ad,cap,h1,h2,h3⟩:=hu
  exact⟨ad,cap,h1,h2,h3.imp_lt (fun b hb=>av0.1 hb) (fun b hb ht=>zss h hb ht)⟩
 | .own hd lo n,y,u,hl,hs,hu=>by
  simp only[lendC,rowOf]at hl
  simp only[ReC]at hu
  cases hg:getR r hd with
  |none=>simp[hg]at hl
  |some res=>
   simp only[hg]at hl
   cases hds:toDs (sub lo n res.sz res.cells)with
   |none=>simp[hds]at hl
   |some ds=>
    simp only[hds,Option.some.injEq]at hl
    subst hl
    have hown:=hu.2.2 res hg
    obtain⟨hlk,_⟩:=zad hg
    obtain⟨ds0,k1,k2,k3⟩:=(h.rs _ _ _ hlk).1.row hown.1
    rw[k1,zdc,zbq]at hds
    cases hds
    obtain⟨ad,cap,m1,m2,m3⟩:=zft (Tp:=fun b=>∃o,(β hd.s hd.j).base=some (b,o)) hown k2 k1 (fun b o hb=>⟨o,hb⟩)
    simp only[ReC]
    exact⟨ad,cap,m1,m2,m3.imp_lt (fun b hb=>av0.1 hb) (fun b hb ⟨o,ho⟩=>zeS h hlk ho (fun e=>hs (by simp[slotsC,←e])) hb)⟩
 | .ptr hd off,y,u,hl,hs,hu=>by
  simp only[lendC]at hl
  split at hl
  ·rename_i res g1
   split at hl
   ·rename_i ds g2
    cases hl
    simp only[ReC]at hu⊢
    obtain⟨b,o,k1,k2⟩:=hu.2.2 res g1
    obtain⟨hlk,_⟩:=zad g1
    have hcs:=((h.rs _ _ _ hlk).1.cells k1).drop (k:=off)
    rw[zmN g2]at hcs
    exact⟨b,o+off,k2,(zqj hcs).imp_lt (fun b hb=>av0.1 hb) (fun b' hb e=>by subst e;exact zeS h hlk k1 (fun e=>hs (by simp[slotsC,←e])) hb)⟩
   ·split at hl
    ·rename_i cs g3
     cases hl
     simp only[ReC]at hu⊢
     obtain⟨b,o,k1,k2⟩:=hu.2.2 res g1
     obtain⟨hlk,_⟩:=zad g1
     have hb:=(h.rs _ _ _ hlk).1.lt k1
     have hcs:=((h.rs _ _ _ hlk).1.cells k1).drop (k:=off)
     obtain⟨us,p1,p2⟩:=zjs hcs
     exact⟨b,o+off,us,k2,hb,zeS h hlk k1 (fun e=>hs (by simp[slotsC,←e])) hb,p1,zjx h g3 (by simpa[slotsC]using hs) p2⟩
    ·cases hl
  ·cases hl
 | .elt ds,y,u,hl,_,hu=>by
  simp only[lendC,Option.some.injEq]at hl
  subst hl
  simp only[ReC]at hu⊢
  obtain⟨b,o,h1,h3⟩:=hu
  exact⟨b,o,h1,h3.imp_lt (fun b hb=>av0.1 hb) (fun b hb ht=>zss h hb ht)⟩
 | .clos f caps,y,u,hl,hs,hu=>by
  simp only[lendC]at hl
  split at hl
  ·rename_i cs g1
   cases hl
   simp only[ReC]at hu⊢
   obtain⟨us,h1,h2⟩:=hu
   exact⟨us,h1,zd9 h g1 (by simpa[slotsC]using hs) h2⟩
  ·cases hl
 | .ab,y,u,hl,_,_=>by simp[lendC]at hl
 | .dead,y,u,hl,_,_=>by simp[lendC]at hl
 | .eltR cs,y,u,hl,hs,hu=>by
  simp only[lendC]at hl
  split at hl
  ·rename_i ys g1
   cases hl
   simp only[ReC]at hu⊢
   obtain⟨b,o,us,h1,h2,h3,h4,h5⟩:=hu
   exact⟨b,o,us,h1,h2,zss h h2 h3,h4,zd9 h g1 (by simpa[slotsC]using hs) h5⟩
  ·cases hl
 | .lk _ _ _,y,u,hl,_,_=>by simp[lendC]at hl
 | .gap hd lo n k,y,u,hl,hs,hu=>by
  simp only[lendC,rowOf]at hl
  simp only[ReC]at hu
  cases hg:getR r hd with
  |none=>simp[hg]at hl
  |some res=>
   simp only[hg]at hl
   cases hds:toDs (sub lo n res.sz res.cells)with
   |none=>simp[hds]at hl
   |some ds=>
    simp only[hds,Option.some.injEq]at hl
    subst hl
    obtain⟨x1,x2,x3,ad,rfl,x4⟩:=hu
    obtain⟨y1,y2⟩:=x4 res hg
    obtain⟨hlk,_⟩:=zad hg
    obtain⟨ds0,k1,k2,k3⟩:=(h.rs _ _ _ hlk).1.row y1
    rw[k1,zdc,zbq]at hds
    cases hds
    have m3:=zko (Tp:=fun b=>∃o,(β hd.s hd.j).base=some (b,o)) x3 y2 k2 (fun b o hb=>⟨o,hb⟩)
    simp only[ReC]
    exact⟨ad,_,rfl,by omega,m3.imp_lt (fun b hb=>av0.1 hb) (fun b hb ⟨o,ho⟩=>zeS h hlk ho (fun e=>hs (by simp[slotsC,←e])) hb)⟩
theorem zd9 (h:Holds cx ⟨v,r⟩ a w β):∀{xs ys:List C} {us:List Value},lendC.lendCs r xs=some ys→mv.s ∉ slotsCs xs→ReCs cx w r β xs us→ReCs (cxM cx w r β mv) w [] β0 ys us
 |[],ys,us,hl,_,hu=>by
  simp only[lendC.lendCs,Option.some.injEq]at hl
  subst hl
  simpa[ReCs]using hu
 |x::xs,ys,us,hl,hs,hu=>by
  simp only[lendC.lendCs]at hl
  simp only[slotsCs,List.mem_append,not_or]at hs
  split at hl
  ·rename_i y ys' g1 g2
   cases hl
   simp only[ReCs]at hu⊢
   obtain⟨u,us',h1,h2,h3⟩:=hu
   exact⟨u,us',h1,znL h g1 hs.1 h2,zd9 h g2 hs.2 h3⟩
  ·cases hl
end
theorem zlF (h:Holds cx ⟨v,r⟩ a w β) {x y:AV} {u:Value} (hl:lendA r x=some y) (hs:mv.s ∉ slotsA x) (hu:ReA cx w r β x u):ReA (cxM cx w r β mv) w [] β0 y u:=by
 unfold lendA at hl
 split at hl
 ·split at hl
  ·rename_i y' g1
   cases hl
   exact zaN.2 (znL h g1 (by simpa[slotsA]using hs) (zaN.1 hu))
  ·cases hl
 ·split at hl
  ·rename_i y' g1
   cases hl
   obtain⟨us,h1,h2⟩:=zbR.1 hu
   exact zbR.2 ⟨us,h1,zd9 h g1 (by simpa[slotsA]using hs) h2⟩
  ·cases hl
 ·cases hl
theorem zfq (h:Holds cx ⟨v,r⟩ a w β) {γ:Nat→Pl} {k:Nat} {bs:List Hold}:∀{xs:List AV} {ys:List Arg} {us:List Value},lendAs r xs=some ys→mv.s ∉ slotsAs xs→ReAs cx w r β xs us→
  ∀{zs:List Arg} {vs:List Value},zaq cx.P w (Av cx r β) (MB r β mv) γ k zs bs vs→zaq cx.P w (Av cx r β) (MB r β mv) γ k (ys++zs) bs (us++vs)
 |[],ys,us,hl,_,hu,zs,vs,hz=>by
  simp only[lendAs,Option.some.injEq]at hl
  subst hl
  simp only[ReAs]at hu
  subst hu
  simpa using hz
 |x::xs,ys,us,hl,hs,hu,zs,vs,hz=>by
  simp only[lendAs]at hl
  simp only[slotsAs,List.mem_append,not_or]at hs
  split at hl
  ·rename_i y ys' g1 g2
   cases hl
   simp only[ReAs]at hu
   obtain⟨u,us',rfl,h2,h3⟩:=hu
   simp only[List.cons_append,zaq]
   exact⟨u,us'++vs,rfl,zlF h g1 hs.1 h2,zfq h g2 hs.2 h3 hz⟩
  ·cases hl
def γM (r:Rs) (β:Nat→Nat→Pl) (mv:Mv):Nat→Pl:=
 match mv with
 | .o h=>match getR r h with
  |some res=>γof β res.cells
  |none=>fun _=>⟨none,0⟩
 | .r h _=>fun _=>β h.s h.j
theorem zlG {s:Nat}:∀{l:List (Nat×Nat)},homeB s l=true→∀p∈l,p.1=s
 |[],_,p,hp=>by simp at hp
 |q::l,h,p,hp=>by
  simp only[homeB,Bool.and_eq_true,beq_iff_eq]at h
  rcases List.mem_cons.1 hp with rfl|hp
  ·exact h.1
  ·exact zlG h.2 p hp
def zws (r:Rs) (β:Nat→Nat→Pl) (mv:Mv) (hold:Hold) (u:Value):Prop:=
 match mv with
 | .o hd=>∃res b,getR r hd=some res∧res.var=true∧hd.j=0∧(β hd.s 0).base=some (b,0)∧hold= .blk b
 | .r hd n=>hold= .val u∧∃res,getR r hd=some res∧res.fz=false∧OwnV (β hd.s hd.j) res 0 n u
theorem zfR:∀{l a b:List C} {q:Hd×Nat×Nat},splitOwn l=some (a,q,b)→l=a++ .own q.1 q.2.1 q.2.2::b
 |[],_,_,_,h=>by simp[splitOwn]at h
 |x::xs,a,b,q,h=>by
  simp only[splitOwn]at h
  cases hx:ownOf x with
  |some q'=>
   rw[hx]at h
   cases h
   unfold ownOf at hx
   split at hx
   ·cases hx;rfl
   ·cases hx
  |none=>
   rw[hx]at h
   simp only at h
   cases hs:splitOwn xs with
   |none=>rw[hs]at h;cases h
   |some z=>
    obtain⟨a',q',b'⟩:=z
    rw[hs]at h
    cases h
    rw[zfR hs];rfl
theorem zjy:∀{l m:List C} {us:List Value},ReCs cx w r β (l++m) us→∃vs ws,us=vs++ws∧ReCs cx w r β l vs∧ReCs cx w r β m ws
 |[],m,us,h=>⟨[],us,rfl,by simp[ReCs],h⟩
 |x::l,m,us,h=>by
  simp only[List.cons_append,ReCs]at h⊢
  obtain⟨u,us',rfl,h1,h2⟩:=h
  obtain⟨vs,ws,rfl,g1,g2⟩:=zjy h2
  exact⟨u::vs,ws,rfl,⟨u,vs,rfl,h1,g1⟩,g2⟩
theorem zst (h:Holds cx ⟨v,r⟩ a w β) {x:AV} {y:Arg} {u:Value} {dst:Option Nat} {lent:List Nat} {l':List RO} (hm:moveA r x=some (y,mv)) (hsc:scM r dst mv lent l') (hu:ReA cx w r β x u):
  ∃hold u1,(∀(zs:List Arg) (vs:List Value),(∀k,zaq cx.P w (Av cx r β) (MB r β mv) (γM r β mv) k zs [] vs)→zaq cx.P w (Av cx r β) (MB r β mv) (γM r β mv) 0 (y::zs) [hold] (u::vs))∧
   (∀b,NB (γM r β mv) 0 (zal [y]) b→MB r β mv b∧b ∉ zdG [hold])∧Apart (γM r β mv) (zal [y])∧
   zws r β mv hold u1:=by
 cases x with
 |agg l=>
  simp only[moveA]at hm
  cases hsp:splitOwn l with
  |none=>rw[hsp]at hm;cases hm
  |some q=>
   obtain⟨a0,⟨hd,lo,n⟩,b0⟩:=q
   rw[hsp]at hm
   simp only at hm
   cases hla:lendC.lendCs r a0 with
   |none=>rw[hla]at hm;cases hm
   |some a1=>
   cases hlb:lendC.lendCs r b0 with
   |none=>rw[hla,hlb]at hm;cases hm
   |some b1=>
   cases hg:getR r hd with
   |none=>rw[hla,hlb,hg]at hm;cases hm
   |some res=>
   rw[hla,hlb,hg]at hm
   simp only at hm
   cases hds:toDs res.cells with
   |none=>simp[hds]at hm
   |some ds=>
    simp only[hds]at hm
    by_cases hcond:res.var=false∧res.fz=false∧lo=0∧(slotsCs a0++slotsCs b0).contains hd.s=false
    ·rw[if_pos hcond]at hm
     obtain⟨hv,hf,rfl,hns⟩:=hcond
     cases hm
     simp only[List.contains_eq_mem,List.mem_append,decide_eq_false_iff_not,not_or]at hns
     have hl:=zfR hsp
     subst hl
     obtain⟨us,rfl,hus⟩:=zbR.1 hu
     obtain⟨vs,ws0,e1,hva,hwb0⟩:=zjy hus
     simp only[ReCs]at hwb0
     obtain⟨u1,ws,rfl,hr,hwb⟩:=hwb0
     simp only[ReC]at hr
     have hown:=hr.2.2 res hg
     obtain⟨hlk,_⟩:=zad hg
     obtain⟨ds0,k1,k2,k3⟩:=(h.rs _ _ _ hlk).1.row hv
     rw[k1,zbq]at hds
     cases hds
     have hγ:∀k,γM r β (.r hd n) k=β hd.s hd.j:=fun k=>by simp[γM]
     have hus2:Value.agg us= .agg (vs++u1::ws).toArray:=by rw[←e1]
     refine⟨.val u1,u1,fun zs vs' hz=> ?_,fun bb hb=> ?_,fun i j bb o o' sz n ds bo sz' n' ds' bo' hi hj' hbi hbj=> ?_,rfl,res,hg,hf,hown⟩
     ·simp only[zaq]
      refine⟨vs,u1,ws,[],vs',by rw[hus2],rfl,zd9 (mv:= .r hd n) h hla hns.1 hva,zd9 (mv:= .r hd n) h hlb hns.2 hwb, ?_,hz _⟩
      rw[hγ]
      simp only[ROc]
      obtain⟨_,h2,h3,ad,h4,h5⟩:=hown
      refine⟨by rw[k1]at h2;simpa using h2,by omega,k2,ad,by simpa using h4, ?_⟩
      rcases h5 with h5|⟨b,o,h5,h6⟩
      ·exact .inl (by simpa using h5)
      ·exact .inr ⟨b,o,h5,by simpa using h6⟩
     ·simp only[zal,NB,hγ]at hb
      rcases hb with⟨o,hb⟩|hb
      ·exact⟨⟨hd.j,res,o,rfl,hlk,hf,hb⟩,by simp[zdG]⟩
      ·exact hb.elim
     ·simp only[zal]at hi hj'
      cases i with
      |zero=>cases j with
       |zero=>rfl
       |succ j=>simp at hj'
      |succ i=>simp at hi
    ·rw[if_neg hcond]at hm;cases hm
 |tup _=>simp[moveA]at hm
 |gd _ _=>simp[moveA]at hm
 |one x=>
 cases x with
 |d _=>simp[moveA]at hm
 |lent _ _=>simp[moveA]at hm
 |elt _=>simp[moveA]at hm
 |clos _ _=>simp[moveA]at hm
 |ab=>simp[moveA]at hm
 |dead=>simp[moveA]at hm
 |gap=>simp[moveA]at hm
 |lk=>simp[moveA]at hm
 |eltR=>simp[moveA]at hm
 |ptr hd off=>
  simp only[moveA]at hm
  cases hg:getR r hd with
  |none=>simp[hg]at hm
  |some res=>
   simp only[hg]at hm
   cases hro:roCs r res.cells with
   |none=>simp[hro]at hm
   |some l=>
    simp only[hro]at hm
    by_cases hcond:res.var=true∧hd.j=0∧off=0∧((slotsCs res.cells).all (·==hd.s)&&(homeB hd.s (ownHs r res.cells)&&ndB (ownHs r res.cells)))=true
    ·rw[if_pos hcond]at hm
     obtain⟨hv,hj,rfl,hc4⟩:=hcond
     simp only[Bool.and_eq_true]at hc4
     obtain⟨_,hhome,hnd⟩:=hc4
     cases hm
     simp only[scM,hg]at hsc
     have hr:=zaN.1 hu
     simp only[ReC]at hr
     obtain⟨b,o,e1,e2⟩:=hr.2.2 res hg
     obtain⟨hlk,_⟩:=zad hg
     have hok:=(h.rs _ _ _ hlk).1
     unfold ResOK at hok
     rw[if_pos hv]at hok
     obtain⟨hf,b',c,e,k1,k2,k3,k4⟩:=hok
     rw[e1]at k1
     cases k1
     have hγ:γM r β (.o hd)=γof β res.cells:=by simp[γM,hg]
     have hrow:∀{i sz n bb oo:Nat} {ds:List D} {bo:Bool},l[i]? =some (.own sz n ds bo)→(γof β res.cells i).base=some (bb,oo)→
       ∃hd' m res',res.cells[i]? =some (.own hd' 0 m)∧getR r hd'=some res'∧res'.fz=false∧hd'.s=hd.s∧(β hd'.s hd'.j).base=some (bb,oo)∧res'.var=false:=fun {i sz n bb oo ds bo} hi hb=>by
      obtain⟨x,g1,g2⟩:=zkh hro hi
      obtain⟨hd',res',rfl,g3,g4,_,_,_⟩:=zqh g2
      unfold γof at hb
      rw[g1]at hb
      have hmem:=zgd (r:=r) (p:=(hd'.s,hd'.j)) g1 (by rw[zia g3 g4];simp)
      obtain⟨u1,_,e4⟩:=zbz k3 g1
      simp only[ReC]at e4
      exact⟨hd',n,res',g1,g3,g4,zlG hhome _ hmem,hb,(e4.2.2 res' g3).1⟩
     refine⟨.blk b,u,fun zs vs hz=> ?_,fun bb hb=> ?_,fun i j bb o o' sz n ds bo sz' n' ds' bo' hi hj' hbi hbj=> ?_,res,b,hg,hv,hj, ?_,rfl⟩
     ·simp only[zaq]
      refine⟨b,[],vs,c,e,by rw[e2],rfl,⟨hd.j,res,0,trivial,hlk,hf,e1⟩,k2, ?_,k4,hz _⟩
      rw[hγ]
      exact zfQ h (fun b hb=>hb) hro k3 (fun i x hi=>by simpa using hi)
     ·rw[hγ]at hb
      simp only[zal,List.append_nil]at hb
      obtain⟨i,sz,n,ds,bo,o2,g1,g2⟩:=zfD hb
      rw[Nat.zero_add]at g2
      obtain⟨hd',m,res',q1,q2,q3,q4,q5,q6⟩:=hrow g1 g2
      have hlk':=(zad q2).1
      refine⟨⟨hd'.j,res',o2,trivial,by show lookR r hd.s _=_;rw[←q4];exact hlk',q3,by show(β hd.s _).base=_;rw[←q4];exact q5⟩,fun hmem=> ?_⟩
      simp only[zdG,List.mem_singleton]at hmem
      subst hmem
      obtain⟨p1,p2⟩:=h.inj _ _ _ _ _ _ _ _ _ hlk' q3 hlk hf q5 e1
      rw[p1,p2,hlk]at hlk'
      cases hlk'
      rw[hv]at q6
      cases q6
     ·rw[hγ]at hbi hbj
      simp only[zal,List.append_nil]at hi hj'
      obtain⟨hd1,m1,res1,q1,q2,q3,q4,q5,q6⟩:=hrow hi hbi
      obtain⟨hd2,m2,res2,p1,p2,p3,p4,p5,p6⟩:=hrow hj' hbj
      obtain⟨t1,t2⟩:=h.inj _ _ _ _ _ _ _ _ _ (zad q2).1 q3 (zad p2).1 p3 q5 p5
      exact zmO hnd q1 p1 (by rw[zia q2 q3];exact List.mem_singleton.2 rfl) (by rw[zia p2 p3,t1,t2];exact List.mem_singleton.2 rfl)
     ·rw[hj]at e1;exact e1
    ·rw[if_neg hcond]at hm;cases hm
 |own hd lo n=>
  simp only[moveA]at hm
  cases hg:getR r hd with
  |none=>simp[hg]at hm
  |some res=>
   simp only[hg]at hm
   cases hds:toDs res.cells with
   |none=>simp[hds]at hm
   |some ds=>
    simp only[hds]at hm
    by_cases hcond:res.var=false∧res.fz=false∧lo=0
    ·rw[if_pos hcond]at hm
     obtain⟨hv,hf,rfl⟩:=hcond
     cases hm
     have hr:=zaN.1 hu
     simp only[ReC]at hr
     have hown:=hr.2.2 res hg
     obtain⟨hlk,_⟩:=zad hg
     obtain⟨ds0,k1,k2,k3⟩:=(h.rs _ _ _ hlk).1.row hv
     rw[k1,zbq]at hds
     cases hds
     have hγ:∀k,γM r β (.r hd n) k=β hd.s hd.j:=fun k=>by simp[γM]
     refine⟨.val u,u,fun zs vs hz=> ?_,fun bb hb=> ?_,fun i j bb o o' sz n ds bo sz' n' ds' bo' hi hj' hbi hbj=> ?_,rfl,res,hg,hf,hown⟩
     ·simp only[zaq]
      refine⟨u,[],vs,rfl,rfl, ?_,hz _⟩
      rw[hγ]
      simp only[ROc]
      obtain⟨_,h2,h3,ad,h4,h5⟩:=hown
      refine⟨by rw[k1]at h2;simpa using h2,by omega,k2,ad,by simpa using h4, ?_⟩
      rcases h5 with h5|⟨b,o,h5,h6⟩
      ·exact .inl (by simpa using h5)
      ·exact .inr ⟨b,o,h5,by simpa using h6⟩
     ·simp only[zal,NB,hγ]at hb
      rcases hb with⟨o,hb⟩|hb
      ·exact⟨⟨hd.j,res,o,rfl,hlk,hf,hb⟩,by simp[zdG]⟩
      ·exact hb.elim
     ·simp only[zal]at hi hj'
      cases i with
      |zero=>cases j with
       |zero=>rfl
       |succ j=>simp at hj'
      |succ i=>simp at hi
    ·rw[if_neg hcond]at hm;cases hm
theorem zic (h:Holds cx ⟨v,r⟩ a w β) {dst:Option Nat} {lent:List Nat} {l':List RO}:∀{i:Nat} {xs:List AV} {ys:List Arg} {us:List Value},moveAs r i xs=some (ys,mv)→scM r dst mv lent l'→mv.s ∉ lentSl i xs→ReAs cx w r β xs us→
  ∃x y u hold,moveA r x=some (y,mv)∧
   (∀(zs:List Arg) (vs:List Value),(∀k,zaq cx.P w (Av cx r β) (MB r β mv) (γM r β mv) k zs [] vs)→zaq cx.P w (Av cx r β) (MB r β mv) (γM r β mv) 0 (ys++zs) [hold] (us++vs))∧
   zal ys=zal [y]∧
   (∀b,NB (γM r β mv) 0 (zal [y]) b→MB r β mv b∧b ∉ zdG [hold])∧Apart (γM r β mv) (zal [y])∧
   zws r β mv hold u
 |_,[],ys,us,hm,_,_,_=>by simp[moveAs]at hm
 |0,x::xs,ys,us,hm,hsc,hs,hu=>by
  simp only[moveAs]at hm
  split at hm
  ·rename_i y mv' ys' g1 g2
   cases hm
   simp only[ReAs]at hu
   obtain⟨u,us',rfl,h1,h2⟩:=hu
   obtain⟨hold,u1,q1,q2,q3,q4⟩:=zst h g1 hsc h1
   refine⟨x,y,u1,hold,g1,fun zs vs hz=> ?_, ?_,q2,q3,q4⟩
   ·exact q1 (ys'++zs) (us'++vs) (fun k=>zfq h g2 (by simpa[lentSl]using hs) h2 (hz k))
   ·have:=za4 [y] ys'
    simp only[List.cons_append,List.nil_append]at this
    rw[this,zbI g2,List.append_nil]
  ·cases hm
 |i+1,x::xs,ys,us,hm,hsc,hs,hu=>by
  simp only[moveAs]at hm
  split at hm
  ·rename_i y ys' mv' g1 g2
   cases hm
   simp only[lentSl,List.mem_append,not_or]at hs
   simp only[ReAs]at hu
   obtain⟨u,us',rfl,h1,h2⟩:=hu
   obtain⟨x',y',u',hold,q0,q1,q2,q3⟩:=zic h g2 hsc hs.2 h2
   refine⟨x',y',u',hold,q0,fun zs vs hz=> ?_,q2,q3⟩
   simp only[List.cons_append,zaq]
   exact⟨u,us'++vs,rfl,zlF h g1 hs.1 h1,q1 zs vs hz⟩
  ·cases hm
end
section
variable {cx:Cx} {v:List AV} {r r':Rs} {a:Act} {w w':World} {β β':Nat→Nat→Pl} {T:Nat→Option TI} {c:Bool} {mv:Mv}
theorem Holds.callM (h:Holds cx ⟨v,r⟩ a w β) {L:List RO} {γ:Nat→Pl} {bl:List Nat} {idx:Nat→Nat×Nat}
  (nx:∀s,nxt r s≤nxt r' s)
  (old:∀(hd:Hd) (res':Res),hd.e<nxt r hd.s→getR r' hd=some res'→
   ∃res,getR r hd=some res∧β' hd.s hd.j=β hd.s hd.j∧res'.var=res.var∧res'.sz=res.sz∧res.cells.length≤res'.cells.length)
  (cls:∀s j res,lookR r' s j=some res→res.e<nxt r' s∧
   ((lookR r s j=some res∧β' s j=β s j∧¬(s=mv.s∧mv.has j))∨
    (∃m sz n ds bo,L[m]? =some (.own sz n ds bo)∧β' s j=γ m∧res.var=false∧res.fz=false∧res.sz=sz∧res.cells=ds.map C.d∧(res.bor=false→bo=false∨∀b,MB r β mv b→cx.n0≤b)∧idx m=(s,j))∨
    (∃res0 b,lookR r s j=some res0∧res0.fz=false∧s=mv.s∧mv.has j∧β' s j=β s j∧res.var=true∧res.fz=false∧res.bor=res0.bor∧(β s j).base=some (b,0)∧b∈bl∧
     ∃cs e,w'.heap[b]? =some (.cells cs e (0,0))∧(∀u∈cs.toList,flat u=true)∧(Ext cx w r β w' r' β'→(∀b,Av cx r' β' b→Av cx r β b∨NB γ 0 L b)→ReCs cx w' r' β' res.cells cs.toList))))
  (hrow:∀m sz n ds bo,L[m]? =some (.own sz n ds bo)→RowM w' (fun b=>Av cx r β b∨NB γ 0 L b) (γ m) sz ds)
  (hnb:∀b,NB γ 0 L b→(w.heap.size≤b∨MB r β mv b)∧b ∉ bl)
  (hfresh:∀(i sz n:Nat) (ds:List D) (b o:Nat),L[i]? =some (.own sz n ds false)→(γ i).base=some (b,o)→w.heap.size≤b)
  (hap:Apart γ L) (hsz:w.heap.size≤w'.heap.size) (hold:∀b,b<w.heap.size→¬MB r β mv b→w'.heap[b]? =w.heap[b]?) (hos:w'.os=w.os) (hout:w'.output=w.output):
  Holds cx ⟨v,r'⟩ a w' β'∧Ext cx w r β w' r' β'∧∀b,Av cx r' β' b→Av cx r β b∨NB γ 0 L b:=by
 have hAv:∀b,Av cx r' β' b→Av cx r β b∨NB γ 0 L b:=fun b hA=>by
  rcases hA with hA|⟨s,j,res,o,hl,hf,hb⟩
  ·exact .inl (.inl hA)
  ·obtain⟨_,hc⟩:=cls s j res hl
   rcases hc with⟨g1,g2,_⟩|⟨m,sz,n,ds,bo,g1,g2,_⟩|⟨res0,b',g1,g2,_,_,g3,_⟩
   ·exact .inl (.inr ⟨s,j,res,o,g1,hf,by rw[←g2];exact hb⟩)
   ·rw[g2]at hb;exact .inr (zeQ (k:=0) g1 (by rw[Nat.zero_add];exact hb))
   ·rw[g3]at hb;exact .inl (.inr ⟨s,j,res0,o,g1,g2,hb⟩)
 have hx:Ext cx w r β w' r' β':=by
  refine⟨nx,old,⟨fun b hb hA=>hold b hb fun hm=>hA (.inr hm.ob),fun b hb hA=> ?_⟩,fun b hb hn=>hold b (Nat.lt_of_lt_of_le hb h.n0) fun hm=> ?_,hos,hout⟩
  ·rcases hAv b hA with h'|h'
   ·exact h'
   ·rcases(hnb b h').1 with h1|h1
    ·omega
    ·exact .inr h1.ob
  ·rcases hm.fr h with h1|h1
   ·omega
   ·exact hn h1
 have hkeep:∀{s j res b o},lookR r s j=some res→¬(s=mv.s∧mv.has j)→(β s j).base=some (b,o)→¬MB r β mv b:=fun {s j res b o} hl hm hb hM=>by
  obtain⟨k,res',o',m1,m2,m3,m4⟩:=hM
  cases hf:res.fz with
  |false=>
   obtain⟨e1,e2⟩:=h.inj _ _ _ _ _ _ _ _ _ hl hf m2 m3 hb m4
   exact hm ⟨e1,by rw[e2];exact m1⟩
  |true=>
   have hok:=(h.rs _ _ _ hl).1
   unfold ResOK at hok
   rw[if_neg (by simp[h.vz _ _ _ hl hf])]at hok
   obtain⟨_,_,_,g⟩:=hok
   exact g hf b o hb (.inr ⟨_,k,res',o',m2,m3,m4⟩)
 refine⟨h.mk' hx (fun s j res hl=> ?_) (fun s j res s' j' res' b o o' hl hf hl' hf' hb hb'=> ?_) (fun s j res b o hl hf hb=> ?_) hsz,hx,hAv⟩
 ·obtain⟨he,hc⟩:=cls s j res hl
  refine⟨?_,he⟩
  rcases hc with⟨g1,g2,g3⟩|⟨m,sz,n,ds,bo,g1,g2,g3,g4,g5,g6,_,_⟩|⟨res0,b,g1,g2,g3,g4,g5,g6,g7,g8,g9,g10,cs,e,g11,g12,g13⟩
  ·rw[g2]
   have hok:=(h.rs _ _ _ g1).1
   exact hok.ext hx (fun b o hb=>hold b (hok.lt hb) (hkeep g1 g3 hb)) (fun b o hb=>hok.lt hb)
  ·unfold ResOK
   rw[if_neg (by simp[g3]),g2]
   refine⟨ds,g6, ?_,fun hf=>by rw[g4]at hf;cases hf⟩
   rw[g5]
   exact(hrow m sz n ds bo g1).stb ⟨fun _ _ _=>rfl,fun b _ hb=>hAv b hb⟩ (fun _ _ _=>rfl)
  ·unfold ResOK
   rw[if_pos g6,g5]
   exact⟨g7,b,cs,e,g9,g11,g13 hx hAv,g12⟩
 ·obtain⟨_,hc⟩:=cls s j res hl
  obtain⟨_,hc'⟩:=cls s' j' res' hl'
  rcases hc with⟨g1,g2,g3⟩|⟨m,sz,n,ds,bo,g1,g2,g3,g4,g5,g6,_,g7⟩|⟨res0,b0,g1,g2,g3,g4,g5,g6,g7,g8,g9,g10,_⟩<;>
   rcases hc' with⟨k1,k2,k3⟩|⟨m',sz',n',ds',bo',k1,k2,k3,k4,k5,k6,_,k7⟩|⟨res0',b0',k1,k2,k3,k4,k5,k6,k7,k8,k9,k10,_⟩
  ·rw[g2]at hb;rw[k2]at hb'
   exact h.inj _ _ _ _ _ _ _ _ _ g1 hf k1 hf' hb hb'
  ·rw[g2]at hb;rw[k2]at hb'
   have hlt:=(h.rs _ _ _ g1).1.lt hb
   rcases(hnb b (zeQ (k:=0) k1 (by rw[Nat.zero_add];exact hb'))).1 with q|q
   ·omega
   ·exact absurd q (hkeep g1 g3 hb)
  ·rw[g2]at hb;rw[k5]at hb'
   exact h.inj _ _ _ _ _ _ _ _ _ g1 hf k1 k2 hb hb'
  ·rw[g2]at hb;rw[k2]at hb'
   have hlt:=(h.rs _ _ _ k1).1.lt hb'
   rcases(hnb b (zeQ (k:=0) g1 (by rw[Nat.zero_add];exact hb))).1 with q|q
   ·omega
   ·exact absurd q (hkeep k1 k3 hb')
  ·rw[g2]at hb;rw[k2]at hb'
   have:=hap m m' b o o' sz n ds bo sz' n' ds' bo' g1 k1 hb hb'
   subst this
   rw[g7]at k7
   cases k7
   exact⟨rfl,rfl⟩
  ·rw[g2]at hb;rw[k5,k9]at hb'
   cases hb'
   exact absurd k10 (hnb b (zeQ (k:=0) g1 (by rw[Nat.zero_add];exact hb))).2
  ·rw[g5]at hb;rw[k2]at hb'
   exact h.inj _ _ _ _ _ _ _ _ _ g1 g2 k1 hf' hb hb'
  ·rw[g5,g9]at hb;rw[k2]at hb'
   cases hb
   exact absurd g10 (hnb b (zeQ (k:=0) k1 (by rw[Nat.zero_add];exact hb'))).2
  ·rw[g5]at hb;rw[k5]at hb'
   exact h.inj _ _ _ _ _ _ _ _ _ g1 g2 k1 k2 hb hb'
 ·obtain⟨_,hc⟩:=cls s j res hl
  rcases hc with⟨g1,g2,g3⟩|⟨m,sz,n,ds,bo,g1,g2,g3,g4,g5,g6,g8,g7⟩|⟨res0,b0,g1,g2,g3,g4,g5,g6,g7,g8,g9,g10,_⟩
  ·rw[g2]at hb;exact h.fr _ _ _ _ _ g1 hf hb
  ·rw[g2]at hb
   have hn0:=h.n0
   rcases(hnb b (zeQ (k:=0) g1 (by rw[Nat.zero_add];exact hb))).1 with q|q
   ·exact⟨.inl (by omega),fun _=>by omega⟩
   ·refine⟨q.fr h,fun hbor=> ?_⟩
    rcases g8 hbor with q'|q'
    ·subst q'
     have:=hfresh m sz n ds b o g1 hb
     omega
    ·exact q' b q
  ·rw[g5]at hb
   rw[g8]
   exact h.fr _ _ _ _ _ g1 g2 hb
theorem ztU (h:Holds cx ⟨v,r⟩ a w β) (hB:borM r mv=false):∀b,MB r β mv b→cx.n0≤b:=fun b hb=>by
 obtain⟨j,res,o,_,h2,h3,h4⟩:=hb
 refine(h.fr _ _ _ _ _ h2 h3 h4).2 ?_
 unfold borM at hB
 unfold lookR at h2
 cases hrs:findR mv.s r with
 |none=>simp[hrs]at h2
 |some rs=>
  simp only[hrs]at h2 hB
  have hj:rs.l[j]? =some (some res):=by
   split at h2
   ·rename_i q hq;cases h2;exact hq
   ·cases h2
  have:=List.any_eq_false.1 hB (some res) (List.mem_of_getElem? hj)
  simpa using this
theorem zeT {B:Bool} {e s:Nat} {L:List (Option Res)} {l:List RO} {next j:Nat} {x:Option Res} {res:Res} (hl:lookR (setR s ⟨next,x::bindRs B e l⟩ r) s j=some res):
  (j=0∧x=some res)∨∃k sz n ds bo,j=k+1∧l[k]? =some (.own sz n ds bo)∧res={rowAt e sz ds with bor:=bo&&B}:=by
 rw[zax,if_pos rfl]at hl
 cases j with
 |zero=>
  simp only[List.getElem?_cons_zero]at hl
  split at hl
  ·rename_i q hq;cases hl;simp only[Option.some.injEq]at hq;exact .inl ⟨rfl,hq⟩
  ·cases hl
 |succ k=>
  simp only[List.getElem?_cons_succ]at hl
  split at hl
  ·rename_i q hq
   cases hl
   obtain⟨sz,n,ds,bo,g1,g2⟩:=zfo hq
   exact .inr ⟨k,sz,n,ds,bo,rfl,g1,g2⟩
  ·cases hl
def ztV (dst:Option Nat) (rfs:List RF):Option Nat:=if noOwn (rfs.flatMap RF.cells)=true then none else dst
def zgF (B:Bool) (r1:Rs) (od:Option Nat) (cells:List RO):Rs:=
 match od with
 |some d=>setR d {next:=nxt r1 d+1,l:=none::bindRs B (nxt r1 d) cells} r1
 |none=>r1
theorem zcX {B:Bool} {r1:Rs} {dst:Option Nat} {rfs:List RF}:(bindRetB B r1 dst rfs).2=zgF B r1 (ztV dst rfs) (rfs.flatMap RF.cells):=by
 unfold bindRetB ztV zgF
 simp only
 split
 ·rfl
 ·cases dst<;>rfl
theorem val_ok {B:Bool} {r1:Rs} {dst:Option Nat} {rfs:List RF} {u:Value} {us:List Value} {γ:Nat→Pl} {A:Nat→Prop} (hu:u=(match us with|[x]=>x|us=> .tuple us.toArray))
  (hA:∀b,Av cx (bindRetB B r1 dst rfs).2 β' b→A b) (h2:RFvs A w' γ 0 rfs us) (hγ:∀d k,ztV dst rfs=some d→k<(rfs.flatMap RF.cells).length→β' d (k+1)=γ k):
  ReA cx w' (bindRetB B r1 dst rfs).2 β' (bindRetB B r1 dst rfs).1 u:=by
 unfold bindRetB at hA⊢
 simp only at hA⊢
 split
 ·rename_i hn
  rw[if_pos hn]at hA
  exact zgb hu (zdC (γ:=γ) hA (fun i sz n ds bo hi=>absurd hi (zgc hn i sz n ds bo)) h2)
 ·rename_i hn
  rw[if_neg hn]at hA
  cases dst with
  |none=>simp[ReA,ReC]
  |some d=>
   simp only at hA⊢
   refine zgb hu (zdC (γ:=γ) hA (fun i sz n ds bo hi=> ?_) h2)
   refine⟨⟨bo&&B,zao ?_ rfl⟩,by rw[Nat.zero_add];exact hγ d i (by unfold ztV;rw[if_neg hn]) (List.getElem?_eq_some_iff.1 hi).1,by rw[zaL,if_pos rfl];exact Nat.lt_succ_self _⟩
   rw[zax,if_pos rfl]
   simp[zdD hi,rowAt]
end
section
variable {cx:Cx} {v:List AV} {r r':Rs} {a:Act} {w w':World} {β β':Nat→Nat→Pl} {T:Nat→Option TI} {c:Bool} {mv:Mv}
theorem ROcs.shift' {A:Nat→Prop} {γ:Nat→Pl} {m:Nat}:∀{l:List RO} {k:Nat} {us:List Value},ROcs A w γ (m+k) l us→ROcs A w (fun i=>γ (m+i)) k l us
 |[],_,_,h=>h
 |x::l,k,us,h=>by
  simp only[ROcs]at h⊢
  obtain⟨u,us',rfl,h1,h2⟩:=h
  exact⟨u,us',rfl,h1,ROcs.shift' (k:=k+1) h2⟩
theorem zcK {B:Bool} {r1:Rs} {od:Option Nat} {cells:List RO} {s:Nat}:nxt (zgF B r1 od cells) s=if od=some s then nxt r1 s+1 else nxt r1 s:=by
 cases od with
 |none=>simp[zgF]
 |some d=>
  simp only[zgF,zaL,Option.some.injEq]
  by_cases h:d=s
  ·subst h;simp
  ·simp[h]
theorem zeU {B:Bool} {r1:Rs} {od:Option Nat} {cells:List RO} {s j:Nat} (h:od≠some s):lookR (zgF B r1 od cells) s j=lookR r1 s j:=by
 cases od with
 |none=>rfl
 |some d=>simp only[zgF,zax];rw[if_neg (fun e=>h (by rw[e]))]
theorem zqm {dst:Option Nat} {rfs:List RF} {lent:List Nat} {s:Nat} (h:(dl dst++lent).contains s=false):ztV dst rfs≠some s:=by
 unfold ztV
 split
 ·simp
 ·intro e
  rw[e]at h
  simp[dl]at h
theorem zwt (h:Holds cx ⟨v,r⟩ a w β) {hd:Hd} {res:Res} {b:Nat} {dst:Option Nat} {lent:List Nat} {l':List RO} {rfs:List RF} {u:Value} (hg:getR r hd=some res) (hv:res.var=true) (hj:hd.j=0)
  (hbase:(β hd.s 0).base=some (b,0)) (hsc:scM r dst (.o hd) lent l') (hr:Ret w (Av cx r β) (MB r β (.o hd)) w' [.blk b] rfs [l'] u):
  ∃β',Holds cx ⟨v,(bindM r dst (.o hd) rfs l').2⟩ a w' β'∧ReA cx w' (bindM r dst (.o hd) rfs l').2 β' (bindM r dst (.o hd) rfs l').1 u:=by
 simp only[scM,hg]at hsc
 obtain⟨s1,s2⟩:=hsc
 obtain⟨⟨γ,us,m1,m2,m3,m4,m5,m6⟩,hsz,hold,hos,hout⟩:=hr
 have hod:=zqm (rfs:=rfs) s1
 have hbof:=ztU (mv:= .o hd) h
 unfold bindM
 generalize hB:borM r (.o hd)=B at*
 have hbo:∀{bo:Bool},(bo&&B)=false→bo=false∨∀b,MB r β (.o hd) b→cx.n0≤b:=fun {bo} hb=>by
  cases bo with
  |false=>exact .inl rfl
  |true=>exact .inr (hbof (by simpa using hb))
 rw[show backM r (.o hd) l'=setR hd.s {next:=nxt r hd.s+1,l:=some {res with cells:=bindCs hd.s (nxt r hd.s) 0 l'}::bindRs B (nxt r hd.s) l'} r by simp only[backM,hg,hB]]
 generalize hr1:setR hd.s {next:=nxt r hd.s+1,l:=some {res with cells:=bindCs hd.s (nxt r hd.s) 0 l'}::bindRs B (nxt r hd.s) l'} r=r1
 have hL:zbw rfs [l']=rfs.flatMap RF.cells++l':=by simp[zbw]
 rw[hL]at m2 m3 m4 m5 m6
 rw[zcX]at*
 generalize hcs:rfs.flatMap RF.cells=cs at*
 generalize hodd:ztV dst rfs=od at*
 obtain⟨hlk,hee⟩:=zad hg
 rw[hj]at hlk
 let β':Nat→Nat→Pl:=fun s j=>if od=some s then γ (j - 1)else if s=hd.s then(if j=0 then β hd.s 0 else γ (cs.length+(j - 1)))else β s j
 have hnx1:∀s,s≠hd.s→nxt r1 s=nxt r s:=fun s hs=>by rw[←hr1,zaL,if_neg (Ne.symm hs)]
 have hnxS:nxt r1 hd.s=nxt r hd.s+1:=by rw[←hr1,zaL,if_pos rfl]
 have hlk1:∀s j,s≠hd.s→lookR r1 s j=lookR r s j:=fun s j hs=>by rw[←hr1,zax,if_neg (Ne.symm hs)]
 have hlt:hd.e<nxt r hd.s:=by rw[←hee];exact(h.rs _ _ _ hlk).2
 have hf:res.fz=false:=by
  have hok:=(h.rs _ _ _ hlk).1
  unfold ResOK at hok
  rw[if_pos hv]at hok
  exact hok.1
 -- what stands where
 have hat:∀s j res',lookR (zgF B r1 od cs) s j=some res'→
   (∃k sz n ds bo,od=some s∧j=k+1∧cs[k]? =some (.own sz n ds bo)∧res'={rowAt (nxt r s) sz ds with bor:=bo&&B})∨
   (od≠some s∧s=hd.s∧((j=0∧res'={res with cells:=bindCs hd.s (nxt r hd.s) 0 l'})∨∃k sz n ds bo,j=k+1∧l'[k]? =some (.own sz n ds bo)∧res'={rowAt (nxt r hd.s) sz ds with bor:=bo&&B}))∨
   (od≠some s∧s≠hd.s∧lookR r s j=some res'):=fun s j res' hl=>by
  by_cases ho:od=some s
  ·subst ho
   have hs:s≠hd.s:=fun e=>hod (by rw[e])
   simp only[zgF]at hl
   rw[hnx1 s hs]at hl
   rcases zeT (L:=[]) hl with⟨_,e⟩|⟨k,sz,n,ds,bo,e1,e2,e3⟩
   ·cases e
   ·exact .inl ⟨k,sz,n,ds,bo,rfl,e1,e2,e3⟩
  ·rw[zeU ho]at hl
   by_cases hs:s=hd.s
   ·subst hs
    rw[←hr1]at hl
    rcases zeT (L:=[]) hl with⟨e1,e2⟩|⟨k,sz,n,ds,bo,e1,e2,e3⟩
    ·cases e2;exact .inr (.inl ⟨ho,rfl, .inl ⟨e1,rfl⟩⟩)
    ·exact .inr (.inl ⟨ho,rfl, .inr ⟨k,sz,n,ds,bo,e1,e2,e3⟩⟩)
   ·rw[hlk1 s j hs]at hl
    exact .inr (.inr ⟨ho,hs,hl⟩)
 have hobj:=m3
 simp only[zb5]at hobj
 obtain⟨⟨arr,e,o1,o2,o3⟩,_⟩:=hobj
 obtain⟨q1,q2,q3⟩:=h.callM (r':=zgF B r1 od cs) (β':=β') (mv:= .o hd) (L:=cs++l') (γ:=γ) (bl:=[b]) (idx:=fun m=>if m<cs.length then(od.getD 0,m+1)else(hd.s,m - cs.length+1))
  (fun s=>by
   rw[zcK]
   by_cases hs:s=hd.s
   ·subst hs;rw[hnxS];split<;>omega
   ·rw[hnx1 s hs];split<;>omega)
  (fun hd' res' hlt' hg'=>by
   obtain⟨hl',he'⟩:=zad hg'
   rcases hat _ _ _ hl' with⟨k,sz,n,ds,bo,e1,e2,e3,e4⟩|⟨e1,e2,⟨e3,e4⟩|⟨k,sz,n,ds,bo,e3,e4,e5⟩⟩|⟨e1,e2,e3⟩
   ·rw[e4]at he';simp only[rowAt]at he';omega
   ·rw[e4]at he'⊢
    simp only at he'⊢
    refine⟨res,zao (by rw[e2,e3];exact hlk) he', ?_,rfl,rfl,by rw[zd8,s2];exact Nat.le_refl _⟩
    simp only[β',e3,e2]
    rw[if_neg hod]
    simp
   ·rw[e5]at he';simp only[rowAt]at he';rw[e2]at hlt';omega
   ·refine⟨res',zao e3 he', ?_,rfl,rfl,Nat.le_refl _⟩
    simp only[β']
    rw[if_neg e1,if_neg e2])
  (fun s j res' hl=>by
   rcases hat _ _ _ hl with⟨k,sz,n,ds,bo,e1,e2,e3,e4⟩|⟨e1,e2,⟨e3,e4⟩|⟨k,sz,n,ds,bo,e3,e4,e5⟩⟩|⟨e1,e2,e3⟩
   ·have hs:s≠hd.s:=fun e=>hod (by rw[e1,e])
    have hk:=(List.getElem?_eq_some_iff.1 e3).1
    refine⟨by rw[zcK,if_pos e1,hnx1 s hs,e4];simp[rowAt], .inr (.inl ⟨k,sz,n,ds,bo,by rw[List.getElem?_append_left hk];exact e3, ?_,by rw[e4];rfl,by rw[e4];rfl,by rw[e4];rfl,by rw[e4];rfl, ?_, ?_⟩)⟩
    ·simp only[β'];rw[if_pos e1,e2];rfl
    ·rw[e4];intro hb;exact hbo hb
    ·simp only[if_pos hk,e1,e2];rfl
   ·subst e2 e3
    refine⟨by rw[zcK,if_neg e1,hnxS,e4];simp only;omega, .inr (.inr ⟨res,b,hlk,hf,rfl,trivial, ?_,by rw[e4];exact hv,by rw[e4];exact hf,by rw[e4],hbase,by simp,arr,e,o1,o3,fun hx hA=> ?_⟩)⟩
    ·simp only[β'];rw[if_neg e1];simp
    ·rw[e4]
     simp only
     refine zdB (γ:=fun k=>γ (cs.length+k)) (A:=fun b=>Av cx r β b∨NB γ 0 (cs++l') b) hA (fun i sz n ds bo hi=> ?_) (ROcs.shift' (m:=cs.length) (k:=0) o2)
     refine⟨⟨bo&&B,zao ?_ rfl⟩, ?_, ?_⟩
     ·rw[zeU hod,←hr1,zax,if_pos rfl]
      simp only[Nat.zero_add,List.getElem?_cons_succ,zdD hi]
     ·simp only[β',Nat.zero_add]
      rw[if_neg hod]
      simp
     ·rw[zcK,if_neg hod,hnxS];omega
   ·subst e2
    refine⟨by rw[zcK,if_neg e1,hnxS,e5];simp[rowAt], .inr (.inl ⟨cs.length+k,sz,n,ds,bo,by rw[List.getElem?_append_right (Nat.le_add_right _ _)];simpa using e4, ?_,by rw[e5];rfl,by rw[e5];rfl,by rw[e5];rfl,by rw[e5];rfl, ?_, ?_⟩)⟩
    ·simp only[β'];rw[if_neg e1,e3];simp
    ·rw[e5];intro hb;exact hbo hb
    ·rw[if_neg (by omega),e3];simp
   ·refine⟨?_, .inl ⟨e3, ?_,fun hh=>e2 hh.1⟩⟩
    ·rw[zcK,if_neg e1,hnx1 s e2];exact(h.rs _ _ _ e3).2
    ·simp only[β'];rw[if_neg e1,if_neg e2])
  (fun m sz n ds bo hm=>by
   rcases Nat.lt_or_ge m cs.length with q|q
   ·rw[List.getElem?_append_left q]at hm
    have:=RFvs.row m2 (i:=m) (by rw[hcs];exact hm)
    rwa[Nat.zero_add]at this
   ·rw[List.getElem?_append_right q]at hm
    have:=ROcs.row o2 hm
    rwa[show cs.length+(m - cs.length)=m by omega]at this)
  (fun b' hb'=>by have:=m4 b' hb';simpa[zdG]using this) m5 m6 hsz hold hos hout
 refine⟨β',q1, ?_⟩
 have hfin:=val_ok (cx:=cx) (w':=w') (β':=β') (B:=B) (r1:=r1) (dst:=dst) (rfs:=rfs) (γ:=γ) (A:=fun b=>Av cx r β b∨NB γ 0 (cs++l') b) m1
  (fun b hb=>q3 b (by rw[zcX,hcs,hodd]at hb;exact hb)) m2 (fun d k hd' hk=>by simp only[β'];rw[←hodd,hd',if_pos rfl];rfl)
 rw[zcX,hcs,hodd]at hfin
 exact hfin
theorem zwu (h:Holds cx ⟨v,r⟩ a w β) {hd:Hd} {n0:Nat} {res:Res} {u0:Value} {dst:Option Nat} {lent:List Nat} {l':List RO} {rfs:List RF} {u:Value} (hg:getR r hd=some res) (hf:res.fz=false)
  (hown:OwnV (β hd.s hd.j) res 0 n0 u0) (hsc:scM r dst (.r hd n0) lent l') (hr:Ret w (Av cx r β) (MB r β (.r hd n0)) w' [.val u0] rfs [l'] u):
  ∃β',Holds cx ⟨v,(bindM r dst (.r hd n0) rfs l').2⟩ a w' β'∧ReA cx w' (bindM r dst (.r hd n0) rfs l').2 β' (bindM r dst (.r hd n0) rfs l').1 u:=by
 simp only[scM,hg]at hsc
 obtain⟨s1,s2⟩:=hsc
 obtain⟨⟨γ,us,m1,m2,m3,m4,m5,m6⟩,hsz,hold,hos,hout⟩:=hr
 have hod:=zqm (rfs:=rfs) s1
 obtain⟨hlk,hee⟩:=zad hg
 obtain⟨rs,hrs,hrj⟩:∃rs,findR hd.s r=some rs∧rs.l[hd.j]? =some (some res):=by
  unfold lookR at hlk
  cases hrs:findR hd.s r with
  |none=>simp[hrs]at hlk
  |some rs=>
   simp only[hrs]at hlk
   refine⟨rs,rfl, ?_⟩
   split at hlk
   ·rename_i q hq;cases hlk;exact hq
   ·cases hlk
 have hjlt:hd.j<rs.l.length:=(List.getElem?_eq_some_iff.1 hrj).1
 have hbof:=ztU (mv:= .r hd n0) h
 unfold bindM
 generalize hB:borM r (.r hd n0)=B at*
 have hbo:∀{bo:Bool},(bo&&B)=false→bo=false∨∀b,MB r β (.r hd n0) b→cx.n0≤b:=fun {bo} hb=>by
  cases bo with
  |false=>exact .inl rfl
  |true=>exact .inr (hbof (by simpa using hb))
 -- what stands at the row's place behind the call
 obtain⟨x,hx,hx2⟩:∃x:Option Res,backM r (.r hd n0) l'=setR hd.s {rs with l:=rs.l.set hd.j x} r∧
   (x=none∨∃sz ds bo,l'=[.own sz n0 ds bo]∧0<n0∧sz=res.sz∧ds.length=res.cells.length∧x=some {res with cells:=ds.map C.d}):=by
  simp only[backM,hg,hrs]
  split at s2
  ·exact⟨none,rfl, .inl rfl⟩
  ·rename_i sz n' ds' bo
   obtain⟨e1,e2,e3,e4⟩:=s2
   subst e1
   exact⟨_,rfl, .inr ⟨sz,ds',bo,rfl,e2,e3,e4,rfl⟩⟩
  ·exact s2.elim
 rw[hx]
 generalize hr1:setR hd.s {rs with l:=rs.l.set hd.j x} r=r1
 have hL:zbw rfs [l']=rfs.flatMap RF.cells++l':=by simp[zbw]
 rw[hL]at m2 m3 m4 m5 m6
 rw[zcX]at*
 generalize hcs:rfs.flatMap RF.cells=cs at*
 generalize hodd:ztV dst rfs=od at*
 let β':Nat→Nat→Pl:=fun s j=>if od=some s then γ (j - 1)else β s j
 have hns:nxt r hd.s=rs.next:=by unfold nxt;simp only[hrs]
 have hnx1:∀s,nxt r1 s=nxt r s:=fun s=>by
  rw[←hr1,zaL]
  split
  ·rename_i e;subst e;exact hns.symm
  ·rfl
 have hobj:=m3
 simp only[zb5]at hobj
 -- a row that comes back lies where it lay
 have hback:∀sz ds bo,l'=[.own sz n0 ds bo]→0<n0→γ cs.length=β hd.s hd.j:=fun sz ds bo e hp=>by
  subst e
  have h1:=hobj.1.resolve_left (by simp)
  simp only[ROcs,ROc]at h1
  obtain⟨u1,us1,e1,⟨_,g2,_,ad,g3,g4⟩,_⟩:=h1
  cases e1
  obtain⟨_,_,k1,ad',k2,k3⟩:=hown
  rw[g3]at k2
  simp only[Value.slice.injEq,Nat.sub_zero,true_and]at k2
  obtain⟨rfl,k4⟩:=k2
  have hc0:(γ cs.length).cap≠0:=by omega
  obtain⟨b1,o1,p1,p2⟩:=g4.resolve_left hc0
  obtain⟨b2,o2,p3,p4⟩:=k3.resolve_left (by omega)
  rw[p2]at p4
  simp only[Nat.zero_mul,Nat.add_zero,Option.some.injEq,Addr.mk.injEq,and_true]at p4
  obtain⟨rfl,rfl⟩:=p4
  cases hγ:γ cs.length with
  |mk bs1 c1=>
   cases hβ:β hd.s hd.j with
   |mk bs2 c2=>
    rw[hγ]at p1 k4
    rw[hβ]at p3 k4
    simp only at p1 p3 k4
    rw[p1,p3,k4]
 have hat:∀s j res',lookR (zgF B r1 od cs) s j=some res'→
   (∃k sz n ds bo,od=some s∧j=k+1∧cs[k]? =some (.own sz n ds bo)∧res'={rowAt (nxt r s) sz ds with bor:=bo&&B})∨
   (od≠some s∧s=hd.s∧j=hd.j∧∃sz ds bo,l'=[.own sz n0 ds bo]∧0<n0∧sz=res.sz∧ds.length=res.cells.length∧res'={res with cells:=ds.map C.d})∨
   (od≠some s∧¬(s=hd.s∧j=hd.j)∧lookR r s j=some res'):=fun s j res' hl=>by
  by_cases ho:od=some s
  ·subst ho
   simp only[zgF]at hl
   rw[hnx1 s]at hl
   rcases zeT (L:=[]) hl with⟨_,e⟩|⟨k,sz,n,ds,bo,e1,e2,e3⟩
   ·cases e
   ·exact .inl ⟨k,sz,n,ds,bo,rfl,e1,e2,e3⟩
  ·rw[zeU ho]at hl
   rw[←hr1,zax]at hl
   by_cases hs:hd.s=s
   ·subst hs
    rw[if_pos rfl]at hl
    simp only at hl
    by_cases hjj:hd.j=j
    ·subst hjj
     rw[List.getElem?_set_self hjlt]at hl
     rcases hx2 with rfl|⟨sz,ds,bo,f1,f2,f3,f4,rfl⟩
     ·simp at hl
     ·simp only[Option.some.injEq]at hl
      exact .inr (.inl ⟨ho,rfl,rfl,sz,ds,bo,f1,f2,f3,f4,hl.symm⟩)
    ·rw[List.getElem?_set_ne hjj]at hl
     refine .inr (.inr ⟨ho,fun e=>hjj e.2.symm, ?_⟩)
     unfold lookR
     simp only[hrs]
     exact hl
   ·rw[if_neg hs]at hl
    exact .inr (.inr ⟨ho,fun e=>hs e.1.symm,hl⟩)
 obtain⟨q1,q2,q3⟩:=h.callM (r':=zgF B r1 od cs) (β':=β') (mv:= .r hd n0) (L:=cs++l') (γ:=γ) (bl:=[]) (idx:=fun m=>if m<cs.length then(od.getD 0,m+1)else(hd.s,hd.j))
  (fun s=>by rw[zcK,hnx1 s];split<;>omega)
  (fun hd' res' hlt' hg'=>by
   obtain⟨hl',he'⟩:=zad hg'
   rcases hat _ _ _ hl' with⟨k,sz,n,ds,bo,e1,e2,e3,e4⟩|⟨e1,e2,e3,sz,ds,bo,f1,f2,f3,f4,f5⟩|⟨e1,e2,e3⟩
   ·rw[e4]at he';simp only[rowAt]at he';omega
   ·rw[f5]at he'⊢
    simp only at he'⊢
    refine⟨res,zao (by rw[e2,e3];exact hlk) he', ?_,rfl,rfl,by rw[List.length_map,f4];exact Nat.le_refl _⟩
    simp only[β']
    rw[if_neg e1]
   ·refine⟨res',zao e3 he', ?_,rfl,rfl,Nat.le_refl _⟩
    simp only[β']
    rw[if_neg e1])
  (fun s j res' hl=>by
   rcases hat _ _ _ hl with⟨k,sz,n,ds,bo,e1,e2,e3,e4⟩|⟨e1,e2,e3,sz,ds,bo,f1,f2,f3,f4,f5⟩|⟨e1,e2,e3⟩
   ·have hk:=(List.getElem?_eq_some_iff.1 e3).1
    refine⟨by rw[zcK,if_pos e1,hnx1 s,e4];simp[rowAt], .inr (.inl ⟨k,sz,n,ds,bo,by rw[List.getElem?_append_left hk];exact e3, ?_,by rw[e4];rfl,by rw[e4];rfl,by rw[e4];rfl,by rw[e4];rfl, ?_, ?_⟩)⟩
    ·simp only[β'];rw[if_pos e1,e2];rfl
    ·rw[e4];intro hb;exact hbo hb
    ·simp only[if_pos hk,e1,e2];rfl
   ·subst e2 e3
    refine⟨by rw[zcK,if_neg e1,hnx1,f5];exact(h.rs _ _ _ hlk).2, .inr (.inl ⟨cs.length,sz,n0,ds,bo,by rw[f1,List.getElem?_append_right (Nat.le_refl _)];simp, ?_,by rw[f5];exact hown.1,by rw[f5];exact hf,by rw[f5,f3],by rw[f5], ?_, ?_⟩)⟩
    ·simp only[β'];rw[if_neg e1];exact(hback sz ds bo f1 f2).symm
    ·rw[f5];intro hb
     refine .inr fun b hM=> ?_
     obtain⟨k,res',o',m1,m2,m3,m4⟩:=hM
     simp only[Mv.has]at m1
     subst m1
     rw[show lookR r (Mv.r hd n0).s hd.j=lookR r hd.s hd.j from rfl,hlk]at m2
     cases m2
     exact(h.fr _ _ _ _ _ hlk hf m4).2 hb
    ·rw[if_neg (Nat.lt_irrefl _)]
   ·refine⟨?_, .inl ⟨e3, ?_,fun hh=>e2 hh⟩⟩
    ·rw[zcK,if_neg e1,hnx1 s];exact(h.rs _ _ _ e3).2
    ·simp only[β'];rw[if_neg e1])
  (fun m sz n ds bo hm=>by
   rcases Nat.lt_or_ge m cs.length with q|q
   ·rw[List.getElem?_append_left q]at hm
    have:=RFvs.row m2 (i:=m) (by rw[hcs];exact hm)
    rwa[Nat.zero_add]at this
   ·rw[List.getElem?_append_right q]at hm
    have o2:=hobj.1.resolve_left (fun e=>by rw[e]at hm;simp at hm)
    have:=ROcs.row o2 hm
    rwa[show cs.length+(m - cs.length)=m by omega]at this)
  (fun b' hb'=>by have:=m4 b' hb';simpa[zdG]using this) m5 m6 hsz hold hos hout
 refine⟨β',q1, ?_⟩
 have hfin:=val_ok (cx:=cx) (w':=w') (β':=β') (B:=B) (r1:=r1) (dst:=dst) (rfs:=rfs) (γ:=γ) (A:=fun b=>Av cx r β b∨NB γ 0 (cs++l') b) m1
  (fun b hb=>q3 b (by rw[zcX,hcs,hodd]at hb;exact hb)) m2 (fun d k hd' hk=>by simp only[β'];rw[←hodd,hd',if_pos rfl];rfl)
 rw[zcX,hcs,hodd]at hfin
 exact hfin
theorem zuP (h:Holds cx ⟨v,r⟩ a w β) {hold:Hold} {u0:Value} {dst:Option Nat} {lent:List Nat} {l':List RO} {rfs:List RF} {u:Value} (hm:zws r β mv hold u0)
  (hsc:scM r dst mv lent l') (hr:Ret w (Av cx r β) (MB r β mv) w' [hold] rfs [l'] u):
  ∃β',Holds cx ⟨v,(bindM r dst mv rfs l').2⟩ a w' β'∧ReA cx w' (bindM r dst mv rfs l').2 β' (bindM r dst mv rfs l').1 u:=by
 cases mv with
 |o hd=>
  obtain⟨res,b,h1,h2,h3,h4,rfl⟩:=hm
  exact zwt h h1 h2 h3 h4 hsc hr
 |r hd n=>
  obtain⟨rfl,res,h1,h2,h3⟩:=hm
  exact zwu h h1 h2 h3 hsc hr
end
section
variable {cx:Cx} {v:List AV} {r r':Rs} {a:Act} {w w':World} {β β':Nat→Nat→Pl} {T:Nat→Option TI} {c:Bool}
theorem RFvs.shift' {A:Nat→Prop} {γ:Nat→Pl} {m:Nat}:∀{l:List RF} {k:Nat} {us:List Value},RFvs A w γ (m+k) l us→RFvs A w (fun i=>γ (m+i)) k l us
 |[],_,_,h=>h
 |x::l,k,us,h=>by
  simp only[RFvs]at h⊢
  obtain⟨u,us',rfl,h1,h2⟩:=h
  refine⟨u,us',rfl, ?_,RFvs.shift' (k:=k+x.cells.length) (by rw[←Nat.add_assoc];exact h2)⟩
  cases x with
  |one x=>exact h1
  |agg l=>
   simp only[RFv]at h1⊢
   obtain⟨us,e1,e2⟩:=h1
   exact⟨us,e1,ROcs.shift' e2⟩
def zvJ (d:Nat) (rfs:List RF):Option Nat:=if noOwn (rfs.flatMap RF.cells)=true then none else some (d+pK)
theorem zuQ {d:Nat} {rfs:List RF} {l:List RO}:(bindP r d rfs l).2=zgF false (setR d {next:=nxt r d+1,l:=some {e:=nxt r d,var:=true,fz:=false,sz:=0,cells:=bindCs d (nxt r d) 0 l}::bindRs false (nxt r d) l} r) (zvJ d rfs) (rfs.flatMap RF.cells):=by
 unfold bindP zvJ
 split
 ·rfl
 ·simp only[zgF]
  rw[zaL,if_neg (by unfold pK;omega)]
theorem zuR (h:Holds cx ⟨v,r⟩ a w β) {d b:Nat} {l:List RO} {rfs:List RF} {u:Value} (hb0:w.heap.size≤b)
  (hr:Ret w (fun x=>Av cx r β x∨x∈zdG [.blk b]) noB w' [.blk b] (.one (.d (.v (zgO b)))::rfs) [l] u):
  ∃β',Holds cx ⟨v,(bindP r d rfs l).2⟩ a w' β'∧ReA cx w' (bindP r d rfs l).2 β' (bindP r d rfs l).1 u:=by
 obtain⟨⟨γ,us,m1,m2,m3,m4,m5,m6⟩,hsz,hold,hos,hout⟩:=hr
 have hL:zbw (.one (.d (.v (zgO b)))::rfs) [l]= .d (.v (zgO b))::(rfs.flatMap RF.cells++l):=by simp[zbw,RF.cells]
 rw[hL]at m2 m3 m4 m5 m6
 generalize hcs:rfs.flatMap RF.cells=cs at*
 have hlen:(List.flatMap RF.cells (.one (.d (.v (zgO b)))::rfs)).length=1+cs.length:=by simp[RF.cells,hcs];omega
 rw[hlen]at m3
 rw[zuQ,hcs]
 generalize hodd:zvJ d rfs=od at*
 have hod:∀s,od=some s→s=d+pK:=fun s hs=>by rw[←hodd]at hs;unfold zvJ at hs;split at hs;cases hs;cases hs;rfl
 have hodn:od≠some d:=fun e=>by have:=hod d e;unfold pK at this;omega
 generalize hr1:setR d {next:=nxt r d+1,l:=some {e:=nxt r d,var:=true,fz:=false,sz:=0,cells:=bindCs d (nxt r d) 0 l}::bindRs false (nxt r d) l} r=r1
 -- the places
 let β':Nat→Nat→Pl:=fun s j=>if od=some s then γ (1+(j - 1))else if s=d then(if j=0 then⟨some (b,0),1⟩else γ (1+cs.length+(j - 1)))else β s j
 have hnx1:∀s,s≠d→nxt r1 s=nxt r s:=fun s hs=>by rw[←hr1,zaL,if_neg (Ne.symm hs)]
 have hnxS:nxt r1 d=nxt r d+1:=by rw[←hr1,zaL,if_pos rfl]
 have hlk1:∀s j,s≠d→lookR r1 s j=lookR r s j:=fun s j hs=>by rw[←hr1,zax,if_neg (Ne.symm hs)]
 have hat:∀s j res',lookR (zgF false r1 od cs) s j=some res'→
   (∃k sz n ds bo,od=some s∧j=k+1∧cs[k]? =some (.own sz n ds bo)∧res'=rowAt (nxt r s) sz ds)∨
   (od≠some s∧s=d∧((j=0∧res'={e:=nxt r d,var:=true,fz:=false,sz:=0,cells:=bindCs d (nxt r d) 0 l})∨∃k sz n ds bo,j=k+1∧l[k]? =some (.own sz n ds bo)∧res'=rowAt (nxt r d) sz ds))∨
   (od≠some s∧s≠d∧lookR r s j=some res'):=fun s j res' hl=>by
  by_cases ho:od=some s
  ·subst ho
   have hs:s≠d:=fun e=>hodn (by rw[e])
   simp only[zgF]at hl
   rw[hnx1 s hs]at hl
   rcases zeT (L:=[]) hl with⟨_,e⟩|⟨k,sz,n,ds,bo,e1,e2,e3⟩
   ·cases e
   ·exact .inl ⟨k,sz,n,ds,bo,rfl,e1,e2,by rw[e3];simp[rowAt]⟩
  ·rw[zeU ho]at hl
   by_cases hs:s=d
   ·subst hs
    rw[←hr1]at hl
    rcases zeT (L:=[]) hl with⟨e1,e2⟩|⟨k,sz,n,ds,bo,e1,e2,e3⟩
    ·cases e2;exact .inr (.inl ⟨ho,rfl, .inl ⟨e1,rfl⟩⟩)
    ·exact .inr (.inl ⟨ho,rfl, .inr ⟨k,sz,n,ds,bo,e1,e2,by rw[e3];simp[rowAt]⟩⟩)
   ·rw[hlk1 s j hs]at hl
    exact .inr (.inr ⟨ho,hs,hl⟩)
 have hobj:=m3
 simp only[zb5]at hobj
 obtain⟨⟨arr,e,o1,o2,o3⟩,_⟩:=hobj
 obtain⟨u0,us',rfl,m20,m21⟩:∃u0 us',us=u0::us'∧u0=zgO b∧RFvs (fun b'=>(Av cx r β b'∨b'∈zdG [.blk b])∨NB γ 0 (.d (.v (zgO b))::(cs++l)) b') w' γ 1 rfs us':=by
  simp only[RFvs,RFv,ROc,Rd,RF.cells,List.length_cons,List.length_nil]at m2
  obtain⟨x,xs,e1,e2,e3⟩:=m2
  exact⟨x,xs,e1,e2.1,e3⟩
 subst m20
 generalize hZ:RO.d (.v (zgO b))::(cs++l)=Z at*
 have hZc:∀k,k<cs.length→Z[1+k]? =cs[k]? :=fun k hk=>by rw[←hZ,Nat.add_comm 1 k,List.getElem?_cons_succ,List.getElem?_append_left hk]
 have hZl:∀k,Z[1+cs.length+k]? =l[k]? :=fun k=>by rw[←hZ,show 1+cs.length+k=(cs.length+k)+1 by omega,List.getElem?_cons_succ,List.getElem?_append_right (Nat.le_add_right _ _)];simp
 have hlt:∀{s j res b o},lookR r s j=some res→(β s j).base=some (b,o)→b<w.heap.size:=fun hl hb=>(h.rs _ _ _ hl).1.lt hb
 have hnew:∀{k sz n ds bo b' o},Z[k]? =some (.own sz n ds bo)→(γ k).base=some (b',o)→NB γ 0 Z b'∧w.heap.size≤b'∧b'≠b:=fun {k sz n ds bo b' o} hk hb=>by
  have h1:=zeQ (k:=0) hk (by simpa using hb)
  have:=m4 b' h1
  exact⟨h1,this.1.resolve_right fun h=>h,fun e=>this.2 (by simp[zdG,e])⟩
 -- what stands at a place:an old one,the object,a row
 have hcase:∀s j res',lookR (zgF false r1 od cs) s j=some res'→
   (lookR r s j=some res'∧β' s j=β s j∧s≠d∧od≠some s)∨
   (s=d∧j=0∧β' s j=⟨some (b,0),1⟩∧res'={e:=nxt r d,var:=true,fz:=false,sz:=0,cells:=bindCs d (nxt r d) 0 l})∨
   (∃k sz n ds bo,Z[k]? =some (.own sz n ds bo)∧β' s j=γ k∧res'=rowAt (nxt r s) sz ds∧(od=some s∨s=d)∧j≠0∧k=(if od=some s then j else cs.length+j)):=fun s j res' hl=>by
  rcases hat s j res' hl with⟨k,sz,n,ds,bo,e1,e2,e3,e4⟩|⟨e1,e2,⟨e3,e4⟩|⟨k,sz,n,ds,bo,e3,e4,e5⟩⟩|⟨e1,e2,e3⟩
  ·exact .inr (.inr ⟨1+k,sz,n,ds,bo,by rw[hZc k (List.getElem?_eq_some_iff.1 e3).1];exact e3,by simp only[β'];rw[if_pos e1,e2];rfl,e4, .inl e1,by omega,by rw[if_pos e1];omega⟩)
  ·subst e2 e3
   exact .inr (.inl ⟨rfl,rfl,by simp only[β'];rw[if_neg e1];simp,e4⟩)
  ·subst e2
   exact .inr (.inr ⟨1+cs.length+k,sz,n,ds,bo,by rw[hZl];exact e4,by simp only[β'];rw[if_neg e1,e3];simp,e5, .inr rfl,by omega,by rw[if_neg e1];omega⟩)
  ·exact .inl ⟨e3,by simp only[β'];rw[if_neg e1,if_neg e2],e2,e1⟩
 have hAv:∀b',Av cx (zgF false r1 od cs) β' b'→Av cx r β b'∨NB γ 0 Z b'∨b'=b:=fun b' hA=>by
  rcases hA with hA|⟨s,j,res,o,hl,hf,hb⟩
  ·exact .inl (.inl hA)
  ·rcases hcase s j res hl with⟨q1,q2,_⟩|⟨q1,q2,q3,q4⟩|⟨k,sz,n,ds,bo,q1,q2,_⟩
   ·rw[q2]at hb
    exact .inl (.inr ⟨s,j,res,o,q1,hf,hb⟩)
   ·rw[q3]at hb
    cases hb
    exact .inr (.inr rfl)
   ·rw[q2]at hb
    exact .inr (.inl (hnew q1 hb).1)
 have hnx:∀s,nxt (zgF false r1 od cs) s=if od=some s∨s=d then nxt r s+1 else nxt r s:=fun s=>by
  rw[zcK]
  by_cases hs:s=d
  ·subst hs
   rw[if_neg hodn,hnxS,if_pos (.inr rfl)]
  ·rw[hnx1 s hs]
   by_cases ho:od=some s
   ·rw[if_pos ho,if_pos (.inl ho)]
   ·rw[if_neg ho,if_neg (by simp[ho,hs])]
 have hx:Ext cx w r β w' (zgF false r1 od cs) β':=by
  refine⟨fun s=> ?_,fun hd res' hlt' hg=> ?_,⟨fun b hb' _=>hold b hb' (fun h=>h),fun b' hb' hA=> ?_⟩,fun b hb' hn=>hold b (Nat.lt_of_lt_of_le hb' h.n0) (fun h=>h),hos,hout⟩
  ·rw[hnx];split<;>omega
  ·obtain⟨hl,hee⟩:=zad hg
   rcases hcase _ _ _ hl with⟨q1,q2,_⟩|⟨q1,q2,q3,q4⟩|⟨k,sz,n,ds,bo,q1,q2,q3,_⟩
   ·exact⟨res',zao q1 hee,q2,rfl,rfl,Nat.le_refl _⟩
   ·rw[q4]at hee;rw[q1]at hlt';simp only at hee;omega
   ·rw[q3]at hee;simp only[rowAt]at hee;omega
  ·rcases hAv b' hA with h'|h'|h'
   ·exact h'
   ·have:=(m4 b' h').1.resolve_right fun h=>h
    omega
   ·omega
 have hA:∀b',Av cx (zgF false r1 od cs) β' b'→(Av cx r β b'∨b'∈zdG [.blk b])∨NB γ 0 Z b':=fun b' hA=>by
  rcases hAv b' hA with h'|h'|h'
  ·exact .inl (.inl h')
  ·exact .inr h'
  ·exact .inl (.inr (by simp[zdG,h']))
 have hbo:Bound (zgF false r1 od cs) β' (fun k=>γ (1+cs.length+k)) d (nxt r d) 0 l:=fun i sz n ds bo hi=>by
  refine⟨⟨false,zao ?_ rfl⟩, ?_, ?_⟩
  ·rw[zeU hodn,←hr1,zax,if_pos rfl]
   simp only[Nat.zero_add,List.getElem?_cons_succ,zdD hi,Bool.and_false]
  ·simp only[β',Nat.zero_add]
   rw[if_neg hodn]
   simp
  ·rw[hnx,if_pos (.inr rfl)];omega
 have hH:Holds cx ⟨v,zgF false r1 od cs⟩ a w' β':=by
  refine h.mk' hx (fun s j res hl=> ?_) (fun s j res s' j' res' b1 o o' hl hf hl' hf' hbs hbs'=> ?_) (fun s j res b1 o hl hf hbs=> ?_) hsz
  ·rcases hcase s j res hl with⟨q1,q2,q3,q4⟩|⟨q1,q2,q3,q4⟩|⟨k,sz,n,ds,bo,q1,q2,q3,q4,_⟩
   ·obtain⟨g1,g2⟩:=h.rs s j res q1
    rw[q2]
    exact⟨g1.ext hx (fun b o hb=>hold b (g1.lt hb) (fun h=>h)) (fun b o hb=>g1.lt hb),by rw[hnx,if_neg (by simp[q3,q4])];exact g2⟩
   ·subst q1 q2
    refine⟨?_,by rw[hnx,if_pos (.inr rfl),q4];exact Nat.lt_succ_self _⟩
    unfold ResOK
    rw[q4,if_pos rfl,q3]
    exact⟨rfl,b,arr,e,rfl,o1,zdB (A:=fun b'=>(Av cx r β b'∨b'∈zdG [.blk b])∨NB γ 0 Z b') hA hbo (ROcs.shift' (m:=1+cs.length) (k:=0) o2),o3⟩
   ·refine⟨?_,by rw[hnx,if_pos q4,q3];exact Nat.lt_succ_self _⟩
    rw[q2,q3]
    refine zcM (ds:=ds) rfl rfl rfl ?_
    have hrow:RowM w' (fun b'=>(Av cx r β b'∨b'∈zdG [.blk b])∨NB γ 0 Z b') (γ k) sz ds:=by
     rcases Nat.lt_or_ge k (1+cs.length)with hk|hk
     ·cases k with
      |zero=>rw[←hZ]at q1;simp at q1
      |succ k=>
       have hk':k<cs.length:=by omega
       rw[Nat.add_comm k 1,hZc k hk']at q1
       have:=RFvs.row m21 (i:=k) (by rw[hcs];exact q1)
       rwa[Nat.add_comm 1 k]at this
     ·obtain⟨m,rfl⟩:∃m,k=1+cs.length+m:=⟨k - (1+cs.length),by omega⟩
      rw[hZl]at q1
      have:=ROcs.row o2 q1
      exact this
    exact hrow.stb ⟨fun _ _ _=>rfl,fun b _ hb=>hA b hb⟩ (fun _ _ _=>rfl)
  ·rcases hcase s j res hl with⟨q1,q2,q3,q4⟩|⟨q1,q2,q3,q4⟩|⟨k,sz,n,ds,bo,q1,q2,q3,q4,q5,q6⟩<;>
    rcases hcase s' j' res' hl' with⟨p1,p2,p3,p4⟩|⟨p1,p2,p3,p4⟩|⟨k',sz',n',ds',bo',p1,p2,p3,p4,p5,p6⟩
   ·rw[q2]at hbs
    rw[p2]at hbs'
    exact h.inj _ _ _ _ _ _ _ _ _ q1 hf p1 hf' hbs hbs'
   ·rw[q2]at hbs
    rw[p3]at hbs'
    cases hbs'
    exact absurd (hlt q1 hbs) (by omega)
   ·rw[q2]at hbs
    rw[p2]at hbs'
    have:=hlt q1 hbs
    have:=(hnew p1 hbs').2.1
    omega
   ·rw[q3]at hbs
    rw[p2]at hbs'
    cases hbs
    exact absurd (hlt p1 hbs') (by omega)
   ·exact⟨by rw[q1,p1],by rw[q2,p2]⟩
   ·rw[q3]at hbs
    rw[p2]at hbs'
    cases hbs
    exact absurd rfl (hnew p1 hbs').2.2
   ·rw[q2]at hbs
    rw[p2]at hbs'
    have:=hlt p1 hbs'
    have:=(hnew q1 hbs).2.1
    omega
   ·rw[q2]at hbs
    rw[p3]at hbs'
    cases hbs'
    exact absurd rfl (hnew q1 hbs).2.2
   ·rw[q2]at hbs
    rw[p2]at hbs'
    have hk:=m6 k k' b1 o o' sz n ds bo sz' n' ds' bo' q1 p1 hbs hbs'
    subst hk
    -- one place of the results,one slot
    have hbnd:∀{k sz n ds bo s j},Z[k]? =some (RO.own sz n ds bo)→(od=some s∨s=d)→j≠0→k=(if od=some s then j else cs.length+j)→lookR (zgF false r1 od cs) s j≠none→(od=some s∧j≤cs.length)∨(od≠some s∧s=d):=fun {k sz n ds bo s j} z1 z2 z3 z4 z5=>by
     by_cases ho:od=some s
     ·refine .inl ⟨ho, ?_⟩
      cases hq:lookR (zgF false r1 od cs) s j with
      |none=>exact absurd hq z5
      |some q=>
       rcases hat s j q hq with⟨k2,_,_,_,_,_,e2,e3,_⟩|⟨e1,_⟩|⟨e1,_⟩
       ·have:=(List.getElem?_eq_some_iff.1 e3).1;omega
       ·exact absurd ho e1
       ·exact absurd ho e1
     ·exact .inr ⟨ho,z2.resolve_left ho⟩
    rcases hbnd q1 q4 q5 q6 (by rw[hl];simp)with⟨t1,t2⟩|⟨t1,t2⟩<;>rcases hbnd p1 p4 p5 p6 (by rw[hl'];simp)with⟨t3,t4⟩|⟨t3,t4⟩
    ·rw[t1]at t3
     cases t3
     rw[if_pos t1]at q6
     rw[if_pos t1]at p6
     exact⟨rfl,by omega⟩
    ·rw[if_pos t1]at q6
     rw[if_neg t3]at p6
     omega
    ·rw[if_neg t1]at q6
     rw[if_pos t3]at p6
     omega
    ·rw[if_neg t1]at q6
     rw[if_neg t3]at p6
     exact⟨by rw[t2,t4],by omega⟩
  ·rcases hcase s j res hl with⟨q1,q2,q3,q4⟩|⟨q1,q2,q3,q4⟩|⟨k,sz,n,ds,bo,q1,q2,q3,q4,q5,q6⟩
   ·rw[q2]at hbs
    exact h.fr _ _ _ _ _ q1 hf hbs
   ·rw[q3]at hbs
    cases hbs
    have:=h.n0
    exact⟨.inl (by omega),fun _=>by omega⟩
   ·rw[q2]at hbs
    have:=(hnew q1 hbs).2.1
    have:=h.n0
    exact⟨.inl (by omega),fun _=>by omega⟩
 refine⟨β',hH, ?_⟩
 have hptr:ReA cx w' (zgF false r1 od cs) β' (.one (.ptr ⟨d,0,nxt r d⟩ 0)) (zgO b):=by
  simp only[ReA,ReC]
  refine⟨rfl,by rw[hnx,if_pos (.inr rfl)];exact Nat.lt_succ_self _,fun res hg=>⟨b,0, ?_,rfl⟩⟩
  simp only[β']
  rw[if_neg hodn]
  simp
 -- the value
 rw[show(bindP r d rfs l).1=tupOf (.one (.ptr ⟨d,0,nxt r d⟩ 0)::(match od with|none=>bindFs 0 0 0 rfs|some D=>bindFs D (nxt r D) 0 rfs)) by
  rw[←hodd]
  unfold bindP zvJ
  split<;>rfl]
 refine zgb m1 ?_
 simp only[ReAs]
 refine⟨zgO b,us',rfl,hptr, ?_⟩
 have hsh:RFvs (fun b'=>(Av cx r β b'∨b'∈zdG [.blk b])∨NB γ 0 Z b') w' (fun i=>γ (1+i)) 0 rfs us':=RFvs.shift' (m:=1) (k:=0) m21
 cases hq:od with
 |none=>
  rw[hq]at hodd
  unfold zvJ at hodd
  split at hodd
  ·rename_i hno
   rw[hq]at hA
   exact zdC hA (fun i sz n ds bo hi=>absurd hi (zgc hno i sz n ds bo)) hsh
  ·cases hodd
 |some D=>
  subst hq
  simp only
  refine zdC hA (fun i sz n ds bo hi=> ?_) hsh
  rw[hcs]at hi
  have hDd:D≠d:=fun e=>hodn (by rw[e])
  refine⟨⟨false,zao ?_ ?_⟩, ?_, ?_⟩
  ·simp only[zgF]
   rw[hnx1 D hDd,zax,if_pos rfl]
   simp only[Nat.zero_add,List.getElem?_cons_succ,zdD hi,Bool.and_false]
  ·rfl
  ·simp only[β',Nat.zero_add]
   rw[if_pos trivial]
   simp
  ·rw[hnx,if_pos (.inl rfl)];omega
end
section
variable {v v':List AV} {r r':Rs} {T:Nat→Option TI} {c:Bool}
theorem zcg {x:Operand} (h:gev v' x=gev v x):ev v' x=ev v x:=by unfold ev;rw[h]
theorem zbm {x:Operand} (h:gev v' x=gev v x):evS c v' x=evS c v x:=by unfold evS;rw[h]
theorem zcL:∀{xs:List Operand},(∀x∈xs,gev v' x=gev v x)→evs v' xs=evs v xs
 |[],_=>rfl
 |x::xs,h=>by simp only[evs];rw[zcg (h x (by simp)),zcL fun y hy=>h y (by simp[hy])]
theorem zbN:∀{xs:List Operand},(∀x∈xs,gev v' x=gev v x)→evsS c v' xs=evsS c v xs
 |[],_=>rfl
 |x::xs,h=>by simp only[evsS];rw[zbm (h x (by simp)),zbN fun y hy=>h y (by simp[hy])]
theorem zeV {x:Option Operand} (h:∀y,x=some y→gev v' y=gev v y):evO v' x=evO v x:=by
 cases x with
 |none=>rfl
 |some y=>simp only[evO,zcg (h y rfl)]
theorem zfr {x:Option Operand} (h:∀y,x=some y→gev v' y=gev v y):evOS c v' x=evOS c v x:=by
 cases x with
 |none=>rfl
 |some y=>simp only[evOS,zbm (h y rfl)]
theorem zsu {dst:Option Nat} {op:Op} (h:∀x∈op.operands.toList,gev v' x=gev v x):aop T c v' r dst op=aop T c v r dst op:=by
 have one:∀{x:Operand},x∈op.operands.toList→ev v' x=ev v x∧evS c v' x=evS c v x:=fun hx=>⟨zcg (h _ hx),zbm (h _ hx)⟩
 cases op with
 |move x=>simp only[aop,one (x:=x) (by simp[Op.operands])]
 |assign x=>simp only[aop,one (x:=x) (by simp[Op.operands])]
 |pick t x z=>simp only[aop,one (x:=t) (by simp[Op.operands]),h x (by simp[Op.operands]),h z (by simp[Op.operands])]
 |alloc t=>rfl
 |box t x=>simp only[aop,one (x:=x) (by simp[Op.operands])]
 |build t ps=>
  have h':∀x∈ps.toList.map (·.2),gev v' x=gev v x:=fun x hx=>h x (by simpa[Op.operands]using hx)
  simp only[aop,zcL h',zbN h']
 |buildSlice t n ps=>
  have h':∀x∈ps.toList.map (·.2),gev v' x=gev v x:=fun x hx=>h x (by simpa[Op.operands]using hx)
  simp only[aop,zcL h',zbN h']
 |load t x=>simp only[aop,one (x:=x) (by simp[Op.operands])]
 |makeSlice t x y=>simp only[aop,one (x:=x) (by simp[Op.operands]),one (x:=y) (by simp[Op.operands])]
 |store t x y=>simp only[aop,one (x:=x) (by simp[Op.operands]),one (x:=y) (by simp[Op.operands])]
 |nilCheck x=>simp only[aop,one (x:=x) (by simp[Op.operands])]
 |binOp op t x y yt=>simp only[aop,one (x:=x) (by simp[Op.operands]),one (x:=y) (by simp[Op.operands])]
 |unOp op t x=>
  cases op with
  |not=>simp only[aop,one (x:=x) (by simp[Op.operands])]
  |_=>rfl
 |convert s t x=>simp only[aop,one (x:=x) (by simp[Op.operands])]
 |makeInterface t x=>simp only[aop,one (x:=x) (by simp[Op.operands])]
 |makeFunc fn first caps=>
  cases fn with
  |func f=>
   obtain⟨first⟩:=first
   cases first with
   |cons _ _=>rfl
   |nil=>
    have h':∀x∈caps.toList,gev v' x=gev v x:=fun x hx=>h x (by simpa[Op.operands]using hx)
    simp only[aop,zcL h',zbN h']
  |_=>rfl
 |slice t x lo hi mx=>
  have h1:∀y,lo=some y→gev v' y=gev v y:=fun y hy=>h y (by simp[Op.operands,hy])
  have h2:∀y,hi=some y→gev v' y=gev v y:=fun y hy=>h y (by simp[Op.operands,hy])
  cases mx with
  |some m=>
   have h3:gev v' m=gev v m:=h m (by simp[Op.operands])
   simp only[aop,one (x:=x) (by simp[Op.operands]),zeV h1,zeV h2,zfr h1,zfr h2,zeV (x:=some m) (fun y hy=>by cases hy;exact h3),zbm h3]
  |none=>
   simp only[aop,one (x:=x) (by simp[Op.operands]),zeV h1,zeV h2,zfr h1,zfr h2]
 |fieldAddr t x f=>simp only[aop,one (x:=x) (by simp[Op.operands])]
 |indexAddr t x i=>simp only[aop,one (x:=x) (by simp[Op.operands]),one (x:=i) (by simp[Op.operands])]
 |index t x i=>simp only[aop,one (x:=x) (by simp[Op.operands]),one (x:=i) (by simp[Op.operands])]
 |field t x f=>simp only[aop,one (x:=x) (by simp[Op.operands])]
 |extract x i=>simp only[aop,one (x:=x) (by simp[Op.operands])]
 |call k=>
  obtain⟨callee,as,ts⟩:=k
  cases callee with
  |builtin b=>
   have h':∀x∈as.toList,gev v' x=gev v x:=fun x hx=>h x (by simpa[Op.operands,Call.operands]using hx)
   cases b with
   |append=>
    simp only[aop]
    split
    ·rename_i s x h0
     have hs:=h' s (by rw[h0];simp)
     have hx:=h' x (by rw[h0];simp)
     rw[zcg hs,zcg hx,zbm hs,zbm hx]
    ·rfl
   |len=>
    simp only[aop]
    split
    ·rename_i x h0
     have hx:=h' x (by rw[h0];simp)
     rw[zcg hx,zbm hx]
    ·rfl
   |cap=>
    simp only[aop]
    split
    ·rename_i x h0
     have hx:=h' x (by rw[h0];simp)
     rw[zcg hx,zbm hx]
    ·rfl
   |clear=>
    simp only[aop]
    split
    ·rename_i x h0
     have hx:=h' x (by rw[h0];simp)
     rw[zcg hx,zbm hx]
    ·rfl
   |copy=>
    simp only[aop]
    split
    ·rename_i s x h0
     have hs:=h' s (by rw[h0];simp)
     have hx:=h' x (by rw[h0];simp)
     rw[zcg hs,zcg hx,zbm hs,zbm hx]
    ·rfl
   |max=>simp only[aop,zcL h',zbN h']
   |min=>simp only[aop,zcL h',zbN h']
   |_=>rfl
  |_=>rfl
 |_=>rfl
theorem zmP {f:Operand} {args:Array Operand} (h1:gev v' f=gev v f) (h2:∀x∈args.toList,gev v' x=gev v x):callA v' r f args=callA v r f args:=by
 unfold callA
 rw[zcg h1,zcL h2]
end
end Go.Pk
