import Derived.Test.YtliimajkpggbhaaGreatK3
import Derived.Laws.BytesString
import Derived.Laws.MakeOwn
set_option linter.unusedVariables false
set_option linter.unusedSimpArgs false
set_option linter.unusedSectionVars false
namespace Go.Pk
section
variable {cx:Cx} {v:List AV} {r:Rs} {a:Act} {w:World} {β:Nat->Nat->Pl} {T:Nat->Option TI} {c:Bool}
theorem cA.mZ {A A' Tp Tp':Nat->Prop} (hA:∀b,A' b->A b) (hT:∀b,b<w.heap.size->Tp b->Tp' b):∀{ds:List D} {ad:Option Addr},cA w A Tp ds ad->cA w A' Tp' ds ad
 |[],_,_=>trivial
 |d::ds,ad,h=>by simp only[cA]at h⊢;obtain⟨b,o,u,h1,h2,h3,h4,h5⟩:=h;exact⟨b,o,u,h1,hT b (Cq h3) h2,h3,h4.dy ⟨λ _ _ _=>rfl,λ b _ h=>hA b h⟩,cA.mZ hA hT h5⟩
theorem Vn {ds:List D} {b o:Nat} (h:pd cx w r β (ds.map C.d) b o):cA w (Av cx r β) (λ _=>True) ds (some ⟨b,o,none⟩):=
 cA.mk trivial λ k d hk=>by obtain⟨u,h1,h2,_⟩:=h k (.d d) (by rw[ji,hk];rfl);simp only[ay]at h2;exact⟨u,h1,h2⟩
theorem G2:∀{l:List C} {ds:List D},dC l=some ds->l=ds.map C.d
 |[],ds,h=>by simp only[dC,bn]at h;subst h;rfl
 |c::cs,ds,h=>by
  simp only[dC]at h;split at h
  .rename_i d ds' h1 h2;cases h;rw[G2 h2];cases c with
   |d x=>simp only[C.yM,bn]at h1;subst h1;rfl
   |_=>simp[C.yM]at h1
  .cases h
theorem kH {P:Program} {A0 aS:Nat->Prop} {b:Nat}:Av (fK P w A0 aS) [] (λ _ _=>⟨none,0⟩) b↔A0 b:=by
 unfold Av;constructor
 .rintro(h|⟨s,j,res,o,hl,_⟩)
  .exact h
  .simp[aF,ao]at hl
 .exact .inl
abbrev β0:Nat->Nat->Pl:=λ _ _=>⟨none,0⟩
abbrev jP:Nat->Prop:=λ _=>False
theorem tU {A0:Nat->Prop} {A:Nat->Prop} {b:Nat} (h:b<w.heap.size):sb (fK cx.P w A0 jP) A b:= .inr ⟨h,λ h=>h.elim⟩
theorem JD {l:List C}:∀{b o:Nat},pd cx w r β l b o->∃us,(∀k v,us[k]? =some v->w.cell? ⟨b,o+k,none⟩=some v/\flat v=true)/\aH cx w r β l us:=by
 induction l with
 |nil=>intro b o _;exact⟨[],by simp,by simp[aH]⟩
 |cons x l ih=>
  intro b o h;obtain⟨u,h1,h2,h3⟩:=h 0 x rfl
  obtain⟨us,g1,g2⟩:=ih (b:=b) (o:=o+1) (λ k y hk=>by
   have:=h (k+1) y (by simpa using hk)
   rwa[show o+(k+1)=o+1+k by omega]at this)
  refine⟨u::us,λ k y hk=> ?_,by simp only[aH];exact⟨u,us,rfl,h2,g2⟩⟩;cases k with
  |zero=>simp only[c9,bn]at hk;subst hk;exact⟨h1,h3⟩
  |succ k=>
   have:=g1 k y (by simpa using hk)
   rwa[show o+1+k=o+(k+1) by omega]at this
theorem YX (h:aL cx ⟨v,r⟩ a w β) {s:Nat} {x y:C} {u:Value} (hl:mA r s x=some y) (hu:ay cx w r β x u):ay (fK cx.P w (Av cx r β) jP) w [] β0 y u:=by
 unfold mA at hl;split at hl
 .cases hl;simp only[ay]at hu⊢;exact(GG hu).dy ⟨λ _ _ _=>rfl,λ b _ hb=>kH.1 hb⟩
 .cases hl;simp only[ay]at hu⊢;obtain⟨ad,cap,h1,h2,h3⟩:=hu;exact⟨ad,cap,h1,h2,h3.mZ (λ b hb=>kH.1 hb) (λ b hb _=>tU hb)⟩
 .split at hl
  .split at hl
   .rename_i n' ds hr;cases hl;obtain⟨ad,cap,h1,h2,h3⟩:=xf h hu hr;simp only[ay];exact⟨ad,cap,h1,h2,h3.mZ (λ b hb=>kH.1 hb) (λ b hb _=>tU hb)⟩
   .cases hl
  .cases hl
 .cases hl
theorem KW (h:aL cx ⟨v,r⟩ a w β) {s:Nat}:∀{xs ys:List C} {us:List Value},mX r s xs=some ys->aH cx w r β xs us->aH (fK cx.P w (Av cx r β) jP) w [] β0 ys us
 |[],ys,us,hl,hu=>by simp only[mX,bn]at hl;subst hl;simpa[aH]using hu
 |x::xs,ys,us,hl,hu=>by
  simp only[mX]at hl;split at hl
  .rename_i y ys' g1 g2;cases hl;simp only[aH]at hu⊢;obtain⟨u,us',rfl,h1,h2⟩:=hu;exact⟨u,us',rfl,YX h g1 h1,KW h g2 h2⟩
  .cases hl
mutual
theorem Lf (h:aL cx ⟨v,r⟩ a w β):∀{x y:C} {u:Value},bW r x=some y->ay cx w r β x u->ay (fK cx.P w (Av cx r β) jP) w [] β0 y u
 | .d x,y,u,hl,hu=>by simp only[bW,bn]at hl;subst hl;simp only[ay]at hu⊢;exact hu.dy ⟨λ _ _ _=>rfl,λ b _ hb=>kH.1 hb⟩
 | .aC n ds,y,u,hl,hu=>by simp only[bW,bn]at hl;subst hl;simp only[ay]at hu⊢;obtain⟨ad,cap,h1,h2,h3⟩:=hu;exact⟨ad,cap,h1,h2,h3.mZ (λ b hb=>kH.1 hb) (λ b hb _=>tU hb)⟩
 | .own hd lo n,y,u,hl,hu=>by
  simp only[bW]at hl;split at hl
  .rename_i n' ds hr;cases hl;obtain⟨ad,cap,h1,h2,h3⟩:=xf h hu hr;simp only[ay];exact⟨ad,cap,h1,h2,h3.mZ (λ b hb=>kH.1 hb) (λ b hb _=>tU hb)⟩
  .cases hl
 | .ptr hd off,y,u,hl,hu=>by
  simp only[bW]at hl;split at hl
  .rename_i res g1;split at hl
   .rename_i ds g2;cases hl;simp only[ay]at hu⊢;obtain⟨b,o,k1,k2⟩:=hu.2.2 res g1;obtain⟨hlk,_⟩:=cp g1;have hcs:=((h.rs _ _ _ hlk).1.cells k1).drop (k:=off);rw[G2 g2]at hcs;exact⟨b,o+off,k2,(Vn hcs).mZ (λ b hb=>kH.1 hb) (λ b hb _=>tU hb)⟩
   .split at hl
    .rename_i cs g3;cases hl;simp only[ay]at hu⊢;obtain⟨b,o,k1,k2⟩:=hu.2.2 res g1;obtain⟨hlk,_⟩:=cp g1;have hb:=(h.rs _ _ _ hlk).1.lt k1;have hcs:=((h.rs _ _ _ hlk).1.cells k1).drop (k:=off);obtain⟨us,p1,p2⟩:=JD hcs;exact⟨b,o+off,us,k2,hb,tU hb,p1,KW h g3 p2⟩
    .cases hl
  .cases hl
 | .fJ ds,y,u,hl,hu=>by simp only[bW,bn]at hl;subst hl;simp only[ay]at hu⊢;obtain⟨b,o,h1,h3⟩:=hu;exact⟨b,o,h1,h3.mZ (λ b hb=>kH.1 hb) (λ b hb _=>tU hb)⟩
 | .fx f caps,y,u,hl,hu=>by
  simp only[bW]at hl;split at hl
  .rename_i cs g1;cases hl;simp only[ay]at hu⊢;obtain⟨us,h1,h2⟩:=hu;exact⟨us,h1,CJ h g1 h2⟩
  .cases hl
 | .ab,y,u,hl,_=>by simp[bW]at hl
 | .dead,y,u,hl,_=>by simp[bW]at hl
 | .ib cs,y,u,hl,hu=>by
  simp only[bW]at hl;split at hl
  .rename_i ys g1;cases hl;simp only[ay]at hu⊢;obtain⟨b,o,us,h1,h2,h3,h4,h5⟩:=hu;exact⟨b,o,us,h1,h2,tU h2,h4,CJ h g1 h5⟩
  .cases hl
 | .eX hd lo n k,y,u,hl,hu=>by
  simp only[bW]at hl;split at hl
  .rename_i n' ds hr;cases hl;obtain⟨ad,cap,h1,h2,h3⟩:=xf h hu hr;simp only[ay];exact⟨ad,cap,h1,h2,h3.mZ (λ b hb=>kH.1 hb) (λ b hb _=>tU hb)⟩
  .cases hl
 | .lk _ _ _,y,u,hl,_=>by simp[bW]at hl
theorem CJ (h:aL cx ⟨v,r⟩ a w β):∀{xs ys:List C} {us:List Value},bW.lendCs r xs=some ys->aH cx w r β xs us->aH (fK cx.P w (Av cx r β) jP) w [] β0 ys us
 |[],ys,us,hl,hu=>by simp only[bW.lendCs,bn]at hl;subst hl;simpa[aH]using hu
 |x::xs,ys,us,hl,hu=>by
  simp only[bW.lendCs]at hl;split at hl
  .rename_i y ys' g1 g2;cases hl;simp only[aH]at hu⊢;obtain⟨u,us',h1,h2,h3⟩:=hu;exact⟨u,us',h1,Lf h g1 h2,CJ h g2 h3⟩
  .cases hl
end
theorem YT (h:aL cx ⟨v,r⟩ a w β) {x y:AV} {u:Value} (hl:qs r x=some y) (hu:aE cx w r β x u):aE (fK cx.P w (Av cx r β) jP) w [] β0 y u:=by
 unfold qs at hl;split at hl
 .split at hl
  .rename_i y' g1;cases hl;exact fa.2 (Lf h g1 (fa.1 hu))
  .cases hl
 .split at hl
  .rename_i y' g1;cases hl;obtain⟨us,h1,h2⟩:=jX.1 hu;exact jX.2 ⟨us,h1,CJ h g1 h2⟩
  .cases hl
 .cases hl
theorem vy (h:aL cx ⟨v,r⟩ a w β):∀{xs:List AV} {ys:List Arg} {us:List Value},gD r xs=some ys->bU cx w r β xs us->
  ∀{zs:List Arg} {vs:List Value},bP cx.P w (Av cx r β) jP (λ _=>⟨none,0⟩) 0 zs [] vs->bP cx.P w (Av cx r β) jP (λ _=>⟨none,0⟩) 0 (ys++zs) [] (us++vs)
 |[],ys,us,hl,hu,zs,vs,hz=>by simp only[gD,bn]at hl;subst hl;simp only[bU]at hu;subst hu;simpa using hz
 |x::xs,ys,us,hl,hu,zs,vs,hz=>by
  simp only[gD]at hl;split at hl
  .rename_i y ys' g1 g2;cases hl;simp only[bU]at hu;obtain⟨u,us',rfl,h2,h3⟩:=hu;simp only[dW,bP];exact⟨u,us'++vs,rfl,YT h g1 h2,vy h g2 h3 hz⟩
  .cases hl
theorem qY:∀{xs:List AV} {ys:List Arg},gD r xs=some ys->cn ys=[]
 |[],ys,hl=>by simp only[gD,bn]at hl;subst hl;rfl
 |x::xs,ys,hl=>by
  simp only[gD]at hl;split at hl
  .rename_i y ys' g1 g2;cases hl;simp only[cn];exact qY g2
  .cases hl
theorem qW:∀(xs ys:List Arg),cn (xs++ys)=cn xs++cn ys
 |[],_=>rfl
 | .f _::xs,ys=>qW xs ys
 | .obj l::xs,ys=>by simp[cn,qW xs ys]
 | .row .. ::xs,ys=>by simp[cn,qW xs ys]
 | .fW .. ::xs,ys=>by simp[cn,qW xs ys]
theorem xq:∀{xs:List C} {us:List Value},aH cx w r β xs us->bU cx w r β (xs.map AV.one) us
 |[],us,h=>by simpa[aH,bU]using h
 |x::xs,us,h=>by simp only[aH]at h;obtain⟨u,us',rfl,h1,h2⟩:=h;simp only[b7,bU];exact⟨u,us',rfl,fa.2 h1,xq h2⟩
theorem aaI (h:aL cx ⟨v,r⟩ a w β) {f:Operand} {args:Array Operand} {ts:Array TypeId} {n:FuncId} {as:List Arg} {post:List RF->List (List RO)->Prop} {o:Oper} (ho:o.op= .call ⟨.value f,args,ts⟩)
  (hc:c=true) (s1:bX c v f) (s2:en c v args.toList) (hcall:dY v r f args=some (n,as)) (hok:ah cx.P n as post):
  ∃us:Array Value,(execOp a.eval o).run cx.P w= .ok (.enter n us) w/\
   Calls cx.P n us w λ e w'=>∃rfs objs u,post rfs objs/\e= .returned u/\fl w (Av cx r β) jP w' [] rfs objs u:=by
 have e1:=du h hc s1;have e2:=qi h hc s2;unfold dY at hcall;split at hcall
 .rename_i n' caps as' g1 g2;split at hcall
  .rename_i cs g3;cases hcall
   -- whom it calls
   have hcap:∃cv:Array Value,a.eval f= .func (.func n) #[] cv/\aH cx w r β caps cv.toList:=by
    unfold om at g1;split at g1
    .rename_i n' h1;cases g1;rw[h1]at e1;exact⟨#[],(cR.1 e1).1,by simp[aH]⟩
    .rename_i n' caps' h1;cases g1;rw[h1]at e1;simp only[aE,ay]at e1;obtain⟨us,k1,k2⟩:=e1;exact⟨us,k1,k2⟩
    .cases g1
   obtain⟨cv,k1,k2⟩:=hcap;have hargs:=vy h g2 e2 (vy h g3 (xq k2) (zs:=[]) (vs:=[]) (by simp[bP]));simp only[fe]at hargs;have hobj:cn (as'++cs)=[]:=by rw[qW,qY g2,qY g3];rfl
   refine⟨(args.toList.map a.eval++cv.toList).toArray, ?_, ?_⟩
   .have:=hok.1 (args.toList.map a.eval++cv.toList).toArray w;have hm:(args.toList.map a.eval++cv.toList).toArray=args.map a.eval++cv:=by apply lb;simp
    rw[hm]at this⊢;simp[execOp,ho,resolve,k1,Deferred.ofValue,invoke,this]
   .refine hok.2 w (Av cx r β) jP (λ _=>⟨none,0⟩) [] _ (λ b hb=> ?_) (λ b hb=>hb.elim) hargs (by rw[hobj];intro b hb;exact hb.elim) Bh (by rw[hobj];intro i j b o o' sz n ds bo sz' n' ds' bo' h1;simp at h1);rcases hb with hb|⟨s,j,res,o,hl,_,hbs⟩
    .exact gI (h.a0 b hb) h.n0
    .exact(h.rs _ _ _ hl).1.lt hbs
  .cases hcall
 .cases hcall
theorem LX (h:aL cx ⟨v,r⟩ a w β) {f:Operand} {args:Array Operand} {ts:Array TypeId} {n:FuncId} {as:List Arg} {post:List dQ->List RF->List (List RO)->Prop} {o:Oper} (ho:o.op= .call ⟨.value f,args,ts⟩)
  (hc:c=true) (s1:bX c v f) (s2:en c v args.toList) (hcall:dY v r f args=some (n,as)) (hok:AS cx.P n as post):
  ∃us:Array Value,(execOp a.eval o).run cx.P w= .ok (.enter n us) w/\
   Calls cx.P n us w λ e w'=>∃bs rfs objs u,post bs rfs objs/\e= .returned u/\(∀b∈cW bs,w.heap.size≤b)/\fl w (λ b=>Av cx r β b∨b∈cW bs) jP w' bs rfs objs u:=by
 have e1:=du h hc s1;have e2:=qi h hc s2;unfold dY at hcall;split at hcall
 .rename_i n' caps as' g1 g2;split at hcall
  .rename_i cs g3;cases hcall
   -- whom it calls
   have hcap:∃cv:Array Value,a.eval f= .func (.func n) #[] cv/\aH cx w r β caps cv.toList:=by
    unfold om at g1;split at g1
    .rename_i n' h1;cases g1;rw[h1]at e1;exact⟨#[],(cR.1 e1).1,by simp[aH]⟩
    .rename_i n' caps' h1;cases g1;rw[h1]at e1;simp only[aE,ay]at e1;obtain⟨us,k1,k2⟩:=e1;exact⟨us,k1,k2⟩
    .cases g1
   obtain⟨cv,k1,k2⟩:=hcap;have hargs:=vy h g2 e2 (vy h g3 (xq k2) (zs:=[]) (vs:=[]) (by simp[bP]));simp only[fe]at hargs;have hobj:cn (as'++cs)=[]:=by rw[qW,qY g2,qY g3];rfl
   refine⟨(args.toList.map a.eval++cv.toList).toArray, ?_, ?_⟩
   .have:=hok.1 (args.toList.map a.eval++cv.toList).toArray w;have hm:(args.toList.map a.eval++cv.toList).toArray=args.map a.eval++cv:=by apply lb;simp
    rw[hm]at this⊢;simp[execOp,ho,resolve,k1,Deferred.ofValue,invoke,this]
   .refine hok.2 w (Av cx r β) _ (λ b hb=> ?_) hargs;rcases hb with hb|⟨s,j,res,o,hl,_,hbs⟩
    .exact gI (h.a0 b hb) h.n0
    .exact(h.rs _ _ _ hl).1.lt hbs
  .cases hcall
 .cases hcall
end
section
variable {cx:Cx} {v:List AV} {r:Rs} {a:Act} {w:World} {β:Nat->Nat->Pl} {T:Nat->Option TI} {c:Bool}
theorem foldl_push:∀(ns:List Int) (s:ByteArray),ns.foldl (λ r n=>r.push (UInt8.ofNat n.toNat)) s=⟨s.data++(ns.map λ n=>UInt8.ofNat n.toNat).toArray⟩
 |[],s=>by simp
 |n::ns,s=>by rw[tu,foldl_push ns];simp[ByteArray.push]
theorem Jd {w:World} {A:Nat->Prop}:∀{ds:List D} {l:List UInt8} {us:List Value},bytesOf ds=some l->us.length=ds.length->(∀(k:Nat) (d:D),ds[k]? =some d->∃u,us[k]? =some u/\Rd w A d u)->
  ∃ns:List Int,us=ns.map (Value.int .u8)/\l=ns.map λ n=>UInt8.ofNat n.toNat
 |[],l,us,h,hl,_=>by simp only[bytesOf,bn]at h;subst h;exact⟨[],by simpa using hl,rfl⟩
 |d::ds,l,us,h,hl,hu=>by
  cases us with
  |nil=>simp at hl
  |cons u us=>
   unfold bytesOf at h;split at h
   .rename_i heq;cases heq
   .rename_i n ds' heq;cases heq;split at h
    .rename_i l' h2;cases h;obtain⟨ns,e1,e2⟩:=Jd h2 (by simpa using hl) λ k d hk=>by simpa using hu (k+1) d (by simpa using hk)
     obtain⟨u',g1,g2⟩:=hu 0 (.v (.int .u8 n)) rfl;simp only[c9,bn]at g1;subst g1;simp only[Rd]at g2;exact⟨n::ns,by rw[b7,←e1,g2.1],by rw[b7,←e2]⟩
    .cases h
   .cases h
theorem abB (hT:cl cx.P T) (h:aL cx ⟨v,r⟩ a w β) (hc:c=true) {o:Oper} {s t:TypeId} {x:Operand} (ho:o.op= .convert s t x) (hs:(aB T c v r o.dst o.op).sc):
  eN cx v a w (execOp a.eval o) (aB T c v r o.dst o.op).x (aB T c v r o.dst o.op).r:=by
 simp only[ho,aB]at hs⊢;obtain⟨s1,hs⟩:=hs;have e1:=du h hc s1;change eN cx v a w (execOp a.eval o) (nS T r s t (ev v x)).x (nS T r s t (ev v x)).r;unfold nS at hs⊢;split at hs
 .rename_i ti h1;split at hs
  .rename_i k k0 n h3 h2;rw[h2]at e1;have f1:=(cR.1 e1).1;have s2:=hs;unfold isInt at s2;split at s2
   .rename_i si h4;split at s2
    .rename_i k3 h5;obtain⟨d1,g1,g2,_⟩:=(hT t ti h1).1.kI w;obtain⟨d2,g3,g4,_⟩:=(hT s si h4).1.kI w;rw[h3]at g2;rw[h5]at g4;simp only[h1,h3,h2];refine .val h (u:= .int k (k.wrap n)) ?_ (cR.2 ⟨rfl,rfl⟩);have hd1:d1= .int k:=by cases d1<;>simp[fh]at g2;rw[g2]
     have hd2:d2= .int k3:=by cases d2<;>simp[fh]at g4;rw[g4]
     simp[execOp,ho,convert,g1,g3,hd1,hd2,f1,Conv.intToInt]
    .cases s2
   .cases s2
  .rename_i y h3 h2;rw[h2]at e1;split at hs
   .rename_i n ds h4;split at hs
    .rename_i l h5;obtain⟨s2,s3⟩:=hs;unfold Ee at s2;split at s2
     .rename_i e ei h6;split at s2
      .rename_i h7;obtain⟨ad,cap,q1,q2,q3⟩:=xf h (fa.1 e1) h4;obtain⟨f1,f2,hty,f4⟩:=mO hT h6 w;obtain⟨d1,g1,g2,g3⟩:=(hT t ti h1).1.kI w;obtain⟨d2,g4,g5,g6⟩:=hty.kI w;rw[h3]at g2;rw[h7]at g5;have hd1:d1= .string:=by cases d1<;>simp[fh]at g2;rfl
       have hd2:d2= .int .u8:=by cases d2<;>simp[fh]at g5;rw[g5]
       obtain⟨us,p1,p2,p3,_⟩:=zy (P:=cx.P) (n:=n) (cap:=cap) (m:=n) (size:=1) q3 (by omega);obtain⟨ns,r1,r2⟩:=Jd h5 p1 p3;simp only[h1,h3,h2,h4,h5];refine .val h (u:= .string ⟨l.toArray⟩) ?_ (cR.2 ⟨rfl,rfl⟩);have hrun:(convert s t (.slice ad n cap)).run cx.P w= .ok (.string ⟨l.toArray⟩) w:=by
        rw[run_convert_bytes_string w s t e ad n cap f4 (by rw[g6,hd2]) (by rw[g3,hd1])];cases ad with
        |none=>
         have:ds=[]:=by
          rcases Classical.em (ds=[])with h|h
          .exact h
          .obtain⟨_,_,hh⟩:=q3.addr h;cases hh
         subst this;simp only[bytesOf,bn]at h5;subst h5;simp[Conv.bytesToString,ByteArray.empty,ByteArray.emptyWithCapacity];rfl
        |some b=>
         have hl:(loadCells b n).run cx.P w= .ok (ns.map (Value.int .u8)).toArray w:=by rw[←r1];simpa[Builtin.firstCells]using p2
         rw[run_bytesToString w b n cap ns hl,foldl_push,←r2];simp[ByteArray.empty,ByteArray.emptyWithCapacity];rfl
       simp[execOp,ho,q1,hrun]
      .cases s2
     .cases s2
    .exact hs.elim
   .exact hs.elim
  .exact hs.elim
 .exact hs.elim
theorem Ws {z:Array Value} {n size:Nat} (h:z.size=size):madeCells z (n*size)=Builtin.zeroCells z n:=by subst h;rfl
theorem abj (hT:cl cx.P T) (h:aL cx ⟨v,r⟩ a w β) (hc:c=true) {o:Oper} {t:TypeId} {x y:Operand} (ho:o.op= .makeSlice t x y) (hs:(aB T c v r o.dst o.op).sc):
  eN cx v a w (execOp a.eval o) (aB T c v r o.dst o.op).x (aB T c v r o.dst o.op).r:=by
 simp only[ho,aB]at hs⊢;obtain⟨⟨s1,s2⟩,hs⟩:=hs;have e1:=du h hc s1;have e2:=du h hc s2;change eN cx v a w (execOp a.eval o) (wg T r c o.dst t (ev v x) (ev v y)).x (wg T r c o.dst t (ev v x) (ev v y)).r;unfold wg at hs⊢;split at hs
 .rename_i e ei k n k2 m d h1 h2 h3 h4;simp only[h1,h2,h3,h4];rw[h2]at e1;rw[h3]at e2;obtain⟨q1,q2,q3,q4⟩:=hs hc;subst q2;have f1:=(cR.1 e1).1;have f2:=(cR.1 e2).1;obtain⟨g1,g2,hty,g3⟩:=mO hT h1 w;have hty0:=hty;obtain⟨⟨i,z,d0,hi,_,hz,hsz,hby,hzz,_⟩,_,_⟩:=hty0;have hzs:z.cells.size=ei.size:=by rw[←mC,←hzz,hty.len]
  have hrun:=run_make (P:=cx.P) w t e i z g3 hi hz k k2 n n q1 (Int.le_refl _) (by rw[←hby];omega) (by omega);rw[←hsz,Ws hzs]at hrun;obtain⟨z1,z2,z3⟩:=yY (cx:=cx) (w:=w.alloc (.cells (Builtin.zeroCells z.cells n.toNat) e)) (A:=λ _=>False) hty hzz.symm (n:=n.toNat);obtain⟨β2,t1,t2⟩:=z6 h hc (d:=d) (n:=n.toNat) (sz:=ei.size) (ds:=lV ei.zero n.toNat) (pl0:=⟨some (w.heap.size,0),n.toNat⟩) (w':=w.alloc (.cells (Builtin.zeroCells z.cells n.toNat) e))
   (λ b o hb=>by cases hb;rfl) (λ b hb'=>rk w _ hb') (by simp) (by rw[CR,hty.len];exact Nat.le_refl _) (Nat.le_refl _) (λ A' hA=>by
    have:=Nb (w:=w) (A:=A') (ds:=lV ei.zero n.toNat) (us:=(Builtin.zeroCells z.cells n.toNat).toList) (e:=e) (sz:=ei.size) (n:=n.toNat) (by rw[CR,hty.len,z1]) z1
     (λ k d' hk=>by obtain⟨u,y1,y2⟩:=(yY (cx:=cx) (w:=w.alloc (.cells (Builtin.zeroCells z.cells n.toNat).toList.toArray e (0,0))) (A:=A') hty hzz.symm (n:=n.toNat)).2.1 k d' hk;exact⟨u,y1,y2⟩)
    simpa using this)
  refine⟨_,_,β2,_, ?_, .inl rfl,t1,t2⟩;simp[execOp,ho,f1,f2,hrun]
 .exact hs.elim
theorem Zv (hT:cl cx.P T) (h:aL cx ⟨v,r⟩ a w β) (hc:c=true) {o:Oper} {t:TypeId} {x:Operand} (ho:o.op= .makeInterface t x) (hs:(aB T c v r o.dst o.op).sc):
  eN cx v a w (execOp a.eval o) (aB T c v r o.dst o.op).x (aB T c v r o.dst o.op).r:=by
 simp only[ho,aB]at hs⊢;obtain⟨s1,hs⟩:=hs;have e1:=du h hc s1;change eN cx v a w (execOp a.eval o) (nJ T r t (ev v x)).x (nJ T r t (ev v x)).r;unfold nJ at hs⊢;split at hs
 .rename_i ti h1;split at hs
  .rename_i fs l h3 h2;split at hs
   .rename_i vs h4;rw[h2]at e1;obtain⟨us,f1,f2⟩:=jX.1 e1;have f3:=CP h4 f2;obtain⟨d1,g1,g2,_⟩:=(hT t ti h1).1.kI w;rw[h3]at g2;simp only[h1,h3,h2,h4];refine .val h (u:= .iface t (.agg vs.toArray)) ?_ (cR.2 ⟨rfl,rfl⟩);have hus:us=vs.toArray:=by rw[←f3]
    cases d1<;>simp[fh]at g2<;>simp[execOp,ho,Instr.makeInterface,g1,f1,hus]
   .exact hs.elim
  .rename_i k0 k n h3 h2;rw[h2]at e1;have f1:=(cR.1 e1).1;obtain⟨d1,g1,g2,_⟩:=(hT t ti h1).1.kI w;rw[h3]at g2;simp only[h1,h3,h2];refine .val h (u:= .iface t (.int k n)) ?_ (cR.2 ⟨rfl,rfl⟩);cases d1<;>simp[fh]at g2<;>simp[execOp,ho,Instr.makeInterface,g1,f1]
  .exact hs.elim
 .exact hs.elim
end
section
variable {cx:Cx} {v:List AV} {r:Rs} {a:Act} {w:World} {β:Nat->Nat->Pl} {T:Nat->Option TI} {c:Bool}
theorem acy (h:aL cx ⟨v,r⟩ a w β) (hc:c=true) {o:Oper} {ts:Array TypeId} {as:Array Operand} (ho:o.op= .call ⟨.builtin .min,as,ts⟩)
  (hs:(aB T c v r o.dst o.op).sc):eN cx v a w (execOp a.eval o) (aB T c v r o.dst o.op).x (aB T c v r o.dst o.op).r:=by
 simp only[ho,aB]at hs⊢;exact Oi (mx:=false) h hc (by rw[ho];rfl) hs
theorem ack (h:aL cx ⟨v,r⟩ a w β) (hc:c=true) {o:Oper} {ts:Array TypeId} {as:Array Operand} (ho:o.op= .call ⟨.builtin .max,as,ts⟩)
  (hs:(aB T c v r o.dst o.op).sc):eN cx v a w (execOp a.eval o) (aB T c v r o.dst o.op).x (aB T c v r o.dst o.op).r:=by
 simp only[ho,aB]at hs⊢;exact Oi (mx:=true) h hc (by rw[ho];rfl) hs
theorem NI (hT:cl cx.P T) (h:aL cx ⟨v,r⟩ a w β) (hc:c=true) {o:Oper} (hs:(aB T c v r o.dst o.op).sc):
  eN cx v a w (execOp a.eval o) (aB T c v r o.dst o.op).x (aB T c v r o.dst o.op).r:=by
 have no:∀{op:Op},o.op=op->aB T c v r o.dst op=aZ->eN cx v a w (execOp a.eval o) (aB T c v r o.dst o.op).x (aB T c v r o.dst o.op).r:=λ h1 h2=>by rw[h1,h2]at hs;exact hs.elim
 cases ho:o.op with
 |move x=>rw[←ho];exact aaz h hc ho hs
 |assign x=>rw[←ho];exact YM h hc ho hs
 |pick t x z=>rw[←ho];exact aaL h hc ho hs
 |alloc t=>rw[←ho];exact ZC hT h hc ho hs
 |box t x=>rw[←ho];exact aco h hc ho hs
 |build t ps=>rw[←ho];exact Z5 hT h hc ho hs
 |buildSlice t n ps=>rw[←ho];exact U2 hT h hc ho hs
 |makeSlice t x y=>rw[←ho];exact abj hT h hc ho hs
 |load t x=>rw[←ho];exact abx hT h hc ho hs
 |store t x y=>rw[←ho];exact aal h hc hT ho hs
 |nilCheck x=>rw[←ho];exact acM h hc ho hs
 |binOp op t x y yt=>rw[←ho];exact acj hT h hc ho hs
 |unOp op t x=>
  cases op with
  |not=>rw[←ho];exact acK h hc ho hs
  |_=>rw[←ho];exact no ho rfl
 |convert s t x=>rw[←ho];exact abB hT h hc ho hs
 |makeInterface t x=>rw[←ho];exact Zv hT h hc ho hs
 |makeFunc fn first caps=>
  cases fn with
  |func f=>rw[←ho];exact aaW h hc ho hs
  |_=>rw[←ho];exact no ho rfl
 |slice t x lo hi mx=>
  cases mx with
  |none=>rw[←ho];exact ZW hT h hc ho hs
  |some _=>rw[←ho];exact XG hT h hc ho hs
 |fieldAddr t x f=>rw[←ho];exact Zm hT h hc ho hs
 |indexAddr t x i=>rw[←ho];exact acs hT h hc ho hs
 |index t x i=>rw[←ho];exact aaj hT h hc ho hs
 |field t x f=>rw[←ho];exact X2 hT h hc ho hs
 |extract x i=>rw[←ho];exact V3 h hc ho hs
 |call k=>
  obtain⟨callee,as,ts⟩:=k;cases callee with
  |builtin b=>
   cases b with
   |append=>rw[←ho];exact Xu h hc hT ho hs
   |len=>rw[←ho];exact acE (x:= .const undef) hT h hc ho hs
   |cap=>rw[←ho];exact acx hT h hc ho hs
   |copy=>rw[←ho];exact abH h hc hT ho hs
   |clear=>rw[←ho];exact aam h hc hT ho hs
   |max=>rw[←ho];exact ack h hc ho hs
   |min=>rw[←ho];exact acy h hc ho hs
   |_=>rw[←ho];exact no ho rfl
  |_=>rw[←ho];exact no ho rfl
 |_=>rw[←ho];exact no ho rfl
theorem N9 {x:Out} {p:Prop}:(x.with p).r=x.r:=rfl
theorem mo {x:Out} {p:Prop} (h:(x.with p).sc):x.sc:=h.2
theorem acm {o:BinOp} {t:Nat} {x y:AV} (hs:(pF T r o t x y).sc):(pF T r o t x y).r=r:=by
 unfold pF at*
 repeat' split at hs
 all_goals first|exact hs.elim|simp only[*]
theorem acI {t:Nat} {x y:AV} (hs:(pM T r c t x y).sc):(pM T r c t x y).r=r:=by
 unfold pM at*
 repeat' split at hs
 all_goals first|exact hs.elim|simp only[*]
theorem ZS {t f:Nat} {y:AV} (hs:(pn T r t f y).sc):(pn T r t f y).r=r:=by
 unfold pn at*
 repeat' split at hs
 all_goals first|exact hs.elim|simp only[*]
theorem YY {t:Nat} {y:AV} {l hi:Option AV} (hs:(pf T r c t y l hi).sc):(pf T r c t y l hi).r=r:=by
 unfold pf at*
 repeat' split at hs
 all_goals first|exact hs.elim|simp only[*]
theorem Yx {t:Nat} {y:AV} {l hi m:Option AV} (hs:(pe T r c t y l hi m).sc):(pe T r c t y l hi m).r=r:=by
 unfold pe at*
 repeat' split at hs
 all_goals first|exact hs.elim|simp only[*]
theorem aaT {e e2:Nat} {y:AV} (hs:(nS T r e e2 y).sc):(nS T r e e2 y).r=r:=by
 unfold nS at*
 repeat' split at hs
 all_goals first|exact hs.elim|simp only[*]
theorem Y0 {t:Nat} {y:AV} (hs:(nJ T r t y).sc):(nJ T r t y).r=r:=by
 unfold nJ at*
 repeat' split at hs
 all_goals first|exact hs.elim|simp only[*]
theorem acp {t:Option Nat} {y:AV} (hs:(pO T r t y).sc):(pO T r t y).r=r:=by
 unfold pO at*
 repeat' split at hs
 all_goals first|exact hs.elim|simp only[*]
theorem Om {mx:Bool} {y:List AV} (hs:(mL r mx y).sc):(mL r mx y).r=r:=by
 unfold mL at*
 repeat' split at hs
 all_goals first|exact hs.elim|simp only[*]
theorem GR {op:Op} {dst:Option Nat} (hg:DP op=true) (hs:(aB T c v r dst op).sc):(aB T c v r dst op).r=r:=by
 cases op with
 |move x=>rfl
 |pick t x z=>
  simp only[aB]at hs⊢
  repeat' split at hs
  all_goals first|exact hs.elim|simp only[*]
 |build t ps=>
  simp only[aB]at hs⊢
  repeat' split at hs
  all_goals first|exact hs.elim|simp only[*]
 |load t x=>
  simp only[aB]at hs⊢
  repeat' split at hs
  all_goals first|exact hs.elim|simp only[*]
 |nilCheck x=>
  simp only[aB]at hs⊢
  repeat' split at hs
  all_goals first|exact hs.elim|simp only[*]
 |binOp op t x y yt=>exact acm (mo hs)
 |unOp op t x=>
  cases op with
  |not=>
   simp only[aB]at hs⊢
   repeat' split at hs
   all_goals first|exact hs.elim|simp only[*]
  |_=>exact hs.elim
 |convert s t x=>exact aaT (mo hs)
 |makeInterface t x=>exact Y0 (mo hs)
 |makeFunc fn first caps=>
  cases fn with
  |func f=>
   obtain⟨first⟩:=first
   cases first with
   |nil=>
    simp only[aB]at hs⊢
    repeat' split at hs
    all_goals first|exact hs.elim|simp only[*]
   |cons _ _=>exact hs.elim
  |_=>exact hs.elim
 |slice t x lo hi mx=>
  cases mx with
  |none=>exact YY (mo hs)
  |some _=>exact Yx (mo hs)
 |fieldAddr t x f=>
  simp only[aB]at hs⊢
  repeat' split at hs
  all_goals first|exact hs.elim|simp only[*]
 |indexAddr t x i=>exact acI (mo hs)
 |field t x f=>exact ZS (mo hs)
 |index t x i=>
  simp only[aB]at hs⊢
  repeat' split at hs
  all_goals first|exact hs.elim|simp only[*]
 |extract x i=>
  simp only[aB]at hs⊢
  repeat' split at hs
  all_goals first|exact hs.elim|simp only[*]
 |call k=>
  obtain⟨callee,as,ts⟩:=k;cases callee with
  |builtin b=>
   cases b with
   |len=>
    simp only[aB]at hs⊢;split at hs
    .try simp only[*]
     exact acp (mo hs)
    .exact hs.elim
   |max=>exact Om (mo hs)
   |min=>exact Om (mo hs)
   |_=>cases hg
  |_=>cases hg
 |_=>cases hg
end
section
variable {cx:Cx} {v:List AV} {r r':Rs} {a:Act} {w w':World} {β β':Nat->Nat->Pl} {T:Nat->Option TI} {c:Bool}
def rowAt (e sz:Nat) (ds:List D):bV:={e,var:=false,fz:=false,sz,cells:=ds.map C.d}
def mE (r':Rs) (β':Nat->Nat->Pl) (γ:Nat->Pl) (s e k:Nat) (l:List RO):Prop:=
 ∀(i sz n:Nat) (ds:List D) (bo:Bool),l[i]? =some (.own sz n ds bo)->(∃bb,aQ r' ⟨s,k+i+1,e⟩=some {rowAt e sz ds with dR:=bb})/\β' s (k+i+1)=γ (k+i)/\e<ar r' s
theorem mE.tail {γ:Nat->Pl} {s e k:Nat} {x:RO} {l:List RO} (h:mE r' β' γ s e k (x::l)):mE r' β' γ s e (k+1) l:=λ i sz n ds bo hi=>by have:=h (i+1) sz n ds bo (by simpa using hi);simpa[ey,kT 1 i]using this
theorem mE.head {γ:Nat->Pl} {s e k:Nat} {x:RO} {l:List RO} (h:mE r' β' γ s e k (x::l)):mE r' β' γ s e k [x]:=λ i sz n ds bo hi=>by
 cases i with
 |zero=>exact h 0 sz n ds bo (by simpa using hi)
 |succ i=>simp at hi
theorem mE.left {γ:Nat->Pl} {s e k:Nat} {l m:List RO} (h:mE r' β' γ s e k (l++m)):mE r' β' γ s e k l:=λ i sz n ds bo hi=>
 h i sz n ds bo (by rw[dA (cG.1 hi).1];exact hi)
theorem mE.right {γ:Nat->Pl} {s e k:Nat} {l m:List RO} (h:mE r' β' γ s e k (l++m)):mE r' β' γ s e (k+l.length) m:=λ i sz n ds bo hi=>by have:=h (l.length+i) sz n ds bo (by rw[dL (j5 _ _)];simpa using hi);simpa[ey]using this
theorem vB {A:Nat->Prop} {γ:Nat->Pl} {s e:Nat} (hA:∀b,Av cx r' β' b->A b):∀{l:List RO} {k:Nat} {us:List Value},mE r' β' γ s e k l->cU A w' γ k l us->aH cx w' r' β' (fT s e k l) us
 |[],k,us,_,h=>by simpa[cU,fT,aH]using h
 | .d x::l,k,us,hb,h=>by simp only[cU,d9]at h;obtain⟨u,us',rfl,h1,h2⟩:=h;simp only[fT,aH,ay];exact⟨u,us',rfl,h1.dy ⟨λ _ _ _=>rfl,λ b _ hb=>hA b hb⟩,vB hA hb.tail h2⟩
 | .own sz n ds bo::l,k,us,hb,h=>by
  simp only[cU,d9]at h;obtain⟨u,us',rfl,⟨h1,h2,h3,ad,h4,h5⟩,h6⟩:=h;simp only[fT,aH,ay];obtain⟨⟨bb,g1⟩,g2,g3⟩:=hb 0 sz n ds bo (by simp);simp only[iy]at g1 g2;refine⟨u,us',rfl,⟨by rw[h4];rfl,g3,λ res hres=> ?_⟩,vB hA hb.tail h6⟩;rw[g1]at hres;cases hres;rw[g2];refine⟨rfl,by simpa[rowAt]using h1,by simpa using h2,ad,by simpa using h4, ?_⟩;rcases h5 with h5|⟨b,o,h5,h7⟩
  .exact .inl (by simpa using h5)
  .exact .inr ⟨b,o,h5,by simpa using h7⟩
theorem zm {s e:Nat}:∀{l:List RO} {k:Nat},(fT s e k l).length=l.length
 |[],_=>rfl
 | .d _::l,k=>by simp[fT,zm (l:=l)]
 | .own .. ::l,k=>by simp[fT,zm (l:=l)]
theorem ZM {A:Nat->Prop} {γ:Nat->Pl} {s e k:Nat} (hA:∀b,Av cx r' β' b->A b) {x:RF} {u:Value} (hb:mE r' β' γ s e k x.cells) (h:lp A w' γ k x u):
  aE cx w' r' β' (yn s e k x) u:=by
 cases x with
 |one x=>
  simp only[lp]at h;have:=vB (us:=[u]) hA hb (by simp only[RF.cells,cU];exact⟨u,[],rfl,h,rfl⟩);simp only[RF.cells]at this;unfold yn;cases hx:fT s e k [x]with
  |nil=>have:=congrArg List.length hx;simp[zm]at this
  |cons y ys=>
   cases ys with
   |cons _ _=>have:=congrArg List.length hx;simp[zm]at this
   |nil=>
    rw[hx]at this;simp only[aH]at this;obtain⟨u',us',h1,h2,_⟩:=this;cases h1;simp only[hx];exact fa.2 h2
 |agg l=>
  simp only[lp]at h;obtain⟨us,rfl,h2⟩:=h;exact jX.2 ⟨us,rfl,vB hA hb h2⟩
theorem vG {A:Nat->Prop} {γ:Nat->Pl} {s e:Nat} (hA:∀b,Av cx r' β' b->A b):∀{rfs:List RF} {k:Nat} {us:List Value},mE r' β' γ s e k (rfs.flatMap RF.cells)->eW A w' γ k rfs us->
  bU cx w' r' β' (jf s e k rfs) us
 |[],k,us,_,h=>by simpa[eW,jf,bU]using h
 |x::rfs,k,us,hb,h=>by simp only[eW]at h;obtain⟨u,us',rfl,h1,h2⟩:=h;simp only[fv]at hb;simp only[jf,bU];exact⟨u,us',rfl,ZM hA hb.left h1,vG hA hb.right h2⟩
theorem Ak {l:List AV} {us:List Value} {u:Value} (hu:u=(match us with|[x]=>x|us=> .tuple us.toArray)) (h:bU cx w' r' β' l us):aE cx w' r' β' (kZ l) u:=by
 cases l with
 |nil=>simp only[bU]at h;subst h;subst hu;simp only[kZ,aE];exact⟨_,rfl,by simp[bU]⟩
 |cons x l=>
  simp only[bU]at h;obtain⟨y,ys,rfl,h1,h2⟩:=h;cases l with
  |nil=>simp only[bU]at h2;subst h2;subst hu;exact h1
  |cons x' l=>
   simp only[bU]at h2;obtain⟨y',ys',rfl,h3,h4⟩:=h2;subst hu;simp only[kZ,aE];refine⟨_,rfl, ?_⟩;simp only[bU];exact⟨y,_,rfl,h1,y',ys',rfl,h3,h4⟩
theorem CE:∀{l:List RO},jF l=true->∀(i sz n:Nat) (ds:List D) (bo:Bool),l[i]? ≠some (RO.own sz n ds bo)
 |[],_,i,_,_,_,_=>by simp
 | .d x::l,h,0,_,_,_,_=>by simp
 | .d x::l,h,i+1,sz,n,ds,bo=>by simpa using CE (l:=l) (by simpa[jF]using h) i sz n ds bo
 | .own .. ::l,h,_,_,_,_,_=>by simp[jF]at h
theorem lL {γ:Nat->Pl}:∀{l:List RO} {k i sz n b o:Nat} {ds:List D} {bo:Bool},l[i]? =some (.own sz n ds bo)->(γ (k+i)).base=some (b,o)->NB γ k l b
 |[],_,_,_,_,_,_,_,_,h,_=>by simp at h
 | .d x::l,k,0,_,_,_,_,_,_,h,_=>by simp at h
 | .own sz n ds _::l,k,0,_,_,_,o,_,_,h,hb=>by simp only[NB];exact .inl ⟨o,hb⟩
 | .d x::l,k,i+1,sz,n,b,o,ds,bo,h,hb=>by simp only[NB];exact lL (i:=i) (by simpa using h) (by rw[←hb];congr 2;omega)
 | .own _ _ _ _::l,k,i+1,sz,n,b,o,ds,bo,h,hb=>by simp only[NB];exact .inr (lL (i:=i) (by simpa using h) (by rw[←hb];congr 2;omega))
theorem Ct {B:Bool} {e:Nat}:∀{l:List RO} {j:Nat} {res:bV},(fM B e l)[j]? =some (some res)->∃sz n ds bo,l[j]? =some (.own sz n ds bo)/\res={rowAt e sz ds with dR:=bo&&B}
 |[],j,_,h=>by simp[fM]at h
 | .d x::l,0,_,h=>by simp[fM]at h
 | .own sz n ds bo::l,0,res,h=>by simp only[fM,c9,bn]at h;exact⟨sz,n,ds,bo,by simp,h.symm⟩
 | .d x::l,j+1,res,h=>by simpa using Ct (l:=l) (j:=j) (by simpa[fM]using h)
 | .own .. ::l,j+1,res,h=>by simpa using Ct (l:=l) (j:=j) (by simpa[fM]using h)
theorem vA {B:Bool} {e:Nat}:∀{l:List RO} {j sz n:Nat} {ds:List D} {bo:Bool},l[j]? =some (.own sz n ds bo)->(fM B e l)[j]? =some (some {rowAt e sz ds with dR:=bo&&B})
 |[],j,_,_,_,_,h=>by simp at h
 | .d x::l,0,_,_,_,_,h=>by simp at h
 | .own sz n ds bo::l,0,_,_,_,_,h=>by simp only[c9,bn,RO.own.injEq]at h;obtain⟨rfl,rfl,rfl,rfl⟩:=h;rfl
 | .d x::l,j+1,sz,n,ds,bo,h=>by simpa[fM]using vA (B:=B) (e:=e) (l:=l) (j:=j) (by simpa using h)
 | .own .. ::l,j+1,sz,n,ds,bo,h=>by simpa[fM]using vA (B:=B) (e:=e) (l:=l) (j:=j) (by simpa using h)
theorem cU.row {A:Nat->Prop} {γ:Nat->Pl}:∀{l:List RO} {k i sz n:Nat} {ds:List D} {bo:Bool} {us:List Value},cU A w' γ k l us->l[i]? =some (.own sz n ds bo)->dm w' A (γ (k+i)) sz ds
 |[],_,_,_,_,_,_,_,_,h=>by simp at h
 |x::l,k,0,sz,n,ds,bo,us,h,hi=>by simp only[c9,bn]at hi;subst hi;simp only[cU,d9]at h;obtain⟨u,us',_,⟨_,_,h3,_⟩,_⟩:=h;exact h3
 |x::l,k,i+1,sz,n,ds,bo,us,h,hi=>by simp only[cU]at h;obtain⟨u,us',_,_,h2⟩:=h;have:=cU.row h2 (i:=i) (by simpa using hi);rw[show k+(i+1)=k+1+i from by omega];exact this
theorem eW.row {A:Nat->Prop} {γ:Nat->Pl}:∀{rfs:List RF} {k i sz n:Nat} {ds:List D} {bo:Bool} {us:List Value},eW A w' γ k rfs us->(rfs.flatMap RF.cells)[i]? =some (.own sz n ds bo)->dm w' A (γ (k+i)) sz ds
 |[],_,_,_,_,_,_,_,_,h=>by simp at h
 |x::rfs,k,i,sz,n,ds,bo,us,h,hi=>by
  simp only[eW]at h;obtain⟨u,us',_,h1,h2⟩:=h;rw[fv]at hi;rcases iw i x.cells.length with hlt|hge
  .rw[dA hlt]at hi;cases x with
   |one x=>
    simp only[lp]at h1;exact cU.row (us:=[u]) (l:=[x]) (by simp only[cU];exact⟨u,[],rfl,h1,rfl⟩) hi
   |agg l=>
    simp only[lp]at h1;obtain⟨us,_,h3⟩:=h1;exact cU.row h3 hi
  .rw[dL hge]at hi;have:=eW.row h2 hi;rw[show k+x.cells.length+(i - x.cells.length)=k+i from by omega]at this;exact this
theorem aL.calm (h:aL cx ⟨v,r⟩ a w β) (hsz:w.heap.size≤w'.heap.size) (hold:∀b,b<w.heap.size->w'.heap[b]? =w.heap[b]?) (hos:w'.os=w.os) (hout:w'.output=w.output):
  aL cx ⟨v,r⟩ a w' β/\Ext cx w r β w' r β:=by
 have x:Ext cx w r β w' r β:=⟨λ _=>Nat.le_refl _,λ hd res' _ hg=>⟨res',hg,rfl,rfl,rfl,Nat.le_refl _⟩,⟨λ b hb _=>hold b hb,λ _ _ h=>h⟩,λ b hb _=>hold b (gI hb h.n0),hos,hout⟩;exact⟨h.mk' x (λ s j res hl=>⟨(h.rs s j res hl).1.ext x (λ b o hb=>hold b ((h.rs s j res hl).1.lt hb)) (λ b o hb=>(h.rs s j res hl).1.lt hb),(h.rs s j res hl).2⟩) h.inj h.fr hsz,x⟩
theorem KM (h:aL cx ⟨v,r⟩ a w β) {rfs:List RF} {u:Value} (hn:jF (rfs.flatMap RF.cells)=true) (hr:fl w (Av cx r β) jP w' [] rfs [] u):
  aL cx ⟨v,r⟩ a w' β/\aE cx w' r β (kZ (jf 0 0 0 rfs)) u:=by
 obtain⟨⟨γ,us,h1,h2,_,_,_⟩,h3,h4,h5,h6⟩:=hr;obtain⟨g1,g2⟩:=h.calm h3 (λ b hb=>h4 b hb (λ h=>h.elim)) h5 h6;refine⟨g1,Ak h1 (vG (γ:=γ) (λ b hb=> .inl hb) (λ i sz n ds bo hi=>absurd hi (CE hn i sz n ds bo)) h2)⟩
theorem abV (h:aL cx ⟨v,r⟩ a w β) {rfs:List RF} {u:Value} {d:Nat} (hr:fl w (Av cx r β) jP w' [] rfs [] u):
  ∃β',aL cx ⟨v,aN d {next:=ar r d+1,l:=none::fM false (ar r d) (rfs.flatMap RF.cells)} r⟩ a w' β'/\
   aE cx w' (aN d {next:=ar r d+1,l:=none::fM false (ar r d) (rfs.flatMap RF.cells)} r) β' (kZ (jf d (ar r d) 0 rfs)) u:=by
 obtain⟨⟨γ,us,h1,h2,_,hnb,_,hap⟩,h3,h4,h5,h6⟩:=hr;simp only[cX,yi,fe]at h2 hnb hap;generalize hcs:rfs.flatMap RF.cells=cs at*;generalize hr':aN d {next:=ar r d+1,l:=none::fM false (ar r d) cs} r=r';have hlook:∀j res,aF r' d j=some res->∃k sz n ds bo,j=k+1/\cs[k]? =some (.own sz n ds bo)/\res=rowAt (ar r d) sz ds:=λ j res hl=>by
  rw[←hr',fQ,aj rfl]at hl;simp only at hl;split at hl
  .rename_i q hj;cases hl;cases j with
   |zero=>simp at hj
   |succ k=>
    obtain⟨sz,n,ds,bo,g1,g2⟩:=Ct (by simpa using hj);exact⟨k,sz,n,ds,bo,rfl,g1,by simpa[rowAt]using g2⟩
  .cases hl
 have hlook2:∀s j,s≠d->aF r' s j=aF r s j:=λ s j hs=>by rw[←hr',fQ,aa (fu hs)]
 have hnx:∀s,ar r' s=if d=s then ar r d+1 else ar r s:=λ s=>by rw[←hr',fo]
 let β':Nat->Nat->Pl:=λ s j=>if s=d then γ (j - 1)else β s j
 have hβ0:∀k,β' d (k+1)=γ k:=λ k=>by simp[β']
 have hβ1:∀s j,s≠d->β' s j=β s j:=λ s j hs=>by simp[β',hs]
 have hnew:∀{k sz n ds bo b o},cs[k]? =some (.own sz n ds bo)->(γ k).base=some (b,o)->w.heap.size≤b:=λ {k sz n ds bo b o} hk hb=>by have:=hnb b (lL (k:=0) hk (by simpa using hb));exact this.1.resolve_right λ h=>h
 have hlt:∀{s j res b o},aF r s j=some res->(β s j).base=some (b,o)->b<w.heap.size:=λ hl hb=>(h.rs _ _ _ hl).1.lt hb
 have hAv:∀b,Av cx r' β' b->Av cx r β b∨NB γ 0 cs b:=λ b hA=>by
  rcases hA with hA|⟨s,j,res,o,hl,hf,hb⟩
  .exact .inl (.inl hA)
  .by_cases hs:s=d
   .subst hs;obtain⟨k,sz,n,ds,bo,rfl,g1,g2⟩:=hlook _ _ hl;rw[hβ0]at hb;exact .inr (lL (k:=0) g1 (by simpa using hb))
   .rw[hlook2 _ _ hs]at hl;rw[hβ1 _ _ hs]at hb;exact .inl (.inr ⟨s,j,res,o,hl,hf,hb⟩)
 have hx:Ext cx w r β w' r' β':=by
  refine⟨λ s=> ?_,λ hd res' hlt' hg=> ?_,⟨λ b hb' _=>h4 b hb' (λ h=>h),λ b hb' hA=> ?_⟩,λ b hb' hn=>h4 b (gI hb' h.n0) (λ h=>h),h5,h6⟩
  .rw[hnx];split
   .rename_i e;subst e;exact uJ _
   .exact Nat.le_refl _
  .obtain⟨hl,hee⟩:=cp hg;by_cases hs:hd.s=d
   .rw[hs]at hl hlt';obtain⟨k,sz,n,ds,bo,_,_,rfl⟩:=hlook _ _ hl;simp only[rowAt]at hee;omega
   .rw[hlook2 _ _ hs]at hl;exact⟨res',gu hl hee,hβ1 _ _ hs,rfl,rfl,Nat.le_refl _⟩
  .rcases hAv b hA with h'|h'
   .exact h'
   .have:=(hnb b h').1.resolve_right λ h=>h
    omega
 have hH:aL cx ⟨v,r'⟩ a w' β':=by
  refine h.mk' hx (λ s j res hl=> ?_) (λ s j res s' j' res' b o o' hl hf hl' hf' hbs hbs'=> ?_) (λ s j res b o hl hf hbs=> ?_) h3
  .by_cases hs:s=d
   .subst hs;obtain⟨k,sz,n,ds,bo,rfl,g1,rfl⟩:=hlook _ _ hl;rw[hβ0];refine⟨?_,by rw[hnx,aj rfl];exact jJ _⟩;unfold cJ;rw[aa (by simp[rowAt])];refine⟨ds,rfl, ?_,λ hf=>by simp[rowAt]at hf⟩;have:=eW.row h2 (by rw[hcs];exact g1);rw[cc]at this;exact this.dy ⟨λ _ _ _=>rfl,λ b _ hb=>hAv b hb⟩ (λ _ _ _=>rfl)
   .rw[hlook2 _ _ hs]at hl;rw[hβ1 _ _ hs];obtain⟨g1,g2⟩:=h.rs s j res hl;exact⟨g1.ext hx (λ b o hb=>h4 b (g1.lt hb) (λ h=>h)) (λ b o hb=>g1.lt hb),by rw[hnx,aa (fu hs)];exact g2⟩
  .by_cases hs:s=d<;>by_cases hs':s'=d
   .subst hs;subst hs';obtain⟨k,sz,n,ds,bo,rfl,g1,rfl⟩:=hlook _ _ hl;obtain⟨k',sz',n',ds',bo',rfl,g1',rfl⟩:=hlook _ _ hl';rw[hβ0]at hbs hbs';exact⟨rfl,by rw[hap k k' b o o' sz n ds bo sz' n' ds' bo' g1 g1' hbs hbs']⟩
   .subst hs;obtain⟨k,sz,n,ds,bo,rfl,g1,rfl⟩:=hlook _ _ hl;rw[hβ0]at hbs;rw[hlook2 _ _ hs']at hl';rw[hβ1 _ _ hs']at hbs';have h5:=hnew g1 hbs;have h6:=hlt hl' hbs';omega
   .subst hs';obtain⟨k,sz,n,ds,bo,rfl,g1,rfl⟩:=hlook _ _ hl';rw[hβ0]at hbs';rw[hlook2 _ _ hs]at hl;rw[hβ1 _ _ hs]at hbs;have h5:=hnew g1 hbs';have h6:=hlt hl hbs;omega
   .rw[hlook2 _ _ hs]at hl;rw[hlook2 _ _ hs']at hl';rw[hβ1 _ _ hs]at hbs;rw[hβ1 _ _ hs']at hbs';exact h.inj _ _ _ _ _ _ _ _ _ hl hf hl' hf' hbs hbs'
  .by_cases hs:s=d
   .subst hs;obtain⟨k,sz,n,ds,bo,rfl,g1,rfl⟩:=hlook _ _ hl;rw[hβ0]at hbs;have h5:=hnew g1 hbs;have h6:=h.n0;exact⟨.inl (by omega),λ _=>by omega⟩
   .rw[hlook2 _ _ hs]at hl;rw[hβ1 _ _ hs]at hbs;exact h.fr _ _ _ _ _ hl hf hbs
 refine⟨β',hH,Ak h1 (vG (γ:=γ) hAv (λ i sz n ds bo hi=> ?_) h2)⟩;rw[hcs]at hi;refine⟨⟨false,gu ?_ rfl⟩,by rw[cc];exact hβ0 i,by rw[hnx,aj rfl];exact jJ _⟩;rw[←hr',fQ,aj rfl];simp[vA hi,rowAt]
theorem NK (h:aL cx ⟨v,r⟩ a w β) {rfs:List RF} {u:Value} (hr:fl w (Av cx r β) jP w' [] rfs [] u) (dst:Option Nat):
  ∃β',aL cx ⟨v,(eT r dst rfs).2⟩ a w' β'/\aE cx w' (eT r dst rfs).2 β' (eT r dst rfs).1 u:=by
 unfold eT kh;simp only;split
 .rename_i hn;exact⟨β,KM h hn hr⟩
 .cases dst with
  |some d=>exact abV h hr
  |none=>exact⟨β,(h.calm hr.size (λ b hb=>hr.bZ b hb (λ h=>h)) hr.os hr.out).1,by simp[aE,ay]⟩
end
def Bs (r:Rs):AV->Option RF
 | .one x=>match pS r x with|some y=>some (.one y)|none=>none
 | .agg l=>match eS r l with|some y=>some (.agg y)|none=>none
 |_=>none
def pt (r:Rs):List AV->Option (List RF)
 |[]=>some []
 |x::xs=>match Bs r x,pt r xs with
  |some y,some ys=>some (y::ys)
  |_,_=>none
def sO:AV->List C
 | .one x=>[x]
 | .agg l=>l
 |_=>[]
def iE:List AV->List C
 |[]=>[]
 |x::xs=>sO x++iE xs
def i4:List (List C)->List C
 |[]=>[]
 |x::xs=>x++i4 xs
section
variable (T:Nat->Option TI)
def wF (v:List AV) (r:Rs):ResultVar->Prop×AV
 | .tmp t=>(True,b6 v (.tmp t))
 | .cell a t=>match b6 v (.tmp a)with
  | .one (.ptr h off)=>match aQ r h with
   |some res=>ni T t (res.cells.drop off)
   |none=>(False, .one .dead)
  |_=>(False, .one .dead)
def kX (v:List AV) (r:Rs):List ResultVar->Prop×List AV
 |[]=>(True,[])
 |x::xs=>((wF T v r x).1/\(kX v r xs).1,(wF T v r x).2::(kX v r xs).2)
inductive Pos where
 |o (p:Nat)
 |r (p n:Nat)
 |h (hd:Hd)
def mz (r:Rs):List Pos->Option (List (List C))
 |[]=>some []
 | .o p::ps=>match aQ r ⟨p,0,0⟩,mz r ps with
  |some res,some cs=>if res.var=true then some (res.cells::cs)else none
  |_,_=>none
 | .r _ _::ps=>match mz r ps with
  |some cs=>some ([]::cs)
  |none=>none
 | .h _::_=>none
def EN (r:Rs) (rc:List (Nat×Nat)) (p n:Nat):List C:=
 match aQ r ⟨p,1,0⟩with
 |some res=>if res.fz=true then []else if res.var=true then []else if rc.contains (p,1)=true then []else [C.own ⟨p,1,0⟩ 0 n]
 |none=>[]
def kO (r:Rs) (rc:List (Nat×Nat)):List Pos->List (List C)->List (List C)
 |[],cs=>cs
 | .o _::ps,c::cs=>c::kO r rc ps cs
 | .r p n::ps,_::cs=>EN r rc p n::kO r rc ps cs
 | .h _::ps,c::cs=>c::kO r rc ps cs
 |_::_,[]=>[]
def AQ (r:Rs) (ys:List AV) (ps:List Pos):Option (List (List C)):=
 match mz r ps with
 |some cs=>some (kO r (jg r (iE ys++i4 cs)) ps cs)
 |none=>none
def xM (r:Rs) (ys:List AV) (ocs:Option (List (List C))) (post:List RF->List (List RO)->Prop):Prop:=
 match pt r ys,ocs with
 |some rfs,some cs=>match my r cs with
  |some objs=>oN (jg r (iE ys++i4 cs))=true/\post rfs objs
  |none=>False
 |_,_=>False
def km (rvs:List ResultVar) (ps:List Pos) (post:List RF->List (List RO)->Prop) (g:G):Prop:=
 (kX T g.v g.r rvs).1/\xM g.r (kX T g.v g.r rvs).2 (AQ g.r (kX T g.v g.r rvs).2 ps) post
end
section
variable {T:Nat->Option TI} {cx:Cx} {v:List AV} {r:Rs} {a:Act} {w:World} {β:Nat->Nat->Pl}
def γof (β:Nat->Nat->Pl) (L:List C) (k:Nat):Pl:=
 match L[k]? with
 |some (.own h _ _)=>β h.s h.j
 |_=>⟨none,0⟩
theorem GO:∀{l:List C} {ys:List RO} {i:Nat} {y:RO},eS r l=some ys->ys[i]? =some y->∃x,l[i]? =some x/\pS r x=some y
 |[],ys,i,y,h,hi=>by simp only[eS,bn]at h;subst h;simp at hi
 |x::l,ys,i,y,h,hi=>by
  simp only[eS]at h;split at h
  .rename_i y' ys' h1 h2;cases h;cases i with
   |zero=>simp only[c9,bn]at hi⊢;subst hi;exact⟨x,rfl,h1⟩
   |succ i=>simpa using GO (i:=i) h2 (by simpa using hi)
  .cases h
theorem Mp {x:C} {sz n:Nat} {ds:List D} {bo:Bool} (h:pS r x=some (.own sz n ds bo)):∃hd res,x= .own hd 0 n/\aQ r hd=some res/\res.fz=false/\sz=res.sz/\dC res.cells=some ds/\bo=res.dR:=by
 unfold pS at h;split at h
 .cases h
 .rename_i hd lo m;split at h
  .rename_i res hg;split at h
   .split at h<;>cases h
   .rename_i hf;split at h
    .rename_i ds' _ hd';cases h;exact⟨hd,res,rfl,hg,by simpa using hf,rfl,hd',rfl⟩
    .cases h
  .cases h
 .cases h
theorem AB {hd:Hd} {lo n:Nat} {res:bV} (hg:aQ r hd=some res) (hf:res.fz=false):tQ r (.own hd lo n)=[(hd.s,hd.j)]:=by unfold tQ;simp[hg,hf]
theorem CD:∀{l:List C} {i:Nat} {x:C} {p:Nat×Nat},l[i]? =some x->p∈tQ r x->p∈jg r l
 |[],_,_,_,h,_=>by simp at h
 |y::l,0,x,p,h,hp=>by simp only[c9,bn]at h;subst h;simp[jg,hp]
 |y::l,i+1,x,p,h,hp=>by simp only[jg,dN];exact .inr (CD (i:=i) (by simpa using h) hp)
theorem I5:∀{l m:List (Nat×Nat)},oN (l++m)=true->oN m=true/\∀p∈l,p ∉ m
 |[],m,h=>⟨h,λ p hp=>by simp at hp⟩
 |x::l,m,h=>by
  simp only[dW,oN,bM,ir,A2,dN,gg,kY]at h;obtain⟨g1,g2⟩:=I5 h.2;refine⟨g1,λ p hp=> ?_⟩;simp only[cF]at hp;rcases hp with rfl|hp
  .exact h.1.2
  .exact g2 p hp
theorem G':∀{l:List C} {i j:Nat} {x y:C} {p:Nat×Nat},oN (jg r l)=true->l[i]? =some x->l[j]? =some y->p∈tQ r x->p∈tQ r y->i=j
 |[],_,_,_,_,_,_,h,_,_,_=>by simp at h
 |z::l,i,j,x,y,p,h,hx,hy,px,py=>by
  simp only[jg]at h;obtain⟨g1,g2⟩:=I5 h;cases i with
  |zero=>
   cases j with
   |zero=>rfl
   |succ j=>
    simp only[c9,bn]at hx;subst hx;exact absurd (CD (i:=j) (by simpa using hy) py) (g2 p px)
  |succ i=>
   cases j with
   |zero=>
    simp only[c9,bn]at hy;subst hy;exact absurd (CD (i:=i) (by simpa using hx) px) (g2 p py)
   |succ j=>
    have:=G' (i:=i) (j:=j) g1 (by simpa using hx) (by simpa using hy) px py;omega
theorem ab8 (h:aL cx ⟨v,r⟩ a w β) {A:Nat->Prop} (hA:∀b,A b->Av cx r β b) {x:C} {y:RO} {u:Value} {pl:Pl} (hr:pS r x=some y) (hu:ay cx w r β x u)
  (hpl:∀hd lo n,x= .own hd lo n->pl=β hd.s hd.j):d9 A w pl y u:=by
 unfold pS at hr;split at hr
 .cases hr;simp only[ay]at hu;exact hu.dy ⟨λ _ _ _=>rfl,λ b _ hb=>hA b hb⟩
 .rename_i hd lo n;have hq:=hpl hd lo n rfl;clear hpl;split at hr
  .rename_i res hg;simp only[ay]at hu;have hown:=hu.2.2 res hg;obtain⟨hl,he⟩:=cp hg;obtain⟨ds0,k1,k2,k3⟩:=(h.rs _ _ _ hl).1.row hown.1;split at hr
   .rename_i hf;split at hr
    .rename_i ds hd';cases hr;rw[k1,mU,je]at hd';cases hd';obtain⟨ad,cap,m1,m2,m3⟩:=xF (Tp:=λ b=>¬Av cx r β b) hown k2 k1 (λ b o hb=>k3 hf b o hb);simp only[d9,Rd];exact⟨ad,cap,m1,m2,lv.dy ⟨λ _ _ _=>rfl,λ b _ hb=>hA b hb⟩ (pb.2 m3)⟩
    .cases hr
   .split at hr
    .rename_i ds _ hd';cases hr;rw[k1,je]at hd';cases hd';obtain⟨_,h2,h3,ad,h4,h5⟩:=hown;simp only[d9];rw[hq];refine⟨by rw[k1]at h2;simpa using h2,by omega,k2.dy ⟨λ _ _ _=>rfl,λ b _ hb=>hA b hb⟩ (λ _ _ _=>rfl),ad,by simpa using h4, ?_⟩;rcases h5 with h5|⟨b,o,h5,h6⟩
     .exact .inl (by simpa using h5)
     .exact .inr ⟨b,o,h5,by simpa using h6⟩
    .cases hr
  .cases hr
 .cases hr
theorem vS (h:aL cx ⟨v,r⟩ a w β) {A:Nat->Prop} (hA:∀b,A b->Av cx r β b) {L:List C}:∀{l:List C} {k:Nat} {ys:List RO} {us:List Value},eS r l=some ys->aH cx w r β l us->
  (∀i x,l[i]? =some x->L[k+i]? =some x)->cU A w (γof β L) k ys us
 |[],k,ys,us,hr,hu,_=>by simp only[eS,bn]at hr;subst hr;simpa[aH,cU]using hu
 |x::l,k,ys,us,hr,hu,hL=>by
  simp only[eS]at hr;split at hr
  .rename_i y ys' h1 h2;cases hr;simp only[aH]at hu;obtain⟨u,us',rfl,g1,g2⟩:=hu;simp only[cU];have hk:=hL 0 x (by simp);simp only[iy]at hk;refine⟨u,us',rfl,ab8 h hA h1 g1 (λ hd lo n he=>by unfold γof;rw[hk,he]),vS h hA h2 g2 λ i x' hi=> ?_⟩;have:=hL (i+1) x' (by simpa using hi)
   rwa[show k+1+i=k+(i+1) from by omega]
  .cases hr
theorem xB:∀{l:List C} {ys:List RO},eS r l=some ys->ys.length=l.length
 |[],ys,h=>by simp only[eS,bn]at h;subst h;rfl
 |x::l,ys,h=>by
  simp only[eS]at h;split at h
  .rename_i y ys' h1 h2;cases h;simp[xB h2]
  .cases h
theorem ab3 (h:aL cx ⟨v,r⟩ a w β) {A:Nat->Prop} (hA:∀b,A b->Av cx r β b) {L:List C} {x:AV} {k:Nat} {y:RF} {u:Value} (hr:Bs r x=some y) (hu:aE cx w r β x u)
  (hL:∀i z,(sO x)[i]? =some z->L[k+i]? =some z):lp A w (γof β L) k y u/\y.cells.length=(sO x).length/\eS r (sO x)=some y.cells:=by
 unfold Bs at hr;split at hr
 .rename_i x;split at hr
  .rename_i y' h1;cases hr;have h2:eS r [x]=some [y']:=by simp[eS,h1]
   have:=vS h hA (L:=L) (k:=k) h2 (us:=[u]) (by simp only[aH];exact⟨u,[],rfl,fa.1 hu,rfl⟩) hL;simp only[cU]at this;obtain⟨u',us',e1,e2,_⟩:=this;cases e1;exact⟨e2,rfl,h2⟩
  .cases hr
 .rename_i l;split at hr
  .rename_i ys h1;cases hr;obtain⟨us,e1,e2⟩:=jX.1 hu;simp only[lp];exact⟨⟨us,e1,vS h hA h1 e2 hL⟩,xB h1,h1⟩
  .cases hr
 .cases hr
theorem B7:∀{l m:List C} {ys zs:List RO},eS r l=some ys->eS r m=some zs->eS r (l++m)=some (ys++zs)
 |[],m,ys,zs,h1,h2=>by simp only[eS,bn]at h1;subst h1;simpa using h2
 |x::l,m,ys,zs,h1,h2=>by
  simp only[eS]at h1;split at h1
  .rename_i y ys' g1 g2;cases h1;simp[eS,g1,B7 g2 h2]
  .cases h1
theorem Dk (h:aL cx ⟨v,r⟩ a w β) {A:Nat->Prop} (hA:∀b,A b->Av cx r β b) {L:List C}:∀{xs:List AV} {k:Nat} {ys:List RF} {us:List Value},pt r xs=some ys->bU cx w r β xs us->
  (∀i z,(iE xs)[i]? =some z->L[k+i]? =some z)->eW A w (γof β L) k ys us/\eS r (iE xs)=some (ys.flatMap RF.cells)
 |[],k,ys,us,hr,hu,_=>by simp only[pt,bn]at hr;subst hr;exact⟨by simpa[bU,eW]using hu,rfl⟩
 |x::xs,k,ys,us,hr,hu,hL=>by
  simp only[pt]at hr;split at hr
  .rename_i y ys' h1 h2;cases hr;simp only[bU]at hu;obtain⟨u,us',rfl,g1,g2⟩:=hu;obtain⟨e1,e2,e3⟩:=ab3 h hA (L:=L) (k:=k) h1 g1 (λ i z hi=>hL i z (by simp only[iE];rw[dA (cG.1 hi).1];exact hi))
   obtain⟨e4,e5⟩:=Dk h hA (L:=L) (k:=k+y.cells.length) h2 g2 (λ i z hi=>by have:=hL ((sO x).length+i) z (by simp only[iE];rw[dL (j5 _ _)];simpa using hi);rw[e2,ey];exact this)
   simp only[eW,fv,iE];exact⟨⟨u,us',rfl,e1,e4⟩,B7 e3 e5⟩
  .cases hr
theorem I1:∀{cs:List (List C)} {objs:List (List RO)},my r cs=some objs->eS r (i4 cs)=some objs.flatten
 |[],objs,h=>by simp only[my,bn]at h;subst h;rfl
 |c::cs,objs,h=>by
  simp only[my]at h;split at h
  .rename_i y ys h1 h2;cases h;simp only[i4,jK];exact B7 h1 (I1 h2)
  .cases h
def fZ (r:Rs):List Pos->List (List C)->Prop
 |[],[]=>True
 | .o p::ps,c::cs=>(∃res,aQ r ⟨p,0,0⟩=some res/\res.var=true/\c=res.cells)/\fZ r ps cs
 | .r p n::ps,c::cs=>(c=[]∨c=[C.own ⟨p,1,0⟩ 0 n])/\fZ r ps cs
 | .h hd::ps,c::cs=>(∃res,aQ r hd=some res/\res.var=true/\c=res.cells)/\fZ r ps cs
 |_,_=>False
theorem F3 {rc:List (Nat×Nat)}:∀{ps:List Pos} {cs:List (List C)},mz r ps=some cs->fZ r ps (kO r rc ps cs)
 |[],cs,h=>by simp only[mz,bn]at h;subst h;simp[kO,fZ]
 | .o p::ps,cs,h=>by
  simp only[mz]at h;split at h
  .rename_i res cs' g1 g2;split at h
   .rename_i hv;cases h;simp only[kO,fZ];exact⟨⟨res,g1,hv,rfl⟩,F3 g2⟩
   .cases h
  .cases h
 | .r p n::ps,cs,h=>by
  simp only[mz]at h;split at h
  .rename_i cs' g2;cases h;simp only[kO,fZ];refine⟨?_,F3 g2⟩;unfold EN;split
   .split
    .exact .inl rfl
    .split
     .exact .inl rfl
     .split
      .exact .inl rfl
      .exact .inr rfl
   .exact .inl rfl
  .cases h
 | .h hd::ps,cs,h=>by simp[mz]at h
theorem z8 {ys:List AV} {ps:List Pos} {cs:List (List C)} (h:AQ r ys ps=some cs):fZ r ps cs:=by
 unfold AQ at h;split at h
 .rename_i cs' g;cases h;exact F3 g
 .cases h
def ed (cx:Cx) (w:World) (r:Rs) (β:Nat->Nat->Pl):List Pos->List dQ->Prop
 |[],[]=>True
 | .o p::ps, .dI b::bs=>(∀res,aQ r ⟨p,0,0⟩=some res->(β p 0).base=some (b,0))/\ed cx w r β ps bs
 | .r p n::ps, .val u::bs=>ay cx w r β (.own ⟨p,1,0⟩ 0 n) u/\ed cx w r β ps bs
 | .h hd::ps, .dI b::bs=>(∀res,aQ r hd=some res->(β hd.s hd.j).base=some (b,0))/\ed cx w r β ps bs
 |_,_=>False
theorem DD (h:aL cx ⟨v,r⟩ a w β) {A:Nat->Prop} (hA:∀b,A b->Av cx r β b) {L:List C}:∀{ps:List Pos} {bs:List dQ} {cs:List (List C)} {objs:List (List RO)} {k:Nat},fZ r ps cs->my r cs=some objs->
  ed cx w r β ps bs->(∀i z,(i4 cs)[i]? =some z->L[k+i]? =some z)->gG A w (γof β L) k objs bs
 |[],[],[],objs,k,h1,h2,hb,hL=>by simp only[my,bn]at h2;subst h2;simp[gG]
 | .o p::ps, .dI b::bs,c0::cs',objs,k,h1,h2,hb,hL=>by
  simp only[fZ]at h1;obtain⟨⟨res,g1,hv,rfl⟩,g2⟩:=h1;simp only[ed]at hb;simp only[my]at h2;split at h2
  .rename_i ys yss g3 g4;cases h2;obtain⟨hl,_⟩:=cp g1;have hok:=(h.rs _ _ _ hl).1;unfold cJ at hok;rw[aj hv]at hok;obtain⟨_,b',c,e,k1,k2,k3,k4⟩:=hok;have hb0:=hb.1 res g1;simp only at k1;rw[hb0]at k1;cases k1;simp only[gG];refine⟨⟨c,e,k2,vS h hA g3 k3 (λ i z hi=>hL i z ?_),k4⟩, ?_⟩
   .simp only[i4];rw[dA (cG.1 hi).1];exact hi
   .refine DD h hA g2 g4 hb.2 λ i z hi=> ?_
    have:=hL (res.cells.length+i) z (by simp only[i4];rw[dL (j5 _ _)];simpa using hi);rw[xB g3,ey];exact this
  .cases h2
 | .h hd::ps, .dI b::bs,c0::cs',objs,k,h1,h2,hb,hL=>by
  simp only[fZ]at h1;obtain⟨⟨res,g1,hv,rfl⟩,g2⟩:=h1;simp only[ed]at hb;simp only[my]at h2;split at h2
  .rename_i ys yss g3 g4;cases h2;obtain⟨hl,_⟩:=cp g1;have hok:=(h.rs _ _ _ hl).1;unfold cJ at hok;rw[aj hv]at hok;obtain⟨_,b',c,e,k1,k2,k3,k4⟩:=hok;have hb0:=hb.1 res g1
   try simp only at k1
   rw[hb0]at k1;cases k1;simp only[gG];refine⟨⟨c,e,k2,vS h hA g3 k3 (λ i z hi=>hL i z ?_),k4⟩, ?_⟩
   .simp only[i4];rw[dA (cG.1 hi).1];exact hi
   .refine DD h hA g2 g4 hb.2 λ i z hi=> ?_
    have:=hL (res.cells.length+i) z (by simp only[i4];rw[dL (j5 _ _)];simpa using hi);rw[xB g3,ey];exact this
  .cases h2
 | .r p n::ps, .val u::bs,c0::cs',objs,k,h1,h2,hb,hL=>by
  simp only[fZ]at h1;obtain⟨g1,g2⟩:=h1;simp only[ed]at hb;simp only[my]at h2;split at h2
  .rename_i ys yss g3 g4;cases h2;simp only[gG];refine⟨?_, ?_⟩
   .rcases g1 with rfl|rfl
    .simp only[eS,bn]at g3;exact .inl g3.symm
    .refine .inr (vS h hA (L:=L) g3 (us:=[u]) (by simp only[aH];exact⟨u,[],rfl,hb.1,rfl⟩) λ i z hi=>hL i z ?_);simp only[i4];rw[dA (cG.1 hi).1];exact hi
   .refine DD h hA g2 g4 hb.2 λ i z hi=> ?_
    have:=hL (c0.length+i) z (by simp only[i4];rw[dL (j5 _ _)];simpa using hi);rw[xB g3,ey];exact this
  .cases h2
 |[],_::_,_,_,_,_,_,hb,_=>by simp[ed]at hb
 | .o _::_,[],_,_,_,_,_,hb,_=>by simp[ed]at hb
 | .h _::_,[],_,_,_,_,_,hb,_=>by simp[ed]at hb
 | .h _::_, .val _::_,_,_,_,_,_,hb,_=>by simp[ed]at hb
 | .h _::_, .dI _::_,[],_,_,h1,_,_,_=>by simp[fZ]at h1
 | .r _ _::_,[],_,_,_,_,_,hb,_=>by simp[ed]at hb
 | .o _::_, .val _::_,_,_,_,_,_,hb,_=>by simp[ed]at hb
 | .r _ _::_, .dI _::_,_,_,_,_,_,hb,_=>by simp[ed]at hb
 | .o _::_, .dI _::_,[],_,_,h1,_,_,_=>by simp[fZ]at h1
 | .r _ _::_, .val _::_,[],_,_,h1,_,_,_=>by simp[fZ]at h1
 |[],[],_::_,_,_,h1,_,_,_=>by simp[fZ]at h1
theorem rz {γ:Nat->Pl}:∀{l:List RO} {k b:Nat},NB γ k l b->∃i sz n ds bo o,l[i]? =some (RO.own sz n ds bo)/\(γ (k+i)).base=some (b,o)
 |[],_,_,h=>h.elim
 | .d x::l,k,b,h=>by obtain⟨i,sz,n,ds,bo,o,h1,h2⟩:=rz (l:=l) (by simpa[NB]using h);exact⟨i+1,sz,n,ds,bo,o,by simpa using h1,by rw[←h2];congr 2;omega⟩
 | .own sz n ds bo::l,k,b,h=>by
  simp only[NB]at h;rcases h with⟨o,h⟩|h
  .exact⟨0,sz,n,ds,bo,o,by simp,h⟩
  .obtain⟨i,sz,n,ds,bo,o,h1,h2⟩:=rz (l:=l) h;exact⟨i+1,sz,n,ds,bo,o,by simpa using h1,by rw[←h2];congr 2;omega⟩
def qP:List Value->Value
 |[x]=>x
 |us=> .tuple us.toArray
theorem D2 (h:aL cx ⟨v,r⟩ a w β) {A1:Nat->Prop} (hA1:∀b,A1 b->Av cx r β b) {ys:List AV} {us:List Value} {u:Value} {ps:List Pos} {bs:List dQ} {cs:List (List C)} {rfs:List RF} {objs:List (List RO)} (hu:bU cx w r β ys us)
  (hus:u=qP us) (h1:pt r ys=some rfs) (h2:fZ r ps cs) (h3:my r cs=some objs) (h4:oN (jg r (iE ys++i4 cs))=true)
  (hb:ed cx w r β ps bs)
  (hbs:∀s j res b o,aF r s j=some res->res.fz=false->res.var=false->(β s j).base=some (b,o)->b ∉ cW bs):
  fl cx.w0 A1 cx.aS w bs rfs objs u:=by
 have hall:eS r (iE ys++i4 cs)=some (cX rfs objs):=by unfold cX;exact B7 (Dk h (A:=λ _=>False) (λ b hb=>hb.elim) (L:=iE ys) (k:=0) h1 hu (λ i z hi=>by simpa using hi)).2 (I1 h3)
 generalize hL:iE ys++i4 cs=L at*;have hown:∀{i sz n b o:Nat} {ds:List D} {bo:Bool},(cX rfs objs)[i]? =some (.own sz n ds bo)->(γof β L i).base=some (b,o)->
   ∃hd lo m res,L[i]? =some (.own hd lo m)/\aQ r hd=some res/\res.fz=false/\(β hd.s hd.j).base=some (b,o)/\bo=res.dR:=λ {i sz n b o ds bo} hi hbase=>by
  obtain⟨x,g1,g2⟩:=GO hall hi;obtain⟨hd,res,rfl,g3,g4,_,_,g5⟩:=Mp g2;unfold γof at hbase;rw[g1]at hbase;exact⟨hd,0,n,res,g1,g3,g4,hbase,g5⟩
 have hNB:∀b,NB (γof β L) 0 (cX rfs objs) b->∃s j res o,aF r s j=some res/\res.fz=false/\(β s j).base=some (b,o)/\∃hd lo m i,hd.s=s/\hd.j=j/\L[i]? =some (C.own hd lo m)/\aQ r hd=some res:=λ b hb'=>by obtain⟨i,sz,n,ds,bo,o,g1,g2⟩:=rz hb';rw[cc]at g2;obtain⟨hd,lo,m,res,g3,g4,g5,g6,_⟩:=hown g1 g2;exact⟨hd.s,hd.j,res,o,(cp g4).1,g5,g6,hd,lo,m,i,rfl,rfl,g3,g4⟩
 have hA:∀b,(A1 b∨NB (γof β L) 0 (cX rfs objs) b)->Av cx r β b:=λ b hb'=>by
  rcases hb' with hb'|hb'
  .exact hA1 b hb'
  .obtain⟨s,j,res,o,g1,g2,g3,_⟩:=hNB b hb';exact .inr ⟨s,j,res,o,g1,g2,g3⟩
 -- a row's handle is no variable's
 have hrow:∀{hd:Hd} {lo m i:Nat} {res:bV},L[i]? =some (C.own hd lo m)->aQ r hd=some res->(cX rfs objs)[i]? ≠none->res.var=false:=λ {hd lo m i res} g1 g2 g3=>by
  cases hi:(cX rfs objs)[i]? with
  |none=>exact absurd hi g3
  |some y=>
   have hlt:i<L.length:=(cG.1 g1).1;by_cases hv:res.var=true
   ·-- its value is a slice of the row:ay says so
    have hcs:∃u,ay cx w r β (.own hd lo m) u:=by
     subst hL;rcases iw i (iE ys).length with hlt2|hge
     .rw[dA hlt2]at g1;have:∀{xs:List AV} {vs:List Value} {k:Nat} {x:C},bU cx w r β xs vs->(iE xs)[k]? =some x->∃u,ay cx w r β x u:=by
       intro xs;induction xs with
       |nil=>intro vs k x _ hk;simp[iE]at hk
       |cons y' xs ih=>
        intro vs k x hvs hk;simp only[bU]at hvs;obtain⟨u0,us0,rfl,e1,e2⟩:=hvs;simp only[iE]at hk;rcases iw k (sO y').length with q|q
        .rw[dA q]at hk;unfold sO at hk;split at hk
         .rename_i x';cases k with
          |zero=>simp only[c9,bn]at hk;subst hk;exact⟨_,fa.1 e1⟩
          |succ k=>simp at hk
         .rename_i l;obtain⟨us1,_,e3⟩:=jX.1 e1;obtain⟨u1,_,e4⟩:=kg e3 hk;exact⟨u1,e4⟩
         .simp at hk
        .rw[dL q]at hk;exact ih e2 hk
      exact this hu g1
     .rw[dL hge]at g1;have:∀{ps:List Pos} {bs:List dQ} {cs:List (List C)} {k:Nat} {x:C},fZ r ps cs->ed cx w r β ps bs->(i4 cs)[k]? =some x->∃u,ay cx w r β x u:=by
       intro ps;induction ps with
       |nil=>intro bs cs k x hcs hp hk;cases cs with
        |nil=>simp[i4]at hk
        |cons c cs=>simp[fZ]at hcs
       |cons p ps ih=>
        intro bs cs k x hcs hp hk;cases cs with
        |nil=>cases p<;>simp[fZ]at hcs
        |cons c0 cs0=>
         cases bs with
         |nil=>cases p<;>simp[ed]at hp
         |cons b0 bs0=>
          simp only[i4]at hk;cases p with
          |o p=>
           cases b0 with
           |val u0=>simp[ed]at hp
           |dI b0=>
            simp only[fZ]at hcs;simp only[ed]at hp;obtain⟨⟨res0,q1,q3,rfl⟩,q2⟩:=hcs;rcases iw k res0.cells.length with q|q
            .rw[dA q]at hk;have hok:=(h.rs _ _ _ (cp q1).1).1;unfold cJ at hok;rw[aj q3]at hok;obtain⟨_,b',c,e,k1,k2,k3,k4⟩:=hok;obtain⟨u1,_,e4⟩:=kg k3 hk;exact⟨u1,e4⟩
            .rw[dL q]at hk;exact ih q2 hp.2 hk
          |h hd=>
           cases b0 with
           |val u0=>simp[ed]at hp
           |dI b0=>
            simp only[fZ]at hcs;simp only[ed]at hp;obtain⟨⟨res0,q1,q3,rfl⟩,q2⟩:=hcs;rcases iw k res0.cells.length with q|q
            .rw[dA q]at hk;have hok:=(h.rs _ _ _ (cp q1).1).1;unfold cJ at hok;rw[aj q3]at hok;obtain⟨_,b',c,e,k1,k2,k3,k4⟩:=hok;obtain⟨u1,_,e4⟩:=kg k3 hk;exact⟨u1,e4⟩
            .rw[dL q]at hk;exact ih q2 hp.2 hk
          |r p n=>
           cases b0 with
           |dI b0=>simp[ed]at hp
           |val u0=>
            simp only[fZ]at hcs;simp only[ed]at hp;rcases iw k c0.length with q|q
            .rw[dA q]at hk;rcases hcs.1 with rfl|rfl
             .simp at q
             .cases k with
              |zero=>simp only[c9,bn]at hk;subst hk;exact⟨_,hp.1⟩
              |succ k=>simp at hk
            .rw[dL q]at hk;exact ih hcs.2 hp.2 hk
      exact this h2 hb g1
    obtain⟨u,hu'⟩:=hcs;simp only[ay]at hu';exact(hu'.2.2 res g2).1
   .simpa using hv
 refine⟨⟨γof β L,us,by rw[hus];rfl, ?_, ?_,λ b hb'=> ?_,λ i sz n ds b o hi hbi=> ?_,λ i j b o o' sz n ds bo sz' n' ds' bo' hi hj hbi hbj=> ?_⟩,h.n0,h.bZ,h.os,h.out⟩
 .exact(Dk h hA (L:=L) (k:=0) h1 hu (λ i z hi=>by rw[cc,←hL,dA (cG.1 hi).1];exact hi)).1
 .have e1:(iE ys).length=(rfs.flatMap RF.cells).length:=by have:=xB (Dk h (A:=λ _=>False) (λ b hb=>hb.elim) (L:=iE ys) (k:=0) h1 hu (λ i z hi=>by simpa using hi)).2;exact this.symm
  exact DD h hA (L:=L) h2 h3 hb (λ i z hi=>by rw[←hL,←e1,dL (j5 _ _)];simpa using hi)
 .obtain⟨i,sz,n,ds,bo,o,g1,g2⟩:=rz hb';rw[cc]at g2;obtain⟨hd,lo,m,res,g3,g4,g5,g6,_⟩:=hown g1 g2;have hlk:=(cp g4).1;exact⟨(h.fr _ _ _ _ _ hlk g5 g6).1,hbs _ _ _ _ _ hlk g5 (hrow g3 g4 (by rw[g1];simp)) g6⟩
 .obtain⟨hd,lo,m,res,g3,g4,g5,g6,g7⟩:=hown hi hbi;exact(h.fr _ _ _ _ _ (cp g4).1 g5 g6).2 g7.symm
 .obtain⟨hd,lo,m,res,g3,g4,g5,g6,_⟩:=hown hi hbi;obtain⟨hd',lo',m',res',g3',g4',g5',g6',_⟩:=hown hj hbj;obtain⟨e1,e2⟩:=h.inj _ _ _ _ _ _ _ _ _ (cp g4).1 g5 (cp g4').1 g5' g6 g6';exact G' h4 g3 g3' (by rw[AB g4 g5];exact jE.2 rfl) (by rw[AB g4' g5',e1,e2];exact jE.2 rfl)
end
section
variable {cx:Cx} {v:List AV} {r r':Rs} {a:Act} {w w':World} {β β':Nat->Nat->Pl} {T:Nat->Option TI} {c:Bool} {mv:Mv}
def Mv.has:Mv->Nat->Prop
 | .o _,_=>True
 | .r h _,j=>j=h.j
def MB (r:Rs) (β:Nat->Nat->Pl) (mv:Mv) (b:Nat):Prop:=
 ∃j res o,mv.has j/\aF r mv.s j=some res/\res.fz=false/\(β mv.s j).base=some (b,o)
theorem MB.ob {b:Nat} (h:MB r β mv b):OB r β b:=by obtain⟨j,res,o,_,h2,h3,h4⟩:=h;exact⟨mv.s,j,res,o,h2,h3,h4⟩
theorem MB.fr (h:aL cx ⟨v,r⟩ a w β) {b:Nat} (hb:MB r β mv b):cx.n0≤b∨cx.aS b:=by obtain⟨j,res,o,_,h2,h3,h4⟩:=hb;exact(h.fr _ _ _ _ _ h2 h3 h4).1
theorem MB.lt (h:aL cx ⟨v,r⟩ a w β) {b:Nat} (hb:MB r β mv b):b<w.heap.size:=by obtain⟨j,res,o,_,h2,h3,h4⟩:=hb;exact(h.rs _ _ _ h2).1.lt h4
theorem Er (h:aL cx ⟨v,r⟩ a w β) {b:Nat} (hb:b<w.heap.size) (ht:sb cx (Av cx r β) b):sb (fK cx.P w (Av cx r β) (MB r β mv)) (Av (fK cx.P w (Av cx r β) (MB r β mv)) [] β0) b:=by
 refine .inr ⟨hb,λ hm=> ?_⟩;rcases ht with ht|⟨h1,h2⟩
 .exact ht (.inr hm.ob)
 .rcases hm.fr h with h3|h3
  .exact absurd h1 (Nat.not_lt.2 h3)
  .exact h2 h3
theorem zG (h:aL cx ⟨v,r⟩ a w β) {s j b o:Nat} {res:bV} (hl:aF r s j=some res) (hb:(β s j).base=some (b,o)) (hs:s≠mv.s) (hlt:b<w.heap.size):
  sb (fK cx.P w (Av cx r β) (MB r β mv)) (Av (fK cx.P w (Av cx r β) (MB r β mv)) [] β0) b:=by
 refine .inr ⟨hlt,λ hm=> ?_⟩;obtain⟨k,res',o',_,h2,h3,h4⟩:=hm;cases hf:res.fz with
 |false=>exact hs (h.inj _ _ _ _ _ _ _ _ _ hl hf h2 h3 hb h4).1
 |true=>
  have hok:=(h.rs _ _ _ hl).1;unfold cJ at hok;rw[aa (by simp[h.vz _ _ _ hl hf])]at hok;obtain⟨_,_,_,g⟩:=hok;exact g hf b o hb (.inr ⟨_,k,res',o',h2,h3,h4⟩)
theorem Yw {ds:List D} {b o:Nat} (h:pd cx w r β (ds.map C.d) b o):cA w (Av cx r β) (λ b'=>b'=b) ds (some ⟨b,o,none⟩):=
 cA.mk (T:=λ b'=>b'=b) rfl λ k d hk=>by obtain⟨u,h1,h2,_⟩:=h k (.d d) (by rw[ji,hk];rfl);simp only[ay]at h2;exact⟨u,h1,h2⟩
abbrev yP (cx:Cx) (w:World) (r:Rs) (β:Nat->Nat->Pl) (mv:Mv):Cx:=fK cx.P w (Av cx r β) (MB r β mv)
theorem Yo (h:aL cx ⟨v,r⟩ a w β) {hd:Hd} {lo n:Nat} {y:C} {u:Value} (hl:bW r (.own hd lo n)=some y) (hs:mv.s≠hd.s) (hu:ay cx w r β (.own hd lo n) u):ay (yP cx w r β mv) w [] β0 y u:=by
  simp only[bW,rowOf]at hl;simp only[ay]at hu;cases hg:aQ r hd with
  |none=>simp[hg]at hl
  |some res=>
   simp only[hg]at hl;cases hds:dC (sub lo n res.sz res.cells)with
   |none=>simp[hds]at hl
   |some ds=>
    simp only[hds,bn]at hl;subst hl;have hown:=hu.2.2 res hg;obtain⟨hlk,_⟩:=cp hg;obtain⟨ds0,k1,k2,k3⟩:=(h.rs _ _ _ hlk).1.row hown.1;rw[k1,mU,je]at hds;cases hds;obtain⟨ad,cap,m1,m2,m3⟩:=xF (Tp:=λ b=>∃o,(β hd.s hd.j).base=some (b,o)) hown k2 k1 (λ b o hb=>⟨o,hb⟩);simp only[ay];exact⟨ad,cap,m1,m2,m3.mZ (λ b hb=>kH.1 hb) (λ b hb ⟨o,ho⟩=>zG h hlk ho (λ e=>hs e.symm) hb)⟩
theorem YG (h:aL cx ⟨v,r⟩ a w β) {s:Nat} {x y:C} {u:Value} (hl:mA r s x=some y) (hs:mv.s≠s) (hu:ay cx w r β x u):ay (yP cx w r β mv) w [] β0 y u:=by
 unfold mA at hl;split at hl
 .cases hl;simp only[ay]at hu⊢;exact(GG hu).dy ⟨λ _ _ _=>rfl,λ b _ hb=>kH.1 hb⟩
 .cases hl;simp only[ay]at hu⊢;obtain⟨ad,cap,h1,h2,h3⟩:=hu;exact⟨ad,cap,h1,h2,h3.mZ (λ b hb=>kH.1 hb) (λ b hb ht=>Er h hb ht)⟩
 .split at hl
  .rename_i hd lo n e;refine Yo h (hd:=hd) (lo:=lo) (n:=n) ?_ (by rw[e];exact hs) hu;simpa only[bW]using hl
  .cases hl
 .cases hl
theorem JG (h:aL cx ⟨v,r⟩ a w β) {s:Nat}:∀{xs ys:List C} {us:List Value},mX r s xs=some ys->mv.s≠s->aH cx w r β xs us->aH (yP cx w r β mv) w [] β0 ys us
 |[],ys,us,hl,_,hu=>by simp only[mX,bn]at hl;subst hl;simpa[aH]using hu
 |x::xs,ys,us,hl,hs,hu=>by
  simp only[mX]at hl;split at hl
  .rename_i y ys' g1 g2;cases hl;simp only[aH]at hu⊢;obtain⟨u,us',rfl,h1,h2⟩:=hu;exact⟨u,us',rfl,YG h g1 hs h1,JG h g2 hs h2⟩
  .cases hl
mutual
theorem K6 (h:aL cx ⟨v,r⟩ a w β):∀{x y:C} {u:Value},bW r x=some y->mv.s ∉ ck x->ay cx w r β x u->ay (yP cx w r β mv) w [] β0 y u
 | .d x,y,u,hl,_,hu=>by simp only[bW,bn]at hl;subst hl;simp only[ay]at hu⊢;exact hu.dy ⟨λ _ _ _=>rfl,λ b _ hb=>kH.1 hb⟩
 | .aC n ds,y,u,hl,_,hu=>by simp only[bW,bn]at hl;subst hl;simp only[ay]at hu⊢;obtain⟨ad,cap,h1,h2,h3⟩:=hu;exact⟨ad,cap,h1,h2,h3.mZ (λ b hb=>kH.1 hb) (λ b hb ht=>Er h hb ht)⟩
 | .own hd lo n,y,u,hl,hs,hu=>by
  simp only[bW,rowOf]at hl;simp only[ay]at hu;cases hg:aQ r hd with
  |none=>simp[hg]at hl
  |some res=>
   simp only[hg]at hl;cases hds:dC (sub lo n res.sz res.cells)with
   |none=>simp[hds]at hl
   |some ds=>
    simp only[hds,bn]at hl;subst hl;have hown:=hu.2.2 res hg;obtain⟨hlk,_⟩:=cp hg;obtain⟨ds0,k1,k2,k3⟩:=(h.rs _ _ _ hlk).1.row hown.1;rw[k1,mU,je]at hds;cases hds;obtain⟨ad,cap,m1,m2,m3⟩:=xF (Tp:=λ b=>∃o,(β hd.s hd.j).base=some (b,o)) hown k2 k1 (λ b o hb=>⟨o,hb⟩);simp only[ay];exact⟨ad,cap,m1,m2,m3.mZ (λ b hb=>kH.1 hb) (λ b hb ⟨o,ho⟩=>zG h hlk ho (λ e=>hs (by simp[ck,←e])) hb)⟩
 | .ptr hd off,y,u,hl,hs,hu=>by
  simp only[bW]at hl;split at hl
  .rename_i res g1;split at hl
   .rename_i ds g2;cases hl;simp only[ay]at hu⊢;obtain⟨b,o,k1,k2⟩:=hu.2.2 res g1;obtain⟨hlk,_⟩:=cp g1;have hcs:=((h.rs _ _ _ hlk).1.cells k1).drop (k:=off);rw[G2 g2]at hcs;exact⟨b,o+off,k2,(Yw hcs).mZ (λ b hb=>kH.1 hb) (λ b' hb e=>by subst e;exact zG h hlk k1 (λ e=>hs (by simp[ck,←e])) hb)⟩
   .split at hl
    .rename_i cs g3;cases hl;simp only[ay]at hu⊢;obtain⟨b,o,k1,k2⟩:=hu.2.2 res g1;obtain⟨hlk,_⟩:=cp g1;have hb:=(h.rs _ _ _ hlk).1.lt k1;have hcs:=((h.rs _ _ _ hlk).1.cells k1).drop (k:=off);obtain⟨us,p1,p2⟩:=JD hcs;exact⟨b,o+off,us,k2,hb,zG h hlk k1 (λ e=>hs (by simp[ck,←e])) hb,p1,JG h g3 (by simpa[ck]using hs) p2⟩
    .cases hl
  .cases hl
 | .fJ ds,y,u,hl,_,hu=>by simp only[bW,bn]at hl;subst hl;simp only[ay]at hu⊢;obtain⟨b,o,h1,h3⟩:=hu;exact⟨b,o,h1,h3.mZ (λ b hb=>kH.1 hb) (λ b hb ht=>Er h hb ht)⟩
 | .fx f caps,y,u,hl,hs,hu=>by
  simp only[bW]at hl;split at hl
  .rename_i cs g1;cases hl;simp only[ay]at hu⊢;obtain⟨us,h1,h2⟩:=hu;exact⟨us,h1,xr h g1 (by simpa[ck]using hs) h2⟩
  .cases hl
 | .ab,y,u,hl,_,_=>by simp[bW]at hl
 | .dead,y,u,hl,_,_=>by simp[bW]at hl
 | .ib cs,y,u,hl,hs,hu=>by
  simp only[bW]at hl;split at hl
  .rename_i ys g1;cases hl;simp only[ay]at hu⊢;obtain⟨b,o,us,h1,h2,h3,h4,h5⟩:=hu;exact⟨b,o,us,h1,h2,Er h h2 h3,h4,xr h g1 (by simpa[ck]using hs) h5⟩
  .cases hl
 | .lk _ _ _,y,u,hl,_,_=>by simp[bW]at hl
 | .eX hd lo n k,y,u,hl,hs,hu=>by
  simp only[bW,rowOf]at hl;simp only[ay]at hu;cases hg:aQ r hd with
  |none=>simp[hg]at hl
  |some res=>
   simp only[hg]at hl;cases hds:dC (sub lo n res.sz res.cells)with
   |none=>simp[hds]at hl
   |some ds=>
    simp only[hds,bn]at hl;subst hl;obtain⟨x1,x2,x3,ad,rfl,x4⟩:=hu;obtain⟨y1,y2⟩:=x4 res hg;obtain⟨hlk,_⟩:=cp hg;obtain⟨ds0,k1,k2,k3⟩:=(h.rs _ _ _ hlk).1.row y1;rw[k1,mU,je]at hds;cases hds;have m3:=Gy (Tp:=λ b=>∃o,(β hd.s hd.j).base=some (b,o)) x3 y2 k2 (λ b o hb=>⟨o,hb⟩);simp only[ay];exact⟨ad,_,rfl,by omega,m3.mZ (λ b hb=>kH.1 hb) (λ b hb ⟨o,ho⟩=>zG h hlk ho (λ e=>hs (by simp[ck,←e])) hb)⟩
theorem xr (h:aL cx ⟨v,r⟩ a w β):∀{xs ys:List C} {us:List Value},bW.lendCs r xs=some ys->mv.s ∉ cK xs->aH cx w r β xs us->aH (yP cx w r β mv) w [] β0 ys us
 |[],ys,us,hl,_,hu=>by simp only[bW.lendCs,bn]at hl;subst hl;simpa[aH]using hu
 |x::xs,ys,us,hl,hs,hu=>by
  simp only[bW.lendCs]at hl;simp only[cK,dN,kY]at hs;split at hl
  .rename_i y ys' g1 g2;cases hl;simp only[aH]at hu⊢;obtain⟨u,us',h1,h2,h3⟩:=hu;exact⟨u,us',h1,K6 h g1 hs.1 h2,xr h g2 hs.2 h3⟩
  .cases hl
end
theorem Ky (h:aL cx ⟨v,r⟩ a w β) {x y:AV} {u:Value} (hl:qs r x=some y) (hs:mv.s ∉ cj x) (hu:aE cx w r β x u):aE (yP cx w r β mv) w [] β0 y u:=by
 unfold qs at hl;split at hl
 .split at hl
  .rename_i y' g1;cases hl;exact fa.2 (K6 h g1 (by simpa[cj]using hs) (fa.1 hu))
  .cases hl
 .split at hl
  .rename_i y' g1;cases hl;obtain⟨us,h1,h2⟩:=jX.1 hu;exact jX.2 ⟨us,h1,xr h g1 (by simpa[cj]using hs) h2⟩
  .cases hl
 .cases hl
theorem Ck (h:aL cx ⟨v,r⟩ a w β) {γ:Nat->Pl} {k:Nat} {bs:List dQ}:∀{xs:List AV} {ys:List Arg} {us:List Value},gD r xs=some ys->mv.s ∉ i3 xs->bU cx w r β xs us->
  ∀{zs:List Arg} {vs:List Value},bP cx.P w (Av cx r β) (MB r β mv) γ k zs bs vs->bP cx.P w (Av cx r β) (MB r β mv) γ k (ys++zs) bs (us++vs)
 |[],ys,us,hl,_,hu,zs,vs,hz=>by simp only[gD,bn]at hl;subst hl;simp only[bU]at hu;subst hu;simpa using hz
 |x::xs,ys,us,hl,hs,hu,zs,vs,hz=>by
  simp only[gD]at hl;simp only[i3,dN,kY]at hs;split at hl
  .rename_i y ys' g1 g2;cases hl;simp only[bU]at hu;obtain⟨u,us',rfl,h2,h3⟩:=hu;simp only[dW,bP];exact⟨u,us'++vs,rfl,Ky h g1 hs.1 h2,Ck h g2 hs.2 h3 hz⟩
  .cases hl
def γM (r:Rs) (β:Nat->Nat->Pl) (mv:Mv):Nat->Pl:=
 match mv with
 | .o h=>match aQ r h with
  |some res=>γof β res.cells
  |none=>λ _=>⟨none,0⟩
 | .r h _=>λ _=>β h.s h.j
theorem KA {s:Nat}:∀{l:List (Nat×Nat)},tn s l=true->∀p∈l,p.1=s
 |[],_,p,hp=>by simp at hp
 |q::l,h,p,hp=>by
  simp only[tn,bM,iz]at h;rcases cF.1 hp with rfl|hp
  .exact h.1
  .exact KA h.2 p hp
def Bl (r:Rs) (β:Nat->Nat->Pl) (mv:Mv) (hold:dQ) (u:Value):Prop:=
 match mv with
 | .o hd=>∃res b,aQ r hd=some res/\res.var=true/\hd.j=0/\(β hd.s 0).base=some (b,0)/\hold= .dI b
 | .r hd n=>hold= .val u/\∃res,aQ r hd=some res/\res.fz=false/\pG (β hd.s hd.j) res 0 n u
theorem Fm:∀{l a b:List C} {q:Hd×Nat×Nat},oW l=some (a,q,b)->l=a++ .own q.1 q.2.1 q.2.2::b
 |[],_,_,_,h=>by simp[oW]at h
 |x::xs,a,b,q,h=>by
  simp only[oW]at h;cases hx:A9 x with
  |some q'=>
   rw[hx]at h;cases h;unfold A9 at hx;split at hx
   .cases hx;rfl
   .cases hx
  |none=>
   rw[hx]at h;simp only at h;cases hs:oW xs with
   |none=>rw[hs]at h;cases h
   |some z=>
    obtain⟨a',q',b'⟩:=z;rw[hs]at h;cases h;rw[Fm hs];rfl
theorem JN:∀{l m:List C} {us:List Value},aH cx w r β (l++m) us->∃vs ws,us=vs++ws/\aH cx w r β l vs/\aH cx w r β m ws
 |[],m,us,h=>⟨[],us,rfl,by simp[aH],h⟩
 |x::l,m,us,h=>by simp only[dW,aH]at h⊢;obtain⟨u,us',rfl,h1,h2⟩:=h;obtain⟨vs,ws,rfl,g1,g2⟩:=JN h2;exact⟨u::vs,ws,rfl,⟨u,vs,rfl,h1,g1⟩,g2⟩
theorem Zu (h:aL cx ⟨v,r⟩ a w β) {x:AV} {y:Arg} {u:Value} {dst:Option Nat} {aC:List Nat} {l':List RO} (hm:iT r x=some (y,mv)) (hsc:fA r dst mv aC l') (hu:aE cx w r β x u):
  ∃hold u1,(∀(zs:List Arg) (vs:List Value),(∀k,bP cx.P w (Av cx r β) (MB r β mv) (γM r β mv) k zs [] vs)->bP cx.P w (Av cx r β) (MB r β mv) (γM r β mv) 0 (y::zs) [hold] (u::vs))/\
   (∀b,NB (γM r β mv) 0 (cn [y]) b->MB r β mv b/\b ∉ cW [hold])/\uZ (γM r β mv) (cn [y])/\
   Bl r β mv hold u1:=by
 cases x with
 |agg l=>
  simp only[iT]at hm;cases hsp:oW l with
  |none=>rw[hsp]at hm;cases hm
  |some q=>
   obtain⟨a0,⟨hd,lo,n⟩,b0⟩:=q;rw[hsp]at hm;simp only at hm;cases hla:bW.lendCs r a0 with
   |none=>rw[hla]at hm;cases hm
   |some a1=>
   cases hlb:bW.lendCs r b0 with
   |none=>rw[hla,hlb]at hm;cases hm
   |some b1=>
   cases hg:aQ r hd with
   |none=>rw[hla,hlb,hg]at hm;cases hm
   |some res=>
   rw[hla,hlb,hg]at hm;simp only at hm;cases hds:dC res.cells with
   |none=>simp[hds]at hm
   |some ds=>
    simp only[hds]at hm;by_cases hcond:res.var=false/\res.fz=false/\lo=0/\(cK a0++cK b0).contains hd.s=false
    .rw[aj hcond]at hm;obtain⟨hv,hf,rfl,hns⟩:=hcond;cases hm;simp only[A2,dN,gg,kY]at hns;have hl:=Fm hsp;subst hl;obtain⟨us,rfl,hus⟩:=jX.1 hu;obtain⟨vs,ws0,e1,hva,hwb0⟩:=JN hus;simp only[aH]at hwb0;obtain⟨u1,ws,rfl,hr,hwb⟩:=hwb0;simp only[ay]at hr;have hown:=hr.2.2 res hg;obtain⟨hlk,_⟩:=cp hg;obtain⟨ds0,k1,k2,k3⟩:=(h.rs _ _ _ hlk).1.row hv;rw[k1,je]at hds;cases hds;have hγ:∀k,γM r β (.r hd n) k=β hd.s hd.j:=λ k=>by simp[γM]
     have hus2:Value.agg us= .agg (vs++u1::ws).toArray:=by rw[←e1]
     refine⟨.val u1,u1,λ zs vs' hz=> ?_,λ bb hb=> ?_,λ i j bb o o' sz n ds bo sz' n' ds' bo' hi hj' hbi hbj=> ?_,rfl,res,hg,hf,hown⟩
     .simp only[bP];refine⟨vs,u1,ws,[],vs',by rw[hus2],rfl,xr (mv:= .r hd n) h hla hns.1 hva,xr (mv:= .r hd n) h hlb hns.2 hwb, ?_,hz _⟩;rw[hγ];simp only[d9];obtain⟨_,h2,h3,ad,h4,h5⟩:=hown;refine⟨by rw[k1]at h2;simpa using h2,by omega,k2,ad,by simpa using h4, ?_⟩;rcases h5 with h5|⟨b,o,h5,h6⟩
      .exact .inl (by simpa using h5)
      .exact .inr ⟨b,o,h5,by simpa using h6⟩
     .simp only[cn,NB,hγ]at hb;rcases hb with⟨o,hb⟩|hb
      .exact⟨⟨hd.j,res,o,rfl,hlk,hf,hb⟩,by simp[cW]⟩
      .exact hb.elim
     .simp only[cn]at hi hj';cases i with
      |zero=>cases j with
       |zero=>rfl
       |succ j=>simp at hj'
      |succ i=>simp at hi
    .rw[aa hcond]at hm;cases hm
 |ig _=>simp[iT]at hm
 |gd _ _=>simp[iT]at hm
 |one x=>
 cases x with
 |d _=>simp[iT]at hm
 |aC _ _=>simp[iT]at hm
 |fJ _=>simp[iT]at hm
 |fx _ _=>simp[iT]at hm
 |ab=>simp[iT]at hm
 |dead=>simp[iT]at hm
 |eX=>simp[iT]at hm
 |lk=>simp[iT]at hm
 |ib=>simp[iT]at hm
 |ptr hd off=>
  simp only[iT]at hm;cases hg:aQ r hd with
  |none=>simp[hg]at hm
  |some res=>
   simp only[hg]at hm;cases hro:eS r res.cells with
   |none=>simp[hro]at hm
   |some l=>
    simp only[hro]at hm;by_cases hcond:res.var=true/\hd.j=0/\off=0/\((cK res.cells).all (·==hd.s)&&(tn hd.s (jg r res.cells)&&oN (jg r res.cells)))=true
    .rw[aj hcond]at hm;obtain⟨hv,hj,rfl,hc4⟩:=hcond;simp only[bM]at hc4;obtain⟨_,hhome,hnd⟩:=hc4;cases hm;simp only[fA,hg]at hsc;have hr:=fa.1 hu;simp only[ay]at hr;obtain⟨b,o,e1,e2⟩:=hr.2.2 res hg;obtain⟨hlk,_⟩:=cp hg;have hok:=(h.rs _ _ _ hlk).1;unfold cJ at hok;rw[aj hv]at hok;obtain⟨hf,b',c,e,k1,k2,k3,k4⟩:=hok;rw[e1]at k1;cases k1;have hγ:γM r β (.o hd)=γof β res.cells:=by simp[γM,hg]
     have hrow:∀{i sz n bb oo:Nat} {ds:List D} {bo:Bool},l[i]? =some (.own sz n ds bo)->(γof β res.cells i).base=some (bb,oo)->
       ∃hd' m res',res.cells[i]? =some (.own hd' 0 m)/\aQ r hd'=some res'/\res'.fz=false/\hd'.s=hd.s/\(β hd'.s hd'.j).base=some (bb,oo)/\res'.var=false:=λ {i sz n bb oo ds bo} hi hb=>by
      obtain⟨x,g1,g2⟩:=GO hro hi;obtain⟨hd',res',rfl,g3,g4,_,_,_⟩:=Mp g2;unfold γof at hb;rw[g1]at hb;have hmem:=CD (r:=r) (p:=(hd'.s,hd'.j)) g1 (by rw[AB g3 g4];simp);obtain⟨u1,_,e4⟩:=kg k3 g1;simp only[ay]at e4;exact⟨hd',n,res',g1,g3,g4,KA hhome _ hmem,hb,(e4.2.2 res' g3).1⟩
     refine⟨.dI b,u,λ zs vs hz=> ?_,λ bb hb=> ?_,λ i j bb o o' sz n ds bo sz' n' ds' bo' hi hj' hbi hbj=> ?_,res,b,hg,hv,hj, ?_,rfl⟩
     .simp only[bP];refine⟨b,[],vs,c,e,by rw[e2],rfl,⟨hd.j,res,0,trivial,hlk,hf,e1⟩,k2, ?_,k4,hz _⟩;rw[hγ];exact vS h (λ b hb=>hb) hro k3 (λ i x hi=>by simpa using hi)
     .rw[hγ]at hb;simp only[cn,fe]at hb;obtain⟨i,sz,n,ds,bo,o2,g1,g2⟩:=rz hb;rw[cc]at g2;obtain⟨hd',m,res',q1,q2,q3,q4,q5,q6⟩:=hrow g1 g2;have hlk':=(cp q2).1;refine⟨⟨hd'.j,res',o2,trivial,by show aF r hd.s _=_;rw[←q4];exact hlk',q3,by show(β hd.s _).base=_;rw[←q4];exact q5⟩,λ hmem=> ?_⟩;simp only[cW,jE]at hmem;subst hmem;obtain⟨p1,p2⟩:=h.inj _ _ _ _ _ _ _ _ _ hlk' q3 hlk hf q5 e1;rw[p1,p2,hlk]at hlk';cases hlk';rw[hv]at q6;cases q6
     .rw[hγ]at hbi hbj;simp only[cn,fe]at hi hj';obtain⟨hd1,m1,iC,q1,q2,q3,q4,q5,q6⟩:=hrow hi hbi;obtain⟨hd2,m2,res2,p1,p2,p3,p4,p5,p6⟩:=hrow hj' hbj;obtain⟨t1,t2⟩:=h.inj _ _ _ _ _ _ _ _ _ (cp q2).1 q3 (cp p2).1 p3 q5 p5;exact G' hnd q1 p1 (by rw[AB q2 q3];exact jE.2 rfl) (by rw[AB p2 p3,t1,t2];exact jE.2 rfl)
     .rw[hj]at e1;exact e1
    .rw[aa hcond]at hm;cases hm
 |own hd lo n=>
  simp only[iT]at hm;cases hg:aQ r hd with
  |none=>simp[hg]at hm
  |some res=>
   simp only[hg]at hm;cases hds:dC res.cells with
   |none=>simp[hds]at hm
   |some ds=>
    simp only[hds]at hm;by_cases hcond:res.var=false/\res.fz=false/\lo=0
    .rw[aj hcond]at hm;obtain⟨hv,hf,rfl⟩:=hcond;cases hm;have hr:=fa.1 hu;simp only[ay]at hr;have hown:=hr.2.2 res hg;obtain⟨hlk,_⟩:=cp hg;obtain⟨ds0,k1,k2,k3⟩:=(h.rs _ _ _ hlk).1.row hv;rw[k1,je]at hds;cases hds;have hγ:∀k,γM r β (.r hd n) k=β hd.s hd.j:=λ k=>by simp[γM]
     refine⟨.val u,u,λ zs vs hz=> ?_,λ bb hb=> ?_,λ i j bb o o' sz n ds bo sz' n' ds' bo' hi hj' hbi hbj=> ?_,rfl,res,hg,hf,hown⟩
     .simp only[bP];refine⟨u,[],vs,rfl,rfl, ?_,hz _⟩;rw[hγ];simp only[d9];obtain⟨_,h2,h3,ad,h4,h5⟩:=hown;refine⟨by rw[k1]at h2;simpa using h2,by omega,k2,ad,by simpa using h4, ?_⟩;rcases h5 with h5|⟨b,o,h5,h6⟩
      .exact .inl (by simpa using h5)
      .exact .inr ⟨b,o,h5,by simpa using h6⟩
     .simp only[cn,NB,hγ]at hb;rcases hb with⟨o,hb⟩|hb
      .exact⟨⟨hd.j,res,o,rfl,hlk,hf,hb⟩,by simp[cW]⟩
      .exact hb.elim
     .simp only[cn]at hi hj';cases i with
      |zero=>cases j with
       |zero=>rfl
       |succ j=>simp at hj'
      |succ i=>simp at hi
    .rw[aa hcond]at hm;cases hm
theorem FZ (h:aL cx ⟨v,r⟩ a w β) {dst:Option Nat} {aC:List Nat} {l':List RO}:∀{i:Nat} {xs:List AV} {ys:List Arg} {us:List Value},lJ r i xs=some (ys,mv)->fA r dst mv aC l'->mv.s ∉ mW i xs->bU cx w r β xs us->
  ∃x y u hold,iT r x=some (y,mv)/\
   (∀(zs:List Arg) (vs:List Value),(∀k,bP cx.P w (Av cx r β) (MB r β mv) (γM r β mv) k zs [] vs)->bP cx.P w (Av cx r β) (MB r β mv) (γM r β mv) 0 (ys++zs) [hold] (us++vs))/\
   cn ys=cn [y]/\
   (∀b,NB (γM r β mv) 0 (cn [y]) b->MB r β mv b/\b ∉ cW [hold])/\uZ (γM r β mv) (cn [y])/\
   Bl r β mv hold u
 |_,[],ys,us,hm,_,_,_=>by simp[lJ]at hm
 |0,x::xs,ys,us,hm,hsc,hs,hu=>by
  simp only[lJ]at hm;split at hm
  .rename_i y mv' ys' g1 g2;cases hm;simp only[bU]at hu;obtain⟨u,us',rfl,h1,h2⟩:=hu;obtain⟨hold,u1,q1,q2,q3,q4⟩:=Zu h g1 hsc h1;refine⟨x,y,u1,hold,g1,λ zs vs hz=> ?_, ?_,q2,q3,q4⟩
   .exact q1 (ys'++zs) (us'++vs) (λ k=>Ck h g2 (by simpa[mW]using hs) h2 (hz k))
   .have:=qW [y] ys';simp only[dW,c5]at this;rw[this,qY g2,fe]
  .cases hm
 |i+1,x::xs,ys,us,hm,hsc,hs,hu=>by
  simp only[lJ]at hm;split at hm
  .rename_i y ys' mv' g1 g2;cases hm;simp only[mW,dN,kY]at hs;simp only[bU]at hu;obtain⟨u,us',rfl,h1,h2⟩:=hu;obtain⟨x',y',u',hold,q0,q1,q2,q3⟩:=FZ h g2 hsc hs.2 h2;refine⟨x',y',u',hold,q0,λ zs vs hz=> ?_,q2,q3⟩;simp only[dW,bP];exact⟨u,us'++vs,rfl,Ky h g1 hs.1 h1,q1 zs vs hz⟩
  .cases hm
end
section
variable {cx:Cx} {v:List AV} {r r':Rs} {a:Act} {w w':World} {β β':Nat->Nat->Pl} {T:Nat->Option TI} {c:Bool} {mv:Mv}
theorem aL.fF (h:aL cx ⟨v,r⟩ a w β) {L:List RO} {γ:Nat->Pl} {bl:List Nat} {idx:Nat->Nat×Nat}
  (nx:∀s,ar r s≤ar r' s)
  (bZ:∀(hd:Hd) (res':bV),hd.e<ar r hd.s->aQ r' hd=some res'->
   ∃res,aQ r hd=some res/\β' hd.s hd.j=β hd.s hd.j/\res'.var=res.var/\res'.sz=res.sz/\res.cells.length≤res'.cells.length)
  (cls:∀s j res,aF r' s j=some res->res.e<ar r' s/\
   ((aF r s j=some res/\β' s j=β s j/\¬(s=mv.s/\mv.has j))∨
    (∃m sz n ds bo,L[m]? =some (.own sz n ds bo)/\β' s j=γ m/\res.var=false/\res.fz=false/\res.sz=sz/\res.cells=ds.map C.d/\(res.dR=false->bo=false∨∀b,MB r β mv b->cx.n0≤b)/\idx m=(s,j))∨
    (∃res0 b,aF r s j=some res0/\res0.fz=false/\s=mv.s/\mv.has j/\β' s j=β s j/\res.var=true/\res.fz=false/\res.dR=res0.dR/\(β s j).base=some (b,0)/\b∈bl/\
     ∃cs e,w'.heap[b]? =some (.cells cs e (0,0))/\(∀u∈cs.toList,flat u=true)/\(Ext cx w r β w' r' β'->(∀b,Av cx r' β' b->Av cx r β b∨NB γ 0 L b)->aH cx w' r' β' res.cells cs.toList))))
  (hrow:∀m sz n ds bo,L[m]? =some (.own sz n ds bo)->dm w' (λ b=>Av cx r β b∨NB γ 0 L b) (γ m) sz ds)
  (hnb:∀b,NB γ 0 L b->(w.heap.size≤b∨MB r β mv b)/\b ∉ bl)
  (hfresh:∀(i sz n:Nat) (ds:List D) (b o:Nat),L[i]? =some (.own sz n ds false)->(γ i).base=some (b,o)->w.heap.size≤b)
  (hap:uZ γ L) (hsz:w.heap.size≤w'.heap.size) (hold:∀b,b<w.heap.size->¬MB r β mv b->w'.heap[b]? =w.heap[b]?) (hos:w'.os=w.os) (hout:w'.output=w.output):
  aL cx ⟨v,r'⟩ a w' β'/\Ext cx w r β w' r' β'/\∀b,Av cx r' β' b->Av cx r β b∨NB γ 0 L b:=by
 have hAv:∀b,Av cx r' β' b->Av cx r β b∨NB γ 0 L b:=λ b hA=>by
  rcases hA with hA|⟨s,j,res,o,hl,hf,hb⟩
  .exact .inl (.inl hA)
  .obtain⟨_,hc⟩:=cls s j res hl;rcases hc with⟨g1,g2,_⟩|⟨m,sz,n,ds,bo,g1,g2,_⟩|⟨res0,b',g1,g2,_,_,g3,_⟩
   .exact .inl (.inr ⟨s,j,res,o,g1,hf,by rw[←g2];exact hb⟩)
   .rw[g2]at hb;exact .inr (lL (k:=0) g1 (by rw[cc];exact hb))
   .rw[g3]at hb;exact .inl (.inr ⟨s,j,res0,o,g1,g2,hb⟩)
 have hx:Ext cx w r β w' r' β':=by
  refine⟨nx,bZ,⟨λ b hb hA=>hold b hb λ hm=>hA (.inr hm.ob),λ b hb hA=> ?_⟩,λ b hb hn=>hold b (gI hb h.n0) λ hm=> ?_,hos,hout⟩
  .rcases hAv b hA with h'|h'
   .exact h'
   .rcases(hnb b h').1 with h1|h1
    .omega
    .exact .inr h1.ob
  .rcases hm.fr h with h1|h1
   .omega
   .exact hn h1
 have hkeep:∀{s j res b o},aF r s j=some res->¬(s=mv.s/\mv.has j)->(β s j).base=some (b,o)->¬MB r β mv b:=λ {s j res b o} hl hm hb hM=>by
  obtain⟨k,res',o',m1,m2,m3,m4⟩:=hM;cases hf:res.fz with
  |false=>
   obtain⟨e1,e2⟩:=h.inj _ _ _ _ _ _ _ _ _ hl hf m2 m3 hb m4;exact hm ⟨e1,by rw[e2];exact m1⟩
  |true=>
   have hok:=(h.rs _ _ _ hl).1;unfold cJ at hok;rw[aa (by simp[h.vz _ _ _ hl hf])]at hok;obtain⟨_,_,_,g⟩:=hok;exact g hf b o hb (.inr ⟨_,k,res',o',m2,m3,m4⟩)
 refine⟨h.mk' hx (λ s j res hl=> ?_) (λ s j res s' j' res' b o o' hl hf hl' hf' hb hb'=> ?_) (λ s j res b o hl hf hb=> ?_) hsz,hx,hAv⟩
 .obtain⟨he,hc⟩:=cls s j res hl;refine⟨?_,he⟩;rcases hc with⟨g1,g2,g3⟩|⟨m,sz,n,ds,bo,g1,g2,g3,g4,g5,g6,_,_⟩|⟨res0,b,g1,g2,g3,g4,g5,g6,g7,g8,g9,g10,cs,e,g11,g12,g13⟩
  .rw[g2];have hok:=(h.rs _ _ _ g1).1;exact hok.ext hx (λ b o hb=>hold b (hok.lt hb) (hkeep g1 g3 hb)) (λ b o hb=>hok.lt hb)
  .unfold cJ;rw[aa (by simp[g3]),g2];refine⟨ds,g6, ?_,λ hf=>by rw[g4]at hf;cases hf⟩;rw[g5];exact(hrow m sz n ds bo g1).dy ⟨λ _ _ _=>rfl,λ b _ hb=>hAv b hb⟩ (λ _ _ _=>rfl)
  .unfold cJ;rw[aj g6,g5];exact⟨g7,b,cs,e,g9,g11,g13 hx hAv,g12⟩
 .obtain⟨_,hc⟩:=cls s j res hl;obtain⟨_,hc'⟩:=cls s' j' res' hl';rcases hc with⟨g1,g2,g3⟩|⟨m,sz,n,ds,bo,g1,g2,g3,g4,g5,g6,_,g7⟩|⟨res0,b0,g1,g2,g3,g4,g5,g6,g7,g8,g9,g10,_⟩<;>
   rcases hc' with⟨k1,k2,k3⟩|⟨m',sz',n',ds',bo',k1,k2,k3,k4,k5,k6,_,k7⟩|⟨res0',b0',k1,k2,k3,k4,k5,k6,k7,k8,k9,k10,_⟩
  .rw[g2]at hb;rw[k2]at hb';exact h.inj _ _ _ _ _ _ _ _ _ g1 hf k1 hf' hb hb'
  .rw[g2]at hb;rw[k2]at hb';have hlt:=(h.rs _ _ _ g1).1.lt hb;rcases(hnb b (lL (k:=0) k1 (by rw[cc];exact hb'))).1 with q|q
   .omega
   .exact absurd q (hkeep g1 g3 hb)
  .rw[g2]at hb;rw[k5]at hb';exact h.inj _ _ _ _ _ _ _ _ _ g1 hf k1 k2 hb hb'
  .rw[g2]at hb;rw[k2]at hb';have hlt:=(h.rs _ _ _ k1).1.lt hb';rcases(hnb b (lL (k:=0) g1 (by rw[cc];exact hb))).1 with q|q
   .omega
   .exact absurd q (hkeep k1 k3 hb')
  .rw[g2]at hb;rw[k2]at hb';have:=hap m m' b o o' sz n ds bo sz' n' ds' bo' g1 k1 hb hb';subst this;rw[g7]at k7;cases k7;exact⟨rfl,rfl⟩
  .rw[g2]at hb;rw[k5,k9]at hb';cases hb';exact absurd k10 (hnb b (lL (k:=0) g1 (by rw[cc];exact hb))).2
  .rw[g5]at hb;rw[k2]at hb';exact h.inj _ _ _ _ _ _ _ _ _ g1 g2 k1 hf' hb hb'
  .rw[g5,g9]at hb;rw[k2]at hb';cases hb;exact absurd g10 (hnb b (lL (k:=0) k1 (by rw[cc];exact hb'))).2
  .rw[g5]at hb;rw[k5]at hb';exact h.inj _ _ _ _ _ _ _ _ _ g1 g2 k1 k2 hb hb'
 .obtain⟨_,hc⟩:=cls s j res hl;rcases hc with⟨g1,g2,g3⟩|⟨m,sz,n,ds,bo,g1,g2,g3,g4,g5,g6,g8,g7⟩|⟨res0,b0,g1,g2,g3,g4,g5,g6,g7,g8,g9,g10,_⟩
  .rw[g2]at hb;exact h.fr _ _ _ _ _ g1 hf hb
  .rw[g2]at hb;have hn0:=h.n0;rcases(hnb b (lL (k:=0) g1 (by rw[cc];exact hb))).1 with q|q
   .exact⟨.inl (by omega),λ _=>by omega⟩
   .refine⟨q.fr h,λ hbor=> ?_⟩;rcases g8 hbor with q'|q'
    .subst q';have:=hfresh m sz n ds b o g1 hb;omega
    .exact q' b q
  .rw[g5]at hb;rw[g8];exact h.fr _ _ _ _ _ g1 g2 hb
theorem N1 (h:aL cx ⟨v,r⟩ a w β) (hB:pQ r mv=false):∀b,MB r β mv b->cx.n0≤b:=λ b hb=>by
 obtain⟨j,res,o,_,h2,h3,h4⟩:=hb;refine(h.fr _ _ _ _ _ h2 h3 h4).2 ?_;unfold pQ at hB;unfold aF at h2;cases hrs:ao mv.s r with
 |none=>simp[hrs]at h2
 |some rs=>
  simp only[hrs]at h2 hB;have hj:rs.l[j]? =some (some res):=by
   split at h2
   .rename_i q hq;cases h2;exact hq
   .cases h2
  have:=wj.1 hB (some res) (rQ hj);simpa using this
theorem zV {B:Bool} {e s:Nat} {L:List (Option bV)} {l:List RO} {next j:Nat} {x:Option bV} {res:bV} (hl:aF (aN s ⟨next,x::fM B e l⟩ r) s j=some res):
  (j=0/\x=some res)∨∃k sz n ds bo,j=k+1/\l[k]? =some (.own sz n ds bo)/\res={rowAt e sz ds with dR:=bo&&B}:=by
 rw[fQ,aj rfl]at hl;cases j with
 |zero=>
  simp only[c9]at hl;split at hl
  .rename_i q hq;cases hl;simp only[bn]at hq;exact .inl ⟨rfl,hq⟩
  .cases hl
 |succ k=>
  simp only[lQ]at hl;split at hl
  .rename_i q hq;cases hl;obtain⟨sz,n,ds,bo,g1,g2⟩:=Ct hq;exact .inr ⟨k,sz,n,ds,bo,rfl,g1,g2⟩
  .cases hl
def va (dst:Option Nat) (rfs:List RF):Option Nat:=if jF (rfs.flatMap RF.cells)=true then none else dst
def gM (B:Bool) (r1:Rs) (od:Option Nat) (cells:List RO):Rs:=
 match od with
 |some d=>aN d {next:=ar r1 d+1,l:=none::fM B (ar r1 d) cells} r1
 |none=>r1
theorem w8 {B:Bool} {r1:Rs} {dst:Option Nat} {rfs:List RF}:(kh B r1 dst rfs).2=gM B r1 (va dst rfs) (rfs.flatMap RF.cells):=by
 unfold kh va gM;simp only;split
 .rfl
 .cases dst<;>rfl
theorem N5 {B:Bool} {r1:Rs} {dst:Option Nat} {rfs:List RF} {u:Value} {us:List Value} {γ:Nat->Pl} {A:Nat->Prop} (hu:u=(match us with|[x]=>x|us=> .tuple us.toArray))
  (hA:∀b,Av cx (kh B r1 dst rfs).2 β' b->A b) (h2:eW A w' γ 0 rfs us) (hγ:∀d k,va dst rfs=some d->k<(rfs.flatMap RF.cells).length->β' d (k+1)=γ k):
  aE cx w' (kh B r1 dst rfs).2 β' (kh B r1 dst rfs).1 u:=by
 unfold kh at hA⊢;simp only at hA⊢;split
 .rename_i hn;rw[aj hn]at hA;exact Ak hu (vG (γ:=γ) hA (λ i sz n ds bo hi=>absurd hi (CE hn i sz n ds bo)) h2)
 .rename_i hn;rw[aa hn]at hA;cases dst with
  |none=>simp[aE,ay]
  |some d=>
   simp only at hA⊢;refine Ak hu (vG (γ:=γ) hA (λ i sz n ds bo hi=> ?_) h2);refine⟨⟨bo&&B,gu ?_ rfl⟩,by rw[cc];exact hγ d i (by unfold va;rw[aa hn]) (cG.1 hi).1,by rw[fo,aj rfl];exact jJ _⟩;rw[fQ,aj rfl];simp[vA hi,rowAt]
end
section
variable {cx:Cx} {v:List AV} {r r':Rs} {a:Act} {w w':World} {β β':Nat->Nat->Pl} {T:Nat->Option TI} {c:Bool} {mv:Mv}
theorem cU.vT {A:Nat->Prop} {γ:Nat->Pl} {m:Nat}:∀{l:List RO} {k:Nat} {us:List Value},cU A w γ (m+k) l us->cU A w (λ i=>γ (m+i)) k l us
 |[],_,_,h=>h
 |x::l,k,us,h=>by simp only[cU]at h⊢;obtain⟨u,us',rfl,h1,h2⟩:=h;exact⟨u,us',rfl,h1,cU.vT (k:=k+1) h2⟩
theorem qa {B:Bool} {r1:Rs} {od:Option Nat} {cells:List RO} {s:Nat}:ar (gM B r1 od cells) s=if od=some s then ar r1 s+1 else ar r1 s:=by
 cases od with
 |none=>simp[gM]
 |some d=>
  simp only[gM,fo,bn];by_cases h:d=s
  .subst h;simp
  .simp[h]
theorem zE {B:Bool} {r1:Rs} {od:Option Nat} {cells:List RO} {s j:Nat} (h:od≠some s):aF (gM B r1 od cells) s j=aF r1 s j:=by
 cases od with
 |none=>rfl
 |some d=>simp only[gM,fQ];rw[aa (λ e=>h (by rw[e]))]
theorem M1 {dst:Option Nat} {rfs:List RF} {aC:List Nat} {s:Nat} (h:(dl dst++aC).contains s=false):va dst rfs≠some s:=by
 unfold va;split
 .simp
 .intro e;rw[e]at h;simp[dl]at h
theorem acG (h:aL cx ⟨v,r⟩ a w β) {hd:Hd} {res:bV} {b:Nat} {dst:Option Nat} {aC:List Nat} {l':List RO} {rfs:List RF} {u:Value} (hg:aQ r hd=some res) (hv:res.var=true) (hj:hd.j=0)
  (hbase:(β hd.s 0).base=some (b,0)) (hsc:fA r dst (.o hd) aC l') (hr:fl w (Av cx r β) (MB r β (.o hd)) w' [.dI b] rfs [l'] u):
  ∃β',aL cx ⟨v,(bindM r dst (.o hd) rfs l').2⟩ a w' β'/\aE cx w' (bindM r dst (.o hd) rfs l').2 β' (bindM r dst (.o hd) rfs l').1 u:=by
 simp only[fA,hg]at hsc;obtain⟨s1,s2⟩:=hsc;obtain⟨⟨γ,us,m1,m2,m3,m4,m5,m6⟩,hsz,hold,hos,hout⟩:=hr;have hod:=M1 (rfs:=rfs) s1;have hbof:=N1 (mv:= .o hd) h;unfold bindM;generalize hB:pQ r (.o hd)=B at*;have hbo:∀{bo:Bool},(bo&&B)=false->bo=false∨∀b,MB r β (.o hd) b->cx.n0≤b:=λ {bo} hb=>by
  cases bo with
  |false=>exact .inl rfl
  |true=>exact .inr (hbof (by simpa using hb))
 rw[show nh r (.o hd) l'=aN hd.s {next:=ar r hd.s+1,l:=some {res with cells:=fT hd.s (ar r hd.s) 0 l'}::fM B (ar r hd.s) l'} r by simp only[nh,hg,hB]];generalize hr1:aN hd.s {next:=ar r hd.s+1,l:=some {res with cells:=fT hd.s (ar r hd.s) 0 l'}::fM B (ar r hd.s) l'} r=r1;have hL:cX rfs [l']=rfs.flatMap RF.cells++l':=by simp[cX]
 rw[hL]at m2 m3 m4 m5 m6;rw[w8]at*;generalize hcs:rfs.flatMap RF.cells=cs at*;generalize hodd:va dst rfs=od at*;obtain⟨hlk,hee⟩:=cp hg;rw[hj]at hlk
 let β':Nat->Nat->Pl:=λ s j=>if od=some s then γ (j - 1)else if s=hd.s then(if j=0 then β hd.s 0 else γ (cs.length+(j - 1)))else β s j
 have hnx1:∀s,s≠hd.s->ar r1 s=ar r s:=λ s hs=>by rw[←hr1,fo,aa (fu hs)]
 have hnxS:ar r1 hd.s=ar r hd.s+1:=by rw[←hr1,fo,aj rfl]
 have hlk1:∀s j,s≠hd.s->aF r1 s j=aF r s j:=λ s j hs=>by rw[←hr1,fQ,aa (fu hs)]
 have hlt:hd.e<ar r hd.s:=by rw[←hee];exact(h.rs _ _ _ hlk).2
 have hf:res.fz=false:=by have hok:=(h.rs _ _ _ hlk).1;unfold cJ at hok;rw[aj hv]at hok;exact hok.1
 -- what stands where
 have hat:∀s j res',aF (gM B r1 od cs) s j=some res'->
   (∃k sz n ds bo,od=some s/\j=k+1/\cs[k]? =some (.own sz n ds bo)/\res'={rowAt (ar r s) sz ds with dR:=bo&&B})∨
   (od≠some s/\s=hd.s/\((j=0/\res'={res with cells:=fT hd.s (ar r hd.s) 0 l'})∨∃k sz n ds bo,j=k+1/\l'[k]? =some (.own sz n ds bo)/\res'={rowAt (ar r hd.s) sz ds with dR:=bo&&B}))∨
   (od≠some s/\s≠hd.s/\aF r s j=some res'):=λ s j res' hl=>by
  by_cases ho:od=some s
  .subst ho;have hs:s≠hd.s:=λ e=>hod (by rw[e])
   simp only[gM]at hl;rw[hnx1 s hs]at hl;rcases zV (L:=[]) hl with⟨_,e⟩|⟨k,sz,n,ds,bo,e1,e2,e3⟩
   .cases e
   .exact .inl ⟨k,sz,n,ds,bo,rfl,e1,e2,e3⟩
  .rw[zE ho]at hl;by_cases hs:s=hd.s
   .subst hs;rw[←hr1]at hl;rcases zV (L:=[]) hl with⟨e1,e2⟩|⟨k,sz,n,ds,bo,e1,e2,e3⟩
    .cases e2;exact .inr (.inl ⟨ho,rfl, .inl ⟨e1,rfl⟩⟩)
    .exact .inr (.inl ⟨ho,rfl, .inr ⟨k,sz,n,ds,bo,e1,e2,e3⟩⟩)
   .rw[hlk1 s j hs]at hl;exact .inr (.inr ⟨ho,hs,hl⟩)
 have hobj:=m3;simp only[gG]at hobj;obtain⟨⟨arr,e,o1,o2,o3⟩,_⟩:=hobj;obtain⟨q1,q2,q3⟩:=h.fF (r':=gM B r1 od cs) (β':=β') (mv:= .o hd) (L:=cs++l') (γ:=γ) (bl:=[b]) (idx:=λ m=>if m<cs.length then(od.getD 0,m+1)else(hd.s,m - cs.length+1))
  (λ s=>by
   rw[qa];by_cases hs:s=hd.s
   .subst hs;rw[hnxS];split<;>omega
   .rw[hnx1 s hs];split<;>omega)
  (λ hd' res' hlt' hg'=>by
   obtain⟨hl',he'⟩:=cp hg';rcases hat _ _ _ hl' with⟨k,sz,n,ds,bo,e1,e2,e3,e4⟩|⟨e1,e2,⟨e3,e4⟩|⟨k,sz,n,ds,bo,e3,e4,e5⟩⟩|⟨e1,e2,e3⟩
   .rw[e4]at he';simp only[rowAt]at he';omega
   .rw[e4]at he'⊢;simp only at he'⊢;refine⟨res,gu (by rw[e2,e3];exact hlk) he', ?_,rfl,rfl,by rw[zm,s2];exact Nat.le_refl _⟩;simp only[β',e3,e2];rw[aa hod];simp
   .rw[e5]at he';simp only[rowAt]at he';rw[e2]at hlt';omega
   .refine⟨res',gu e3 he', ?_,rfl,rfl,Nat.le_refl _⟩;simp only[β'];rw[aa e1,aa e2])
  (λ s j res' hl=>by
   rcases hat _ _ _ hl with⟨k,sz,n,ds,bo,e1,e2,e3,e4⟩|⟨e1,e2,⟨e3,e4⟩|⟨k,sz,n,ds,bo,e3,e4,e5⟩⟩|⟨e1,e2,e3⟩
   .have hs:s≠hd.s:=λ e=>hod (by rw[e1,e])
    have hk:=(cG.1 e3).1;refine⟨by rw[qa,aj e1,hnx1 s hs,e4];simp[rowAt], .inr (.inl ⟨k,sz,n,ds,bo,by rw[dA hk];exact e3, ?_,by rw[e4];rfl,by rw[e4];rfl,by rw[e4];rfl,by rw[e4];rfl, ?_, ?_⟩)⟩
    .simp only[β'];rw[aj e1,e2];rfl
    .rw[e4];intro hb;exact hbo hb
    .simp only[aj hk,e1,e2];rfl
   .subst e2 e3;refine⟨by rw[qa,aa e1,hnxS,e4];simp only;omega, .inr (.inr ⟨res,b,hlk,hf,rfl,trivial, ?_,by rw[e4];exact hv,by rw[e4];exact hf,by rw[e4],hbase,by simp,arr,e,o1,o3,λ hx hA=> ?_⟩)⟩
    .simp only[β'];rw[aa e1];simp
    .rw[e4];simp only;refine vB (γ:=λ k=>γ (cs.length+k)) (A:=λ b=>Av cx r β b∨NB γ 0 (cs++l') b) hA (λ i sz n ds bo hi=> ?_) (cU.vT (m:=cs.length) (k:=0) o2);refine⟨⟨bo&&B,gu ?_ rfl⟩, ?_, ?_⟩
     .rw[zE hod,←hr1,fQ,aj rfl];simp only[cc,lQ,vA hi]
     .simp only[β',cc];rw[aa hod];simp
     .rw[qa,aa hod,hnxS];omega
   .subst e2;refine⟨by rw[qa,aa e1,hnxS,e5];simp[rowAt], .inr (.inl ⟨cs.length+k,sz,n,ds,bo,by rw[dL (j5 _ _)];simpa using e4, ?_,by rw[e5];rfl,by rw[e5];rfl,by rw[e5];rfl,by rw[e5];rfl, ?_, ?_⟩)⟩
    .simp only[β'];rw[aa e1,e3];simp
    .rw[e5];intro hb;exact hbo hb
    .rw[aa (by omega),e3];simp
   .refine⟨?_, .inl ⟨e3, ?_,λ hh=>e2 hh.1⟩⟩
    .rw[qa,aa e1,hnx1 s e2];exact(h.rs _ _ _ e3).2
    .simp only[β'];rw[aa e1,aa e2])
  (λ m sz n ds bo hm=>by
   rcases iw m cs.length with q|q
   .rw[dA q]at hm;have:=eW.row m2 (i:=m) (by rw[hcs];exact hm)
    rwa[cc]at this
   .rw[dL q]at hm;have:=cU.row o2 hm
    rwa[show cs.length+(m - cs.length)=m by omega]at this)
  (λ b' hb'=>by have:=m4 b' hb';simpa[cW]using this) m5 m6 hsz hold hos hout
 refine⟨β',q1, ?_⟩;have hfin:=N5 (cx:=cx) (w':=w') (β':=β') (B:=B) (r1:=r1) (dst:=dst) (rfs:=rfs) (γ:=γ) (A:=λ b=>Av cx r β b∨NB γ 0 (cs++l') b) m1
  (λ b hb=>q3 b (by rw[w8,hcs,hodd]at hb;exact hb)) m2 (λ d k hd' hk=>by simp only[β'];rw[←hodd,hd',aj rfl];rfl)
 rw[w8,hcs,hodd]at hfin;exact hfin
theorem ab5 (h:aL cx ⟨v,r⟩ a w β) {hd:Hd} {n0:Nat} {res:bV} {u0:Value} {dst:Option Nat} {aC:List Nat} {l':List RO} {rfs:List RF} {u:Value} (hg:aQ r hd=some res) (hf:res.fz=false)
  (hown:pG (β hd.s hd.j) res 0 n0 u0) (hsc:fA r dst (.r hd n0) aC l') (hr:fl w (Av cx r β) (MB r β (.r hd n0)) w' [.val u0] rfs [l'] u):
  ∃β',aL cx ⟨v,(bindM r dst (.r hd n0) rfs l').2⟩ a w' β'/\aE cx w' (bindM r dst (.r hd n0) rfs l').2 β' (bindM r dst (.r hd n0) rfs l').1 u:=by
 simp only[fA,hg]at hsc;obtain⟨s1,s2⟩:=hsc;obtain⟨⟨γ,us,m1,m2,m3,m4,m5,m6⟩,hsz,hold,hos,hout⟩:=hr;have hod:=M1 (rfs:=rfs) s1;obtain⟨hlk,hee⟩:=cp hg;obtain⟨rs,hrs,hrj⟩:∃rs,ao hd.s r=some rs/\rs.l[hd.j]? =some (some res):=by
  unfold aF at hlk;cases hrs:ao hd.s r with
  |none=>simp[hrs]at hlk
  |some rs=>
   simp only[hrs]at hlk;refine⟨rs,rfl, ?_⟩;split at hlk
   .rename_i q hq;cases hlk;exact hq
   .cases hlk
 have hjlt:hd.j<rs.l.length:=(cG.1 hrj).1;have hbof:=N1 (mv:= .r hd n0) h;unfold bindM;generalize hB:pQ r (.r hd n0)=B at*;have hbo:∀{bo:Bool},(bo&&B)=false->bo=false∨∀b,MB r β (.r hd n0) b->cx.n0≤b:=λ {bo} hb=>by
  cases bo with
  |false=>exact .inl rfl
  |true=>exact .inr (hbof (by simpa using hb))
 -- what stands at the row's place behind the call
 obtain⟨x,hx,hx2⟩:∃x:Option bV,nh r (.r hd n0) l'=aN hd.s {rs with l:=rs.l.set hd.j x} r/\
   (x=none∨∃sz ds bo,l'=[.own sz n0 ds bo]/\0<n0/\sz=res.sz/\ds.length=res.cells.length/\x=some {res with cells:=ds.map C.d}):=by
  simp only[nh,hg,hrs];split at s2
  .exact⟨none,rfl, .inl rfl⟩
  .rename_i sz n' ds' bo;obtain⟨e1,e2,e3,e4⟩:=s2;subst e1;exact⟨_,rfl, .inr ⟨sz,ds',bo,rfl,e2,e3,e4,rfl⟩⟩
  .exact s2.elim
 rw[hx];generalize hr1:aN hd.s {rs with l:=rs.l.set hd.j x} r=r1;have hL:cX rfs [l']=rfs.flatMap RF.cells++l':=by simp[cX]
 rw[hL]at m2 m3 m4 m5 m6;rw[w8]at*;generalize hcs:rfs.flatMap RF.cells=cs at*;generalize hodd:va dst rfs=od at*
 let β':Nat->Nat->Pl:=λ s j=>if od=some s then γ (j - 1)else β s j
 have hns:ar r hd.s=rs.next:=by unfold ar;simp only[hrs]
 have hnx1:∀s,ar r1 s=ar r s:=λ s=>by
  rw[←hr1,fo];split
  .rename_i e;subst e;exact hns.symm
  .rfl
 have hobj:=m3;simp only[gG]at hobj
 -- a row that comes back lies where it lay
 have hback:∀sz ds bo,l'=[.own sz n0 ds bo]->0<n0->γ cs.length=β hd.s hd.j:=λ sz ds bo e hp=>by
  subst e;have h1:=hobj.1.resolve_left (by simp);simp only[cU,d9]at h1;obtain⟨u1,us1,e1,⟨_,g2,_,ad,g3,g4⟩,_⟩:=h1;cases e1;obtain⟨_,_,k1,ad',k2,k3⟩:=hown;rw[g3]at k2;simp only[Value.slice.injEq,i7,jo]at k2;obtain⟨rfl,k4⟩:=k2;have hc0:(γ cs.length).cap≠0:=by omega
  obtain⟨b1,o1,p1,p2⟩:=g4.resolve_left hc0;obtain⟨b2,o2,p3,p4⟩:=k3.resolve_left (by omega);rw[p2]at p4;simp only[rU,iy,bn,Addr.mk.injEq,jj]at p4;obtain⟨rfl,rfl⟩:=p4;cases hγ:γ cs.length with
  |mk bs1 c1=>
   cases hβ:β hd.s hd.j with
   |mk bs2 c2=>
    rw[hγ]at p1 k4;rw[hβ]at p3 k4;simp only at p1 p3 k4;rw[p1,p3,k4]
 have hat:∀s j res',aF (gM B r1 od cs) s j=some res'->
   (∃k sz n ds bo,od=some s/\j=k+1/\cs[k]? =some (.own sz n ds bo)/\res'={rowAt (ar r s) sz ds with dR:=bo&&B})∨
   (od≠some s/\s=hd.s/\j=hd.j/\∃sz ds bo,l'=[.own sz n0 ds bo]/\0<n0/\sz=res.sz/\ds.length=res.cells.length/\res'={res with cells:=ds.map C.d})∨
   (od≠some s/\¬(s=hd.s/\j=hd.j)/\aF r s j=some res'):=λ s j res' hl=>by
  by_cases ho:od=some s
  .subst ho;simp only[gM]at hl;rw[hnx1 s]at hl;rcases zV (L:=[]) hl with⟨_,e⟩|⟨k,sz,n,ds,bo,e1,e2,e3⟩
   .cases e
   .exact .inl ⟨k,sz,n,ds,bo,rfl,e1,e2,e3⟩
  .rw[zE ho]at hl;rw[←hr1,fQ]at hl;by_cases hs:hd.s=s
   .subst hs;rw[aj rfl]at hl;simp only at hl;by_cases hjj:hd.j=j
    .subst hjj;rw[xR hjlt]at hl;rcases hx2 with rfl|⟨sz,ds,bo,f1,f2,f3,f4,rfl⟩
     .simp at hl
     .simp only[bn]at hl;exact .inr (.inl ⟨ho,rfl,rfl,sz,ds,bo,f1,f2,f3,f4,hl.symm⟩)
    .rw[nk hjj]at hl;refine .inr (.inr ⟨ho,λ e=>hjj e.2.symm, ?_⟩);unfold aF;simp only[hrs];exact hl
   .rw[aa hs]at hl;exact .inr (.inr ⟨ho,λ e=>hs e.1.symm,hl⟩)
 obtain⟨q1,q2,q3⟩:=h.fF (r':=gM B r1 od cs) (β':=β') (mv:= .r hd n0) (L:=cs++l') (γ:=γ) (bl:=[]) (idx:=λ m=>if m<cs.length then(od.getD 0,m+1)else(hd.s,hd.j))
  (λ s=>by rw[qa,hnx1 s];split<;>omega)
  (λ hd' res' hlt' hg'=>by
   obtain⟨hl',he'⟩:=cp hg';rcases hat _ _ _ hl' with⟨k,sz,n,ds,bo,e1,e2,e3,e4⟩|⟨e1,e2,e3,sz,ds,bo,f1,f2,f3,f4,f5⟩|⟨e1,e2,e3⟩
   .rw[e4]at he';simp only[rowAt]at he';omega
   .rw[f5]at he'⊢;simp only at he'⊢;refine⟨res,gu (by rw[e2,e3];exact hlk) he', ?_,rfl,rfl,by rw[bE,f4];exact Nat.le_refl _⟩;simp only[β'];rw[aa e1]
   .refine⟨res',gu e3 he', ?_,rfl,rfl,Nat.le_refl _⟩;simp only[β'];rw[aa e1])
  (λ s j res' hl=>by
   rcases hat _ _ _ hl with⟨k,sz,n,ds,bo,e1,e2,e3,e4⟩|⟨e1,e2,e3,sz,ds,bo,f1,f2,f3,f4,f5⟩|⟨e1,e2,e3⟩
   .have hk:=(cG.1 e3).1;refine⟨by rw[qa,aj e1,hnx1 s,e4];simp[rowAt], .inr (.inl ⟨k,sz,n,ds,bo,by rw[dA hk];exact e3, ?_,by rw[e4];rfl,by rw[e4];rfl,by rw[e4];rfl,by rw[e4];rfl, ?_, ?_⟩)⟩
    .simp only[β'];rw[aj e1,e2];rfl
    .rw[e4];intro hb;exact hbo hb
    .simp only[aj hk,e1,e2];rfl
   .subst e2 e3;refine⟨by rw[qa,aa e1,hnx1,f5];exact(h.rs _ _ _ hlk).2, .inr (.inl ⟨cs.length,sz,n0,ds,bo,by rw[f1,dL (Nat.le_refl _)];simp, ?_,by rw[f5];exact hown.1,by rw[f5];exact hf,by rw[f5,f3],by rw[f5], ?_, ?_⟩)⟩
    .simp only[β'];rw[aa e1];exact(hback sz ds bo f1 f2).symm
    .rw[f5];intro hb;refine .inr λ b hM=> ?_
     obtain⟨k,res',o',m1,m2,m3,m4⟩:=hM;simp only[Mv.has]at m1;subst m1;rw[show aF r (Mv.r hd n0).s hd.j=aF r hd.s hd.j from rfl,hlk]at m2;cases m2;exact(h.fr _ _ _ _ _ hlk hf m4).2 hb
    .rw[aa (Nat.lt_irrefl _)]
   .refine⟨?_, .inl ⟨e3, ?_,λ hh=>e2 hh⟩⟩
    .rw[qa,aa e1,hnx1 s];exact(h.rs _ _ _ e3).2
    .simp only[β'];rw[aa e1])
  (λ m sz n ds bo hm=>by
   rcases iw m cs.length with q|q
   .rw[dA q]at hm;have:=eW.row m2 (i:=m) (by rw[hcs];exact hm)
    rwa[cc]at this
   .rw[dL q]at hm;have o2:=hobj.1.resolve_left (λ e=>by rw[e]at hm;simp at hm);have:=cU.row o2 hm
    rwa[show cs.length+(m - cs.length)=m by omega]at this)
  (λ b' hb'=>by have:=m4 b' hb';simpa[cW]using this) m5 m6 hsz hold hos hout
 refine⟨β',q1, ?_⟩;have hfin:=N5 (cx:=cx) (w':=w') (β':=β') (B:=B) (r1:=r1) (dst:=dst) (rfs:=rfs) (γ:=γ) (A:=λ b=>Av cx r β b∨NB γ 0 (cs++l') b) m1
  (λ b hb=>q3 b (by rw[w8,hcs,hodd]at hb;exact hb)) m2 (λ d k hd' hk=>by simp only[β'];rw[←hodd,hd',aj rfl];rfl)
 rw[w8,hcs,hodd]at hfin;exact hfin
theorem aaE (h:aL cx ⟨v,r⟩ a w β) {hold:dQ} {u0:Value} {dst:Option Nat} {aC:List Nat} {l':List RO} {rfs:List RF} {u:Value} (hm:Bl r β mv hold u0)
  (hsc:fA r dst mv aC l') (hr:fl w (Av cx r β) (MB r β mv) w' [hold] rfs [l'] u):
  ∃β',aL cx ⟨v,(bindM r dst mv rfs l').2⟩ a w' β'/\aE cx w' (bindM r dst mv rfs l').2 β' (bindM r dst mv rfs l').1 u:=by
 cases mv with
 |o hd=>
  obtain⟨res,b,h1,h2,h3,h4,rfl⟩:=hm;exact acG h h1 h2 h3 h4 hsc hr
 |r hd n=>
  obtain⟨rfl,res,h1,h2,h3⟩:=hm;exact ab5 h h1 h2 h3 hsc hr
end
section
variable {cx:Cx} {v:List AV} {r r':Rs} {a:Act} {w w':World} {β β':Nat->Nat->Pl} {T:Nat->Option TI} {c:Bool}
theorem eW.vT {A:Nat->Prop} {γ:Nat->Pl} {m:Nat}:∀{l:List RF} {k:Nat} {us:List Value},eW A w γ (m+k) l us->eW A w (λ i=>γ (m+i)) k l us
 |[],_,_,h=>h
 |x::l,k,us,h=>by
  simp only[eW]at h⊢;obtain⟨u,us',rfl,h1,h2⟩:=h;refine⟨u,us',rfl, ?_,eW.vT (k:=k+x.cells.length) (by rw[←ey];exact h2)⟩;cases x with
  |one x=>exact h1
  |agg l=>
   simp only[lp]at h1⊢;obtain⟨us,e1,e2⟩:=h1;exact⟨us,e1,cU.vT e2⟩
def yD (d:Nat) (rfs:List RF):Option Nat:=if jF (rfs.flatMap RF.cells)=true then none else some (d+pK)
theorem abR {d:Nat} {rfs:List RF} {l:List RO}:(fG r d rfs l).2=gM false (aN d {next:=ar r d+1,l:=some {e:=ar r d,var:=true,fz:=false,sz:=0,cells:=fT d (ar r d) 0 l}::fM false (ar r d) l} r) (yD d rfs) (rfs.flatMap RF.cells):=by
 unfold fG yD;split
 .rfl
 .simp only[gM];rw[fo,aa (by unfold pK;omega)]
theorem aba (h:aL cx ⟨v,r⟩ a w β) {d b:Nat} {l:List RO} {rfs:List RF} {u:Value} (hb0:w.heap.size≤b)
  (hr:fl w (λ x=>Av cx r β x∨x∈cW [.dI b]) jP w' [.dI b] (.one (.d (.v (gY b)))::rfs) [l] u):
  ∃β',aL cx ⟨v,(fG r d rfs l).2⟩ a w' β'/\aE cx w' (fG r d rfs l).2 β' (fG r d rfs l).1 u:=by
 obtain⟨⟨γ,us,m1,m2,m3,m4,m5,m6⟩,hsz,hold,hos,hout⟩:=hr;have hL:cX (.one (.d (.v (gY b)))::rfs) [l]= .d (.v (gY b))::(rfs.flatMap RF.cells++l):=by simp[cX,RF.cells]
 rw[hL]at m2 m3 m4 m5 m6;generalize hcs:rfs.flatMap RF.cells=cs at*;have hlen:(List.flatMap RF.cells (.one (.d (.v (gY b)))::rfs)).length=1+cs.length:=by simp[RF.cells,hcs];omega
 rw[hlen]at m3;rw[abR,hcs];generalize hodd:yD d rfs=od at*;have hod:∀s,od=some s->s=d+pK:=λ s hs=>by rw[←hodd]at hs;unfold yD at hs;split at hs;cases hs;cases hs;rfl
 have hodn:od≠some d:=λ e=>by have:=hod d e;unfold pK at this;omega
 generalize hr1:aN d {next:=ar r d+1,l:=some {e:=ar r d,var:=true,fz:=false,sz:=0,cells:=fT d (ar r d) 0 l}::fM false (ar r d) l} r=r1
 -- the places
 let β':Nat->Nat->Pl:=λ s j=>if od=some s then γ (1+(j - 1))else if s=d then(if j=0 then⟨some (b,0),1⟩else γ (1+cs.length+(j - 1)))else β s j
 have hnx1:∀s,s≠d->ar r1 s=ar r s:=λ s hs=>by rw[←hr1,fo,aa (fu hs)]
 have hnxS:ar r1 d=ar r d+1:=by rw[←hr1,fo,aj rfl]
 have hlk1:∀s j,s≠d->aF r1 s j=aF r s j:=λ s j hs=>by rw[←hr1,fQ,aa (fu hs)]
 have hat:∀s j res',aF (gM false r1 od cs) s j=some res'->
   (∃k sz n ds bo,od=some s/\j=k+1/\cs[k]? =some (.own sz n ds bo)/\res'=rowAt (ar r s) sz ds)∨
   (od≠some s/\s=d/\((j=0/\res'={e:=ar r d,var:=true,fz:=false,sz:=0,cells:=fT d (ar r d) 0 l})∨∃k sz n ds bo,j=k+1/\l[k]? =some (.own sz n ds bo)/\res'=rowAt (ar r d) sz ds))∨
   (od≠some s/\s≠d/\aF r s j=some res'):=λ s j res' hl=>by
  by_cases ho:od=some s
  .subst ho;have hs:s≠d:=λ e=>hodn (by rw[e])
   simp only[gM]at hl;rw[hnx1 s hs]at hl;rcases zV (L:=[]) hl with⟨_,e⟩|⟨k,sz,n,ds,bo,e1,e2,e3⟩
   .cases e
   .exact .inl ⟨k,sz,n,ds,bo,rfl,e1,e2,by rw[e3];simp[rowAt]⟩
  .rw[zE ho]at hl;by_cases hs:s=d
   .subst hs;rw[←hr1]at hl;rcases zV (L:=[]) hl with⟨e1,e2⟩|⟨k,sz,n,ds,bo,e1,e2,e3⟩
    .cases e2;exact .inr (.inl ⟨ho,rfl, .inl ⟨e1,rfl⟩⟩)
    .exact .inr (.inl ⟨ho,rfl, .inr ⟨k,sz,n,ds,bo,e1,e2,by rw[e3];simp[rowAt]⟩⟩)
   .rw[hlk1 s j hs]at hl;exact .inr (.inr ⟨ho,hs,hl⟩)
 have hobj:=m3;simp only[gG]at hobj;obtain⟨⟨arr,e,o1,o2,o3⟩,_⟩:=hobj;obtain⟨u0,us',rfl,m20,m21⟩:∃u0 us',us=u0::us'/\u0=gY b/\eW (λ b'=>(Av cx r β b'∨b'∈cW [.dI b])∨NB γ 0 (.d (.v (gY b))::(cs++l)) b') w' γ 1 rfs us':=by simp only[eW,lp,d9,Rd,RF.cells,cL,fN]at m2;obtain⟨x,xs,e1,e2,e3⟩:=m2;exact⟨x,xs,e1,e2.1,e3⟩
 subst m20;generalize hZ:RO.d (.v (gY b))::(cs++l)=Z at*;have hZc:∀k,k<cs.length->Z[1+k]? =cs[k]? :=λ k hk=>by rw[←hZ,kT 1 k,lQ,dA hk]
 have hZl:∀k,Z[1+cs.length+k]? =l[k]? :=λ k=>by rw[←hZ,show 1+cs.length+k=(cs.length+k)+1 by omega,lQ,dL (j5 _ _)];simp
 have hlt:∀{s j res b o},aF r s j=some res->(β s j).base=some (b,o)->b<w.heap.size:=λ hl hb=>(h.rs _ _ _ hl).1.lt hb
 have hnew:∀{k sz n ds bo b' o},Z[k]? =some (.own sz n ds bo)->(γ k).base=some (b',o)->NB γ 0 Z b'/\w.heap.size≤b'/\b'≠b:=λ {k sz n ds bo b' o} hk hb=>by have h1:=lL (k:=0) hk (by simpa using hb);have:=m4 b' h1;exact⟨h1,this.1.resolve_right λ h=>h,λ e=>this.2 (by simp[cW,e])⟩
 -- what stands at a place:an bZ one,the object,a row
 have hcase:∀s j res',aF (gM false r1 od cs) s j=some res'->
   (aF r s j=some res'/\β' s j=β s j/\s≠d/\od≠some s)∨
   (s=d/\j=0/\β' s j=⟨some (b,0),1⟩/\res'={e:=ar r d,var:=true,fz:=false,sz:=0,cells:=fT d (ar r d) 0 l})∨
   (∃k sz n ds bo,Z[k]? =some (.own sz n ds bo)/\β' s j=γ k/\res'=rowAt (ar r s) sz ds/\(od=some s∨s=d)/\j≠0/\k=(if od=some s then j else cs.length+j)):=λ s j res' hl=>by
  rcases hat s j res' hl with⟨k,sz,n,ds,bo,e1,e2,e3,e4⟩|⟨e1,e2,⟨e3,e4⟩|⟨k,sz,n,ds,bo,e3,e4,e5⟩⟩|⟨e1,e2,e3⟩
  .exact .inr (.inr ⟨1+k,sz,n,ds,bo,by rw[hZc k (cG.1 e3).1];exact e3,by simp only[β'];rw[aj e1,e2];rfl,e4, .inl e1,by omega,by rw[aj e1];omega⟩)
  .subst e2 e3;exact .inr (.inl ⟨rfl,rfl,by simp only[β'];rw[aa e1];simp,e4⟩)
  .subst e2;exact .inr (.inr ⟨1+cs.length+k,sz,n,ds,bo,by rw[hZl];exact e4,by simp only[β'];rw[aa e1,e3];simp,e5, .inr rfl,by omega,by rw[aa e1];omega⟩)
  .exact .inl ⟨e3,by simp only[β'];rw[aa e1,aa e2],e2,e1⟩
 have hAv:∀b',Av cx (gM false r1 od cs) β' b'->Av cx r β b'∨NB γ 0 Z b'∨b'=b:=λ b' hA=>by
  rcases hA with hA|⟨s,j,res,o,hl,hf,hb⟩
  .exact .inl (.inl hA)
  .rcases hcase s j res hl with⟨q1,q2,_⟩|⟨q1,q2,q3,q4⟩|⟨k,sz,n,ds,bo,q1,q2,_⟩
   .rw[q2]at hb;exact .inl (.inr ⟨s,j,res,o,q1,hf,hb⟩)
   .rw[q3]at hb;cases hb;exact .inr (.inr rfl)
   .rw[q2]at hb;exact .inr (.inl (hnew q1 hb).1)
 have hnx:∀s,ar (gM false r1 od cs) s=if od=some s∨s=d then ar r s+1 else ar r s:=λ s=>by
  rw[qa];by_cases hs:s=d
  .subst hs;rw[aa hodn,hnxS,aj (.inr rfl)]
  .rw[hnx1 s hs];by_cases ho:od=some s
   .rw[aj ho,aj (.inl ho)]
   .rw[aa ho,aa (by simp[ho,hs])]
 have hx:Ext cx w r β w' (gM false r1 od cs) β':=by
  refine⟨λ s=> ?_,λ hd res' hlt' hg=> ?_,⟨λ b hb' _=>hold b hb' (λ h=>h),λ b' hb' hA=> ?_⟩,λ b hb' hn=>hold b (gI hb' h.n0) (λ h=>h),hos,hout⟩
  .rw[hnx];split<;>omega
  .obtain⟨hl,hee⟩:=cp hg;rcases hcase _ _ _ hl with⟨q1,q2,_⟩|⟨q1,q2,q3,q4⟩|⟨k,sz,n,ds,bo,q1,q2,q3,_⟩
   .exact⟨res',gu q1 hee,q2,rfl,rfl,Nat.le_refl _⟩
   .rw[q4]at hee;rw[q1]at hlt';simp only at hee;omega
   .rw[q3]at hee;simp only[rowAt]at hee;omega
  .rcases hAv b' hA with h'|h'|h'
   .exact h'
   .have:=(m4 b' h').1.resolve_right λ h=>h
    omega
   .omega
 have hA:∀b',Av cx (gM false r1 od cs) β' b'->(Av cx r β b'∨b'∈cW [.dI b])∨NB γ 0 Z b':=λ b' hA=>by
  rcases hAv b' hA with h'|h'|h'
  .exact .inl (.inl h')
  .exact .inr h'
  .exact .inl (.inr (by simp[cW,h']))
 have hbo:mE (gM false r1 od cs) β' (λ k=>γ (1+cs.length+k)) d (ar r d) 0 l:=λ i sz n ds bo hi=>by
  refine⟨⟨false,gu ?_ rfl⟩, ?_, ?_⟩
  .rw[zE hodn,←hr1,fQ,aj rfl];simp only[cc,lQ,vA hi,pE]
  .simp only[β',cc];rw[aa hodn];simp
  .rw[hnx,aj (.inr rfl)];omega
 have hH:aL cx ⟨v,gM false r1 od cs⟩ a w' β':=by
  refine h.mk' hx (λ s j res hl=> ?_) (λ s j res s' j' res' b1 o o' hl hf hl' hf' hbs hbs'=> ?_) (λ s j res b1 o hl hf hbs=> ?_) hsz
  .rcases hcase s j res hl with⟨q1,q2,q3,q4⟩|⟨q1,q2,q3,q4⟩|⟨k,sz,n,ds,bo,q1,q2,q3,q4,_⟩
   .obtain⟨g1,g2⟩:=h.rs s j res q1;rw[q2];exact⟨g1.ext hx (λ b o hb=>hold b (g1.lt hb) (λ h=>h)) (λ b o hb=>g1.lt hb),by rw[hnx,aa (by simp[q3,q4])];exact g2⟩
   .subst q1 q2;refine⟨?_,by rw[hnx,aj (.inr rfl),q4];exact jJ _⟩;unfold cJ;rw[q4,aj rfl,q3];exact⟨rfl,b,arr,e,rfl,o1,vB (A:=λ b'=>(Av cx r β b'∨b'∈cW [.dI b])∨NB γ 0 Z b') hA hbo (cU.vT (m:=1+cs.length) (k:=0) o2),o3⟩
   .refine⟨?_,by rw[hnx,aj q4,q3];exact jJ _⟩;rw[q2,q3];refine sw (ds:=ds) rfl rfl rfl ?_;have hrow:dm w' (λ b'=>(Av cx r β b'∨b'∈cW [.dI b])∨NB γ 0 Z b') (γ k) sz ds:=by
     rcases iw k (1+cs.length)with hk|hk
     .cases k with
      |zero=>rw[←hZ]at q1;simp at q1
      |succ k=>
       have hk':k<cs.length:=by omega
       rw[kT k 1,hZc k hk']at q1;have:=eW.row m21 (i:=k) (by rw[hcs];exact q1)
       rwa[kT 1 k]at this
     .obtain⟨m,rfl⟩:∃m,k=1+cs.length+m:=⟨k - (1+cs.length),by omega⟩;rw[hZl]at q1;have:=cU.row o2 q1;exact this
    exact hrow.dy ⟨λ _ _ _=>rfl,λ b _ hb=>hA b hb⟩ (λ _ _ _=>rfl)
  .rcases hcase s j res hl with⟨q1,q2,q3,q4⟩|⟨q1,q2,q3,q4⟩|⟨k,sz,n,ds,bo,q1,q2,q3,q4,q5,q6⟩<;>
    rcases hcase s' j' res' hl' with⟨p1,p2,p3,p4⟩|⟨p1,p2,p3,p4⟩|⟨k',sz',n',ds',bo',p1,p2,p3,p4,p5,p6⟩
   .rw[q2]at hbs;rw[p2]at hbs';exact h.inj _ _ _ _ _ _ _ _ _ q1 hf p1 hf' hbs hbs'
   .rw[q2]at hbs;rw[p3]at hbs';cases hbs';exact absurd (hlt q1 hbs) (by omega)
   .rw[q2]at hbs;rw[p2]at hbs';have:=hlt q1 hbs;have:=(hnew p1 hbs').2.1;omega
   .rw[q3]at hbs;rw[p2]at hbs';cases hbs;exact absurd (hlt p1 hbs') (by omega)
   .exact⟨by rw[q1,p1],by rw[q2,p2]⟩
   .rw[q3]at hbs;rw[p2]at hbs';cases hbs;exact absurd rfl (hnew p1 hbs').2.2
   .rw[q2]at hbs;rw[p2]at hbs';have:=hlt p1 hbs';have:=(hnew q1 hbs).2.1;omega
   .rw[q2]at hbs;rw[p3]at hbs';cases hbs';exact absurd rfl (hnew q1 hbs).2.2
   .rw[q2]at hbs;rw[p2]at hbs';have hk:=m6 k k' b1 o o' sz n ds bo sz' n' ds' bo' q1 p1 hbs hbs';subst hk
    -- one place of the results,one slot
    have hbnd:∀{k sz n ds bo s j},Z[k]? =some (RO.own sz n ds bo)->(od=some s∨s=d)->j≠0->k=(if od=some s then j else cs.length+j)->aF (gM false r1 od cs) s j≠none->(od=some s/\j≤cs.length)∨(od≠some s/\s=d):=λ {k sz n ds bo s j} z1 z2 z3 z4 z5=>by
     by_cases ho:od=some s
     .refine .inl ⟨ho, ?_⟩;cases hq:aF (gM false r1 od cs) s j with
      |none=>exact absurd hq z5
      |some q=>
       rcases hat s j q hq with⟨k2,_,_,_,_,_,e2,e3,_⟩|⟨e1,_⟩|⟨e1,_⟩
       .have:=(cG.1 e3).1;omega
       .exact absurd ho e1
       .exact absurd ho e1
     .exact .inr ⟨ho,z2.resolve_left ho⟩
    rcases hbnd q1 q4 q5 q6 (by rw[hl];simp)with⟨t1,t2⟩|⟨t1,t2⟩<;>rcases hbnd p1 p4 p5 p6 (by rw[hl'];simp)with⟨t3,t4⟩|⟨t3,t4⟩
    .rw[t1]at t3;cases t3;rw[aj t1]at q6;rw[aj t1]at p6;exact⟨rfl,by omega⟩
    .rw[aj t1]at q6;rw[aa t3]at p6;omega
    .rw[aa t1]at q6;rw[aj t3]at p6;omega
    .rw[aa t1]at q6;rw[aa t3]at p6;exact⟨by rw[t2,t4],by omega⟩
  .rcases hcase s j res hl with⟨q1,q2,q3,q4⟩|⟨q1,q2,q3,q4⟩|⟨k,sz,n,ds,bo,q1,q2,q3,q4,q5,q6⟩
   .rw[q2]at hbs;exact h.fr _ _ _ _ _ q1 hf hbs
   .rw[q3]at hbs;cases hbs;have:=h.n0;exact⟨.inl (by omega),λ _=>by omega⟩
   .rw[q2]at hbs;have:=(hnew q1 hbs).2.1;have:=h.n0;exact⟨.inl (by omega),λ _=>by omega⟩
 refine⟨β',hH, ?_⟩;have hptr:aE cx w' (gM false r1 od cs) β' (.one (.ptr ⟨d,0,ar r d⟩ 0)) (gY b):=by simp only[aE,ay];refine⟨rfl,by rw[hnx,aj (.inr rfl)];exact jJ _,λ res hg=>⟨b,0, ?_,rfl⟩⟩;simp only[β'];rw[aa hodn];simp
 -- the value
 rw[show(fG r d rfs l).1=kZ (.one (.ptr ⟨d,0,ar r d⟩ 0)::(match od with|none=>jf 0 0 0 rfs|some D=>jf D (ar r D) 0 rfs)) by rw[←hodd];unfold fG yD;split<;>rfl]
 refine Ak m1 ?_;simp only[bU];refine⟨gY b,us',rfl,hptr, ?_⟩;have hsh:eW (λ b'=>(Av cx r β b'∨b'∈cW [.dI b])∨NB γ 0 Z b') w' (λ i=>γ (1+i)) 0 rfs us':=eW.vT (m:=1) (k:=0) m21;cases hq:od with
 |none=>
  rw[hq]at hodd;unfold yD at hodd;split at hodd
  .rename_i hno;rw[hq]at hA;exact vG hA (λ i sz n ds bo hi=>absurd hi (CE hno i sz n ds bo)) hsh
  .cases hodd
 |some D=>
  subst hq;simp only;refine vG hA (λ i sz n ds bo hi=> ?_) hsh;rw[hcs]at hi;have hDd:D≠d:=λ e=>hodn (by rw[e])
  refine⟨⟨false,gu ?_ ?_⟩, ?_, ?_⟩
  .simp only[gM];rw[hnx1 D hDd,fQ,aj rfl];simp only[cc,lQ,vA hi,pE]
  .rfl
  .simp only[β',cc];rw[aj trivial];simp
  .rw[hnx,aj (.inl rfl)];omega
end
section
variable {v v':List AV} {r r':Rs} {T:Nat->Option TI} {c:Bool}
theorem oq {x:Operand} (h:b6 v' x=b6 v x):ev v' x=ev v x:=by unfold ev;rw[h]
theorem ml {x:Operand} (h:b6 v' x=b6 v x):bX c v' x=bX c v x:=by unfold bX;rw[h]
theorem su:∀{xs:List Operand},(∀x∈xs,b6 v' x=b6 v x)->eP v' xs=eP v xs
 |[],_=>rfl
 |x::xs,h=>by simp only[eP];rw[oq (h x (by simp)),su λ y hy=>h y (by simp[hy])]
theorem pX:∀{xs:List Operand},(∀x∈xs,b6 v' x=b6 v x)->en c v' xs=en c v xs
 |[],_=>rfl
 |x::xs,h=>by simp only[en];rw[ml (h x (by simp)),pX λ y hy=>h y (by simp[hy])]
theorem zT {x:Option Operand} (h:∀y,x=some y->b6 v' y=b6 v y):iW v' x=iW v x:=by
 cases x with
 |none=>rfl
 |some y=>simp only[iW,oq (h y rfl)]
theorem Cg {x:Option Operand} (h:∀y,x=some y->b6 v' y=b6 v y):kC c v' x=kC c v x:=by
 cases x with
 |none=>rfl
 |some y=>simp only[kC,ml (h y rfl)]
theorem D6 {dst:Option Nat} {op:Op} (h:∀x∈op.operands.toList,b6 v' x=b6 v x):aB T c v' r dst op=aB T c v r dst op:=by
 have one:∀{x:Operand},x∈op.operands.toList->ev v' x=ev v x/\bX c v' x=bX c v x:=λ hx=>⟨oq (h _ hx),ml (h _ hx)⟩
 cases op with
 |move x=>simp only[aB,one (x:=x) (by simp[Op.operands])]
 |assign x=>simp only[aB,one (x:=x) (by simp[Op.operands])]
 |pick t x z=>simp only[aB,one (x:=t) (by simp[Op.operands]),h x (by simp[Op.operands]),h z (by simp[Op.operands])]
 |alloc t=>rfl
 |box t x=>simp only[aB,one (x:=x) (by simp[Op.operands])]
 |build t ps=>
  have h':∀x∈ps.toList.map (·.2),b6 v' x=b6 v x:=λ x hx=>h x (by simpa[Op.operands]using hx)
  simp only[aB,su h',pX h']
 |buildSlice t n ps=>
  have h':∀x∈ps.toList.map (·.2),b6 v' x=b6 v x:=λ x hx=>h x (by simpa[Op.operands]using hx)
  simp only[aB,su h',pX h']
 |load t x=>simp only[aB,one (x:=x) (by simp[Op.operands])]
 |makeSlice t x y=>simp only[aB,one (x:=x) (by simp[Op.operands]),one (x:=y) (by simp[Op.operands])]
 |store t x y=>simp only[aB,one (x:=x) (by simp[Op.operands]),one (x:=y) (by simp[Op.operands])]
 |nilCheck x=>simp only[aB,one (x:=x) (by simp[Op.operands])]
 |binOp op t x y yt=>simp only[aB,one (x:=x) (by simp[Op.operands]),one (x:=y) (by simp[Op.operands])]
 |unOp op t x=>
  cases op with
  |not=>simp only[aB,one (x:=x) (by simp[Op.operands])]
  |_=>rfl
 |convert s t x=>simp only[aB,one (x:=x) (by simp[Op.operands])]
 |makeInterface t x=>simp only[aB,one (x:=x) (by simp[Op.operands])]
 |makeFunc fn first caps=>
  cases fn with
  |func f=>
   obtain⟨first⟩:=first
   cases first with
   |cons _ _=>rfl
   |nil=>
    have h':∀x∈caps.toList,b6 v' x=b6 v x:=λ x hx=>h x (by simpa[Op.operands]using hx)
    simp only[aB,su h',pX h']
  |_=>rfl
 |slice t x lo hi mx=>
  have h1:∀y,lo=some y->b6 v' y=b6 v y:=λ y hy=>h y (by simp[Op.operands,hy])
  have h2:∀y,hi=some y->b6 v' y=b6 v y:=λ y hy=>h y (by simp[Op.operands,hy])
  cases mx with
  |some m=>
   have h3:b6 v' m=b6 v m:=h m (by simp[Op.operands]);simp only[aB,one (x:=x) (by simp[Op.operands]),zT h1,zT h2,Cg h1,Cg h2,zT (x:=some m) (λ y hy=>by cases hy;exact h3),ml h3]
  |none=>
   simp only[aB,one (x:=x) (by simp[Op.operands]),zT h1,zT h2,Cg h1,Cg h2]
 |fieldAddr t x f=>simp only[aB,one (x:=x) (by simp[Op.operands])]
 |indexAddr t x i=>simp only[aB,one (x:=x) (by simp[Op.operands]),one (x:=i) (by simp[Op.operands])]
 |index t x i=>simp only[aB,one (x:=x) (by simp[Op.operands]),one (x:=i) (by simp[Op.operands])]
 |field t x f=>simp only[aB,one (x:=x) (by simp[Op.operands])]
 |extract x i=>simp only[aB,one (x:=x) (by simp[Op.operands])]
 |call k=>
  obtain⟨callee,as,ts⟩:=k;cases callee with
  |builtin b=>
   have h':∀x∈as.toList,b6 v' x=b6 v x:=λ x hx=>h x (by simpa[Op.operands,Call.operands]using hx)
   cases b with
   |append=>
    simp only[aB];split
    .rename_i s x h0;have hs:=h' s (by rw[h0];simp);have hx:=h' x (by rw[h0];simp);rw[oq hs,oq hx,ml hs,ml hx]
    .rfl
   |len=>
    simp only[aB];split
    .rename_i x h0;have hx:=h' x (by rw[h0];simp);rw[oq hx,ml hx]
    .rfl
   |cap=>
    simp only[aB];split
    .rename_i x h0;have hx:=h' x (by rw[h0];simp);rw[oq hx,ml hx]
    .rfl
   |clear=>
    simp only[aB];split
    .rename_i x h0;have hx:=h' x (by rw[h0];simp);rw[oq hx,ml hx]
    .rfl
   |copy=>
    simp only[aB];split
    .rename_i s x h0;have hs:=h' s (by rw[h0];simp);have hx:=h' x (by rw[h0];simp);rw[oq hs,oq hx,ml hs,ml hx]
    .rfl
   |max=>simp only[aB,su h',pX h']
   |min=>simp only[aB,su h',pX h']
   |_=>rfl
  |_=>rfl
 |_=>rfl
theorem Ht {f:Operand} {args:Array Operand} (h1:b6 v' f=b6 v f) (h2:∀x∈args.toList,b6 v' x=b6 v x):dY v' r f args=dY v r f args:=by unfold dY;rw[oq h1,su h2]
end
end Go.Pk
