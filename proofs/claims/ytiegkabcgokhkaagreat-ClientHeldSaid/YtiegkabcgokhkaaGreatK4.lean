import Derived.Test.YtiegkabcgokhkaaGreatK3
import Derived.Laws.BytesString
import Derived.Laws.MakeOwn
set_option linter.unusedVariables false
set_option linter.unusedSimpArgs false
set_option linter.unusedSectionVars false
namespace Go.Pk
section
variable {cx:Cx} {v:List AV} {r:Rs} {a:Act} {w:World} {β:Nat->Nat->Pl} {T:Nat->Option TI} {c:Bool}
theorem bu.ij {A A' Tp Tp':Nat->Prop} (hA:∀b,A' b->A b) (hT:∀b,b<w.heap.size->Tp b->Tp' b):∀{ds:List D} {ad:Option Addr},bu w A Tp ds ad->bu w A' Tp' ds ad
 |[],_,_=>trivial
 |d::ds,ad,h=>by simp only[bu]at h⊢;obtain⟨b,o,u,h1,h2,h3,h4,h5⟩:=h;exact⟨b,o,u,h1,hT b (rz h3) h2,h3,h4.cg ⟨λ _ _ _=>rfl,λ b _ h=>hA b h⟩,bu.ij hA hT h5⟩
theorem IV {ds:List D} {b o:Nat} (h:jx cx w r β (ds.map C.d) b o):bu w (Av cx r β) (λ _=>True) ds (some ⟨b,o,none⟩):=
 bu.mk trivial λ k d hk=>by obtain⟨u,h1,h2,_⟩:=h k (.d d) (by rw[fl,hk];rfl);simp only[aw]at h2;exact⟨u,h1,h2⟩
theorem vp:∀{l:List C} {ds:List D},cX l=some ds->l=ds.map C.d
 |[],ds,h=>by simp only[cX,aQ]at h;subst h;rfl
 |c::cs,ds,h=>by
  simp only[cX]at h;split at h
  .rename_i d ds' h1 h2;cases h;rw[vp h2];cases c with
   |d x=>simp only[C.pq,aQ]at h1;subst h1;rfl
   |_=>simp[C.pq]at h1
  .cases h
theorem fX {P:Program} {A0 aL:Nat->Prop} {b:Nat}:Av (dt P w A0 aL) [] (λ _ _=>⟨none,0⟩) b↔A0 b:=by
 unfold Av;constructor
 .rintro(h|⟨s,j,res,o,hl,_⟩)
  .exact h
  .simp[aB,ah]at hl
 .exact .inl
abbrev β0:Nat->Nat->Pl:=λ _ _=>⟨none,0⟩
abbrev fI:Nat->Prop:=λ _=>False
theorem lU {A0:Nat->Prop} {A:Nat->Prop} {b:Nat} (h:b<w.heap.size):lh (dt cx.P w A0 fI) A b:= .inr ⟨h,λ h=>h.elim⟩
theorem xS {l:List C}:∀{b o:Nat},jx cx w r β l b o->∃us,(∀k v,us[k]? =some v->w.cell? ⟨b,o+k,none⟩=some v/\flat v=true)/\aC cx w r β l us:=by
 induction l with
 |nil=>intro b o _;exact⟨[],by simp,by simp[aC]⟩
 |cons x l ih=>
  intro b o h;obtain⟨u,h1,h2,h3⟩:=h 0 x rfl
  obtain⟨us,g1,g2⟩:=ih (b:=b) (o:=o+1) (λ k y hk=>by
   have:=h (k+1) y (by simpa using hk)
   rwa[show o+(k+1)=o+1+k by omega]at this)
  refine⟨u::us,λ k y hk=> ?_,by simp only[aC];exact⟨u,us,rfl,h2,g2⟩⟩;cases k with
  |zero=>simp only[bZ,aQ]at hk;subst hk;exact⟨h1,h3⟩
  |succ k=>
   have:=g1 k y (by simpa using hk)
   rwa[show o+1+k=o+(k+1) by omega]at this
theorem Ls (h:aH cx ⟨v,r⟩ a w β) {s:Nat} {x y:C} {u:Value} (hl:gV r s x=some y) (hu:aw cx w r β x u):aw (dt cx.P w (Av cx r β) fI) w [] β0 y u:=by
 unfold gV at hl;split at hl
 .cases hl;simp only[aw]at hu⊢;exact(u7 hu).cg ⟨λ _ _ _=>rfl,λ b _ hb=>fX.1 hb⟩
 .cases hl;simp only[aw]at hu⊢;obtain⟨ad,cap,h1,h2,h3⟩:=hu;exact⟨ad,cap,h1,h2,h3.ij (λ b hb=>fX.1 hb) (λ b hb _=>lU hb)⟩
 .split at hl
  .split at hl
   .rename_i n' ds hr;cases hl;obtain⟨ad,cap,h1,h2,h3⟩:=oc h hu hr;simp only[aw];exact⟨ad,cap,h1,h2,h3.ij (λ b hb=>fX.1 hb) (λ b hb _=>lU hb)⟩
   .cases hl
  .cases hl
 .cases hl
theorem zF (h:aH cx ⟨v,r⟩ a w β) {s:Nat}:∀{xs ys:List C} {us:List Value},ig r s xs=some ys->aC cx w r β xs us->aC (dt cx.P w (Av cx r β) fI) w [] β0 ys us
 |[],ys,us,hl,hu=>by simp only[ig,aQ]at hl;subst hl;simpa[aC]using hu
 |x::xs,ys,us,hl,hu=>by
  simp only[ig]at hl;split at hl
  .rename_i y ys' g1 g2;cases hl;simp only[aC]at hu⊢;obtain⟨u,us',rfl,h1,h2⟩:=hu;exact⟨u,us',rfl,Ls h g1 h1,zF h g2 h2⟩
  .cases hl
mutual
theorem AB (h:aH cx ⟨v,r⟩ a w β):∀{x y:C} {u:Value},bd r x=some y->aw cx w r β x u->aw (dt cx.P w (Av cx r β) fI) w [] β0 y u
 | .d x,y,u,hl,hu=>by simp only[bd,aQ]at hl;subst hl;simp only[aw]at hu⊢;exact hu.cg ⟨λ _ _ _=>rfl,λ b _ hb=>fX.1 hb⟩
 | .aJ n ds,y,u,hl,hu=>by simp only[bd,aQ]at hl;subst hl;simp only[aw]at hu⊢;obtain⟨ad,cap,h1,h2,h3⟩:=hu;exact⟨ad,cap,h1,h2,h3.ij (λ b hb=>fX.1 hb) (λ b hb _=>lU hb)⟩
 | .own hd lo n,y,u,hl,hu=>by
  simp only[bd]at hl;split at hl
  .rename_i n' ds hr;cases hl;obtain⟨ad,cap,h1,h2,h3⟩:=oc h hu hr;simp only[aw];exact⟨ad,cap,h1,h2,h3.ij (λ b hb=>fX.1 hb) (λ b hb _=>lU hb)⟩
  .cases hl
 | .ptr hd off,y,u,hl,hu=>by
  simp only[bd]at hl;split at hl
  .rename_i res g1;split at hl
   .rename_i ds g2;cases hl;simp only[aw]at hu⊢;obtain⟨b,o,k1,k2⟩:=hu.2.2 res g1;obtain⟨hlk,_⟩:=bq g1;have hcs:=((h.rs _ _ _ hlk).1.cells k1).drop (k:=off);rw[vp g2]at hcs;exact⟨b,o+off,k2,(IV hcs).ij (λ b hb=>fX.1 hb) (λ b hb _=>lU hb)⟩
   .split at hl
    .rename_i cs g3;cases hl;simp only[aw]at hu⊢;obtain⟨b,o,k1,k2⟩:=hu.2.2 res g1;obtain⟨hlk,_⟩:=bq g1;have hb:=(h.rs _ _ _ hlk).1.lt k1;have hcs:=((h.rs _ _ _ hlk).1.cells k1).drop (k:=off);obtain⟨us,p1,p2⟩:=xS hcs;exact⟨b,o+off,us,k2,hb,lU hb,p1,zF h g3 p2⟩
    .cases hl
  .cases hl
 | .dP ds,y,u,hl,hu=>by simp only[bd,aQ]at hl;subst hl;simp only[aw]at hu⊢;obtain⟨b,o,h1,h3⟩:=hu;exact⟨b,o,h1,h3.ij (λ b hb=>fX.1 hb) (λ b hb _=>lU hb)⟩
 | .eP f caps,y,u,hl,hu=>by
  simp only[bd]at hl;split at hl
  .rename_i cs g1;cases hl;simp only[aw]at hu⊢;obtain⟨us,h1,h2⟩:=hu;exact⟨us,h1,rM h g1 h2⟩
  .cases hl
 | .ab,y,u,hl,_=>by simp[bd]at hl
 | .dead,y,u,hl,_=>by simp[bd]at hl
 | .dZ cs,y,u,hl,hu=>by
  simp only[bd]at hl;split at hl
  .rename_i ys g1;cases hl;simp only[aw]at hu⊢;obtain⟨b,o,us,h1,h2,h3,h4,h5⟩:=hu;exact⟨b,o,us,h1,h2,lU h2,h4,rM h g1 h5⟩
  .cases hl
 | .cZ hd lo n k,y,u,hl,hu=>by
  simp only[bd]at hl;split at hl
  .rename_i n' ds hr;cases hl;obtain⟨ad,cap,h1,h2,h3⟩:=oc h hu hr;simp only[aw];exact⟨ad,cap,h1,h2,h3.ij (λ b hb=>fX.1 hb) (λ b hb _=>lU hb)⟩
  .cases hl
 | .lk _ _ _,y,u,hl,_=>by simp[bd]at hl
theorem rM (h:aH cx ⟨v,r⟩ a w β):∀{xs ys:List C} {us:List Value},bd.lendCs r xs=some ys->aC cx w r β xs us->aC (dt cx.P w (Av cx r β) fI) w [] β0 ys us
 |[],ys,us,hl,hu=>by simp only[bd.lendCs,aQ]at hl;subst hl;simpa[aC]using hu
 |x::xs,ys,us,hl,hu=>by
  simp only[bd.lendCs]at hl;split at hl
  .rename_i y ys' g1 g2;cases hl;simp only[aC]at hu⊢;obtain⟨u,us',h1,h2,h3⟩:=hu;exact⟨u,us',h1,AB h g1 h2,rM h g2 h3⟩
  .cases hl
end
theorem Lc (h:aH cx ⟨v,r⟩ a w β) {x y:AV} {u:Value} (hl:kj r x=some y) (hu:aA cx w r β x u):aA (dt cx.P w (Av cx r β) fI) w [] β0 y u:=by
 unfold kj at hl;split at hl
 .split at hl
  .rename_i y' g1;cases hl;exact c6.2 (AB h g1 (c6.1 hu))
  .cases hl
 .split at hl
  .rename_i y' g1;cases hl;obtain⟨us,h1,h2⟩:=fw.1 hu;exact fw.2 ⟨us,h1,rM h g1 h2⟩
  .cases hl
 .cases hl
theorem mV (h:aH cx ⟨v,r⟩ a w β):∀{xs:List AV} {ys:List Arg} {us:List Value},eT r xs=some ys->aZ cx w r β xs us->
  ∀{zs:List Arg} {vs:List Value},aW cx.P w (Av cx r β) fI (λ _=>⟨none,0⟩) 0 zs [] vs->aW cx.P w (Av cx r β) fI (λ _=>⟨none,0⟩) 0 (ys++zs) [] (us++vs)
 |[],ys,us,hl,hu,zs,vs,hz=>by simp only[eT,aQ]at hl;subst hl;simp only[aZ]at hu;subst hu;simpa using hz
 |x::xs,ys,us,hl,hu,zs,vs,hz=>by
  simp only[eT]at hl;split at hl
  .rename_i y ys' g1 g2;cases hl;simp only[aZ]at hu;obtain⟨u,us',rfl,h2,h3⟩:=hu;simp only[eD,aW];exact⟨u,us'++vs,rfl,Lc h g1 h2,mV h g2 h3 hz⟩
  .cases hl
theorem kA:∀{xs:List AV} {ys:List Arg},eT r xs=some ys->bn ys=[]
 |[],ys,hl=>by simp only[eT,aQ]at hl;subst hl;rfl
 |x::xs,ys,hl=>by
  simp only[eT]at hl;split at hl
  .rename_i y ys' g1 g2;cases hl;simp only[bn];exact kA g2
  .cases hl
theorem ky:∀(xs ys:List Arg),bn (xs++ys)=bn xs++bn ys
 |[],_=>rfl
 | .f _::xs,ys=>ky xs ys
 | .obj l::xs,ys=>by simp[bn,ky xs ys]
 | .row .. ::xs,ys=>by simp[bn,ky xs ys]
 | .dC .. ::xs,ys=>by simp[bn,ky xs ys]
theorem oi:∀{xs:List C} {us:List Value},aC cx w r β xs us->aZ cx w r β (xs.map AV.one) us
 |[],us,h=>by simpa[aC,aZ]using h
 |x::xs,us,h=>by simp only[aC]at h;obtain⟨u,us',rfl,h1,h2⟩:=h;simp only[cJ,aZ];exact⟨u,us',rfl,c6.2 h1,oi h2⟩
theorem M0 (h:aH cx ⟨v,r⟩ a w β) {f:Operand} {args:Array Operand} {ts:Array TypeId} {n:FuncId} {as:List Arg} {post:List RF->List (List RO)->Prop} {o:Oper} (ho:o.op= .call ⟨.value f,args,ts⟩)
  (hc:c=true) (s1:bf c v f) (s2:cT c v args.toList) (hcall:cC v r f args=some (n,as)) (hok:ae cx.P n as post):
  ∃us:Array Value,(execOp a.eval o).run cx.P w= .ok (.enter n us) w/\
   Calls cx.P n us w λ e w'=>∃rfs objs u,post rfs objs/\e= .returned u/\dc w (Av cx r β) fI w' [] rfs objs u:=by
 have e1:=cd h hc s1;have e2:=j8 h hc s2;unfold cC at hcall;split at hcall
 .rename_i n' caps as' g1 g2;split at hcall
  .rename_i cs g3;cases hcall
   -- whom it calls
   have hcap:∃cv:Array Value,a.eval f= .func (.func n) #[] cv/\aC cx w r β caps cv.toList:=by
    unfold jb at g1;split at g1
    .rename_i n' h1;cases g1;rw[h1]at e1;exact⟨#[],(bI.1 e1).1,by simp[aC]⟩
    .rename_i n' caps' h1;cases g1;rw[h1]at e1;simp only[aA,aw]at e1;obtain⟨us,k1,k2⟩:=e1;exact⟨us,k1,k2⟩
    .cases g1
   obtain⟨cv,k1,k2⟩:=hcap;have hargs:=mV h g2 e2 (mV h g3 (oi k2) (zs:=[]) (vs:=[]) (by simp[aW]));simp only[eU]at hargs;have hobj:bn (as'++cs)=[]:=by rw[ky,kA g2,kA g3];rfl
   refine⟨(args.toList.map a.eval++cv.toList).toArray, ?_, ?_⟩
   .have:=hok.1 (args.toList.map a.eval++cv.toList).toArray w;have hm:(args.toList.map a.eval++cv.toList).toArray=args.map a.eval++cv:=by apply gk;simp
    rw[hm]at this⊢;simp[execOp,ho,resolve,k1,Deferred.ofValue,invoke,this]
   .refine hok.2 w (Av cx r β) fI (λ _=>⟨none,0⟩) [] _ (λ b hb=> ?_) (λ b hb=>hb.elim) hargs (by rw[hobj];intro b hb;exact hb.elim) qF (by rw[hobj];intro i j b o o' sz n ds bo sz' n' ds' bo' h1;simp at h1);rcases hb with hb|⟨s,j,res,o,hl,_,hbs⟩
    .exact dI (h.a0 b hb) h.n0
    .exact(h.rs _ _ _ hl).1.lt hbs
  .cases hcall
 .cases hcall
theorem KQ (h:aH cx ⟨v,r⟩ a w β) {f:Operand} {args:Array Operand} {ts:Array TypeId} {n:FuncId} {as:List Arg} {post:List cr->List RF->List (List RO)->Prop} {o:Oper} (ho:o.op= .call ⟨.value f,args,ts⟩)
  (hc:c=true) (s1:bf c v f) (s2:cT c v args.toList) (hcall:cC v r f args=some (n,as)) (hok:CC cx.P n as post):
  ∃us:Array Value,(execOp a.eval o).run cx.P w= .ok (.enter n us) w/\
   Calls cx.P n us w λ e w'=>∃bs rfs objs u,post bs rfs objs/\e= .returned u/\(∀b∈b9 bs,w.heap.size≤b)/\dc w (λ b=>Av cx r β b∨b∈b9 bs) fI w' bs rfs objs u:=by
 have e1:=cd h hc s1;have e2:=j8 h hc s2;unfold cC at hcall;split at hcall
 .rename_i n' caps as' g1 g2;split at hcall
  .rename_i cs g3;cases hcall
   -- whom it calls
   have hcap:∃cv:Array Value,a.eval f= .func (.func n) #[] cv/\aC cx w r β caps cv.toList:=by
    unfold jb at g1;split at g1
    .rename_i n' h1;cases g1;rw[h1]at e1;exact⟨#[],(bI.1 e1).1,by simp[aC]⟩
    .rename_i n' caps' h1;cases g1;rw[h1]at e1;simp only[aA,aw]at e1;obtain⟨us,k1,k2⟩:=e1;exact⟨us,k1,k2⟩
    .cases g1
   obtain⟨cv,k1,k2⟩:=hcap;have hargs:=mV h g2 e2 (mV h g3 (oi k2) (zs:=[]) (vs:=[]) (by simp[aW]));simp only[eU]at hargs;have hobj:bn (as'++cs)=[]:=by rw[ky,kA g2,kA g3];rfl
   refine⟨(args.toList.map a.eval++cv.toList).toArray, ?_, ?_⟩
   .have:=hok.1 (args.toList.map a.eval++cv.toList).toArray w;have hm:(args.toList.map a.eval++cv.toList).toArray=args.map a.eval++cv:=by apply gk;simp
    rw[hm]at this⊢;simp[execOp,ho,resolve,k1,Deferred.ofValue,invoke,this]
   .refine hok.2 w (Av cx r β) _ (λ b hb=> ?_) hargs;rcases hb with hb|⟨s,j,res,o,hl,_,hbs⟩
    .exact dI (h.a0 b hb) h.n0
    .exact(h.rs _ _ _ hl).1.lt hbs
  .cases hcall
 .cases hcall
end
section
variable {cx:Cx} {v:List AV} {r:Rs} {a:Act} {w:World} {β:Nat->Nat->Pl} {T:Nat->Option TI} {c:Bool}
theorem foldl_push:∀(ns:List Int) (s:ByteArray),ns.foldl (λ r n=>r.push (UInt8.ofNat n.toNat)) s=⟨s.data++(ns.map λ n=>UInt8.ofNat n.toNat).toArray⟩
 |[],s=>by simp
 |n::ns,s=>by rw[nE,foldl_push ns];simp[ByteArray.push]
theorem xT {w:World} {A:Nat->Prop}:∀{ds:List D} {l:List UInt8} {us:List Value},bytesOf ds=some l->us.length=ds.length->(∀(k:Nat) (d:D),ds[k]? =some d->∃u,us[k]? =some u/\Rd w A d u)->
  ∃ns:List Int,us=ns.map (Value.int .u8)/\l=ns.map λ n=>UInt8.ofNat n.toNat
 |[],l,us,h,hl,_=>by simp only[bytesOf,aQ]at h;subst h;exact⟨[],by simpa using hl,rfl⟩
 |d::ds,l,us,h,hl,hu=>by
  cases us with
  |nil=>simp at hl
  |cons u us=>
   unfold bytesOf at h;split at h
   .rename_i heq;cases heq
   .rename_i n ds' heq;cases heq;split at h
    .rename_i l' h2;cases h;obtain⟨ns,e1,e2⟩:=xT h2 (by simpa using hl) λ k d hk=>by simpa using hu (k+1) d (by simpa using hk)
     obtain⟨u',g1,g2⟩:=hu 0 (.v (.int .u8 n)) rfl;simp only[bZ,aQ]at g1;subst g1;simp only[Rd]at g2;exact⟨n::ns,by rw[cJ,←e1,g2.1],by rw[cJ,←e2]⟩
    .cases h
   .cases h
theorem Md (hT:bF cx.P T) (h:aH cx ⟨v,r⟩ a w β) (hc:c=true) {o:Oper} {s t:TypeId} {x:Operand} (ho:o.op= .convert s t x) (hs:(az T c v r o.dst o.op).sc):
  cN cx v a w (execOp a.eval o) (az T c v r o.dst o.op).x (az T c v r o.dst o.op).r:=by
 simp only[ho,az]at hs⊢;obtain⟨s1,hs⟩:=hs;have e1:=cd h hc s1;change cN cx v a w (execOp a.eval o) (iL T r s t (ev v x)).x (iL T r s t (ev v x)).r;unfold iL at hs⊢;split at hs
 .rename_i ti h1;split at hs
  .rename_i k k0 n h3 h2;rw[h2]at e1;have f1:=(bI.1 e1).1;have s2:=hs;unfold isInt at s2;split at s2
   .rename_i si h4;split at s2
    .rename_i k3 h5;obtain⟨d1,g1,g2,_⟩:=(hT t ti h1).1.fY w;obtain⟨d2,g3,g4,_⟩:=(hT s si h4).1.fY w;rw[h3]at g2;rw[h5]at g4;simp only[h1,h3,h2];refine .val h (u:= .int k (k.wrap n)) ?_ (bI.2 ⟨rfl,rfl⟩);have hd1:d1= .int k:=by cases d1<;>simp[c8]at g2;rw[g2]
     have hd2:d2= .int k3:=by cases d2<;>simp[c8]at g4;rw[g4]
     simp[execOp,ho,convert,g1,g3,hd1,hd2,f1,Conv.intToInt]
    .cases s2
   .cases s2
  .rename_i y h3 h2;rw[h2]at e1;split at hs
   .rename_i n ds h4;split at hs
    .rename_i l h5;obtain⟨s2,s3⟩:=hs;unfold te at s2;split at s2
     .rename_i e ei h6;split at s2
      .rename_i h7;obtain⟨ad,cap,q1,q2,q3⟩:=oc h (c6.1 e1) h4;obtain⟨f1,f2,hty,f4⟩:=ia hT h6 w;obtain⟨d1,g1,g2,g3⟩:=(hT t ti h1).1.fY w;obtain⟨d2,g4,g5,g6⟩:=hty.fY w;rw[h3]at g2;rw[h7]at g5;have hd1:d1= .string:=by cases d1<;>simp[c8]at g2;rfl
       have hd2:d2= .int .u8:=by cases d2<;>simp[c8]at g5;rw[g5]
       obtain⟨us,p1,p2,p3,_⟩:=pB (P:=cx.P) (n:=n) (cap:=cap) (m:=n) (size:=1) q3 (by omega);obtain⟨ns,r1,r2⟩:=xT h5 p1 p3;simp only[h1,h3,h2,h4,h5];refine .val h (u:= .string ⟨l.toArray⟩) ?_ (bI.2 ⟨rfl,rfl⟩);have hrun:(convert s t (.slice ad n cap)).run cx.P w= .ok (.string ⟨l.toArray⟩) w:=by
        rw[run_convert_bytes_string w s t e ad n cap f4 (by rw[g6,hd2]) (by rw[g3,hd1])];cases ad with
        |none=>
         have:ds=[]:=by
          rcases Classical.em (ds=[])with h|h
          .exact h
          .obtain⟨_,_,hh⟩:=q3.addr h;cases hh
         subst this;simp only[bytesOf,aQ]at h5;subst h5;simp[Conv.bytesToString,ByteArray.empty,ByteArray.emptyWithCapacity];rfl
        |some b=>
         have hl:(loadCells b n).run cx.P w= .ok (ns.map (Value.int .u8)).toArray w:=by rw[←r1];simpa[Builtin.firstCells]using p2
         rw[run_bytesToString w b n cap ns hl,foldl_push,←r2];simp[ByteArray.empty,ByteArray.emptyWithCapacity];rfl
       simp[execOp,ho,q1,hrun]
      .cases s2
     .cases s2
    .exact hs.elim
   .exact hs.elim
  .exact hs.elim
 .exact hs.elim
theorem Jt {z:Array Value} {n size:Nat} (h:z.size=size):madeCells z (n*size)=Builtin.zeroCells z n:=by subst h;rfl
theorem MI (hT:bF cx.P T) (h:aH cx ⟨v,r⟩ a w β) (hc:c=true) {o:Oper} {t:TypeId} {x y:Operand} (ho:o.op= .makeSlice t x y) (hs:(az T c v r o.dst o.op).sc):
  cN cx v a w (execOp a.eval o) (az T c v r o.dst o.op).x (az T c v r o.dst o.op).r:=by
 simp only[ho,az]at hs⊢;obtain⟨⟨s1,s2⟩,hs⟩:=hs;have e1:=cd h hc s1;have e2:=cd h hc s2;change cN cx v a w (execOp a.eval o) (nu T r c o.dst t (ev v x) (ev v y)).x (nu T r c o.dst t (ev v x) (ev v y)).r;unfold nu at hs⊢;split at hs
 .rename_i e ei k n k2 m d h1 h2 h3 h4;simp only[h1,h2,h3,h4];rw[h2]at e1;rw[h3]at e2;obtain⟨q1,q2,q3,q4⟩:=hs hc;subst q2;have f1:=(bI.1 e1).1;have f2:=(bI.1 e2).1;obtain⟨g1,g2,hty,g3⟩:=ia hT h1 w;have hty0:=hty;obtain⟨⟨i,z,d0,hi,_,hz,hsz,hby,hzz,_⟩,_,_⟩:=hty0;have hzs:z.cells.size=ei.size:=by rw[←iM,←hzz,hty.len]
  have hrun:=run_make (P:=cx.P) w t e i z g3 hi hz k k2 n n q1 (Int.le_refl _) (by rw[←hby];omega) (by omega);rw[←hsz,Jt hzs]at hrun;obtain⟨z1,z2,z3⟩:=pD (cx:=cx) (w:=w.alloc (.cells (Builtin.zeroCells z.cells n.toNat) e)) (A:=λ _=>False) hty hzz.symm (n:=n.toNat);obtain⟨β2,t1,t2⟩:=pP h hc (d:=d) (n:=n.toNat) (sz:=ei.size) (ds:=gv ei.zero n.toNat) (pl0:=⟨some (w.heap.size,0),n.toNat⟩) (w':=w.alloc (.cells (Builtin.zeroCells z.cells n.toNat) e))
   (λ b o hb=>by cases hb;rfl) (λ b hb'=>kD w _ hb') (by simp) (by rw[r5,hty.len];exact Nat.le_refl _) (Nat.le_refl _) (λ A' hA=>by
    have:=Bi (w:=w) (A:=A') (ds:=gv ei.zero n.toNat) (us:=(Builtin.zeroCells z.cells n.toNat).toList) (e:=e) (sz:=ei.size) (n:=n.toNat) (by rw[r5,hty.len,z1]) z1
     (λ k d' hk=>by obtain⟨u,y1,y2⟩:=(pD (cx:=cx) (w:=w.alloc (.cells (Builtin.zeroCells z.cells n.toNat).toList.toArray e (0,0))) (A:=A') hty hzz.symm (n:=n.toNat)).2.1 k d' hk;exact⟨u,y1,y2⟩)
    simpa using this)
  refine⟨_,_,β2,_, ?_, .inl rfl,t1,t2⟩;simp[execOp,ho,f1,f2,hrun]
 .exact hs.elim
theorem Lq (hT:bF cx.P T) (h:aH cx ⟨v,r⟩ a w β) (hc:c=true) {o:Oper} {t:TypeId} {x:Operand} (ho:o.op= .makeInterface t x) (hs:(az T c v r o.dst o.op).sc):
  cN cx v a w (execOp a.eval o) (az T c v r o.dst o.op).x (az T c v r o.dst o.op).r:=by
 simp only[ho,az]at hs⊢;obtain⟨s1,hs⟩:=hs;have e1:=cd h hc s1;change cN cx v a w (execOp a.eval o) (iK T r t (ev v x)).x (iK T r t (ev v x)).r;unfold iK at hs⊢;split at hs
 .rename_i ti h1;split at hs
  .rename_i fs l h3 h2;split at hs
   .rename_i vs h4;rw[h2]at e1;obtain⟨us,f1,f2⟩:=fw.1 e1;have f3:=rZ h4 f2;obtain⟨d1,g1,g2,_⟩:=(hT t ti h1).1.fY w;rw[h3]at g2;simp only[h1,h3,h2,h4];refine .val h (u:= .iface t (.agg vs.toArray)) ?_ (bI.2 ⟨rfl,rfl⟩);have hus:us=vs.toArray:=by rw[←f3]
    cases d1<;>simp[c8]at g2<;>simp[execOp,ho,Instr.makeInterface,g1,f1,hus]
   .exact hs.elim
  .rename_i k0 k n h3 h2;rw[h2]at e1;have f1:=(bI.1 e1).1;obtain⟨d1,g1,g2,_⟩:=(hT t ti h1).1.fY w;rw[h3]at g2;simp only[h1,h3,h2];refine .val h (u:= .iface t (.int k n)) ?_ (bI.2 ⟨rfl,rfl⟩);cases d1<;>simp[c8]at g2<;>simp[execOp,ho,Instr.makeInterface,g1,f1]
  .exact hs.elim
 .exact hs.elim
end
section
variable {cx:Cx} {v:List AV} {r:Rs} {a:Act} {w:World} {β:Nat->Nat->Pl} {T:Nat->Option TI} {c:Bool}
theorem Nl (h:aH cx ⟨v,r⟩ a w β) (hc:c=true) {o:Oper} {ts:Array TypeId} {as:Array Operand} (ho:o.op= .call ⟨.builtin .min,as,ts⟩)
  (hs:(az T c v r o.dst o.op).sc):cN cx v a w (execOp a.eval o) (az T c v r o.dst o.op).x (az T c v r o.dst o.op).r:=by
 simp only[ho,az]at hs⊢;exact CD (mx:=false) h hc (by rw[ho];rfl) hs
theorem NK (h:aH cx ⟨v,r⟩ a w β) (hc:c=true) {o:Oper} {ts:Array TypeId} {as:Array Operand} (ho:o.op= .call ⟨.builtin .max,as,ts⟩)
  (hs:(az T c v r o.dst o.op).sc):cN cx v a w (execOp a.eval o) (az T c v r o.dst o.op).x (az T c v r o.dst o.op).r:=by
 simp only[ho,az]at hs⊢;exact CD (mx:=true) h hc (by rw[ho];rfl) hs
theorem B2 (hT:bF cx.P T) (h:aH cx ⟨v,r⟩ a w β) (hc:c=true) {o:Oper} (hs:(az T c v r o.dst o.op).sc):
  cN cx v a w (execOp a.eval o) (az T c v r o.dst o.op).x (az T c v r o.dst o.op).r:=by
 have no:∀{op:Op},o.op=op->az T c v r o.dst op=bad->cN cx v a w (execOp a.eval o) (az T c v r o.dst o.op).x (az T c v r o.dst o.op).r:=λ h1 h2=>by rw[h1,h2]at hs;exact hs.elim
 cases ho:o.op with
 |move x=>rw[←ho];exact M4 h hc ho hs
 |assign x=>rw[←ho];exact Ky h hc ho hs
 |pick t x z=>rw[←ho];exact Mn h hc ho hs
 |alloc t=>rw[←ho];exact KL hT h hc ho hs
 |box t x=>rw[←ho];exact Nb h hc ho hs
 |build t ps=>rw[←ho];exact Lx hT h hc ho hs
 |buildSlice t n ps=>rw[←ho];exact IF hT h hc ho hs
 |makeSlice t x y=>rw[←ho];exact MI hT h hc ho hs
 |load t x=>rw[←ho];exact Mb hT h hc ho hs
 |store t x y=>rw[←ho];exact KX h hc hT ho hs
 |nilCheck x=>rw[←ho];exact ND h hc ho hs
 |binOp op t x y yt=>rw[←ho];exact NI hT h hc ho hs
 |unOp op t x=>
  cases op with
  |not=>rw[←ho];exact M7 h hc ho hs
  |_=>rw[←ho];exact no ho rfl
 |convert s t x=>rw[←ho];exact Md hT h hc ho hs
 |makeInterface t x=>rw[←ho];exact Lq hT h hc ho hs
 |makeFunc fn first caps=>
  cases fn with
  |func f=>rw[←ho];exact ML h hc ho hs
  |_=>rw[←ho];exact no ho rfl
 |slice t x lo hi mx=>
  cases mx with
  |none=>rw[←ho];exact LM hT h hc ho hs
  |some _=>rw[←ho];exact J6 hT h hc ho hs
 |fieldAddr t x f=>rw[←ho];exact LI hT h hc ho hs
 |indexAddr t x i=>rw[←ho];exact Ns hT h hc ho hs
 |index t x i=>rw[←ho];exact LK hT h hc ho hs
 |field t x f=>rw[←ho];exact J7 hT h hc ho hs
 |extract x i=>rw[←ho];exact Jq h hc ho hs
 |call k=>
  obtain⟨callee,as,ts⟩:=k;cases callee with
  |builtin b=>
   cases b with
   |append=>rw[←ho];exact Ku h hc hT ho hs
   |len=>rw[←ho];exact Nz (x:= .const undef) hT h hc ho hs
   |cap=>rw[←ho];exact M6 hT h hc ho hs
   |copy=>rw[←ho];exact MX h hc hT ho hs
   |clear=>rw[←ho];exact LS h hc hT ho hs
   |max=>rw[←ho];exact NK h hc ho hs
   |min=>rw[←ho];exact Nl h hc ho hs
   |_=>rw[←ho];exact no ho rfl
  |_=>rw[←ho];exact no ho rfl
 |_=>rw[←ho];exact no ho rfl
theorem BX {x:Out} {p:Prop}:(x.with p).r=x.r:=rfl
theorem gM {x:Out} {p:Prop} (h:(x.with p).sc):x.sc:=h.2
theorem Na {o:BinOp} {t:Nat} {x y:AV} (hs:(jQ T r o t x y).sc):(jQ T r o t x y).r=r:=by
 unfold jQ at*
 repeat' split at hs
 all_goals first|exact hs.elim|simp only[*]
theorem NF {t:Nat} {x y:AV} (hs:(jU T r c t x y).sc):(jU T r c t x y).r=r:=by
 unfold jU at*
 repeat' split at hs
 all_goals first|exact hs.elim|simp only[*]
theorem K9 {t f:Nat} {y:AV} (hs:(jy T r t f y).sc):(jy T r t f y).r=r:=by
 unfold jy at*
 repeat' split at hs
 all_goals first|exact hs.elim|simp only[*]
theorem LU {t:Nat} {y:AV} {l hi:Option AV} (hs:(jA T r c t y l hi).sc):(jA T r c t y l hi).r=r:=by
 unfold jA at*
 repeat' split at hs
 all_goals first|exact hs.elim|simp only[*]
theorem Kw {t:Nat} {y:AV} {l hi m:Option AV} (hs:(jw T r c t y l hi m).sc):(jw T r c t y l hi m).r=r:=by
 unfold jw at*
 repeat' split at hs
 all_goals first|exact hs.elim|simp only[*]
theorem Mz {e e2:Nat} {y:AV} (hs:(iL T r e e2 y).sc):(iL T r e e2 y).r=r:=by
 unfold iL at*
 repeat' split at hs
 all_goals first|exact hs.elim|simp only[*]
theorem LB {t:Nat} {y:AV} (hs:(iK T r t y).sc):(iK T r t y).r=r:=by
 unfold iK at*
 repeat' split at hs
 all_goals first|exact hs.elim|simp only[*]
theorem Ni {t:Option Nat} {y:AV} (hs:(jM T r t y).sc):(jM T r t y).r=r:=by
 unfold jM at*
 repeat' split at hs
 all_goals first|exact hs.elim|simp only[*]
theorem CG {mx:Bool} {y:List AV} (hs:(hX r mx y).sc):(hX r mx y).r=r:=by
 unfold hX at*
 repeat' split at hs
 all_goals first|exact hs.elim|simp only[*]
theorem vf {op:Op} {dst:Option Nat} (hg:sY op=true) (hs:(az T c v r dst op).sc):(az T c v r dst op).r=r:=by
 cases op with
 |move x=>rfl
 |pick t x z=>
  simp only[az]at hs⊢
  repeat' split at hs
  all_goals first|exact hs.elim|simp only[*]
 |build t ps=>
  simp only[az]at hs⊢
  repeat' split at hs
  all_goals first|exact hs.elim|simp only[*]
 |load t x=>
  simp only[az]at hs⊢
  repeat' split at hs
  all_goals first|exact hs.elim|simp only[*]
 |nilCheck x=>
  simp only[az]at hs⊢
  repeat' split at hs
  all_goals first|exact hs.elim|simp only[*]
 |binOp op t x y yt=>exact Na (gM hs)
 |unOp op t x=>
  cases op with
  |not=>
   simp only[az]at hs⊢
   repeat' split at hs
   all_goals first|exact hs.elim|simp only[*]
  |_=>exact hs.elim
 |convert s t x=>exact Mz (gM hs)
 |makeInterface t x=>exact LB (gM hs)
 |makeFunc fn first caps=>
  cases fn with
  |func f=>
   obtain⟨first⟩:=first
   cases first with
   |nil=>
    simp only[az]at hs⊢
    repeat' split at hs
    all_goals first|exact hs.elim|simp only[*]
   |cons _ _=>exact hs.elim
  |_=>exact hs.elim
 |slice t x lo hi mx=>
  cases mx with
  |none=>exact LU (gM hs)
  |some _=>exact Kw (gM hs)
 |fieldAddr t x f=>
  simp only[az]at hs⊢
  repeat' split at hs
  all_goals first|exact hs.elim|simp only[*]
 |indexAddr t x i=>exact NF (gM hs)
 |field t x f=>exact K9 (gM hs)
 |index t x i=>
  simp only[az]at hs⊢
  repeat' split at hs
  all_goals first|exact hs.elim|simp only[*]
 |extract x i=>
  simp only[az]at hs⊢
  repeat' split at hs
  all_goals first|exact hs.elim|simp only[*]
 |call k=>
  obtain⟨callee,as,ts⟩:=k;cases callee with
  |builtin b=>
   cases b with
   |len=>
    simp only[az]at hs⊢;split at hs
    .try simp only[*]
     exact Ni (gM hs)
    .exact hs.elim
   |max=>exact CG (gM hs)
   |min=>exact CG (gM hs)
   |_=>cases hg
  |_=>cases hg
 |_=>cases hg
end
section
variable {cx:Cx} {v:List AV} {r r':Rs} {a:Act} {w w':World} {β β':Nat->Nat->Pl} {T:Nat->Option TI} {c:Bool}
def rowAt (e sz:Nat) (ds:List D):aY:={e,var:=false,fz:=false,sz,cells:=ds.map C.d}
def jk (r':Rs) (β':Nat->Nat->Pl) (γ:Nat->Pl) (s e k:Nat) (l:List RO):Prop:=
 ∀(i sz n:Nat) (ds:List D) (bo:Bool),l[i]? =some (.own sz n ds bo)->(∃bb,aK r' ⟨s,k+i+1,e⟩=some {rowAt e sz ds with cw:=bb})/\β' s (k+i+1)=γ (k+i)/\e<aq r' s
theorem jk.tail {γ:Nat->Pl} {s e k:Nat} {x:RO} {l:List RO} (h:jk r' β' γ s e k (x::l)):jk r' β' γ s e (k+1) l:=λ i sz n ds bo hi=>by have:=h (i+1) sz n ds bo (by simpa using hi);simpa[cS,iz 1 i]using this
theorem jk.left {γ:Nat->Pl} {s e k:Nat} {l m:List RO} (h:jk r' β' γ s e k (l++m)):jk r' β' γ s e k l:=λ i sz n ds bo hi=>
 h i sz n ds bo (by rw[cj (bJ.1 hi).1];exact hi)
theorem jk.right {γ:Nat->Pl} {s e k:Nat} {l m:List RO} (h:jk r' β' γ s e k (l++m)):jk r' β' γ s e (k+l.length) m:=λ i sz n ds bo hi=>by have:=h (l.length+i) sz n ds bo (by rw[ct (fD _ _)];simpa using hi);simpa[cS]using this
theorem mQ {A:Nat->Prop} {γ:Nat->Pl} {s e:Nat} (hA:∀b,Av cx r' β' b->A b):∀{l:List RO} {k:Nat} {us:List Value},jk r' β' γ s e k l->bP A w' γ k l us->aC cx w' r' β' (dD s e k l) us
 |[],k,us,_,h=>by simpa[bP,dD,aC]using h
 | .d x::l,k,us,hb,h=>by simp only[bP,cA]at h;obtain⟨u,us',rfl,h1,h2⟩:=h;simp only[dD,aC,aw];exact⟨u,us',rfl,h1.cg ⟨λ _ _ _=>rfl,λ b _ hb=>hA b hb⟩,mQ hA hb.tail h2⟩
 | .own sz n ds bo::l,k,us,hb,h=>by
  simp only[bP,cA]at h;obtain⟨u,us',rfl,⟨h1,h2,h3,ad,h4,h5⟩,h6⟩:=h;simp only[dD,aC,aw];obtain⟨⟨bb,g1⟩,g2,g3⟩:=hb 0 sz n ds bo (by simp);simp only[eV]at g1 g2;refine⟨u,us',rfl,⟨by rw[h4];rfl,g3,λ res hres=> ?_⟩,mQ hA hb.tail h6⟩;rw[g1]at hres;cases hres;rw[g2];refine⟨rfl,by simpa[rowAt]using h1,by simpa using h2,ad,by simpa using h4, ?_⟩;rcases h5 with h5|⟨b,o,h5,h7⟩
  .exact .inl (by simpa using h5)
  .exact .inr ⟨b,o,h5,by simpa using h7⟩
theorem pC {s e:Nat}:∀{l:List RO} {k:Nat},(dD s e k l).length=l.length
 |[],_=>rfl
 | .d _::l,k=>by simp[dD,pC (l:=l)]
 | .own .. ::l,k=>by simp[dD,pC (l:=l)]
theorem LP {A:Nat->Prop} {γ:Nat->Pl} {s e k:Nat} (hA:∀b,Av cx r' β' b->A b) {x:RF} {u:Value} (hb:jk r' β' γ s e k x.cells) (h:iG A w' γ k x u):
  aA cx w' r' β' (qq s e k x) u:=by
 cases x with
 |one x=>
  simp only[iG]at h;have:=mQ (us:=[u]) hA hb (by simp only[RF.cells,bP];exact⟨u,[],rfl,h,rfl⟩);simp only[RF.cells]at this;unfold qq;cases hx:dD s e k [x]with
  |nil=>have:=congrArg List.length hx;simp[pC]at this
  |cons y ys=>
   cases ys with
   |cons _ _=>have:=congrArg List.length hx;simp[pC]at this
   |nil=>
    rw[hx]at this;simp only[aC]at this;obtain⟨u',us',h1,h2,_⟩:=this;cases h1;simp only[hx];exact c6.2 h2
 |agg l=>
  simp only[iG]at h;obtain⟨us,rfl,h2⟩:=h;exact fw.2 ⟨us,rfl,mQ hA hb h2⟩
theorem mU {A:Nat->Prop} {γ:Nat->Pl} {s e:Nat} (hA:∀b,Av cx r' β' b->A b):∀{rfs:List RF} {k:Nat} {us:List Value},jk r' β' γ s e k (rfs.flatMap RF.cells)->dp A w' γ k rfs us->
  aZ cx w' r' β' (fx s e k rfs) us
 |[],k,us,_,h=>by simpa[dp,fx,aZ]using h
 |x::rfs,k,us,hb,h=>by simp only[dp]at h;obtain⟨u,us',rfl,h1,h2⟩:=h;simp only[fm]at hb;simp only[fx,aZ];exact⟨u,us',rfl,LP hA hb.left h1,mU hA hb.right h2⟩
theorem pV {l:List AV} {us:List Value} {u:Value} (hu:u=(match us with|[x]=>x|us=> .tuple us.toArray)) (h:aZ cx w' r' β' l us):aA cx w' r' β' (hP l) u:=by
 cases l with
 |nil=>simp only[aZ]at h;subst h;subst hu;simp only[hP,aA];exact⟨_,rfl,by simp[aZ]⟩
 |cons x l=>
  simp only[aZ]at h;obtain⟨y,ys,rfl,h1,h2⟩:=h;cases l with
  |nil=>simp only[aZ]at h2;subst h2;subst hu;exact h1
  |cons x' l=>
   simp only[aZ]at h2;obtain⟨y',ys',rfl,h3,h4⟩:=h2;subst hu;simp only[hP,aA];refine⟨_,rfl, ?_⟩;simp only[aZ];exact⟨y,_,rfl,h1,y',ys',rfl,h3,h4⟩
theorem rV:∀{l:List RO},fR l=true->∀(i sz n:Nat) (ds:List D) (bo:Bool),l[i]? ≠some (RO.own sz n ds bo)
 |[],_,i,_,_,_,_=>by simp
 | .d x::l,h,0,_,_,_,_=>by simp
 | .d x::l,h,i+1,sz,n,ds,bo=>by simpa using rV (l:=l) (by simpa[fR]using h) i sz n ds bo
 | .own .. ::l,h,_,_,_,_,_=>by simp[fR]at h
theorem gx {γ:Nat->Pl}:∀{l:List RO} {k i sz n b o:Nat} {ds:List D} {bo:Bool},l[i]? =some (.own sz n ds bo)->(γ (k+i)).base=some (b,o)->NB γ k l b
 |[],_,_,_,_,_,_,_,_,h,_=>by simp at h
 | .d x::l,k,0,_,_,_,_,_,_,h,_=>by simp at h
 | .own sz n ds _::l,k,0,_,_,_,o,_,_,h,hb=>by simp only[NB];exact .inl ⟨o,hb⟩
 | .d x::l,k,i+1,sz,n,b,o,ds,bo,h,hb=>by simp only[NB];exact gx (i:=i) (by simpa using h) (by rw[←hb];congr 2;omega)
 | .own _ _ _ _::l,k,i+1,sz,n,b,o,ds,bo,h,hb=>by simp only[NB];exact .inr (gx (i:=i) (by simpa using h) (by rw[←hb];congr 2;omega))
theorem rB {B:Bool} {e:Nat}:∀{l:List RO} {j:Nat} {res:aY},(dy B e l)[j]? =some (some res)->∃sz n ds bo,l[j]? =some (.own sz n ds bo)/\res={rowAt e sz ds with cw:=bo&&B}
 |[],j,_,h=>by simp[dy]at h
 | .d x::l,0,_,h=>by simp[dy]at h
 | .own sz n ds bo::l,0,res,h=>by simp only[dy,bZ,aQ]at h;exact⟨sz,n,ds,bo,by simp,h.symm⟩
 | .d x::l,j+1,res,h=>by simpa using rB (l:=l) (j:=j) (by simpa[dy]using h)
 | .own .. ::l,j+1,res,h=>by simpa using rB (l:=l) (j:=j) (by simpa[dy]using h)
theorem mP {B:Bool} {e:Nat}:∀{l:List RO} {j sz n:Nat} {ds:List D} {bo:Bool},l[j]? =some (.own sz n ds bo)->(dy B e l)[j]? =some (some {rowAt e sz ds with cw:=bo&&B})
 |[],j,_,_,_,_,h=>by simp at h
 | .d x::l,0,_,_,_,_,h=>by simp at h
 | .own sz n ds bo::l,0,_,_,_,_,h=>by simp only[bZ,aQ,RO.own.injEq]at h;obtain⟨rfl,rfl,rfl,rfl⟩:=h;rfl
 | .d x::l,j+1,sz,n,ds,bo,h=>by simpa[dy]using mP (B:=B) (e:=e) (l:=l) (j:=j) (by simpa using h)
 | .own .. ::l,j+1,sz,n,ds,bo,h=>by simpa[dy]using mP (B:=B) (e:=e) (l:=l) (j:=j) (by simpa using h)
theorem bP.row {A:Nat->Prop} {γ:Nat->Pl}:∀{l:List RO} {k i sz n:Nat} {ds:List D} {bo:Bool} {us:List Value},bP A w' γ k l us->l[i]? =some (.own sz n ds bo)->b5 w' A (γ (k+i)) sz ds
 |[],_,_,_,_,_,_,_,_,h=>by simp at h
 |x::l,k,0,sz,n,ds,bo,us,h,hi=>by simp only[bZ,aQ]at hi;subst hi;simp only[bP,cA]at h;obtain⟨u,us',_,⟨_,_,h3,_⟩,_⟩:=h;exact h3
 |x::l,k,i+1,sz,n,ds,bo,us,h,hi=>by simp only[bP]at h;obtain⟨u,us',_,_,h2⟩:=h;have:=bP.row h2 (i:=i) (by simpa using hi);rw[show k+(i+1)=k+1+i from by omega];exact this
theorem dp.row {A:Nat->Prop} {γ:Nat->Pl}:∀{rfs:List RF} {k i sz n:Nat} {ds:List D} {bo:Bool} {us:List Value},dp A w' γ k rfs us->(rfs.flatMap RF.cells)[i]? =some (.own sz n ds bo)->b5 w' A (γ (k+i)) sz ds
 |[],_,_,_,_,_,_,_,_,h=>by simp at h
 |x::rfs,k,i,sz,n,ds,bo,us,h,hi=>by
  simp only[dp]at h;obtain⟨u,us',_,h1,h2⟩:=h;rw[fm]at hi;rcases gW i x.cells.length with hlt|hge
  .rw[cj hlt]at hi;cases x with
   |one x=>
    simp only[iG]at h1;exact bP.row (us:=[u]) (l:=[x]) (by simp only[bP];exact⟨u,[],rfl,h1,rfl⟩) hi
   |agg l=>
    simp only[iG]at h1;obtain⟨us,_,h3⟩:=h1;exact bP.row h3 hi
  .rw[ct hge]at hi;have:=dp.row h2 hi;rw[show k+x.cells.length+(i - x.cells.length)=k+i from by omega]at this;exact this
theorem aH.calm (h:aH cx ⟨v,r⟩ a w β) (hsz:w.heap.size≤w'.heap.size) (hold:∀b,b<w.heap.size->w'.heap[b]? =w.heap[b]?) (hos:w'.os=w.os) (hout:w'.output=w.output):
  aH cx ⟨v,r⟩ a w' β/\Ext cx w r β w' r β:=by
 have x:Ext cx w r β w' r β:=⟨λ _=>Nat.le_refl _,λ hd res' _ hg=>⟨res',hg,rfl,rfl,rfl,Nat.le_refl _⟩,⟨λ b hb _=>hold b hb,λ _ _ h=>h⟩,λ b hb _=>hold b (dI hb h.n0),hos,hout⟩;exact⟨h.mk' x (λ s j res hl=>⟨(h.rs s j res hl).1.ext x (λ b o hb=>hold b ((h.rs s j res hl).1.lt hb)) (λ b o hb=>(h.rs s j res hl).1.lt hb),(h.rs s j res hl).2⟩) h.inj h.fr hsz,x⟩
theorem yQ (h:aH cx ⟨v,r⟩ a w β) {rfs:List RF} {u:Value} (hn:fR (rfs.flatMap RF.cells)=true) (hr:dc w (Av cx r β) fI w' [] rfs [] u):
  aH cx ⟨v,r⟩ a w' β/\aA cx w' r β (hP (fx 0 0 0 rfs)) u:=by
 obtain⟨⟨γ,us,h1,h2,_,_,_⟩,h3,h4,h5,h6⟩:=hr;obtain⟨g1,g2⟩:=h.calm h3 (λ b hb=>h4 b hb (λ h=>h.elim)) h5 h6;refine⟨g1,pV h1 (mU (γ:=γ) (λ b hb=> .inl hb) (λ i sz n ds bo hi=>absurd hi (rV hn i sz n ds bo)) h2)⟩
theorem L0 (h:aH cx ⟨v,r⟩ a w β) {rfs:List RF} {u:Value} {d:Nat} (hr:dc w (Av cx r β) fI w' [] rfs [] u):
  ∃β',aH cx ⟨v,aM d {next:=aq r d+1,l:=none::dy false (aq r d) (rfs.flatMap RF.cells)} r⟩ a w' β'/\
   aA cx w' (aM d {next:=aq r d+1,l:=none::dy false (aq r d) (rfs.flatMap RF.cells)} r) β' (hP (fx d (aq r d) 0 rfs)) u:=by
 obtain⟨⟨γ,us,h1,h2,_,hnb,_,hap⟩,h3,h4,h5,h6⟩:=hr;simp only[cn,List.flatten_nil,eU]at h2 hnb hap;generalize hcs:rfs.flatMap RF.cells=cs at*;generalize hr':aM d {next:=aq r d+1,l:=none::dy false (aq r d) cs} r=r';have hlook:∀j res,aB r' d j=some res->∃k sz n ds bo,j=k+1/\cs[k]? =some (.own sz n ds bo)/\res=rowAt (aq r d) sz ds:=λ j res hl=>by
  rw[←hr',dH,ay rfl]at hl;simp only at hl;split at hl
  .rename_i q hj;cases hl;cases j with
   |zero=>simp at hj
   |succ k=>
    obtain⟨sz,n,ds,bo,g1,g2⟩:=rB (by simpa using hj);exact⟨k,sz,n,ds,bo,rfl,g1,by simpa[rowAt]using g2⟩
  .cases hl
 have hlook2:∀s j,s≠d->aB r' s j=aB r s j:=λ s j hs=>by rw[←hr',dH,ar (dU hs)]
 have hnx:∀s,aq r' s=if d=s then aq r d+1 else aq r s:=λ s=>by rw[←hr',c5]
 let β':Nat->Nat->Pl:=λ s j=>if s=d then γ (j - 1)else β s j
 have hβ0:∀k,β' d (k+1)=γ k:=λ k=>by simp[β']
 have hβ1:∀s j,s≠d->β' s j=β s j:=λ s j hs=>by simp[β',hs]
 have hnew:∀{k sz n ds bo b o},cs[k]? =some (.own sz n ds bo)->(γ k).base=some (b,o)->w.heap.size≤b:=λ {k sz n ds bo b o} hk hb=>by have:=hnb b (gx (k:=0) hk (by simpa using hb));exact this.1.resolve_right λ h=>h
 have hlt:∀{s j res b o},aB r s j=some res->(β s j).base=some (b,o)->b<w.heap.size:=λ hl hb=>(h.rs _ _ _ hl).1.lt hb
 have hAv:∀b,Av cx r' β' b->Av cx r β b∨NB γ 0 cs b:=λ b hA=>by
  rcases hA with hA|⟨s,j,res,o,hl,hf,hb⟩
  .exact .inl (.inl hA)
  .by_cases hs:s=d
   .subst hs;obtain⟨k,sz,n,ds,bo,rfl,g1,g2⟩:=hlook _ _ hl;rw[hβ0]at hb;exact .inr (gx (k:=0) g1 (by simpa using hb))
   .rw[hlook2 _ _ hs]at hl;rw[hβ1 _ _ hs]at hb;exact .inl (.inr ⟨s,j,res,o,hl,hf,hb⟩)
 have hx:Ext cx w r β w' r' β':=by
  refine⟨λ s=> ?_,λ hd res' hlt' hg=> ?_,⟨λ b hb' _=>h4 b hb' (λ h=>h),λ b hb' hA=> ?_⟩,λ b hb' hn=>h4 b (dI hb' h.n0) (λ h=>h),h5,h6⟩
  .rw[hnx];split
   .rename_i e;subst e;exact lN _
   .exact Nat.le_refl _
  .obtain⟨hl,hee⟩:=bq hg;by_cases hs:hd.s=d
   .rw[hs]at hl hlt';obtain⟨k,sz,n,ds,bo,_,_,rfl⟩:=hlook _ _ hl;simp only[rowAt]at hee;omega
   .rw[hlook2 _ _ hs]at hl;exact⟨res',ed hl hee,hβ1 _ _ hs,rfl,rfl,Nat.le_refl _⟩
  .rcases hAv b hA with h'|h'
   .exact h'
   .have:=(hnb b h').1.resolve_right λ h=>h
    omega
 have hH:aH cx ⟨v,r'⟩ a w' β':=by
  refine h.mk' hx (λ s j res hl=> ?_) (λ s j res s' j' res' b o o' hl hf hl' hf' hbs hbs'=> ?_) (λ s j res b o hl hf hbs=> ?_) h3
  .by_cases hs:s=d
   .subst hs;obtain⟨k,sz,n,ds,bo,rfl,g1,rfl⟩:=hlook _ _ hl;rw[hβ0];refine⟨?_,by rw[hnx,ay rfl];exact eX _⟩;unfold bB;rw[ar (by simp[rowAt])];refine⟨ds,rfl, ?_,λ hf=>by simp[rowAt]at hf⟩;have:=dp.row h2 (by rw[hcs];exact g1);rw[bC]at this;exact this.cg ⟨λ _ _ _=>rfl,λ b _ hb=>hAv b hb⟩ (λ _ _ _=>rfl)
   .rw[hlook2 _ _ hs]at hl;rw[hβ1 _ _ hs];obtain⟨g1,g2⟩:=h.rs s j res hl;exact⟨g1.ext hx (λ b o hb=>h4 b (g1.lt hb) (λ h=>h)) (λ b o hb=>g1.lt hb),by rw[hnx,ar (dU hs)];exact g2⟩
  .by_cases hs:s=d<;>by_cases hs':s'=d
   .subst hs;subst hs';obtain⟨k,sz,n,ds,bo,rfl,g1,rfl⟩:=hlook _ _ hl;obtain⟨k',sz',n',ds',bo',rfl,g1',rfl⟩:=hlook _ _ hl';rw[hβ0]at hbs hbs';exact⟨rfl,by rw[hap k k' b o o' sz n ds bo sz' n' ds' bo' g1 g1' hbs hbs']⟩
   .subst hs;obtain⟨k,sz,n,ds,bo,rfl,g1,rfl⟩:=hlook _ _ hl;rw[hβ0]at hbs;rw[hlook2 _ _ hs']at hl';rw[hβ1 _ _ hs']at hbs';have h5:=hnew g1 hbs;have h6:=hlt hl' hbs';omega
   .subst hs';obtain⟨k,sz,n,ds,bo,rfl,g1,rfl⟩:=hlook _ _ hl';rw[hβ0]at hbs';rw[hlook2 _ _ hs]at hl;rw[hβ1 _ _ hs]at hbs;have h5:=hnew g1 hbs';have h6:=hlt hl hbs;omega
   .rw[hlook2 _ _ hs]at hl;rw[hlook2 _ _ hs']at hl';rw[hβ1 _ _ hs]at hbs;rw[hβ1 _ _ hs']at hbs';exact h.inj _ _ _ _ _ _ _ _ _ hl hf hl' hf' hbs hbs'
  .by_cases hs:s=d
   .subst hs;obtain⟨k,sz,n,ds,bo,rfl,g1,rfl⟩:=hlook _ _ hl;rw[hβ0]at hbs;have h5:=hnew g1 hbs;have h6:=h.n0;exact⟨.inl (by omega),λ _=>by omega⟩
   .rw[hlook2 _ _ hs]at hl;rw[hβ1 _ _ hs]at hbs;exact h.fr _ _ _ _ _ hl hf hbs
 refine⟨β',hH,pV h1 (mU (γ:=γ) hAv (λ i sz n ds bo hi=> ?_) h2)⟩;rw[hcs]at hi;refine⟨⟨false,ed ?_ rfl⟩,by rw[bC];exact hβ0 i,by rw[hnx,ay rfl];exact eX _⟩;rw[←hr',dH,ay rfl];simp[mP hi,rowAt]
theorem M9 (h:aH cx ⟨v,r⟩ a w β) {rfs:List RF} {u:Value} (hr:dc w (Av cx r β) fI w' [] rfs [] u) (dst:Option Nat):
  ∃β',aH cx ⟨v,(dx r dst rfs).2⟩ a w' β'/\aA cx w' (dx r dst rfs).2 β' (dx r dst rfs).1 u:=by
 unfold dx gb;simp only;split
 .rename_i hn;exact⟨β,yQ h hn hr⟩
 .cases dst with
  |some d=>exact L0 h hr
  |none=>exact⟨β,(h.calm hr.size (λ b hb=>hr.ba b hb (λ h=>h)) hr.os hr.out).1,by simp[aA,aw]⟩
end
def pn (r:Rs):AV->Option RF
 | .one x=>match jq r x with|some y=>some (.one y)|none=>none
 | .agg l=>match cM r l with|some y=>some (.agg y)|none=>none
 |_=>none
def iO (r:Rs):List AV->Option (List RF)
 |[]=>some []
 |x::xs=>match pn r x,iO r xs with
  |some y,some ys=>some (y::ys)
  |_,_=>none
def kE:AV->List C
 | .one x=>[x]
 | .agg l=>l
 |_=>[]
def dV:List AV->List C
 |[]=>[]
 |x::xs=>kE x++dV xs
def ez:List (List C)->List C
 |[]=>[]
 |x::xs=>x++ez xs
section
variable (T:Nat->Option TI)
def nO (v:List AV) (r:Rs):ResultVar->Prop×AV
 | .tmp t=>(True,bg v (.tmp t))
 | .cell a t=>match bg v (.tmp a)with
  | .one (.ptr h off)=>match aK r h with
   |some res=>iy T t (res.cells.drop off)
   |none=>(False, .one .dead)
  |_=>(False, .one .dead)
def gi (v:List AV) (r:Rs):List ResultVar->Prop×List AV
 |[]=>(True,[])
 |x::xs=>((nO T v r x).1/\(gi v r xs).1,(nO T v r x).2::(gi v r xs).2)
inductive Pos where
 |o (p:Nat)
 |r (p n:Nat)
 |h (hd:Hd)
def gX (r:Rs):List Pos->Option (List (List C))
 |[]=>some []
 | .o p::ps=>match aK r ⟨p,0,0⟩,gX r ps with
  |some res,some cs=>if res.var=true then some (res.cells::cs)else none
  |_,_=>none
 | .r _ _::ps=>match gX r ps with
  |some cs=>some ([]::cs)
  |none=>none
 | .h _::_=>none
def tN (r:Rs) (rc:List (Nat×Nat)) (p n:Nat):List C:=
 match aK r ⟨p,1,0⟩with
 |some res=>if res.fz=true then []else if res.var=true then []else if rc.contains (p,1)=true then []else [C.own ⟨p,1,0⟩ 0 n]
 |none=>[]
def gg (r:Rs) (rc:List (Nat×Nat)):List Pos->List (List C)->List (List C)
 |[],cs=>cs
 | .o _::ps,c::cs=>c::gg r rc ps cs
 | .r p n::ps,_::cs=>tN r rc p n::gg r rc ps cs
 | .h _::ps,c::cs=>c::gg r rc ps cs
 |_::_,[]=>[]
def qk (r:Rs) (ys:List AV) (ps:List Pos):Option (List (List C)):=
 match gX r ps with
 |some cs=>some (gg r (eL r (dV ys++ez cs)) ps cs)
 |none=>none
def oO (r:Rs) (ys:List AV) (ocs:Option (List (List C))) (post:List RF->List (List RO)->Prop):Prop:=
 match iO r ys,ocs with
 |some rfs,some cs=>match gZ r cs with
  |some objs=>iV (eL r (dV ys++ez cs))=true/\post rfs objs
  |none=>False
 |_,_=>False
def fM (rvs:List ResultVar) (ps:List Pos) (post:List RF->List (List RO)->Prop) (g:G):Prop:=
 (gi T g.v g.r rvs).1/\oO g.r (gi T g.v g.r rvs).2 (qk g.r (gi T g.v g.r rvs).2 ps) post
end
section
variable {T:Nat->Option TI} {cx:Cx} {v:List AV} {r:Rs} {a:Act} {w:World} {β:Nat->Nat->Pl}
def γof (β:Nat->Nat->Pl) (L:List C) (k:Nat):Pl:=
 match L[k]? with
 |some (.own h _ _)=>β h.s h.j
 |_=>⟨none,0⟩
theorem vb:∀{l:List C} {ys:List RO} {i:Nat} {y:RO},cM r l=some ys->ys[i]? =some y->∃x,l[i]? =some x/\jq r x=some y
 |[],ys,i,y,h,hi=>by simp only[cM,aQ]at h;subst h;simp at hi
 |x::l,ys,i,y,h,hi=>by
  simp only[cM]at h;split at h
  .rename_i y' ys' h1 h2;cases h;cases i with
   |zero=>simp only[bZ,aQ]at hi⊢;subst hi;exact⟨x,rfl,h1⟩
   |succ i=>simpa using vb (i:=i) h2 (by simpa using hi)
  .cases h
theorem BS {x:C} {sz n:Nat} {ds:List D} {bo:Bool} (h:jq r x=some (.own sz n ds bo)):∃hd res,x= .own hd 0 n/\aK r hd=some res/\res.fz=false/\sz=res.sz/\cX res.cells=some ds/\bo=res.cw:=by
 unfold jq at h;split at h
 .cases h
 .rename_i hd lo m;split at h
  .rename_i res hg;split at h
   .split at h<;>cases h
   .rename_i hf;split at h
    .rename_i ds' _ hd';cases h;exact⟨hd,res,rfl,hg,by simpa using hf,rfl,hd',rfl⟩
    .cases h
  .cases h
 .cases h
theorem qd {hd:Hd} {lo n:Nat} {res:aY} (hg:aK r hd=some res) (hf:res.fz=false):lg r (.own hd lo n)=[(hd.s,hd.j)]:=by unfold lg;simp[hg,hf]
theorem rU:∀{l:List C} {i:Nat} {x:C} {p:Nat×Nat},l[i]? =some x->p∈lg r x->p∈eL r l
 |[],_,_,_,h,_=>by simp at h
 |y::l,0,x,p,h,hp=>by simp only[bZ,aQ]at h;subst h;simp[eL,hp]
 |y::l,i+1,x,p,h,hp=>by simp only[eL,eE];exact .inr (rU (i:=i) (by simpa using h) hp)
theorem yi:∀{l m:List (Nat×Nat)},iV (l++m)=true->iV m=true/\∀p∈l,p ∉ m
 |[],m,h=>⟨h,λ p hp=>by simp at hp⟩
 |x::l,m,h=>by
  simp only[eD,iV,cu,jF,qG,eE,iP,jh]at h;obtain⟨g1,g2⟩:=yi h.2;refine⟨g1,λ p hp=> ?_⟩;simp only[cL]at hp;rcases hp with rfl|hp
  .exact h.1.2
  .exact g2 p hp
theorem vv:∀{l:List C} {i j:Nat} {x y:C} {p:Nat×Nat},iV (eL r l)=true->l[i]? =some x->l[j]? =some y->p∈lg r x->p∈lg r y->i=j
 |[],_,_,_,_,_,_,h,_,_,_=>by simp at h
 |z::l,i,j,x,y,p,h,hx,hy,px,py=>by
  simp only[eL]at h;obtain⟨g1,g2⟩:=yi h;cases i with
  |zero=>
   cases j with
   |zero=>rfl
   |succ j=>
    simp only[bZ,aQ]at hx;subst hx;exact absurd (rU (i:=j) (by simpa using hy) py) (g2 p px)
  |succ i=>
   cases j with
   |zero=>
    simp only[bZ,aQ]at hy;subst hy;exact absurd (rU (i:=i) (by simpa using hx) px) (g2 p py)
   |succ j=>
    have:=vv (i:=i) (j:=j) g1 (by simpa using hx) (by simpa using hy) px py;omega
theorem Nd (h:aH cx ⟨v,r⟩ a w β) {A:Nat->Prop} (hA:∀b,A b->Av cx r β b) {x:C} {y:RO} {u:Value} {pl:Pl} (hr:jq r x=some y) (hu:aw cx w r β x u)
  (hpl:∀hd lo n,x= .own hd lo n->pl=β hd.s hd.j):cA A w pl y u:=by
 unfold jq at hr;split at hr
 .cases hr;simp only[aw]at hu;exact hu.cg ⟨λ _ _ _=>rfl,λ b _ hb=>hA b hb⟩
 .rename_i hd lo n;have hq:=hpl hd lo n rfl;clear hpl;split at hr
  .rename_i res hg;simp only[aw]at hu;have hown:=hu.2.2 res hg;obtain⟨hl,he⟩:=bq hg;obtain⟨ds0,k1,k2,k3⟩:=(h.rs _ _ _ hl).1.row hown.1;split at hr
   .rename_i hf;split at hr
    .rename_i ds hd';cases hr;rw[k1,jd,du]at hd';cases hd';obtain⟨ad,cap,m1,m2,m3⟩:=ou (Tp:=λ b=>¬Av cx r β b) hown k2 k1 (λ b o hb=>k3 hf b o hb);simp only[cA,Rd];exact⟨ad,cap,m1,m2,gn.cg ⟨λ _ _ _=>rfl,λ b _ hb=>hA b hb⟩ (jv.2 m3)⟩
    .cases hr
   .split at hr
    .rename_i ds _ hd';cases hr;rw[k1,du]at hd';cases hd';obtain⟨_,h2,h3,ad,h4,h5⟩:=hown;simp only[cA];rw[hq];refine⟨by rw[k1]at h2;simpa using h2,by omega,k2.cg ⟨λ _ _ _=>rfl,λ b _ hb=>hA b hb⟩ (λ _ _ _=>rfl),ad,by simpa using h4, ?_⟩;rcases h5 with h5|⟨b,o,h5,h6⟩
     .exact .inl (by simpa using h5)
     .exact .inr ⟨b,o,h5,by simpa using h6⟩
    .cases hr
  .cases hr
 .cases hr
theorem nb (h:aH cx ⟨v,r⟩ a w β) {A:Nat->Prop} (hA:∀b,A b->Av cx r β b) {L:List C}:∀{l:List C} {k:Nat} {ys:List RO} {us:List Value},cM r l=some ys->aC cx w r β l us->
  (∀i x,l[i]? =some x->L[k+i]? =some x)->bP A w (γof β L) k ys us
 |[],k,ys,us,hr,hu,_=>by simp only[cM,aQ]at hr;subst hr;simpa[aC,bP]using hu
 |x::l,k,ys,us,hr,hu,hL=>by
  simp only[cM]at hr;split at hr
  .rename_i y ys' h1 h2;cases hr;simp only[aC]at hu;obtain⟨u,us',rfl,g1,g2⟩:=hu;simp only[bP];have hk:=hL 0 x (by simp);simp only[eV]at hk;refine⟨u,us',rfl,Nd h hA h1 g1 (λ hd lo n he=>by unfold γof;rw[hk,he]),nb h hA h2 g2 λ i x' hi=> ?_⟩;have:=hL (i+1) x' (by simpa using hi)
   rwa[show k+1+i=k+(i+1) from by omega]
  .cases hr
theorem oy:∀{l:List C} {ys:List RO},cM r l=some ys->ys.length=l.length
 |[],ys,h=>by simp only[cM,aQ]at h;subst h;rfl
 |x::l,ys,h=>by
  simp only[cM]at h;split at h
  .rename_i y ys' h1 h2;cases h;simp[oy h2]
  .cases h
theorem MQ (h:aH cx ⟨v,r⟩ a w β) {A:Nat->Prop} (hA:∀b,A b->Av cx r β b) {L:List C} {x:AV} {k:Nat} {y:RF} {u:Value} (hr:pn r x=some y) (hu:aA cx w r β x u)
  (hL:∀i z,(kE x)[i]? =some z->L[k+i]? =some z):iG A w (γof β L) k y u/\y.cells.length=(kE x).length/\cM r (kE x)=some y.cells:=by
 unfold pn at hr;split at hr
 .rename_i x;split at hr
  .rename_i y' h1;cases hr;have h2:cM r [x]=some [y']:=by simp[cM,h1]
   have:=nb h hA (L:=L) (k:=k) h2 (us:=[u]) (by simp only[aC];exact⟨u,[],rfl,c6.1 hu,rfl⟩) hL;simp only[bP]at this;obtain⟨u',us',e1,e2,_⟩:=this;cases e1;exact⟨e2,rfl,h2⟩
  .cases hr
 .rename_i l;split at hr
  .rename_i ys h1;cases hr;obtain⟨us,e1,e2⟩:=fw.1 hu;simp only[iG];exact⟨⟨us,e1,nb h hA h1 e2 hL⟩,oy h1,h1⟩
  .cases hr
 .cases hr
theorem ry:∀{l m:List C} {ys zs:List RO},cM r l=some ys->cM r m=some zs->cM r (l++m)=some (ys++zs)
 |[],m,ys,zs,h1,h2=>by simp only[cM,aQ]at h1;subst h1;simpa using h2
 |x::l,m,ys,zs,h1,h2=>by
  simp only[cM]at h1;split at h1
  .rename_i y ys' g1 g2;cases h1;simp[cM,g1,ry g2 h2]
  .cases h1
theorem sf (h:aH cx ⟨v,r⟩ a w β) {A:Nat->Prop} (hA:∀b,A b->Av cx r β b) {L:List C}:∀{xs:List AV} {k:Nat} {ys:List RF} {us:List Value},iO r xs=some ys->aZ cx w r β xs us->
  (∀i z,(dV xs)[i]? =some z->L[k+i]? =some z)->dp A w (γof β L) k ys us/\cM r (dV xs)=some (ys.flatMap RF.cells)
 |[],k,ys,us,hr,hu,_=>by simp only[iO,aQ]at hr;subst hr;exact⟨by simpa[aZ,dp]using hu,rfl⟩
 |x::xs,k,ys,us,hr,hu,hL=>by
  simp only[iO]at hr;split at hr
  .rename_i y ys' h1 h2;cases hr;simp only[aZ]at hu;obtain⟨u,us',rfl,g1,g2⟩:=hu;obtain⟨e1,e2,e3⟩:=MQ h hA (L:=L) (k:=k) h1 g1 (λ i z hi=>hL i z (by simp only[dV];rw[cj (bJ.1 hi).1];exact hi))
   obtain⟨e4,e5⟩:=sf h hA (L:=L) (k:=k+y.cells.length) h2 g2 (λ i z hi=>by have:=hL ((kE x).length+i) z (by simp only[dV];rw[ct (fD _ _)];simpa using hi);rw[e2,cS];exact this)
   simp only[dp,fm,dV];exact⟨⟨u,us',rfl,e1,e4⟩,ry e3 e5⟩
  .cases hr
theorem yh:∀{cs:List (List C)} {objs:List (List RO)},gZ r cs=some objs->cM r (ez cs)=some objs.flatten
 |[],objs,h=>by simp only[gZ,aQ]at h;subst h;rfl
 |c::cs,objs,h=>by
  simp only[gZ]at h;split at h
  .rename_i y ys h1 h2;cases h;simp only[ez,gC];exact ry h1 (yh h2)
  .cases h
def dE (r:Rs):List Pos->List (List C)->Prop
 |[],[]=>True
 | .o p::ps,c::cs=>(∃res,aK r ⟨p,0,0⟩=some res/\res.var=true/\c=res.cells)/\dE r ps cs
 | .r p n::ps,c::cs=>(c=[]∨c=[C.own ⟨p,1,0⟩ 0 n])/\dE r ps cs
 | .h hd::ps,c::cs=>(∃res,aK r hd=some res/\res.var=true/\c=res.cells)/\dE r ps cs
 |_,_=>False
theorem uK {rc:List (Nat×Nat)}:∀{ps:List Pos} {cs:List (List C)},gX r ps=some cs->dE r ps (gg r rc ps cs)
 |[],cs,h=>by simp only[gX,aQ]at h;subst h;simp[gg,dE]
 | .o p::ps,cs,h=>by
  simp only[gX]at h;split at h
  .rename_i res cs' g1 g2;split at h
   .rename_i hv;cases h;simp only[gg,dE];exact⟨⟨res,g1,hv,rfl⟩,uK g2⟩
   .cases h
  .cases h
 | .r p n::ps,cs,h=>by
  simp only[gX]at h;split at h
  .rename_i cs' g2;cases h;simp only[gg,dE];refine⟨?_,uK g2⟩;unfold tN;split
   .split
    .exact .inl rfl
    .split
     .exact .inl rfl
     .split
      .exact .inl rfl
      .exact .inr rfl
   .exact .inl rfl
  .cases h
 | .h hd::ps,cs,h=>by simp[gX]at h
theorem pN {ys:List AV} {ps:List Pos} {cs:List (List C)} (h:qk r ys ps=some cs):dE r ps cs:=by
 unfold qk at h;split at h
 .rename_i cs' g;cases h;exact uK g
 .cases h
def cy (cx:Cx) (w:World) (r:Rs) (β:Nat->Nat->Pl):List Pos->List cr->Prop
 |[],[]=>True
 | .o p::ps, .cb b::bs=>(∀res,aK r ⟨p,0,0⟩=some res->(β p 0).base=some (b,0))/\cy cx w r β ps bs
 | .r p n::ps, .val u::bs=>aw cx w r β (.own ⟨p,1,0⟩ 0 n) u/\cy cx w r β ps bs
 | .h hd::ps, .cb b::bs=>(∀res,aK r hd=some res->(β hd.s hd.j).base=some (b,0))/\cy cx w r β ps bs
 |_,_=>False
theorem sA (h:aH cx ⟨v,r⟩ a w β) {A:Nat->Prop} (hA:∀b,A b->Av cx r β b) {L:List C}:∀{ps:List Pos} {bs:List cr} {cs:List (List C)} {objs:List (List RO)} {k:Nat},dE r ps cs->gZ r cs=some objs->
  cy cx w r β ps bs->(∀i z,(ez cs)[i]? =some z->L[k+i]? =some z)->eA A w (γof β L) k objs bs
 |[],[],[],objs,k,h1,h2,hb,hL=>by simp only[gZ,aQ]at h2;subst h2;simp[eA]
 | .o p::ps, .cb b::bs,c0::cs',objs,k,h1,h2,hb,hL=>by
  simp only[dE]at h1;obtain⟨⟨res,g1,hv,rfl⟩,g2⟩:=h1;simp only[cy]at hb;simp only[gZ]at h2;split at h2
  .rename_i ys yss g3 g4;cases h2;obtain⟨hl,_⟩:=bq g1;have hok:=(h.rs _ _ _ hl).1;unfold bB at hok;rw[ay hv]at hok;obtain⟨_,b',c,e,k1,k2,k3,k4⟩:=hok;have hb0:=hb.1 res g1;simp only at k1;rw[hb0]at k1;cases k1;simp only[eA];refine⟨⟨c,e,k2,nb h hA g3 k3 (λ i z hi=>hL i z ?_),k4⟩, ?_⟩
   .simp only[ez];rw[cj (bJ.1 hi).1];exact hi
   .refine sA h hA g2 g4 hb.2 λ i z hi=> ?_
    have:=hL (res.cells.length+i) z (by simp only[ez];rw[ct (fD _ _)];simpa using hi);rw[oy g3,cS];exact this
  .cases h2
 | .h hd::ps, .cb b::bs,c0::cs',objs,k,h1,h2,hb,hL=>by
  simp only[dE]at h1;obtain⟨⟨res,g1,hv,rfl⟩,g2⟩:=h1;simp only[cy]at hb;simp only[gZ]at h2;split at h2
  .rename_i ys yss g3 g4;cases h2;obtain⟨hl,_⟩:=bq g1;have hok:=(h.rs _ _ _ hl).1;unfold bB at hok;rw[ay hv]at hok;obtain⟨_,b',c,e,k1,k2,k3,k4⟩:=hok;have hb0:=hb.1 res g1
   try simp only at k1
   rw[hb0]at k1;cases k1;simp only[eA];refine⟨⟨c,e,k2,nb h hA g3 k3 (λ i z hi=>hL i z ?_),k4⟩, ?_⟩
   .simp only[ez];rw[cj (bJ.1 hi).1];exact hi
   .refine sA h hA g2 g4 hb.2 λ i z hi=> ?_
    have:=hL (res.cells.length+i) z (by simp only[ez];rw[ct (fD _ _)];simpa using hi);rw[oy g3,cS];exact this
  .cases h2
 | .r p n::ps, .val u::bs,c0::cs',objs,k,h1,h2,hb,hL=>by
  simp only[dE]at h1;obtain⟨g1,g2⟩:=h1;simp only[cy]at hb;simp only[gZ]at h2;split at h2
  .rename_i ys yss g3 g4;cases h2;simp only[eA];refine⟨?_, ?_⟩
   .rcases g1 with rfl|rfl
    .simp only[cM,aQ]at g3;exact .inl g3.symm
    .refine .inr (nb h hA (L:=L) g3 (us:=[u]) (by simp only[aC];exact⟨u,[],rfl,hb.1,rfl⟩) λ i z hi=>hL i z ?_);simp only[ez];rw[cj (bJ.1 hi).1];exact hi
   .refine sA h hA g2 g4 hb.2 λ i z hi=> ?_
    have:=hL (c0.length+i) z (by simp only[ez];rw[ct (fD _ _)];simpa using hi);rw[oy g3,cS];exact this
  .cases h2
 |[],_::_,_,_,_,_,_,hb,_=>by simp[cy]at hb
 | .o _::_,[],_,_,_,_,_,hb,_=>by simp[cy]at hb
 | .h _::_,[],_,_,_,_,_,hb,_=>by simp[cy]at hb
 | .h _::_, .val _::_,_,_,_,_,_,hb,_=>by simp[cy]at hb
 | .h _::_, .cb _::_,[],_,_,h1,_,_,_=>by simp[dE]at h1
 | .r _ _::_,[],_,_,_,_,_,hb,_=>by simp[cy]at hb
 | .o _::_, .val _::_,_,_,_,_,_,hb,_=>by simp[cy]at hb
 | .r _ _::_, .cb _::_,_,_,_,_,_,hb,_=>by simp[cy]at hb
 | .o _::_, .cb _::_,[],_,_,h1,_,_,_=>by simp[dE]at h1
 | .r _ _::_, .val _::_,[],_,_,h1,_,_,_=>by simp[dE]at h1
 |[],[],_::_,_,_,h1,_,_,_=>by simp[dE]at h1
theorem kI {γ:Nat->Pl}:∀{l:List RO} {k b:Nat},NB γ k l b->∃i sz n ds bo o,l[i]? =some (RO.own sz n ds bo)/\(γ (k+i)).base=some (b,o)
 |[],_,_,h=>h.elim
 | .d x::l,k,b,h=>by obtain⟨i,sz,n,ds,bo,o,h1,h2⟩:=kI (l:=l) (by simpa[NB]using h);exact⟨i+1,sz,n,ds,bo,o,by simpa using h1,by rw[←h2];congr 2;omega⟩
 | .own sz n ds bo::l,k,b,h=>by
  simp only[NB]at h;rcases h with⟨o,h⟩|h
  .exact⟨0,sz,n,ds,bo,o,by simp,h⟩
  .obtain⟨i,sz,n,ds,bo,o,h1,h2⟩:=kI (l:=l) h;exact⟨i+1,sz,n,ds,bo,o,by simpa using h1,by rw[←h2];congr 2;omega⟩
def jO:List Value->Value
 |[x]=>x
 |us=> .tuple us.toArray
theorem sQ (h:aH cx ⟨v,r⟩ a w β) {A1:Nat->Prop} (hA1:∀b,A1 b->Av cx r β b) {ys:List AV} {us:List Value} {u:Value} {ps:List Pos} {bs:List cr} {cs:List (List C)} {rfs:List RF} {objs:List (List RO)} (hu:aZ cx w r β ys us)
  (hus:u=jO us) (h1:iO r ys=some rfs) (h2:dE r ps cs) (h3:gZ r cs=some objs) (h4:iV (eL r (dV ys++ez cs))=true)
  (hb:cy cx w r β ps bs)
  (hbs:∀s j res b o,aB r s j=some res->res.fz=false->res.var=false->(β s j).base=some (b,o)->b ∉ b9 bs):
  dc cx.w0 A1 cx.aL w bs rfs objs u:=by
 have hall:cM r (dV ys++ez cs)=some (cn rfs objs):=by unfold cn;exact ry (sf h (A:=λ _=>False) (λ b hb=>hb.elim) (L:=dV ys) (k:=0) h1 hu (λ i z hi=>by simpa using hi)).2 (yh h3)
 generalize hL:dV ys++ez cs=L at*;have hown:∀{i sz n b o:Nat} {ds:List D} {bo:Bool},(cn rfs objs)[i]? =some (.own sz n ds bo)->(γof β L i).base=some (b,o)->
   ∃hd lo m res,L[i]? =some (.own hd lo m)/\aK r hd=some res/\res.fz=false/\(β hd.s hd.j).base=some (b,o)/\bo=res.cw:=λ {i sz n b o ds bo} hi hbase=>by
  obtain⟨x,g1,g2⟩:=vb hall hi;obtain⟨hd,res,rfl,g3,g4,_,_,g5⟩:=BS g2;unfold γof at hbase;rw[g1]at hbase;exact⟨hd,0,n,res,g1,g3,g4,hbase,g5⟩
 have hNB:∀b,NB (γof β L) 0 (cn rfs objs) b->∃s j res o,aB r s j=some res/\res.fz=false/\(β s j).base=some (b,o)/\∃hd lo m i,hd.s=s/\hd.j=j/\L[i]? =some (C.own hd lo m)/\aK r hd=some res:=λ b hb'=>by obtain⟨i,sz,n,ds,bo,o,g1,g2⟩:=kI hb';rw[bC]at g2;obtain⟨hd,lo,m,res,g3,g4,g5,g6,_⟩:=hown g1 g2;exact⟨hd.s,hd.j,res,o,(bq g4).1,g5,g6,hd,lo,m,i,rfl,rfl,g3,g4⟩
 have hA:∀b,(A1 b∨NB (γof β L) 0 (cn rfs objs) b)->Av cx r β b:=λ b hb'=>by
  rcases hb' with hb'|hb'
  .exact hA1 b hb'
  .obtain⟨s,j,res,o,g1,g2,g3,_⟩:=hNB b hb';exact .inr ⟨s,j,res,o,g1,g2,g3⟩
 -- a row's handle is no variable's
 have hrow:∀{hd:Hd} {lo m i:Nat} {res:aY},L[i]? =some (C.own hd lo m)->aK r hd=some res->(cn rfs objs)[i]? ≠none->res.var=false:=λ {hd lo m i res} g1 g2 g3=>by
  cases hi:(cn rfs objs)[i]? with
  |none=>exact absurd hi g3
  |some y=>
   have hlt:i<L.length:=(bJ.1 g1).1;by_cases hv:res.var=true
   ·-- its value is a slice of the row:aw says so
    have hcs:∃u,aw cx w r β (.own hd lo m) u:=by
     subst hL;rcases gW i (dV ys).length with hlt2|hge
     .rw[cj hlt2]at g1;have:∀{xs:List AV} {vs:List Value} {k:Nat} {x:C},aZ cx w r β xs vs->(dV xs)[k]? =some x->∃u,aw cx w r β x u:=by
       intro xs;induction xs with
       |nil=>intro vs k x _ hk;simp[dV]at hk
       |cons y' xs ih=>
        intro vs k x hvs hk;simp only[aZ]at hvs;obtain⟨u0,us0,rfl,e1,e2⟩:=hvs;simp only[dV]at hk;rcases gW k (kE y').length with q|q
        .rw[cj q]at hk;unfold kE at hk;split at hk
         .rename_i x';cases k with
          |zero=>simp only[bZ,aQ]at hk;subst hk;exact⟨_,c6.1 e1⟩
          |succ k=>simp at hk
         .rename_i l;obtain⟨us1,_,e3⟩:=fw.1 e1;obtain⟨u1,_,e4⟩:=gf e3 hk;exact⟨u1,e4⟩
         .simp at hk
        .rw[ct q]at hk;exact ih e2 hk
      exact this hu g1
     .rw[ct hge]at g1;have:∀{ps:List Pos} {bs:List cr} {cs:List (List C)} {k:Nat} {x:C},dE r ps cs->cy cx w r β ps bs->(ez cs)[k]? =some x->∃u,aw cx w r β x u:=by
       intro ps;induction ps with
       |nil=>intro bs cs k x hcs hp hk;cases cs with
        |nil=>simp[ez]at hk
        |cons c cs=>simp[dE]at hcs
       |cons p ps ih=>
        intro bs cs k x hcs hp hk;cases cs with
        |nil=>cases p<;>simp[dE]at hcs
        |cons c0 cs0=>
         cases bs with
         |nil=>cases p<;>simp[cy]at hp
         |cons b0 bs0=>
          simp only[ez]at hk;cases p with
          |o p=>
           cases b0 with
           |val u0=>simp[cy]at hp
           |cb b0=>
            simp only[dE]at hcs;simp only[cy]at hp;obtain⟨⟨res0,q1,q3,rfl⟩,q2⟩:=hcs;rcases gW k res0.cells.length with q|q
            .rw[cj q]at hk;have hok:=(h.rs _ _ _ (bq q1).1).1;unfold bB at hok;rw[ay q3]at hok;obtain⟨_,b',c,e,k1,k2,k3,k4⟩:=hok;obtain⟨u1,_,e4⟩:=gf k3 hk;exact⟨u1,e4⟩
            .rw[ct q]at hk;exact ih q2 hp.2 hk
          |h hd=>
           cases b0 with
           |val u0=>simp[cy]at hp
           |cb b0=>
            simp only[dE]at hcs;simp only[cy]at hp;obtain⟨⟨res0,q1,q3,rfl⟩,q2⟩:=hcs;rcases gW k res0.cells.length with q|q
            .rw[cj q]at hk;have hok:=(h.rs _ _ _ (bq q1).1).1;unfold bB at hok;rw[ay q3]at hok;obtain⟨_,b',c,e,k1,k2,k3,k4⟩:=hok;obtain⟨u1,_,e4⟩:=gf k3 hk;exact⟨u1,e4⟩
            .rw[ct q]at hk;exact ih q2 hp.2 hk
          |r p n=>
           cases b0 with
           |cb b0=>simp[cy]at hp
           |val u0=>
            simp only[dE]at hcs;simp only[cy]at hp;rcases gW k c0.length with q|q
            .rw[cj q]at hk;rcases hcs.1 with rfl|rfl
             .simp at q
             .cases k with
              |zero=>simp only[bZ,aQ]at hk;subst hk;exact⟨_,hp.1⟩
              |succ k=>simp at hk
            .rw[ct q]at hk;exact ih hcs.2 hp.2 hk
      exact this h2 hb g1
    obtain⟨u,hu'⟩:=hcs;simp only[aw]at hu';exact(hu'.2.2 res g2).1
   .simpa using hv
 refine⟨⟨γof β L,us,by rw[hus];rfl, ?_, ?_,λ b hb'=> ?_,λ i sz n ds b o hi hbi=> ?_,λ i j b o o' sz n ds bo sz' n' ds' bo' hi hj hbi hbj=> ?_⟩,h.n0,h.ba,h.os,h.out⟩
 .exact(sf h hA (L:=L) (k:=0) h1 hu (λ i z hi=>by rw[bC,←hL,cj (bJ.1 hi).1];exact hi)).1
 .have e1:(dV ys).length=(rfs.flatMap RF.cells).length:=by have:=oy (sf h (A:=λ _=>False) (λ b hb=>hb.elim) (L:=dV ys) (k:=0) h1 hu (λ i z hi=>by simpa using hi)).2;exact this.symm
  exact sA h hA (L:=L) h2 h3 hb (λ i z hi=>by rw[←hL,←e1,ct (fD _ _)];simpa using hi)
 .obtain⟨i,sz,n,ds,bo,o,g1,g2⟩:=kI hb';rw[bC]at g2;obtain⟨hd,lo,m,res,g3,g4,g5,g6,_⟩:=hown g1 g2;have hlk:=(bq g4).1;exact⟨(h.fr _ _ _ _ _ hlk g5 g6).1,hbs _ _ _ _ _ hlk g5 (hrow g3 g4 (by rw[g1];simp)) g6⟩
 .obtain⟨hd,lo,m,res,g3,g4,g5,g6,g7⟩:=hown hi hbi;exact(h.fr _ _ _ _ _ (bq g4).1 g5 g6).2 g7.symm
 .obtain⟨hd,lo,m,res,g3,g4,g5,g6,_⟩:=hown hi hbi;obtain⟨hd',lo',m',res',g3',g4',g5',g6',_⟩:=hown hj hbj;obtain⟨e1,e2⟩:=h.inj _ _ _ _ _ _ _ _ _ (bq g4).1 g5 (bq g4').1 g5' g6 g6';exact vv h4 g3 g3' (by rw[qd g4 g5];exact ji.2 rfl) (by rw[qd g4' g5',e1,e2];exact ji.2 rfl)
end
section
variable {cx:Cx} {v:List AV} {r r':Rs} {a:Act} {w w':World} {β β':Nat->Nat->Pl} {T:Nat->Option TI} {c:Bool} {mv:Mv}
def Mv.has:Mv->Nat->Prop
 | .o _,_=>True
 | .r h _,j=>j=h.j
def MB (r:Rs) (β:Nat->Nat->Pl) (mv:Mv) (b:Nat):Prop:=
 ∃j res o,mv.has j/\aB r mv.s j=some res/\res.fz=false/\(β mv.s j).base=some (b,o)
theorem MB.ob {b:Nat} (h:MB r β mv b):OB r β b:=by obtain⟨j,res,o,_,h2,h3,h4⟩:=h;exact⟨mv.s,j,res,o,h2,h3,h4⟩
theorem MB.fr (h:aH cx ⟨v,r⟩ a w β) {b:Nat} (hb:MB r β mv b):cx.n0≤b∨cx.aL b:=by obtain⟨j,res,o,_,h2,h3,h4⟩:=hb;exact(h.fr _ _ _ _ _ h2 h3 h4).1
theorem MB.lt (h:aH cx ⟨v,r⟩ a w β) {b:Nat} (hb:MB r β mv b):b<w.heap.size:=by obtain⟨j,res,o,_,h2,h3,h4⟩:=hb;exact(h.rs _ _ _ h2).1.lt h4
theorem sZ (h:aH cx ⟨v,r⟩ a w β) {b:Nat} (hb:b<w.heap.size) (ht:lh cx (Av cx r β) b):lh (dt cx.P w (Av cx r β) (MB r β mv)) (Av (dt cx.P w (Av cx r β) (MB r β mv)) [] β0) b:=by
 refine .inr ⟨hb,λ hm=> ?_⟩;rcases ht with ht|⟨h1,h2⟩
 .exact ht (.inr hm.ob)
 .rcases hm.fr h with h3|h3
  .exact absurd h1 (Nat.not_lt.2 h3)
  .exact h2 h3
theorem pS (h:aH cx ⟨v,r⟩ a w β) {s j b o:Nat} {res:aY} (hl:aB r s j=some res) (hb:(β s j).base=some (b,o)) (hs:s≠mv.s) (hlt:b<w.heap.size):
  lh (dt cx.P w (Av cx r β) (MB r β mv)) (Av (dt cx.P w (Av cx r β) (MB r β mv)) [] β0) b:=by
 refine .inr ⟨hlt,λ hm=> ?_⟩;obtain⟨k,res',o',_,h2,h3,h4⟩:=hm;cases hf:res.fz with
 |false=>exact hs (h.inj _ _ _ _ _ _ _ _ _ hl hf h2 h3 hb h4).1
 |true=>
  have hok:=(h.rs _ _ _ hl).1;unfold bB at hok;rw[ar (by simp[h.vz _ _ _ hl hf])]at hok;obtain⟨_,_,_,g⟩:=hok;exact g hf b o hb (.inr ⟨_,k,res',o',h2,h3,h4⟩)
theorem KI {ds:List D} {b o:Nat} (h:jx cx w r β (ds.map C.d) b o):bu w (Av cx r β) (λ b'=>b'=b) ds (some ⟨b,o,none⟩):=
 bu.mk (T:=λ b'=>b'=b) rfl λ k d hk=>by obtain⟨u,h1,h2,_⟩:=h k (.d d) (by rw[fl,hk];rfl);simp only[aw]at h2;exact⟨u,h1,h2⟩
abbrev pr (cx:Cx) (w:World) (r:Rs) (β:Nat->Nat->Pl) (mv:Mv):Cx:=dt cx.P w (Av cx r β) (MB r β mv)
theorem Kd (h:aH cx ⟨v,r⟩ a w β) {hd:Hd} {lo n:Nat} {y:C} {u:Value} (hl:bd r (.own hd lo n)=some y) (hs:mv.s≠hd.s) (hu:aw cx w r β (.own hd lo n) u):aw (pr cx w r β mv) w [] β0 y u:=by
  simp only[bd,rowOf]at hl;simp only[aw]at hu;cases hg:aK r hd with
  |none=>simp[hg]at hl
  |some res=>
   simp only[hg]at hl;cases hds:cX (sub lo n res.sz res.cells)with
   |none=>simp[hds]at hl
   |some ds=>
    simp only[hds,aQ]at hl;subst hl;have hown:=hu.2.2 res hg;obtain⟨hlk,_⟩:=bq hg;obtain⟨ds0,k1,k2,k3⟩:=(h.rs _ _ _ hlk).1.row hown.1;rw[k1,jd,du]at hds;cases hds;obtain⟨ad,cap,m1,m2,m3⟩:=ou (Tp:=λ b=>∃o,(β hd.s hd.j).base=some (b,o)) hown k2 k1 (λ b o hb=>⟨o,hb⟩);simp only[aw];exact⟨ad,cap,m1,m2,m3.ij (λ b hb=>fX.1 hb) (λ b hb ⟨o,ho⟩=>pS h hlk ho (λ e=>hs e.symm) hb)⟩
theorem J' (h:aH cx ⟨v,r⟩ a w β) {s:Nat} {x y:C} {u:Value} (hl:gV r s x=some y) (hs:mv.s≠s) (hu:aw cx w r β x u):aw (pr cx w r β mv) w [] β0 y u:=by
 unfold gV at hl;split at hl
 .cases hl;simp only[aw]at hu⊢;exact(u7 hu).cg ⟨λ _ _ _=>rfl,λ b _ hb=>fX.1 hb⟩
 .cases hl;simp only[aw]at hu⊢;obtain⟨ad,cap,h1,h2,h3⟩:=hu;exact⟨ad,cap,h1,h2,h3.ij (λ b hb=>fX.1 hb) (λ b hb ht=>sZ h hb ht)⟩
 .split at hl
  .rename_i hd lo n e;refine Kd h (hd:=hd) (lo:=lo) (n:=n) ?_ (by rw[e];exact hs) hu;simpa only[bd]using hl
  .cases hl
 .cases hl
theorem x9 (h:aH cx ⟨v,r⟩ a w β) {s:Nat}:∀{xs ys:List C} {us:List Value},ig r s xs=some ys->mv.s≠s->aC cx w r β xs us->aC (pr cx w r β mv) w [] β0 ys us
 |[],ys,us,hl,_,hu=>by simp only[ig,aQ]at hl;subst hl;simpa[aC]using hu
 |x::xs,ys,us,hl,hs,hu=>by
  simp only[ig]at hl;split at hl
  .rename_i y ys' g1 g2;cases hl;simp only[aC]at hu⊢;obtain⟨u,us',rfl,h1,h2⟩:=hu;exact⟨u,us',rfl,J' h g1 hs h1,x9 h g2 hs h2⟩
  .cases hl
mutual
theorem zZ (h:aH cx ⟨v,r⟩ a w β):∀{x y:C} {u:Value},bd r x=some y->mv.s ∉ bm x->aw cx w r β x u->aw (pr cx w r β mv) w [] β0 y u
 | .d x,y,u,hl,_,hu=>by simp only[bd,aQ]at hl;subst hl;simp only[aw]at hu⊢;exact hu.cg ⟨λ _ _ _=>rfl,λ b _ hb=>fX.1 hb⟩
 | .aJ n ds,y,u,hl,_,hu=>by simp only[bd,aQ]at hl;subst hl;simp only[aw]at hu⊢;obtain⟨ad,cap,h1,h2,h3⟩:=hu;exact⟨ad,cap,h1,h2,h3.ij (λ b hb=>fX.1 hb) (λ b hb ht=>sZ h hb ht)⟩
 | .own hd lo n,y,u,hl,hs,hu=>by
  simp only[bd,rowOf]at hl;simp only[aw]at hu;cases hg:aK r hd with
  |none=>simp[hg]at hl
  |some res=>
   simp only[hg]at hl;cases hds:cX (sub lo n res.sz res.cells)with
   |none=>simp[hds]at hl
   |some ds=>
    simp only[hds,aQ]at hl;subst hl;have hown:=hu.2.2 res hg;obtain⟨hlk,_⟩:=bq hg;obtain⟨ds0,k1,k2,k3⟩:=(h.rs _ _ _ hlk).1.row hown.1;rw[k1,jd,du]at hds;cases hds;obtain⟨ad,cap,m1,m2,m3⟩:=ou (Tp:=λ b=>∃o,(β hd.s hd.j).base=some (b,o)) hown k2 k1 (λ b o hb=>⟨o,hb⟩);simp only[aw];exact⟨ad,cap,m1,m2,m3.ij (λ b hb=>fX.1 hb) (λ b hb ⟨o,ho⟩=>pS h hlk ho (λ e=>hs (by simp[bm,←e])) hb)⟩
 | .ptr hd off,y,u,hl,hs,hu=>by
  simp only[bd]at hl;split at hl
  .rename_i res g1;split at hl
   .rename_i ds g2;cases hl;simp only[aw]at hu⊢;obtain⟨b,o,k1,k2⟩:=hu.2.2 res g1;obtain⟨hlk,_⟩:=bq g1;have hcs:=((h.rs _ _ _ hlk).1.cells k1).drop (k:=off);rw[vp g2]at hcs;exact⟨b,o+off,k2,(KI hcs).ij (λ b hb=>fX.1 hb) (λ b' hb e=>by subst e;exact pS h hlk k1 (λ e=>hs (by simp[bm,←e])) hb)⟩
   .split at hl
    .rename_i cs g3;cases hl;simp only[aw]at hu⊢;obtain⟨b,o,k1,k2⟩:=hu.2.2 res g1;obtain⟨hlk,_⟩:=bq g1;have hb:=(h.rs _ _ _ hlk).1.lt k1;have hcs:=((h.rs _ _ _ hlk).1.cells k1).drop (k:=off);obtain⟨us,p1,p2⟩:=xS hcs;exact⟨b,o+off,us,k2,hb,pS h hlk k1 (λ e=>hs (by simp[bm,←e])) hb,p1,x9 h g3 (by simpa[bm]using hs) p2⟩
    .cases hl
  .cases hl
 | .dP ds,y,u,hl,_,hu=>by simp only[bd,aQ]at hl;subst hl;simp only[aw]at hu⊢;obtain⟨b,o,h1,h3⟩:=hu;exact⟨b,o,h1,h3.ij (λ b hb=>fX.1 hb) (λ b hb ht=>sZ h hb ht)⟩
 | .eP f caps,y,u,hl,hs,hu=>by
  simp only[bd]at hl;split at hl
  .rename_i cs g1;cases hl;simp only[aw]at hu⊢;obtain⟨us,h1,h2⟩:=hu;exact⟨us,h1,oe h g1 (by simpa[bm]using hs) h2⟩
  .cases hl
 | .ab,y,u,hl,_,_=>by simp[bd]at hl
 | .dead,y,u,hl,_,_=>by simp[bd]at hl
 | .dZ cs,y,u,hl,hs,hu=>by
  simp only[bd]at hl;split at hl
  .rename_i ys g1;cases hl;simp only[aw]at hu⊢;obtain⟨b,o,us,h1,h2,h3,h4,h5⟩:=hu;exact⟨b,o,us,h1,h2,sZ h h2 h3,h4,oe h g1 (by simpa[bm]using hs) h5⟩
  .cases hl
 | .lk _ _ _,y,u,hl,_,_=>by simp[bd]at hl
 | .cZ hd lo n k,y,u,hl,hs,hu=>by
  simp only[bd,rowOf]at hl;simp only[aw]at hu;cases hg:aK r hd with
  |none=>simp[hg]at hl
  |some res=>
   simp only[hg]at hl;cases hds:cX (sub lo n res.sz res.cells)with
   |none=>simp[hds]at hl
   |some ds=>
    simp only[hds,aQ]at hl;subst hl;obtain⟨x1,x2,x3,ad,rfl,x4⟩:=hu;obtain⟨y1,y2⟩:=x4 res hg;obtain⟨hlk,_⟩:=bq hg;obtain⟨ds0,k1,k2,k3⟩:=(h.rs _ _ _ hlk).1.row y1;rw[k1,jd,du]at hds;cases hds;have m3:=vj (Tp:=λ b=>∃o,(β hd.s hd.j).base=some (b,o)) x3 y2 k2 (λ b o hb=>⟨o,hb⟩);simp only[aw];exact⟨ad,_,rfl,by omega,m3.ij (λ b hb=>fX.1 hb) (λ b hb ⟨o,ho⟩=>pS h hlk ho (λ e=>hs (by simp[bm,←e])) hb)⟩
theorem oe (h:aH cx ⟨v,r⟩ a w β):∀{xs ys:List C} {us:List Value},bd.lendCs r xs=some ys->mv.s ∉ bG xs->aC cx w r β xs us->aC (pr cx w r β mv) w [] β0 ys us
 |[],ys,us,hl,_,hu=>by simp only[bd.lendCs,aQ]at hl;subst hl;simpa[aC]using hu
 |x::xs,ys,us,hl,hs,hu=>by
  simp only[bd.lendCs]at hl;simp only[bG,eE,jh]at hs;split at hl
  .rename_i y ys' g1 g2;cases hl;simp only[aC]at hu⊢;obtain⟨u,us',h1,h2,h3⟩:=hu;exact⟨u,us',h1,zZ h g1 hs.1 h2,oe h g2 hs.2 h3⟩
  .cases hl
end
theorem yR (h:aH cx ⟨v,r⟩ a w β) {x y:AV} {u:Value} (hl:kj r x=some y) (hs:mv.s ∉ bj x) (hu:aA cx w r β x u):aA (pr cx w r β mv) w [] β0 y u:=by
 unfold kj at hl;split at hl
 .split at hl
  .rename_i y' g1;cases hl;exact c6.2 (zZ h g1 (by simpa[bj]using hs) (c6.1 hu))
  .cases hl
 .split at hl
  .rename_i y' g1;cases hl;obtain⟨us,h1,h2⟩:=fw.1 hu;exact fw.2 ⟨us,h1,oe h g1 (by simpa[bj]using hs) h2⟩
  .cases hl
 .cases hl
theorem rG (h:aH cx ⟨v,r⟩ a w β) {γ:Nat->Pl} {k:Nat} {bs:List cr}:∀{xs:List AV} {ys:List Arg} {us:List Value},eT r xs=some ys->mv.s ∉ eR xs->aZ cx w r β xs us->
  ∀{zs:List Arg} {vs:List Value},aW cx.P w (Av cx r β) (MB r β mv) γ k zs bs vs->aW cx.P w (Av cx r β) (MB r β mv) γ k (ys++zs) bs (us++vs)
 |[],ys,us,hl,_,hu,zs,vs,hz=>by simp only[eT,aQ]at hl;subst hl;simp only[aZ]at hu;subst hu;simpa using hz
 |x::xs,ys,us,hl,hs,hu,zs,vs,hz=>by
  simp only[eT]at hl;simp only[eR,eE,jh]at hs;split at hl
  .rename_i y ys' g1 g2;cases hl;simp only[aZ]at hu;obtain⟨u,us',rfl,h2,h3⟩:=hu;simp only[eD,aW];exact⟨u,us'++vs,rfl,yR h g1 hs.1 h2,rG h g2 hs.2 h3 hz⟩
  .cases hl
def γM (r:Rs) (β:Nat->Nat->Pl) (mv:Mv):Nat->Pl:=
 match mv with
 | .o h=>match aK r h with
  |some res=>γof β res.cells
  |none=>λ _=>⟨none,0⟩
 | .r h _=>λ _=>β h.s h.j
theorem zy {s:Nat}:∀{l:List (Nat×Nat)},lK s l=true->∀p∈l,p.1=s
 |[],_,p,hp=>by simp at hp
 |q::l,h,p,hp=>by
  simp only[lK,cu,kN]at h;rcases cL.1 hp with rfl|hp
  .exact h.1
  .exact zy h.2 p hp
def qW (r:Rs) (β:Nat->Nat->Pl) (mv:Mv) (hold:cr) (u:Value):Prop:=
 match mv with
 | .o hd=>∃res b,aK r hd=some res/\res.var=true/\hd.j=0/\(β hd.s 0).base=some (b,0)/\hold= .cb b
 | .r hd n=>hold= .val u/\∃res,aK r hd=some res/\res.fz=false/\jR (β hd.s hd.j) res 0 n u
theorem um:∀{l a b:List C} {q:Hd×Nat×Nat},jt l=some (a,q,b)->l=a++ .own q.1 q.2.1 q.2.2::b
 |[],_,_,_,h=>by simp[jt]at h
 |x::xs,a,b,q,h=>by
  simp only[jt]at h;cases hx:qs x with
  |some q'=>
   rw[hx]at h;cases h;unfold qs at hx;split at hx
   .cases hx;rfl
   .cases hx
  |none=>
   rw[hx]at h;simp only at h;cases hs:jt xs with
   |none=>rw[hs]at h;cases h
   |some z=>
    obtain⟨a',q',b'⟩:=z;rw[hs]at h;cases h;rw[um hs];rfl
theorem yv:∀{l m:List C} {us:List Value},aC cx w r β (l++m) us->∃vs ws,us=vs++ws/\aC cx w r β l vs/\aC cx w r β m ws
 |[],m,us,h=>⟨[],us,rfl,by simp[aC],h⟩
 |x::l,m,us,h=>by simp only[eD,aC]at h⊢;obtain⟨u,us',rfl,h1,h2⟩:=h;obtain⟨vs,ws,rfl,g1,g2⟩:=yv h2;exact⟨u::vs,ws,rfl,⟨u,vs,rfl,h1,g1⟩,g2⟩
theorem Lj (h:aH cx ⟨v,r⟩ a w β) {x:AV} {y:Arg} {u:Value} {dst:Option Nat} {aJ:List Nat} {l':List RO} (hm:eO r x=some (y,mv)) (hsc:bA r dst mv aJ l') (hu:aA cx w r β x u):
  ∃hold u1,(∀(zs:List Arg) (vs:List Value),(∀k,aW cx.P w (Av cx r β) (MB r β mv) (γM r β mv) k zs [] vs)->aW cx.P w (Av cx r β) (MB r β mv) (γM r β mv) 0 (y::zs) [hold] (u::vs))/\
   (∀b,NB (γM r β mv) 0 (bn [y]) b->MB r β mv b/\b ∉ b9 [hold])/\mn (γM r β mv) (bn [y])/\
   qW r β mv hold u1:=by
 cases x with
 |agg l=>
  simp only[eO]at hm;cases hsp:jt l with
  |none=>rw[hsp]at hm;cases hm
  |some q=>
   obtain⟨a0,⟨hd,lo,n⟩,b0⟩:=q;rw[hsp]at hm;simp only at hm;cases hla:bd.lendCs r a0 with
   |none=>rw[hla]at hm;cases hm
   |some a1=>
   cases hlb:bd.lendCs r b0 with
   |none=>rw[hla,hlb]at hm;cases hm
   |some b1=>
   cases hg:aK r hd with
   |none=>rw[hla,hlb,hg]at hm;cases hm
   |some res=>
   rw[hla,hlb,hg]at hm;simp only at hm;cases hds:cX res.cells with
   |none=>simp[hds]at hm
   |some ds=>
    simp only[hds]at hm;by_cases hcond:res.var=false/\res.fz=false/\lo=0/\(bG a0++bG b0).contains hd.s=false
    .rw[ay hcond]at hm;obtain⟨hv,hf,rfl,hns⟩:=hcond;cases hm;simp only[qG,eE,iP,jh]at hns;have hl:=um hsp;subst hl;obtain⟨us,rfl,hus⟩:=fw.1 hu;obtain⟨vs,ws0,e1,hva,hwb0⟩:=yv hus;simp only[aC]at hwb0;obtain⟨u1,ws,rfl,hr,hwb⟩:=hwb0;simp only[aw]at hr;have hown:=hr.2.2 res hg;obtain⟨hlk,_⟩:=bq hg;obtain⟨ds0,k1,k2,k3⟩:=(h.rs _ _ _ hlk).1.row hv;rw[k1,du]at hds;cases hds;have hγ:∀k,γM r β (.r hd n) k=β hd.s hd.j:=λ k=>by simp[γM]
     have hus2:Value.agg us= .agg (vs++u1::ws).toArray:=by rw[←e1]
     refine⟨.val u1,u1,λ zs vs' hz=> ?_,λ bb hb=> ?_,λ i j bb o o' sz n ds bo sz' n' ds' bo' hi hj' hbi hbj=> ?_,rfl,res,hg,hf,hown⟩
     .simp only[aW];refine⟨vs,u1,ws,[],vs',by rw[hus2],rfl,oe (mv:= .r hd n) h hla hns.1 hva,oe (mv:= .r hd n) h hlb hns.2 hwb, ?_,hz _⟩;rw[hγ];simp only[cA];obtain⟨_,h2,h3,ad,h4,h5⟩:=hown;refine⟨by rw[k1]at h2;simpa using h2,by omega,k2,ad,by simpa using h4, ?_⟩;rcases h5 with h5|⟨b,o,h5,h6⟩
      .exact .inl (by simpa using h5)
      .exact .inr ⟨b,o,h5,by simpa using h6⟩
     .simp only[bn,NB,hγ]at hb;rcases hb with⟨o,hb⟩|hb
      .exact⟨⟨hd.j,res,o,rfl,hlk,hf,hb⟩,by simp[b9]⟩
      .exact hb.elim
     .simp only[bn]at hi hj';cases i with
      |zero=>cases j with
       |zero=>rfl
       |succ j=>simp at hj'
      |succ i=>simp at hi
    .rw[ar hcond]at hm;cases hm
 |eY _=>simp[eO]at hm
 |gd _ _=>simp[eO]at hm
 |one x=>
 cases x with
 |d _=>simp[eO]at hm
 |aJ _ _=>simp[eO]at hm
 |dP _=>simp[eO]at hm
 |eP _ _=>simp[eO]at hm
 |ab=>simp[eO]at hm
 |dead=>simp[eO]at hm
 |cZ=>simp[eO]at hm
 |lk=>simp[eO]at hm
 |dZ=>simp[eO]at hm
 |ptr hd off=>
  simp only[eO]at hm;cases hg:aK r hd with
  |none=>simp[hg]at hm
  |some res=>
   simp only[hg]at hm;cases hro:cM r res.cells with
   |none=>simp[hro]at hm
   |some l=>
    simp only[hro]at hm;by_cases hcond:res.var=true/\hd.j=0/\off=0/\((bG res.cells).all (·==hd.s)&&(lK hd.s (eL r res.cells)&&iV (eL r res.cells)))=true
    .rw[ay hcond]at hm;obtain⟨hv,hj,rfl,hc4⟩:=hcond;simp only[cu]at hc4;obtain⟨_,hhome,hnd⟩:=hc4;cases hm;simp only[bA,hg]at hsc;have hr:=c6.1 hu;simp only[aw]at hr;obtain⟨b,o,e1,e2⟩:=hr.2.2 res hg;obtain⟨hlk,_⟩:=bq hg;have hok:=(h.rs _ _ _ hlk).1;unfold bB at hok;rw[ay hv]at hok;obtain⟨hf,b',c,e,k1,k2,k3,k4⟩:=hok;rw[e1]at k1;cases k1;have hγ:γM r β (.o hd)=γof β res.cells:=by simp[γM,hg]
     have hrow:∀{i sz n bb oo:Nat} {ds:List D} {bo:Bool},l[i]? =some (.own sz n ds bo)->(γof β res.cells i).base=some (bb,oo)->
       ∃hd' m res',res.cells[i]? =some (.own hd' 0 m)/\aK r hd'=some res'/\res'.fz=false/\hd'.s=hd.s/\(β hd'.s hd'.j).base=some (bb,oo)/\res'.var=false:=λ {i sz n bb oo ds bo} hi hb=>by
      obtain⟨x,g1,g2⟩:=vb hro hi;obtain⟨hd',res',rfl,g3,g4,_,_,_⟩:=BS g2;unfold γof at hb;rw[g1]at hb;have hmem:=rU (r:=r) (p:=(hd'.s,hd'.j)) g1 (by rw[qd g3 g4];simp);obtain⟨u1,_,e4⟩:=gf k3 g1;simp only[aw]at e4;exact⟨hd',n,res',g1,g3,g4,zy hhome _ hmem,hb,(e4.2.2 res' g3).1⟩
     refine⟨.cb b,u,λ zs vs hz=> ?_,λ bb hb=> ?_,λ i j bb o o' sz n ds bo sz' n' ds' bo' hi hj' hbi hbj=> ?_,res,b,hg,hv,hj, ?_,rfl⟩
     .simp only[aW];refine⟨b,[],vs,c,e,by rw[e2],rfl,⟨hd.j,res,0,trivial,hlk,hf,e1⟩,k2, ?_,k4,hz _⟩;rw[hγ];exact nb h (λ b hb=>hb) hro k3 (λ i x hi=>by simpa using hi)
     .rw[hγ]at hb;simp only[bn,eU]at hb;obtain⟨i,sz,n,ds,bo,o2,g1,g2⟩:=kI hb;rw[bC]at g2;obtain⟨hd',m,res',q1,q2,q3,q4,q5,q6⟩:=hrow g1 g2;have hlk':=(bq q2).1;refine⟨⟨hd'.j,res',o2,trivial,by show aB r hd.s _=_;rw[←q4];exact hlk',q3,by show(β hd.s _).base=_;rw[←q4];exact q5⟩,λ hmem=> ?_⟩;simp only[b9,ji]at hmem;subst hmem;obtain⟨p1,p2⟩:=h.inj _ _ _ _ _ _ _ _ _ hlk' q3 hlk hf q5 e1;rw[p1,p2,hlk]at hlk';cases hlk';rw[hv]at q6;cases q6
     .rw[hγ]at hbi hbj;simp only[bn,eU]at hi hj';obtain⟨hd1,m1,fT,q1,q2,q3,q4,q5,q6⟩:=hrow hi hbi;obtain⟨hd2,m2,res2,p1,p2,p3,p4,p5,p6⟩:=hrow hj' hbj;obtain⟨t1,t2⟩:=h.inj _ _ _ _ _ _ _ _ _ (bq q2).1 q3 (bq p2).1 p3 q5 p5;exact vv hnd q1 p1 (by rw[qd q2 q3];exact ji.2 rfl) (by rw[qd p2 p3,t1,t2];exact ji.2 rfl)
     .rw[hj]at e1;exact e1
    .rw[ar hcond]at hm;cases hm
 |own hd lo n=>
  simp only[eO]at hm;cases hg:aK r hd with
  |none=>simp[hg]at hm
  |some res=>
   simp only[hg]at hm;cases hds:cX res.cells with
   |none=>simp[hds]at hm
   |some ds=>
    simp only[hds]at hm;by_cases hcond:res.var=false/\res.fz=false/\lo=0
    .rw[ay hcond]at hm;obtain⟨hv,hf,rfl⟩:=hcond;cases hm;have hr:=c6.1 hu;simp only[aw]at hr;have hown:=hr.2.2 res hg;obtain⟨hlk,_⟩:=bq hg;obtain⟨ds0,k1,k2,k3⟩:=(h.rs _ _ _ hlk).1.row hv;rw[k1,du]at hds;cases hds;have hγ:∀k,γM r β (.r hd n) k=β hd.s hd.j:=λ k=>by simp[γM]
     refine⟨.val u,u,λ zs vs hz=> ?_,λ bb hb=> ?_,λ i j bb o o' sz n ds bo sz' n' ds' bo' hi hj' hbi hbj=> ?_,rfl,res,hg,hf,hown⟩
     .simp only[aW];refine⟨u,[],vs,rfl,rfl, ?_,hz _⟩;rw[hγ];simp only[cA];obtain⟨_,h2,h3,ad,h4,h5⟩:=hown;refine⟨by rw[k1]at h2;simpa using h2,by omega,k2,ad,by simpa using h4, ?_⟩;rcases h5 with h5|⟨b,o,h5,h6⟩
      .exact .inl (by simpa using h5)
      .exact .inr ⟨b,o,h5,by simpa using h6⟩
     .simp only[bn,NB,hγ]at hb;rcases hb with⟨o,hb⟩|hb
      .exact⟨⟨hd.j,res,o,rfl,hlk,hf,hb⟩,by simp[b9]⟩
      .exact hb.elim
     .simp only[bn]at hi hj';cases i with
      |zero=>cases j with
       |zero=>rfl
       |succ j=>simp at hj'
      |succ i=>simp at hi
    .rw[ar hcond]at hm;cases hm
theorem uN (h:aH cx ⟨v,r⟩ a w β) {dst:Option Nat} {aJ:List Nat} {l':List RO}:∀{i:Nat} {xs:List AV} {ys:List Arg} {us:List Value},gu r i xs=some (ys,mv)->bA r dst mv aJ l'->mv.s ∉ ic i xs->aZ cx w r β xs us->
  ∃x y u hold,eO r x=some (y,mv)/\
   (∀(zs:List Arg) (vs:List Value),(∀k,aW cx.P w (Av cx r β) (MB r β mv) (γM r β mv) k zs [] vs)->aW cx.P w (Av cx r β) (MB r β mv) (γM r β mv) 0 (ys++zs) [hold] (us++vs))/\
   bn ys=bn [y]/\
   (∀b,NB (γM r β mv) 0 (bn [y]) b->MB r β mv b/\b ∉ b9 [hold])/\mn (γM r β mv) (bn [y])/\
   qW r β mv hold u
 |_,[],ys,us,hm,_,_,_=>by simp[gu]at hm
 |0,x::xs,ys,us,hm,hsc,hs,hu=>by
  simp only[gu]at hm;split at hm
  .rename_i y mv' ys' g1 g2;cases hm;simp only[aZ]at hu;obtain⟨u,us',rfl,h1,h2⟩:=hu;obtain⟨hold,u1,q1,q2,q3,q4⟩:=Lj h g1 hsc h1;refine⟨x,y,u1,hold,g1,λ zs vs hz=> ?_, ?_,q2,q3,q4⟩
   .exact q1 (ys'++zs) (us'++vs) (λ k=>rG h g2 (by simpa[ic]using hs) h2 (hz k))
   .have:=ky [y] ys';simp only[eD,eJ]at this;rw[this,kA g2,eU]
  .cases hm
 |i+1,x::xs,ys,us,hm,hsc,hs,hu=>by
  simp only[gu]at hm;split at hm
  .rename_i y ys' mv' g1 g2;cases hm;simp only[ic,eE,jh]at hs;simp only[aZ]at hu;obtain⟨u,us',rfl,h1,h2⟩:=hu;obtain⟨x',y',u',hold,q0,q1,q2,q3⟩:=uN h g2 hsc hs.2 h2;refine⟨x',y',u',hold,q0,λ zs vs hz=> ?_,q2,q3⟩;simp only[eD,aW];exact⟨u,us'++vs,rfl,yR h g1 hs.1 h1,q1 zs vs hz⟩
  .cases hm
end
section
variable {cx:Cx} {v:List AV} {r r':Rs} {a:Act} {w w':World} {β β':Nat->Nat->Pl} {T:Nat->Option TI} {c:Bool} {mv:Mv}
theorem aH.dL (h:aH cx ⟨v,r⟩ a w β) {L:List RO} {γ:Nat->Pl} {bl:List Nat} {idx:Nat->Nat×Nat}
  (nx:∀s,aq r s≤aq r' s)
  (ba:∀(hd:Hd) (res':aY),hd.e<aq r hd.s->aK r' hd=some res'->
   ∃res,aK r hd=some res/\β' hd.s hd.j=β hd.s hd.j/\res'.var=res.var/\res'.sz=res.sz/\res.cells.length≤res'.cells.length)
  (cls:∀s j res,aB r' s j=some res->res.e<aq r' s/\
   ((aB r s j=some res/\β' s j=β s j/\¬(s=mv.s/\mv.has j))∨
    (∃m sz n ds bo,L[m]? =some (.own sz n ds bo)/\β' s j=γ m/\res.var=false/\res.fz=false/\res.sz=sz/\res.cells=ds.map C.d/\(res.cw=false->bo=false∨∀b,MB r β mv b->cx.n0≤b)/\idx m=(s,j))∨
    (∃res0 b,aB r s j=some res0/\res0.fz=false/\s=mv.s/\mv.has j/\β' s j=β s j/\res.var=true/\res.fz=false/\res.cw=res0.cw/\(β s j).base=some (b,0)/\b∈bl/\
     ∃cs e,w'.heap[b]? =some (.cells cs e (0,0))/\(∀u∈cs.toList,flat u=true)/\(Ext cx w r β w' r' β'->(∀b,Av cx r' β' b->Av cx r β b∨NB γ 0 L b)->aC cx w' r' β' res.cells cs.toList))))
  (hrow:∀m sz n ds bo,L[m]? =some (.own sz n ds bo)->b5 w' (λ b=>Av cx r β b∨NB γ 0 L b) (γ m) sz ds)
  (hnb:∀b,NB γ 0 L b->(w.heap.size≤b∨MB r β mv b)/\b ∉ bl)
  (hfresh:∀(i sz n:Nat) (ds:List D) (b o:Nat),L[i]? =some (.own sz n ds false)->(γ i).base=some (b,o)->w.heap.size≤b)
  (hap:mn γ L) (hsz:w.heap.size≤w'.heap.size) (hold:∀b,b<w.heap.size->¬MB r β mv b->w'.heap[b]? =w.heap[b]?) (hos:w'.os=w.os) (hout:w'.output=w.output):
  aH cx ⟨v,r'⟩ a w' β'/\Ext cx w r β w' r' β'/\∀b,Av cx r' β' b->Av cx r β b∨NB γ 0 L b:=by
 have hAv:∀b,Av cx r' β' b->Av cx r β b∨NB γ 0 L b:=λ b hA=>by
  rcases hA with hA|⟨s,j,res,o,hl,hf,hb⟩
  .exact .inl (.inl hA)
  .obtain⟨_,hc⟩:=cls s j res hl;rcases hc with⟨g1,g2,_⟩|⟨m,sz,n,ds,bo,g1,g2,_⟩|⟨res0,b',g1,g2,_,_,g3,_⟩
   .exact .inl (.inr ⟨s,j,res,o,g1,hf,by rw[←g2];exact hb⟩)
   .rw[g2]at hb;exact .inr (gx (k:=0) g1 (by rw[bC];exact hb))
   .rw[g3]at hb;exact .inl (.inr ⟨s,j,res0,o,g1,g2,hb⟩)
 have hx:Ext cx w r β w' r' β':=by
  refine⟨nx,ba,⟨λ b hb hA=>hold b hb λ hm=>hA (.inr hm.ob),λ b hb hA=> ?_⟩,λ b hb hn=>hold b (dI hb h.n0) λ hm=> ?_,hos,hout⟩
  .rcases hAv b hA with h'|h'
   .exact h'
   .rcases(hnb b h').1 with h1|h1
    .omega
    .exact .inr h1.ob
  .rcases hm.fr h with h1|h1
   .omega
   .exact hn h1
 have hkeep:∀{s j res b o},aB r s j=some res->¬(s=mv.s/\mv.has j)->(β s j).base=some (b,o)->¬MB r β mv b:=λ {s j res b o} hl hm hb hM=>by
  obtain⟨k,res',o',m1,m2,m3,m4⟩:=hM;cases hf:res.fz with
  |false=>
   obtain⟨e1,e2⟩:=h.inj _ _ _ _ _ _ _ _ _ hl hf m2 m3 hb m4;exact hm ⟨e1,by rw[e2];exact m1⟩
  |true=>
   have hok:=(h.rs _ _ _ hl).1;unfold bB at hok;rw[ar (by simp[h.vz _ _ _ hl hf])]at hok;obtain⟨_,_,_,g⟩:=hok;exact g hf b o hb (.inr ⟨_,k,res',o',m2,m3,m4⟩)
 refine⟨h.mk' hx (λ s j res hl=> ?_) (λ s j res s' j' res' b o o' hl hf hl' hf' hb hb'=> ?_) (λ s j res b o hl hf hb=> ?_) hsz,hx,hAv⟩
 .obtain⟨he,hc⟩:=cls s j res hl;refine⟨?_,he⟩;rcases hc with⟨g1,g2,g3⟩|⟨m,sz,n,ds,bo,g1,g2,g3,g4,g5,g6,_,_⟩|⟨res0,b,g1,g2,g3,g4,g5,g6,g7,g8,g9,g10,cs,e,g11,g12,g13⟩
  .rw[g2];have hok:=(h.rs _ _ _ g1).1;exact hok.ext hx (λ b o hb=>hold b (hok.lt hb) (hkeep g1 g3 hb)) (λ b o hb=>hok.lt hb)
  .unfold bB;rw[ar (by simp[g3]),g2];refine⟨ds,g6, ?_,λ hf=>by rw[g4]at hf;cases hf⟩;rw[g5];exact(hrow m sz n ds bo g1).cg ⟨λ _ _ _=>rfl,λ b _ hb=>hAv b hb⟩ (λ _ _ _=>rfl)
  .unfold bB;rw[ay g6,g5];exact⟨g7,b,cs,e,g9,g11,g13 hx hAv,g12⟩
 .obtain⟨_,hc⟩:=cls s j res hl;obtain⟨_,hc'⟩:=cls s' j' res' hl';rcases hc with⟨g1,g2,g3⟩|⟨m,sz,n,ds,bo,g1,g2,g3,g4,g5,g6,_,g7⟩|⟨res0,b0,g1,g2,g3,g4,g5,g6,g7,g8,g9,g10,_⟩<;>
   rcases hc' with⟨k1,k2,k3⟩|⟨m',sz',n',ds',bo',k1,k2,k3,k4,k5,k6,_,k7⟩|⟨res0',b0',k1,k2,k3,k4,k5,k6,k7,k8,k9,k10,_⟩
  .rw[g2]at hb;rw[k2]at hb';exact h.inj _ _ _ _ _ _ _ _ _ g1 hf k1 hf' hb hb'
  .rw[g2]at hb;rw[k2]at hb';have hlt:=(h.rs _ _ _ g1).1.lt hb;rcases(hnb b (gx (k:=0) k1 (by rw[bC];exact hb'))).1 with q|q
   .omega
   .exact absurd q (hkeep g1 g3 hb)
  .rw[g2]at hb;rw[k5]at hb';exact h.inj _ _ _ _ _ _ _ _ _ g1 hf k1 k2 hb hb'
  .rw[g2]at hb;rw[k2]at hb';have hlt:=(h.rs _ _ _ k1).1.lt hb';rcases(hnb b (gx (k:=0) g1 (by rw[bC];exact hb))).1 with q|q
   .omega
   .exact absurd q (hkeep k1 k3 hb')
  .rw[g2]at hb;rw[k2]at hb';have:=hap m m' b o o' sz n ds bo sz' n' ds' bo' g1 k1 hb hb';subst this;rw[g7]at k7;cases k7;exact⟨rfl,rfl⟩
  .rw[g2]at hb;rw[k5,k9]at hb';cases hb';exact absurd k10 (hnb b (gx (k:=0) g1 (by rw[bC];exact hb))).2
  .rw[g5]at hb;rw[k2]at hb';exact h.inj _ _ _ _ _ _ _ _ _ g1 g2 k1 hf' hb hb'
  .rw[g5,g9]at hb;rw[k2]at hb';cases hb;exact absurd g10 (hnb b (gx (k:=0) k1 (by rw[bC];exact hb'))).2
  .rw[g5]at hb;rw[k5]at hb';exact h.inj _ _ _ _ _ _ _ _ _ g1 g2 k1 k2 hb hb'
 .obtain⟨_,hc⟩:=cls s j res hl;rcases hc with⟨g1,g2,g3⟩|⟨m,sz,n,ds,bo,g1,g2,g3,g4,g5,g6,g8,g7⟩|⟨res0,b0,g1,g2,g3,g4,g5,g6,g7,g8,g9,g10,_⟩
  .rw[g2]at hb;exact h.fr _ _ _ _ _ g1 hf hb
  .rw[g2]at hb;have hn0:=h.n0;rcases(hnb b (gx (k:=0) g1 (by rw[bC];exact hb))).1 with q|q
   .exact⟨.inl (by omega),λ _=>by omega⟩
   .refine⟨q.fr h,λ hbor=> ?_⟩;rcases g8 hbor with q'|q'
    .subst q';have:=hfresh m sz n ds b o g1 hb;omega
    .exact q' b q
  .rw[g5]at hb;rw[g8];exact h.fr _ _ _ _ _ g1 g2 hb
theorem Cy (h:aH cx ⟨v,r⟩ a w β) (hB:jL r mv=false):∀b,MB r β mv b->cx.n0≤b:=λ b hb=>by
 obtain⟨j,res,o,_,h2,h3,h4⟩:=hb;refine(h.fr _ _ _ _ _ h2 h3 h4).2 ?_;unfold jL at hB;unfold aB at h2;cases hrs:ah mv.s r with
 |none=>simp[hrs]at h2
 |some rs=>
  simp only[hrs]at h2 hB;have hj:rs.l[j]? =some (some res):=by
   split at h2
   .rename_i q hq;cases h2;exact hq
   .cases h2
  have:=List.any_eq_false.1 hB (some res) (lH hj);simpa using this
theorem pG {B:Bool} {e s:Nat} {L:List (Option aY)} {l:List RO} {next j:Nat} {x:Option aY} {res:aY} (hl:aB (aM s ⟨next,x::dy B e l⟩ r) s j=some res):
  (j=0/\x=some res)∨∃k sz n ds bo,j=k+1/\l[k]? =some (.own sz n ds bo)/\res={rowAt e sz ds with cw:=bo&&B}:=by
 rw[dH,ay rfl]at hl;cases j with
 |zero=>
  simp only[bZ]at hl;split at hl
  .rename_i q hq;cases hl;simp only[aQ]at hq;exact .inl ⟨rfl,hq⟩
  .cases hl
 |succ k=>
  simp only[gS]at hl;split at hl
  .rename_i q hq;cases hl;obtain⟨sz,n,ds,bo,g1,g2⟩:=rB hq;exact .inr ⟨k,sz,n,ds,bo,rfl,g1,g2⟩
  .cases hl
def mz (dst:Option Nat) (rfs:List RF):Option Nat:=if fR (rfs.flatMap RF.cells)=true then none else dst
def dY (B:Bool) (r1:Rs) (od:Option Nat) (cells:List RO):Rs:=
 match od with
 |some d=>aM d {next:=aq r1 d+1,l:=none::dy B (aq r1 d) cells} r1
 |none=>r1
theorem nZ {B:Bool} {r1:Rs} {dst:Option Nat} {rfs:List RF}:(gb B r1 dst rfs).2=dY B r1 (mz dst rfs) (rfs.flatMap RF.cells):=by
 unfold gb mz dY;simp only;split
 .rfl
 .cases dst<;>rfl
theorem Cn {B:Bool} {r1:Rs} {dst:Option Nat} {rfs:List RF} {u:Value} {us:List Value} {γ:Nat->Pl} {A:Nat->Prop} (hu:u=(match us with|[x]=>x|us=> .tuple us.toArray))
  (hA:∀b,Av cx (gb B r1 dst rfs).2 β' b->A b) (h2:dp A w' γ 0 rfs us) (hγ:∀d k,mz dst rfs=some d->k<(rfs.flatMap RF.cells).length->β' d (k+1)=γ k):
  aA cx w' (gb B r1 dst rfs).2 β' (gb B r1 dst rfs).1 u:=by
 unfold gb at hA⊢;simp only at hA⊢;split
 .rename_i hn;rw[ay hn]at hA;exact pV hu (mU (γ:=γ) hA (λ i sz n ds bo hi=>absurd hi (rV hn i sz n ds bo)) h2)
 .rename_i hn;rw[ar hn]at hA;cases dst with
  |none=>simp[aA,aw]
  |some d=>
   simp only at hA⊢;refine pV hu (mU (γ:=γ) hA (λ i sz n ds bo hi=> ?_) h2);refine⟨⟨bo&&B,ed ?_ rfl⟩,by rw[bC];exact hγ d i (by unfold mz;rw[ar hn]) (bJ.1 hi).1,by rw[c5,ay rfl];exact eX _⟩;rw[dH,ay rfl];simp[mP hi,rowAt]
end
section
variable {cx:Cx} {v:List AV} {r r':Rs} {a:Act} {w w':World} {β β':Nat->Nat->Pl} {T:Nat->Option TI} {c:Bool} {mv:Mv}
theorem bP.nj {A:Nat->Prop} {γ:Nat->Pl} {m:Nat}:∀{l:List RO} {k:Nat} {us:List Value},bP A w γ (m+k) l us->bP A w (λ i=>γ (m+i)) k l us
 |[],_,_,h=>h
 |x::l,k,us,h=>by simp only[bP]at h⊢;obtain⟨u,us',rfl,h1,h2⟩:=h;exact⟨u,us',rfl,h1,bP.nj (k:=k+1) h2⟩
theorem jX {B:Bool} {r1:Rs} {od:Option Nat} {cells:List RO} {s:Nat}:aq (dY B r1 od cells) s=if od=some s then aq r1 s+1 else aq r1 s:=by
 cases od with
 |none=>simp[dY]
 |some d=>
  simp only[dY,c5,aQ];by_cases h:d=s
  .subst h;simp
  .simp[h]
theorem pM {B:Bool} {r1:Rs} {od:Option Nat} {cells:List RO} {s j:Nat} (h:od≠some s):aB (dY B r1 od cells) s j=aB r1 s j:=by
 cases od with
 |none=>rfl
 |some d=>simp only[dY,dH];rw[ar (λ e=>h (by rw[e]))]
theorem Bq {dst:Option Nat} {rfs:List RF} {aJ:List Nat} {s:Nat} (h:(dl dst++aJ).contains s=false):mz dst rfs≠some s:=by
 unfold mz;split
 .simp
 .intro e;rw[e]at h;simp[dl]at h
theorem Nr (h:aH cx ⟨v,r⟩ a w β) {hd:Hd} {res:aY} {b:Nat} {dst:Option Nat} {aJ:List Nat} {l':List RO} {rfs:List RF} {u:Value} (hg:aK r hd=some res) (hv:res.var=true) (hj:hd.j=0)
  (hbase:(β hd.s 0).base=some (b,0)) (hsc:bA r dst (.o hd) aJ l') (hr:dc w (Av cx r β) (MB r β (.o hd)) w' [.cb b] rfs [l'] u):
  ∃β',aH cx ⟨v,(bindM r dst (.o hd) rfs l').2⟩ a w' β'/\aA cx w' (bindM r dst (.o hd) rfs l').2 β' (bindM r dst (.o hd) rfs l').1 u:=by
 simp only[bA,hg]at hsc;obtain⟨s1,s2⟩:=hsc;obtain⟨⟨γ,us,m1,m2,m3,m4,m5,m6⟩,hsz,hold,hos,hout⟩:=hr;have hod:=Bq (rfs:=rfs) s1;have hbof:=Cy (mv:= .o hd) h;unfold bindM;generalize hB:jL r (.o hd)=B at*;have hbo:∀{bo:Bool},(bo&&B)=false->bo=false∨∀b,MB r β (.o hd) b->cx.n0≤b:=λ {bo} hb=>by
  cases bo with
  |false=>exact .inl rfl
  |true=>exact .inr (hbof (by simpa using hb))
 rw[show iB r (.o hd) l'=aM hd.s {next:=aq r hd.s+1,l:=some {res with cells:=dD hd.s (aq r hd.s) 0 l'}::dy B (aq r hd.s) l'} r by simp only[iB,hg,hB]];generalize hr1:aM hd.s {next:=aq r hd.s+1,l:=some {res with cells:=dD hd.s (aq r hd.s) 0 l'}::dy B (aq r hd.s) l'} r=r1;have hL:cn rfs [l']=rfs.flatMap RF.cells++l':=by simp[cn]
 rw[hL]at m2 m3 m4 m5 m6;rw[nZ]at*;generalize hcs:rfs.flatMap RF.cells=cs at*;generalize hodd:mz dst rfs=od at*;obtain⟨hlk,hee⟩:=bq hg;rw[hj]at hlk
 let β':Nat->Nat->Pl:=λ s j=>if od=some s then γ (j - 1)else if s=hd.s then(if j=0 then β hd.s 0 else γ (cs.length+(j - 1)))else β s j
 have hnx1:∀s,s≠hd.s->aq r1 s=aq r s:=λ s hs=>by rw[←hr1,c5,ar (dU hs)]
 have hnxS:aq r1 hd.s=aq r hd.s+1:=by rw[←hr1,c5,ay rfl]
 have hlk1:∀s j,s≠hd.s->aB r1 s j=aB r s j:=λ s j hs=>by rw[←hr1,dH,ar (dU hs)]
 have hlt:hd.e<aq r hd.s:=by rw[←hee];exact(h.rs _ _ _ hlk).2
 have hf:res.fz=false:=by have hok:=(h.rs _ _ _ hlk).1;unfold bB at hok;rw[ay hv]at hok;exact hok.1
 -- what stands where
 have hat:∀s j res',aB (dY B r1 od cs) s j=some res'->
   (∃k sz n ds bo,od=some s/\j=k+1/\cs[k]? =some (.own sz n ds bo)/\res'={rowAt (aq r s) sz ds with cw:=bo&&B})∨
   (od≠some s/\s=hd.s/\((j=0/\res'={res with cells:=dD hd.s (aq r hd.s) 0 l'})∨∃k sz n ds bo,j=k+1/\l'[k]? =some (.own sz n ds bo)/\res'={rowAt (aq r hd.s) sz ds with cw:=bo&&B}))∨
   (od≠some s/\s≠hd.s/\aB r s j=some res'):=λ s j res' hl=>by
  by_cases ho:od=some s
  .subst ho;have hs:s≠hd.s:=λ e=>hod (by rw[e])
   simp only[dY]at hl;rw[hnx1 s hs]at hl;rcases pG (L:=[]) hl with⟨_,e⟩|⟨k,sz,n,ds,bo,e1,e2,e3⟩
   .cases e
   .exact .inl ⟨k,sz,n,ds,bo,rfl,e1,e2,e3⟩
  .rw[pM ho]at hl;by_cases hs:s=hd.s
   .subst hs;rw[←hr1]at hl;rcases pG (L:=[]) hl with⟨e1,e2⟩|⟨k,sz,n,ds,bo,e1,e2,e3⟩
    .cases e2;exact .inr (.inl ⟨ho,rfl, .inl ⟨e1,rfl⟩⟩)
    .exact .inr (.inl ⟨ho,rfl, .inr ⟨k,sz,n,ds,bo,e1,e2,e3⟩⟩)
   .rw[hlk1 s j hs]at hl;exact .inr (.inr ⟨ho,hs,hl⟩)
 have hobj:=m3;simp only[eA]at hobj;obtain⟨⟨arr,e,o1,o2,o3⟩,_⟩:=hobj;obtain⟨q1,q2,q3⟩:=h.dL (r':=dY B r1 od cs) (β':=β') (mv:= .o hd) (L:=cs++l') (γ:=γ) (bl:=[b]) (idx:=λ m=>if m<cs.length then(od.getD 0,m+1)else(hd.s,m - cs.length+1))
  (λ s=>by
   rw[jX];by_cases hs:s=hd.s
   .subst hs;rw[hnxS];split<;>omega
   .rw[hnx1 s hs];split<;>omega)
  (λ hd' res' hlt' hg'=>by
   obtain⟨hl',he'⟩:=bq hg';rcases hat _ _ _ hl' with⟨k,sz,n,ds,bo,e1,e2,e3,e4⟩|⟨e1,e2,⟨e3,e4⟩|⟨k,sz,n,ds,bo,e3,e4,e5⟩⟩|⟨e1,e2,e3⟩
   .rw[e4]at he';simp only[rowAt]at he';omega
   .rw[e4]at he'⊢;simp only at he'⊢;refine⟨res,ed (by rw[e2,e3];exact hlk) he', ?_,rfl,rfl,by rw[pC,s2];exact Nat.le_refl _⟩;simp only[β',e3,e2];rw[ar hod];simp
   .rw[e5]at he';simp only[rowAt]at he';rw[e2]at hlt';omega
   .refine⟨res',ed e3 he', ?_,rfl,rfl,Nat.le_refl _⟩;simp only[β'];rw[ar e1,ar e2])
  (λ s j res' hl=>by
   rcases hat _ _ _ hl with⟨k,sz,n,ds,bo,e1,e2,e3,e4⟩|⟨e1,e2,⟨e3,e4⟩|⟨k,sz,n,ds,bo,e3,e4,e5⟩⟩|⟨e1,e2,e3⟩
   .have hs:s≠hd.s:=λ e=>hod (by rw[e1,e])
    have hk:=(bJ.1 e3).1;refine⟨by rw[jX,ay e1,hnx1 s hs,e4];simp[rowAt], .inr (.inl ⟨k,sz,n,ds,bo,by rw[cj hk];exact e3, ?_,by rw[e4];rfl,by rw[e4];rfl,by rw[e4];rfl,by rw[e4];rfl, ?_, ?_⟩)⟩
    .simp only[β'];rw[ay e1,e2];rfl
    .rw[e4];intro hb;exact hbo hb
    .simp only[ay hk,e1,e2];rfl
   .subst e2 e3;refine⟨by rw[jX,ar e1,hnxS,e4];simp only;omega, .inr (.inr ⟨res,b,hlk,hf,rfl,trivial, ?_,by rw[e4];exact hv,by rw[e4];exact hf,by rw[e4],hbase,by simp,arr,e,o1,o3,λ hx hA=> ?_⟩)⟩
    .simp only[β'];rw[ar e1];simp
    .rw[e4];simp only;refine mQ (γ:=λ k=>γ (cs.length+k)) (A:=λ b=>Av cx r β b∨NB γ 0 (cs++l') b) hA (λ i sz n ds bo hi=> ?_) (bP.nj (m:=cs.length) (k:=0) o2);refine⟨⟨bo&&B,ed ?_ rfl⟩, ?_, ?_⟩
     .rw[pM hod,←hr1,dH,ay rfl];simp only[bC,gS,mP hi]
     .simp only[β',bC];rw[ar hod];simp
     .rw[jX,ar hod,hnxS];omega
   .subst e2;refine⟨by rw[jX,ar e1,hnxS,e5];simp[rowAt], .inr (.inl ⟨cs.length+k,sz,n,ds,bo,by rw[ct (fD _ _)];simpa using e4, ?_,by rw[e5];rfl,by rw[e5];rfl,by rw[e5];rfl,by rw[e5];rfl, ?_, ?_⟩)⟩
    .simp only[β'];rw[ar e1,e3];simp
    .rw[e5];intro hb;exact hbo hb
    .rw[ar (by omega),e3];simp
   .refine⟨?_, .inl ⟨e3, ?_,λ hh=>e2 hh.1⟩⟩
    .rw[jX,ar e1,hnx1 s e2];exact(h.rs _ _ _ e3).2
    .simp only[β'];rw[ar e1,ar e2])
  (λ m sz n ds bo hm=>by
   rcases gW m cs.length with q|q
   .rw[cj q]at hm;have:=dp.row m2 (i:=m) (by rw[hcs];exact hm)
    rwa[bC]at this
   .rw[ct q]at hm;have:=bP.row o2 hm
    rwa[show cs.length+(m - cs.length)=m by omega]at this)
  (λ b' hb'=>by have:=m4 b' hb';simpa[b9]using this) m5 m6 hsz hold hos hout
 refine⟨β',q1, ?_⟩;have hfin:=Cn (cx:=cx) (w':=w') (β':=β') (B:=B) (r1:=r1) (dst:=dst) (rfs:=rfs) (γ:=γ) (A:=λ b=>Av cx r β b∨NB γ 0 (cs++l') b) m1
  (λ b hb=>q3 b (by rw[nZ,hcs,hodd]at hb;exact hb)) m2 (λ d k hd' hk=>by simp only[β'];rw[←hodd,hd',ay rfl];rfl)
 rw[nZ,hcs,hodd]at hfin;exact hfin
theorem NG (h:aH cx ⟨v,r⟩ a w β) {hd:Hd} {n0:Nat} {res:aY} {u0:Value} {dst:Option Nat} {aJ:List Nat} {l':List RO} {rfs:List RF} {u:Value} (hg:aK r hd=some res) (hf:res.fz=false)
  (hown:jR (β hd.s hd.j) res 0 n0 u0) (hsc:bA r dst (.r hd n0) aJ l') (hr:dc w (Av cx r β) (MB r β (.r hd n0)) w' [.val u0] rfs [l'] u):
  ∃β',aH cx ⟨v,(bindM r dst (.r hd n0) rfs l').2⟩ a w' β'/\aA cx w' (bindM r dst (.r hd n0) rfs l').2 β' (bindM r dst (.r hd n0) rfs l').1 u:=by
 simp only[bA,hg]at hsc;obtain⟨s1,s2⟩:=hsc;obtain⟨⟨γ,us,m1,m2,m3,m4,m5,m6⟩,hsz,hold,hos,hout⟩:=hr;have hod:=Bq (rfs:=rfs) s1;obtain⟨hlk,hee⟩:=bq hg;obtain⟨rs,hrs,hrj⟩:∃rs,ah hd.s r=some rs/\rs.l[hd.j]? =some (some res):=by
  unfold aB at hlk;cases hrs:ah hd.s r with
  |none=>simp[hrs]at hlk
  |some rs=>
   simp only[hrs]at hlk;refine⟨rs,rfl, ?_⟩;split at hlk
   .rename_i q hq;cases hlk;exact hq
   .cases hlk
 have hjlt:hd.j<rs.l.length:=(bJ.1 hrj).1;have hbof:=Cy (mv:= .r hd n0) h;unfold bindM;generalize hB:jL r (.r hd n0)=B at*;have hbo:∀{bo:Bool},(bo&&B)=false->bo=false∨∀b,MB r β (.r hd n0) b->cx.n0≤b:=λ {bo} hb=>by
  cases bo with
  |false=>exact .inl rfl
  |true=>exact .inr (hbof (by simpa using hb))
 -- what stands at the row's place behind the call
 obtain⟨x,hx,hx2⟩:∃x:Option aY,iB r (.r hd n0) l'=aM hd.s {rs with l:=rs.l.set hd.j x} r/\
   (x=none∨∃sz ds bo,l'=[.own sz n0 ds bo]/\0<n0/\sz=res.sz/\ds.length=res.cells.length/\x=some {res with cells:=ds.map C.d}):=by
  simp only[iB,hg,hrs];split at s2
  .exact⟨none,rfl, .inl rfl⟩
  .rename_i sz n' ds' bo;obtain⟨e1,e2,e3,e4⟩:=s2;subst e1;exact⟨_,rfl, .inr ⟨sz,ds',bo,rfl,e2,e3,e4,rfl⟩⟩
  .exact s2.elim
 rw[hx];generalize hr1:aM hd.s {rs with l:=rs.l.set hd.j x} r=r1;have hL:cn rfs [l']=rfs.flatMap RF.cells++l':=by simp[cn]
 rw[hL]at m2 m3 m4 m5 m6;rw[nZ]at*;generalize hcs:rfs.flatMap RF.cells=cs at*;generalize hodd:mz dst rfs=od at*
 let β':Nat->Nat->Pl:=λ s j=>if od=some s then γ (j - 1)else β s j
 have hns:aq r hd.s=rs.next:=by unfold aq;simp only[hrs]
 have hnx1:∀s,aq r1 s=aq r s:=λ s=>by
  rw[←hr1,c5];split
  .rename_i e;subst e;exact hns.symm
  .rfl
 have hobj:=m3;simp only[eA]at hobj
 -- a row that comes back lies where it lay
 have hback:∀sz ds bo,l'=[.own sz n0 ds bo]->0<n0->γ cs.length=β hd.s hd.j:=λ sz ds bo e hp=>by
  subst e;have h1:=hobj.1.resolve_left (by simp);simp only[bP,cA]at h1;obtain⟨u1,us1,e1,⟨_,g2,_,ad,g3,g4⟩,_⟩:=h1;cases e1;obtain⟨_,_,k1,ad',k2,k3⟩:=hown;rw[g3]at k2;simp only[Value.slice.injEq,nv,bH]at k2;obtain⟨rfl,k4⟩:=k2;have hc0:(γ cs.length).cap≠0:=by omega
  obtain⟨b1,o1,p1,p2⟩:=g4.resolve_left hc0;obtain⟨b2,o2,p3,p4⟩:=k3.resolve_left (by omega);rw[p2]at p4;simp only[nK,eV,aQ,Addr.mk.injEq,bL]at p4;obtain⟨rfl,rfl⟩:=p4;cases hγ:γ cs.length with
  |mk bs1 c1=>
   cases hβ:β hd.s hd.j with
   |mk bs2 c2=>
    rw[hγ]at p1 k4;rw[hβ]at p3 k4;simp only at p1 p3 k4;rw[p1,p3,k4]
 have hat:∀s j res',aB (dY B r1 od cs) s j=some res'->
   (∃k sz n ds bo,od=some s/\j=k+1/\cs[k]? =some (.own sz n ds bo)/\res'={rowAt (aq r s) sz ds with cw:=bo&&B})∨
   (od≠some s/\s=hd.s/\j=hd.j/\∃sz ds bo,l'=[.own sz n0 ds bo]/\0<n0/\sz=res.sz/\ds.length=res.cells.length/\res'={res with cells:=ds.map C.d})∨
   (od≠some s/\¬(s=hd.s/\j=hd.j)/\aB r s j=some res'):=λ s j res' hl=>by
  by_cases ho:od=some s
  .subst ho;simp only[dY]at hl;rw[hnx1 s]at hl;rcases pG (L:=[]) hl with⟨_,e⟩|⟨k,sz,n,ds,bo,e1,e2,e3⟩
   .cases e
   .exact .inl ⟨k,sz,n,ds,bo,rfl,e1,e2,e3⟩
  .rw[pM ho]at hl;rw[←hr1,dH]at hl;by_cases hs:hd.s=s
   .subst hs;rw[ay rfl]at hl;simp only at hl;by_cases hjj:hd.j=j
    .subst hjj;rw[o7 hjlt]at hl;rcases hx2 with rfl|⟨sz,ds,bo,f1,f2,f3,f4,rfl⟩
     .simp at hl
     .simp only[aQ]at hl;exact .inr (.inl ⟨ho,rfl,rfl,sz,ds,bo,f1,f2,f3,f4,hl.symm⟩)
    .rw[il hjj]at hl;refine .inr (.inr ⟨ho,λ e=>hjj e.2.symm, ?_⟩);unfold aB;simp only[hrs];exact hl
   .rw[ar hs]at hl;exact .inr (.inr ⟨ho,λ e=>hs e.1.symm,hl⟩)
 obtain⟨q1,q2,q3⟩:=h.dL (r':=dY B r1 od cs) (β':=β') (mv:= .r hd n0) (L:=cs++l') (γ:=γ) (bl:=[]) (idx:=λ m=>if m<cs.length then(od.getD 0,m+1)else(hd.s,hd.j))
  (λ s=>by rw[jX,hnx1 s];split<;>omega)
  (λ hd' res' hlt' hg'=>by
   obtain⟨hl',he'⟩:=bq hg';rcases hat _ _ _ hl' with⟨k,sz,n,ds,bo,e1,e2,e3,e4⟩|⟨e1,e2,e3,sz,ds,bo,f1,f2,f3,f4,f5⟩|⟨e1,e2,e3⟩
   .rw[e4]at he';simp only[rowAt]at he';omega
   .rw[f5]at he'⊢;simp only at he'⊢;refine⟨res,ed (by rw[e2,e3];exact hlk) he', ?_,rfl,rfl,by rw[cF,f4];exact Nat.le_refl _⟩;simp only[β'];rw[ar e1]
   .refine⟨res',ed e3 he', ?_,rfl,rfl,Nat.le_refl _⟩;simp only[β'];rw[ar e1])
  (λ s j res' hl=>by
   rcases hat _ _ _ hl with⟨k,sz,n,ds,bo,e1,e2,e3,e4⟩|⟨e1,e2,e3,sz,ds,bo,f1,f2,f3,f4,f5⟩|⟨e1,e2,e3⟩
   .have hk:=(bJ.1 e3).1;refine⟨by rw[jX,ay e1,hnx1 s,e4];simp[rowAt], .inr (.inl ⟨k,sz,n,ds,bo,by rw[cj hk];exact e3, ?_,by rw[e4];rfl,by rw[e4];rfl,by rw[e4];rfl,by rw[e4];rfl, ?_, ?_⟩)⟩
    .simp only[β'];rw[ay e1,e2];rfl
    .rw[e4];intro hb;exact hbo hb
    .simp only[ay hk,e1,e2];rfl
   .subst e2 e3;refine⟨by rw[jX,ar e1,hnx1,f5];exact(h.rs _ _ _ hlk).2, .inr (.inl ⟨cs.length,sz,n0,ds,bo,by rw[f1,ct (Nat.le_refl _)];simp, ?_,by rw[f5];exact hown.1,by rw[f5];exact hf,by rw[f5,f3],by rw[f5], ?_, ?_⟩)⟩
    .simp only[β'];rw[ar e1];exact(hback sz ds bo f1 f2).symm
    .rw[f5];intro hb;refine .inr λ b hM=> ?_
     obtain⟨k,res',o',m1,m2,m3,m4⟩:=hM;simp only[Mv.has]at m1;subst m1;rw[show aB r (Mv.r hd n0).s hd.j=aB r hd.s hd.j from rfl,hlk]at m2;cases m2;exact(h.fr _ _ _ _ _ hlk hf m4).2 hb
    .rw[ar (Nat.lt_irrefl _)]
   .refine⟨?_, .inl ⟨e3, ?_,λ hh=>e2 hh⟩⟩
    .rw[jX,ar e1,hnx1 s];exact(h.rs _ _ _ e3).2
    .simp only[β'];rw[ar e1])
  (λ m sz n ds bo hm=>by
   rcases gW m cs.length with q|q
   .rw[cj q]at hm;have:=dp.row m2 (i:=m) (by rw[hcs];exact hm)
    rwa[bC]at this
   .rw[ct q]at hm;have o2:=hobj.1.resolve_left (λ e=>by rw[e]at hm;simp at hm);have:=bP.row o2 hm
    rwa[show cs.length+(m - cs.length)=m by omega]at this)
  (λ b' hb'=>by have:=m4 b' hb';simpa[b9]using this) m5 m6 hsz hold hos hout
 refine⟨β',q1, ?_⟩;have hfin:=Cn (cx:=cx) (w':=w') (β':=β') (B:=B) (r1:=r1) (dst:=dst) (rfs:=rfs) (γ:=γ) (A:=λ b=>Av cx r β b∨NB γ 0 (cs++l') b) m1
  (λ b hb=>q3 b (by rw[nZ,hcs,hodd]at hb;exact hb)) m2 (λ d k hd' hk=>by simp only[β'];rw[←hodd,hd',ay rfl];rfl)
 rw[nZ,hcs,hodd]at hfin;exact hfin
theorem Me (h:aH cx ⟨v,r⟩ a w β) {hold:cr} {u0:Value} {dst:Option Nat} {aJ:List Nat} {l':List RO} {rfs:List RF} {u:Value} (hm:qW r β mv hold u0)
  (hsc:bA r dst mv aJ l') (hr:dc w (Av cx r β) (MB r β mv) w' [hold] rfs [l'] u):
  ∃β',aH cx ⟨v,(bindM r dst mv rfs l').2⟩ a w' β'/\aA cx w' (bindM r dst mv rfs l').2 β' (bindM r dst mv rfs l').1 u:=by
 cases mv with
 |o hd=>
  obtain⟨res,b,h1,h2,h3,h4,rfl⟩:=hm;exact Nr h h1 h2 h3 h4 hsc hr
 |r hd n=>
  obtain⟨rfl,res,h1,h2,h3⟩:=hm;exact NG h h1 h2 h3 hsc hr
end
section
variable {cx:Cx} {v:List AV} {r r':Rs} {a:Act} {w w':World} {β β':Nat->Nat->Pl} {T:Nat->Option TI} {c:Bool}
theorem dp.nj {A:Nat->Prop} {γ:Nat->Pl} {m:Nat}:∀{l:List RF} {k:Nat} {us:List Value},dp A w γ (m+k) l us->dp A w (λ i=>γ (m+i)) k l us
 |[],_,_,h=>h
 |x::l,k,us,h=>by
  simp only[dp]at h⊢;obtain⟨u,us',rfl,h1,h2⟩:=h;refine⟨u,us',rfl, ?_,dp.nj (k:=k+x.cells.length) (by rw[←cS];exact h2)⟩;cases x with
  |one x=>exact h1
  |agg l=>
   simp only[iG]at h1⊢;obtain⟨us,e1,e2⟩:=h1;exact⟨us,e1,bP.nj e2⟩
def pk (d:Nat) (rfs:List RF):Option Nat:=if fR (rfs.flatMap RF.cells)=true then none else some (d+pK)
theorem MS {d:Nat} {rfs:List RF} {l:List RO}:(c7 r d rfs l).2=dY false (aM d {next:=aq r d+1,l:=some {e:=aq r d,var:=true,fz:=false,sz:=0,cells:=dD d (aq r d) 0 l}::dy false (aq r d) l} r) (pk d rfs) (rfs.flatMap RF.cells):=by
 unfold c7 pk;split
 .rfl
 .simp only[dY];rw[c5,ar (by unfold pK;omega)]
theorem Mk (h:aH cx ⟨v,r⟩ a w β) {d b:Nat} {l:List RO} {rfs:List RF} {u:Value} (hb0:w.heap.size≤b)
  (hr:dc w (λ x=>Av cx r β x∨x∈b9 [.cb b]) fI w' [.cb b] (.one (.d (.v (dg b)))::rfs) [l] u):
  ∃β',aH cx ⟨v,(c7 r d rfs l).2⟩ a w' β'/\aA cx w' (c7 r d rfs l).2 β' (c7 r d rfs l).1 u:=by
 obtain⟨⟨γ,us,m1,m2,m3,m4,m5,m6⟩,hsz,hold,hos,hout⟩:=hr;have hL:cn (.one (.d (.v (dg b)))::rfs) [l]= .d (.v (dg b))::(rfs.flatMap RF.cells++l):=by simp[cn,RF.cells]
 rw[hL]at m2 m3 m4 m5 m6;generalize hcs:rfs.flatMap RF.cells=cs at*;have hlen:(List.flatMap RF.cells (.one (.d (.v (dg b)))::rfs)).length=1+cs.length:=by simp[RF.cells,hcs];omega
 rw[hlen]at m3;rw[MS,hcs];generalize hodd:pk d rfs=od at*;have hod:∀s,od=some s->s=d+pK:=λ s hs=>by rw[←hodd]at hs;unfold pk at hs;split at hs;cases hs;cases hs;rfl
 have hodn:od≠some d:=λ e=>by have:=hod d e;unfold pK at this;omega
 generalize hr1:aM d {next:=aq r d+1,l:=some {e:=aq r d,var:=true,fz:=false,sz:=0,cells:=dD d (aq r d) 0 l}::dy false (aq r d) l} r=r1
 -- the places
 let β':Nat->Nat->Pl:=λ s j=>if od=some s then γ (1+(j - 1))else if s=d then(if j=0 then⟨some (b,0),1⟩else γ (1+cs.length+(j - 1)))else β s j
 have hnx1:∀s,s≠d->aq r1 s=aq r s:=λ s hs=>by rw[←hr1,c5,ar (dU hs)]
 have hnxS:aq r1 d=aq r d+1:=by rw[←hr1,c5,ay rfl]
 have hlk1:∀s j,s≠d->aB r1 s j=aB r s j:=λ s j hs=>by rw[←hr1,dH,ar (dU hs)]
 have hat:∀s j res',aB (dY false r1 od cs) s j=some res'->
   (∃k sz n ds bo,od=some s/\j=k+1/\cs[k]? =some (.own sz n ds bo)/\res'=rowAt (aq r s) sz ds)∨
   (od≠some s/\s=d/\((j=0/\res'={e:=aq r d,var:=true,fz:=false,sz:=0,cells:=dD d (aq r d) 0 l})∨∃k sz n ds bo,j=k+1/\l[k]? =some (.own sz n ds bo)/\res'=rowAt (aq r d) sz ds))∨
   (od≠some s/\s≠d/\aB r s j=some res'):=λ s j res' hl=>by
  by_cases ho:od=some s
  .subst ho;have hs:s≠d:=λ e=>hodn (by rw[e])
   simp only[dY]at hl;rw[hnx1 s hs]at hl;rcases pG (L:=[]) hl with⟨_,e⟩|⟨k,sz,n,ds,bo,e1,e2,e3⟩
   .cases e
   .exact .inl ⟨k,sz,n,ds,bo,rfl,e1,e2,by rw[e3];simp[rowAt]⟩
  .rw[pM ho]at hl;by_cases hs:s=d
   .subst hs;rw[←hr1]at hl;rcases pG (L:=[]) hl with⟨e1,e2⟩|⟨k,sz,n,ds,bo,e1,e2,e3⟩
    .cases e2;exact .inr (.inl ⟨ho,rfl, .inl ⟨e1,rfl⟩⟩)
    .exact .inr (.inl ⟨ho,rfl, .inr ⟨k,sz,n,ds,bo,e1,e2,by rw[e3];simp[rowAt]⟩⟩)
   .rw[hlk1 s j hs]at hl;exact .inr (.inr ⟨ho,hs,hl⟩)
 have hobj:=m3;simp only[eA]at hobj;obtain⟨⟨arr,e,o1,o2,o3⟩,_⟩:=hobj;obtain⟨u0,us',rfl,m20,m21⟩:∃u0 us',us=u0::us'/\u0=dg b/\dp (λ b'=>(Av cx r β b'∨b'∈b9 [.cb b])∨NB γ 0 (.d (.v (dg b))::(cs++l)) b') w' γ 1 rfs us':=by simp only[dp,iG,cA,Rd,RF.cells,de,iq]at m2;obtain⟨x,xs,e1,e2,e3⟩:=m2;exact⟨x,xs,e1,e2.1,e3⟩
 subst m20;generalize hZ:RO.d (.v (dg b))::(cs++l)=Z at*;have hZc:∀k,k<cs.length->Z[1+k]? =cs[k]? :=λ k hk=>by rw[←hZ,iz 1 k,gS,cj hk]
 have hZl:∀k,Z[1+cs.length+k]? =l[k]? :=λ k=>by rw[←hZ,show 1+cs.length+k=(cs.length+k)+1 by omega,gS,ct (fD _ _)];simp
 have hlt:∀{s j res b o},aB r s j=some res->(β s j).base=some (b,o)->b<w.heap.size:=λ hl hb=>(h.rs _ _ _ hl).1.lt hb
 have hnew:∀{k sz n ds bo b' o},Z[k]? =some (.own sz n ds bo)->(γ k).base=some (b',o)->NB γ 0 Z b'/\w.heap.size≤b'/\b'≠b:=λ {k sz n ds bo b' o} hk hb=>by have h1:=gx (k:=0) hk (by simpa using hb);have:=m4 b' h1;exact⟨h1,this.1.resolve_right λ h=>h,λ e=>this.2 (by simp[b9,e])⟩
 -- what stands at a place:an ba one,the object,a row
 have hcase:∀s j res',aB (dY false r1 od cs) s j=some res'->
   (aB r s j=some res'/\β' s j=β s j/\s≠d/\od≠some s)∨
   (s=d/\j=0/\β' s j=⟨some (b,0),1⟩/\res'={e:=aq r d,var:=true,fz:=false,sz:=0,cells:=dD d (aq r d) 0 l})∨
   (∃k sz n ds bo,Z[k]? =some (.own sz n ds bo)/\β' s j=γ k/\res'=rowAt (aq r s) sz ds/\(od=some s∨s=d)/\j≠0/\k=(if od=some s then j else cs.length+j)):=λ s j res' hl=>by
  rcases hat s j res' hl with⟨k,sz,n,ds,bo,e1,e2,e3,e4⟩|⟨e1,e2,⟨e3,e4⟩|⟨k,sz,n,ds,bo,e3,e4,e5⟩⟩|⟨e1,e2,e3⟩
  .exact .inr (.inr ⟨1+k,sz,n,ds,bo,by rw[hZc k (bJ.1 e3).1];exact e3,by simp only[β'];rw[ay e1,e2];rfl,e4, .inl e1,by omega,by rw[ay e1];omega⟩)
  .subst e2 e3;exact .inr (.inl ⟨rfl,rfl,by simp only[β'];rw[ar e1];simp,e4⟩)
  .subst e2;exact .inr (.inr ⟨1+cs.length+k,sz,n,ds,bo,by rw[hZl];exact e4,by simp only[β'];rw[ar e1,e3];simp,e5, .inr rfl,by omega,by rw[ar e1];omega⟩)
  .exact .inl ⟨e3,by simp only[β'];rw[ar e1,ar e2],e2,e1⟩
 have hAv:∀b',Av cx (dY false r1 od cs) β' b'->Av cx r β b'∨NB γ 0 Z b'∨b'=b:=λ b' hA=>by
  rcases hA with hA|⟨s,j,res,o,hl,hf,hb⟩
  .exact .inl (.inl hA)
  .rcases hcase s j res hl with⟨q1,q2,_⟩|⟨q1,q2,q3,q4⟩|⟨k,sz,n,ds,bo,q1,q2,_⟩
   .rw[q2]at hb;exact .inl (.inr ⟨s,j,res,o,q1,hf,hb⟩)
   .rw[q3]at hb;cases hb;exact .inr (.inr rfl)
   .rw[q2]at hb;exact .inr (.inl (hnew q1 hb).1)
 have hnx:∀s,aq (dY false r1 od cs) s=if od=some s∨s=d then aq r s+1 else aq r s:=λ s=>by
  rw[jX];by_cases hs:s=d
  .subst hs;rw[ar hodn,hnxS,ay (.inr rfl)]
  .rw[hnx1 s hs];by_cases ho:od=some s
   .rw[ay ho,ay (.inl ho)]
   .rw[ar ho,ar (by simp[ho,hs])]
 have hx:Ext cx w r β w' (dY false r1 od cs) β':=by
  refine⟨λ s=> ?_,λ hd res' hlt' hg=> ?_,⟨λ b hb' _=>hold b hb' (λ h=>h),λ b' hb' hA=> ?_⟩,λ b hb' hn=>hold b (dI hb' h.n0) (λ h=>h),hos,hout⟩
  .rw[hnx];split<;>omega
  .obtain⟨hl,hee⟩:=bq hg;rcases hcase _ _ _ hl with⟨q1,q2,_⟩|⟨q1,q2,q3,q4⟩|⟨k,sz,n,ds,bo,q1,q2,q3,_⟩
   .exact⟨res',ed q1 hee,q2,rfl,rfl,Nat.le_refl _⟩
   .rw[q4]at hee;rw[q1]at hlt';simp only at hee;omega
   .rw[q3]at hee;simp only[rowAt]at hee;omega
  .rcases hAv b' hA with h'|h'|h'
   .exact h'
   .have:=(m4 b' h').1.resolve_right λ h=>h
    omega
   .omega
 have hA:∀b',Av cx (dY false r1 od cs) β' b'->(Av cx r β b'∨b'∈b9 [.cb b])∨NB γ 0 Z b':=λ b' hA=>by
  rcases hAv b' hA with h'|h'|h'
  .exact .inl (.inl h')
  .exact .inr h'
  .exact .inl (.inr (by simp[b9,h']))
 have hbo:jk (dY false r1 od cs) β' (λ k=>γ (1+cs.length+k)) d (aq r d) 0 l:=λ i sz n ds bo hi=>by
  refine⟨⟨false,ed ?_ rfl⟩, ?_, ?_⟩
  .rw[pM hodn,←hr1,dH,ay rfl];simp only[bC,gS,mP hi,oY]
  .simp only[β',bC];rw[ar hodn];simp
  .rw[hnx,ay (.inr rfl)];omega
 have hH:aH cx ⟨v,dY false r1 od cs⟩ a w' β':=by
  refine h.mk' hx (λ s j res hl=> ?_) (λ s j res s' j' res' b1 o o' hl hf hl' hf' hbs hbs'=> ?_) (λ s j res b1 o hl hf hbs=> ?_) hsz
  .rcases hcase s j res hl with⟨q1,q2,q3,q4⟩|⟨q1,q2,q3,q4⟩|⟨k,sz,n,ds,bo,q1,q2,q3,q4,_⟩
   .obtain⟨g1,g2⟩:=h.rs s j res q1;rw[q2];exact⟨g1.ext hx (λ b o hb=>hold b (g1.lt hb) (λ h=>h)) (λ b o hb=>g1.lt hb),by rw[hnx,ar (by simp[q3,q4])];exact g2⟩
   .subst q1 q2;refine⟨?_,by rw[hnx,ay (.inr rfl),q4];exact eX _⟩;unfold bB;rw[q4,ay rfl,q3];exact⟨rfl,b,arr,e,rfl,o1,mQ (A:=λ b'=>(Av cx r β b'∨b'∈b9 [.cb b])∨NB γ 0 Z b') hA hbo (bP.nj (m:=1+cs.length) (k:=0) o2),o3⟩
   .refine⟨?_,by rw[hnx,ay q4,q3];exact eX _⟩;rw[q2,q3];refine lj (ds:=ds) rfl rfl rfl ?_;have hrow:b5 w' (λ b'=>(Av cx r β b'∨b'∈b9 [.cb b])∨NB γ 0 Z b') (γ k) sz ds:=by
     rcases gW k (1+cs.length)with hk|hk
     .cases k with
      |zero=>rw[←hZ]at q1;simp at q1
      |succ k=>
       have hk':k<cs.length:=by omega
       rw[iz k 1,hZc k hk']at q1;have:=dp.row m21 (i:=k) (by rw[hcs];exact q1)
       rwa[iz 1 k]at this
     .obtain⟨m,rfl⟩:∃m,k=1+cs.length+m:=⟨k - (1+cs.length),by omega⟩;rw[hZl]at q1;have:=bP.row o2 q1;exact this
    exact hrow.cg ⟨λ _ _ _=>rfl,λ b _ hb=>hA b hb⟩ (λ _ _ _=>rfl)
  .rcases hcase s j res hl with⟨q1,q2,q3,q4⟩|⟨q1,q2,q3,q4⟩|⟨k,sz,n,ds,bo,q1,q2,q3,q4,q5,q6⟩<;>
    rcases hcase s' j' res' hl' with⟨p1,p2,p3,p4⟩|⟨p1,p2,p3,p4⟩|⟨k',sz',n',ds',bo',p1,p2,p3,p4,p5,p6⟩
   .rw[q2]at hbs;rw[p2]at hbs';exact h.inj _ _ _ _ _ _ _ _ _ q1 hf p1 hf' hbs hbs'
   .rw[q2]at hbs;rw[p3]at hbs';cases hbs';exact absurd (hlt q1 hbs) (by omega)
   .rw[q2]at hbs;rw[p2]at hbs';have:=hlt q1 hbs;have:=(hnew p1 hbs').2.1;omega
   .rw[q3]at hbs;rw[p2]at hbs';cases hbs;exact absurd (hlt p1 hbs') (by omega)
   .exact⟨by rw[q1,p1],by rw[q2,p2]⟩
   .rw[q3]at hbs;rw[p2]at hbs';cases hbs;exact absurd rfl (hnew p1 hbs').2.2
   .rw[q2]at hbs;rw[p2]at hbs';have:=hlt p1 hbs';have:=(hnew q1 hbs).2.1;omega
   .rw[q2]at hbs;rw[p3]at hbs';cases hbs';exact absurd rfl (hnew q1 hbs).2.2
   .rw[q2]at hbs;rw[p2]at hbs';have hk:=m6 k k' b1 o o' sz n ds bo sz' n' ds' bo' q1 p1 hbs hbs';subst hk
    -- one place of the results,one slot
    have hbnd:∀{k sz n ds bo s j},Z[k]? =some (RO.own sz n ds bo)->(od=some s∨s=d)->j≠0->k=(if od=some s then j else cs.length+j)->aB (dY false r1 od cs) s j≠none->(od=some s/\j≤cs.length)∨(od≠some s/\s=d):=λ {k sz n ds bo s j} z1 z2 z3 z4 z5=>by
     by_cases ho:od=some s
     .refine .inl ⟨ho, ?_⟩;cases hq:aB (dY false r1 od cs) s j with
      |none=>exact absurd hq z5
      |some q=>
       rcases hat s j q hq with⟨k2,_,_,_,_,_,e2,e3,_⟩|⟨e1,_⟩|⟨e1,_⟩
       .have:=(bJ.1 e3).1;omega
       .exact absurd ho e1
       .exact absurd ho e1
     .exact .inr ⟨ho,z2.resolve_left ho⟩
    rcases hbnd q1 q4 q5 q6 (by rw[hl];simp)with⟨t1,t2⟩|⟨t1,t2⟩<;>rcases hbnd p1 p4 p5 p6 (by rw[hl'];simp)with⟨t3,t4⟩|⟨t3,t4⟩
    .rw[t1]at t3;cases t3;rw[ay t1]at q6;rw[ay t1]at p6;exact⟨rfl,by omega⟩
    .rw[ay t1]at q6;rw[ar t3]at p6;omega
    .rw[ar t1]at q6;rw[ay t3]at p6;omega
    .rw[ar t1]at q6;rw[ar t3]at p6;exact⟨by rw[t2,t4],by omega⟩
  .rcases hcase s j res hl with⟨q1,q2,q3,q4⟩|⟨q1,q2,q3,q4⟩|⟨k,sz,n,ds,bo,q1,q2,q3,q4,q5,q6⟩
   .rw[q2]at hbs;exact h.fr _ _ _ _ _ q1 hf hbs
   .rw[q3]at hbs;cases hbs;have:=h.n0;exact⟨.inl (by omega),λ _=>by omega⟩
   .rw[q2]at hbs;have:=(hnew q1 hbs).2.1;have:=h.n0;exact⟨.inl (by omega),λ _=>by omega⟩
 refine⟨β',hH, ?_⟩;have hptr:aA cx w' (dY false r1 od cs) β' (.one (.ptr ⟨d,0,aq r d⟩ 0)) (dg b):=by simp only[aA,aw];refine⟨rfl,by rw[hnx,ay (.inr rfl)];exact eX _,λ res hg=>⟨b,0, ?_,rfl⟩⟩;simp only[β'];rw[ar hodn];simp
 -- the value
 rw[show(c7 r d rfs l).1=hP (.one (.ptr ⟨d,0,aq r d⟩ 0)::(match od with|none=>fx 0 0 0 rfs|some D=>fx D (aq r D) 0 rfs)) by rw[←hodd];unfold c7 pk;split<;>rfl]
 refine pV m1 ?_;simp only[aZ];refine⟨dg b,us',rfl,hptr, ?_⟩;have hsh:dp (λ b'=>(Av cx r β b'∨b'∈b9 [.cb b])∨NB γ 0 Z b') w' (λ i=>γ (1+i)) 0 rfs us':=dp.nj (m:=1) (k:=0) m21;cases hq:od with
 |none=>
  rw[hq]at hodd;unfold pk at hodd;split at hodd
  .rename_i hno;rw[hq]at hA;exact mU hA (λ i sz n ds bo hi=>absurd hi (rV hno i sz n ds bo)) hsh
  .cases hodd
 |some D=>
  subst hq;simp only;refine mU hA (λ i sz n ds bo hi=> ?_) hsh;rw[hcs]at hi;have hDd:D≠d:=λ e=>hodn (by rw[e])
  refine⟨⟨false,ed ?_ ?_⟩, ?_, ?_⟩
  .simp only[dY];rw[hnx1 D hDd,dH,ay rfl];simp only[bC,gS,mP hi,oY]
  .rfl
  .simp only[β',bC];rw[ay trivial];simp
  .rw[hnx,ay (.inl rfl)];omega
end
section
variable {v v':List AV} {r r':Rs} {T:Nat->Option TI} {c:Bool}
theorem ja {x:Operand} (h:bg v' x=bg v x):ev v' x=ev v x:=by unfold ev;rw[h]
theorem hY {x:Operand} (h:bg v' x=bg v x):bf c v' x=bf c v x:=by unfold bf;rw[h]
theorem ln:∀{xs:List Operand},(∀x∈xs,bg v' x=bg v x)->cO v' xs=cO v xs
 |[],_=>rfl
 |x::xs,h=>by simp only[cO];rw[ja (h x (by simp)),ln λ y hy=>h y (by simp[hy])]
theorem kB:∀{xs:List Operand},(∀x∈xs,bg v' x=bg v x)->cT c v' xs=cT c v xs
 |[],_=>rfl
 |x::xs,h=>by simp only[cT];rw[hY (h x (by simp)),kB λ y hy=>h y (by simp[hy])]
theorem pL {x:Option Operand} (h:∀y,x=some y->bg v' y=bg v y):eQ v' x=eQ v x:=by
 cases x with
 |none=>rfl
 |some y=>simp only[eQ,ja (h y rfl)]
theorem rJ {x:Option Operand} (h:∀y,x=some y->bg v' y=bg v y):fS c v' x=fS c v x:=by
 cases x with
 |none=>rfl
 |some y=>simp only[fS,hY (h y rfl)]
theorem tD {dst:Option Nat} {op:Op} (h:∀x∈op.operands.toList,bg v' x=bg v x):az T c v' r dst op=az T c v r dst op:=by
 have one:∀{x:Operand},x∈op.operands.toList->ev v' x=ev v x/\bf c v' x=bf c v x:=λ hx=>⟨ja (h _ hx),hY (h _ hx)⟩
 cases op with
 |move x=>simp only[az,one (x:=x) (by simp[Op.operands])]
 |assign x=>simp only[az,one (x:=x) (by simp[Op.operands])]
 |pick t x z=>simp only[az,one (x:=t) (by simp[Op.operands]),h x (by simp[Op.operands]),h z (by simp[Op.operands])]
 |alloc t=>rfl
 |box t x=>simp only[az,one (x:=x) (by simp[Op.operands])]
 |build t ps=>
  have h':∀x∈ps.toList.map (·.2),bg v' x=bg v x:=λ x hx=>h x (by simpa[Op.operands]using hx)
  simp only[az,ln h',kB h']
 |buildSlice t n ps=>
  have h':∀x∈ps.toList.map (·.2),bg v' x=bg v x:=λ x hx=>h x (by simpa[Op.operands]using hx)
  simp only[az,ln h',kB h']
 |load t x=>simp only[az,one (x:=x) (by simp[Op.operands])]
 |makeSlice t x y=>simp only[az,one (x:=x) (by simp[Op.operands]),one (x:=y) (by simp[Op.operands])]
 |store t x y=>simp only[az,one (x:=x) (by simp[Op.operands]),one (x:=y) (by simp[Op.operands])]
 |nilCheck x=>simp only[az,one (x:=x) (by simp[Op.operands])]
 |binOp op t x y yt=>simp only[az,one (x:=x) (by simp[Op.operands]),one (x:=y) (by simp[Op.operands])]
 |unOp op t x=>
  cases op with
  |not=>simp only[az,one (x:=x) (by simp[Op.operands])]
  |_=>rfl
 |convert s t x=>simp only[az,one (x:=x) (by simp[Op.operands])]
 |makeInterface t x=>simp only[az,one (x:=x) (by simp[Op.operands])]
 |makeFunc fn first caps=>
  cases fn with
  |func f=>
   obtain⟨first⟩:=first
   cases first with
   |cons _ _=>rfl
   |nil=>
    have h':∀x∈caps.toList,bg v' x=bg v x:=λ x hx=>h x (by simpa[Op.operands]using hx)
    simp only[az,ln h',kB h']
  |_=>rfl
 |slice t x lo hi mx=>
  have h1:∀y,lo=some y->bg v' y=bg v y:=λ y hy=>h y (by simp[Op.operands,hy])
  have h2:∀y,hi=some y->bg v' y=bg v y:=λ y hy=>h y (by simp[Op.operands,hy])
  cases mx with
  |some m=>
   have h3:bg v' m=bg v m:=h m (by simp[Op.operands]);simp only[az,one (x:=x) (by simp[Op.operands]),pL h1,pL h2,rJ h1,rJ h2,pL (x:=some m) (λ y hy=>by cases hy;exact h3),hY h3]
  |none=>
   simp only[az,one (x:=x) (by simp[Op.operands]),pL h1,pL h2,rJ h1,rJ h2]
 |fieldAddr t x f=>simp only[az,one (x:=x) (by simp[Op.operands])]
 |indexAddr t x i=>simp only[az,one (x:=x) (by simp[Op.operands]),one (x:=i) (by simp[Op.operands])]
 |index t x i=>simp only[az,one (x:=x) (by simp[Op.operands]),one (x:=i) (by simp[Op.operands])]
 |field t x f=>simp only[az,one (x:=x) (by simp[Op.operands])]
 |extract x i=>simp only[az,one (x:=x) (by simp[Op.operands])]
 |call k=>
  obtain⟨callee,as,ts⟩:=k;cases callee with
  |builtin b=>
   have h':∀x∈as.toList,bg v' x=bg v x:=λ x hx=>h x (by simpa[Op.operands,Call.operands]using hx)
   cases b with
   |append=>
    simp only[az];split
    .rename_i s x h0;have hs:=h' s (by rw[h0];simp);have hx:=h' x (by rw[h0];simp);rw[ja hs,ja hx,hY hs,hY hx]
    .rfl
   |len=>
    simp only[az];split
    .rename_i x h0;have hx:=h' x (by rw[h0];simp);rw[ja hx,hY hx]
    .rfl
   |cap=>
    simp only[az];split
    .rename_i x h0;have hx:=h' x (by rw[h0];simp);rw[ja hx,hY hx]
    .rfl
   |clear=>
    simp only[az];split
    .rename_i x h0;have hx:=h' x (by rw[h0];simp);rw[ja hx,hY hx]
    .rfl
   |copy=>
    simp only[az];split
    .rename_i s x h0;have hs:=h' s (by rw[h0];simp);have hx:=h' x (by rw[h0];simp);rw[ja hs,ja hx,hY hs,hY hx]
    .rfl
   |max=>simp only[az,ln h',kB h']
   |min=>simp only[az,ln h',kB h']
   |_=>rfl
  |_=>rfl
 |_=>rfl
theorem Bb {f:Operand} {args:Array Operand} (h1:bg v' f=bg v f) (h2:∀x∈args.toList,bg v' x=bg v x):cC v' r f args=cC v r f args:=by unfold cC;rw[ja h1,ln h2]
end
end Go.Pk
