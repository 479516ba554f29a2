import Derived.Test.YtjdbaocjeeficaaGreatK3
import Derived.Laws.BytesString
import Derived.Laws.MakeOwn
set_option linter.unusedVariables false
set_option linter.unusedSimpArgs false
set_option linter.unusedSectionVars false
namespace Go.Pk
section
variable {cx:Cx} {v:List AV} {r:Rs} {a:Act} {w:World} {β:Nat->Nat->Pl} {T:Nat->Option TI} {c:Bool}
theorem ba.fD {A A' Tp Tp':Nat->Prop} (hA:∀b,A' b->A b) (hT:∀b,b<w.heap.size->Tp b->Tp' b):∀{ds:List D} {ad:Option Addr},ba w A Tp ds ad->ba w A' Tp' ds ad
 |[],_,_=>trivial
 |d::ds,ad,h=>by simp only[ba]at h⊢;obtain⟨b,o,u,h1,h2,h3,h4,h5⟩:=h;exact⟨b,o,u,h1,hT b (nz h3) h2,h3,h4.bC ⟨λ _ _ _=>rfl,λ b _ h=>hA b h⟩,ba.fD hA hT h5⟩
theorem AX {ds:List D} {b o:Nat} (h:gM cx w r β (ds.map C.d) b o):ba w (Av cx r β) (λ _=>True) ds (some ⟨b,o,none⟩):=
 ba.mk trivial λ k d hk=>by obtain⟨u,h1,h2,_⟩:=h k (.d d) (by rw[eK,hk];rfl);simp only[ae]at h2;exact⟨u,h1,h2⟩
theorem qw:∀{l:List C} {ds:List D},cQ l=some ds->l=ds.map C.d
 |[],ds,h=>by simp only[cQ,aF]at h;subst h;rfl
 |c::cs,ds,h=>by
  simp only[cQ]at h;split at h
  .rename_i d ds' h1 h2;cases h;rw[qw h2];cases c with
   |d x=>simp only[C.jC,aF]at h1;subst h1;rfl
   |_=>simp[C.jC]at h1
  .cases h
theorem ez {P:Program} {A0 aH:Nat->Prop} {b:Nat}:Av (bV P w A0 aH) [] (λ _ _=>⟨none,0⟩) b↔A0 b:=by
 unfold Av;constructor
 .rintro(h|⟨s,j,res,o,hl,_⟩)
  .exact h
  .simp[aq,aa]at hl
 .exact .inl
abbrev β0:Nat->Nat->Pl:=λ _ _=>⟨none,0⟩
abbrev en:Nat->Prop:=λ _=>False
theorem jA {A0:Nat->Prop} {A:Nat->Prop} {b:Nat} (h:b<w.heap.size):ib (bV cx.P w A0 en) A b:= .inr ⟨h,λ h=>h.elim⟩
theorem sU {l:List C}:∀{b o:Nat},gM cx w r β l b o->∃us,(∀k v,us[k]? =some v->w.cell? ⟨b,o+k,none⟩=some v/\flat v=true)/\ar cx w r β l us:=by
 induction l with
 |nil=>intro b o _;exact⟨[],by simp,by simp[ar]⟩
 |cons x l ih=>
  intro b o h;obtain⟨u,h1,h2,h3⟩:=h 0 x rfl
  obtain⟨us,g1,g2⟩:=ih (b:=b) (o:=o+1) (λ k y hk=>by
   have:=h (k+1) y (by simpa using hk)
   rwa[show o+(k+1)=o+1+k by omega]at this)
  refine⟨u::us,λ k y hk=> ?_,by simp only[ar];exact⟨u,us,rfl,h2,g2⟩⟩;cases k with
  |zero=>simp only[bG,aF]at hk;subst hk;exact⟨h1,h3⟩
  |succ k=>
   have:=g1 k y (by simpa using hk)
   rwa[show o+1+k=o+(k+1) by omega]at this
theorem CM (h:aw cx ⟨v,r⟩ a w β) {s:Nat} {x y:C} {u:Value} (hl:fh r s x=some y) (hu:ae cx w r β x u):ae (bV cx.P w (Av cx r β) en) w [] β0 y u:=by
 unfold fh at hl;split at hl
 .cases hl;simp only[ae]at hu⊢;exact(qc hu).bC ⟨λ _ _ _=>rfl,λ b _ hb=>ez.1 hb⟩
 .cases hl;simp only[ae]at hu⊢;obtain⟨ad,cap,h1,h2,h3⟩:=hu;exact⟨ad,cap,h1,h2,h3.fD (λ b hb=>ez.1 hb) (λ b hb _=>jA hb)⟩
 .split at hl
  .split at hl
   .rename_i n' ds hr;cases hl;obtain⟨ad,cap,h1,h2,h3⟩:=kX h hu hr;simp only[ae];exact⟨ad,cap,h1,h2,h3.fD (λ b hb=>ez.1 hb) (λ b hb _=>jA hb)⟩
   .cases hl
  .cases hl
 .cases hl
theorem tv (h:aw cx ⟨v,r⟩ a w β) {s:Nat}:∀{xs ys:List C} {us:List Value},fC r s xs=some ys->ar cx w r β xs us->ar (bV cx.P w (Av cx r β) en) w [] β0 ys us
 |[],ys,us,hl,hu=>by simp only[fC,aF]at hl;subst hl;simpa[ar]using hu
 |x::xs,ys,us,hl,hu=>by
  simp only[fC]at hl;split at hl
  .rename_i y ys' g1 g2;cases hl;simp only[ar]at hu⊢;obtain⟨u,us',rfl,h1,h2⟩:=hu;exact⟨u,us',rfl,CM h g1 h1,tv h g2 h2⟩
  .cases hl
mutual
theorem uW (h:aw cx ⟨v,r⟩ a w β):∀{x y:C} {u:Value},aN r x=some y->ae cx w r β x u->ae (bV cx.P w (Av cx r β) en) w [] β0 y u
 | .d x,y,u,hl,hu=>by simp only[aN,aF]at hl;subst hl;simp only[ae]at hu⊢;exact hu.bC ⟨λ _ _ _=>rfl,λ b _ hb=>ez.1 hb⟩
 | .aI n ds,y,u,hl,hu=>by simp only[aN,aF]at hl;subst hl;simp only[ae]at hu⊢;obtain⟨ad,cap,h1,h2,h3⟩:=hu;exact⟨ad,cap,h1,h2,h3.fD (λ b hb=>ez.1 hb) (λ b hb _=>jA hb)⟩
 | .own hd lo n,y,u,hl,hu=>by
  simp only[aN]at hl;split at hl
  .rename_i n' ds hr;cases hl;obtain⟨ad,cap,h1,h2,h3⟩:=kX h hu hr;simp only[ae];exact⟨ad,cap,h1,h2,h3.fD (λ b hb=>ez.1 hb) (λ b hb _=>jA hb)⟩
  .cases hl
 | .ptr hd off,y,u,hl,hu=>by
  simp only[aN]at hl;split at hl
  .rename_i res g1;split at hl
   .rename_i ds g2;cases hl;simp only[ae]at hu⊢;obtain⟨b,o,k1,k2⟩:=hu.2.2 res g1;obtain⟨hlk,_⟩:=bh g1;have hcs:=((h.rs _ _ _ hlk).1.cells k1).drop (k:=off);rw[qw g2]at hcs;exact⟨b,o+off,k2,(AX hcs).fD (λ b hb=>ez.1 hb) (λ b hb _=>jA hb)⟩
   .split at hl
    .rename_i cs g3;cases hl;simp only[ae]at hu⊢;obtain⟨b,o,k1,k2⟩:=hu.2.2 res g1;obtain⟨hlk,_⟩:=bh g1;have hb:=(h.rs _ _ _ hlk).1.lt k1;have hcs:=((h.rs _ _ _ hlk).1.cells k1).drop (k:=off);obtain⟨us,p1,p2⟩:=sU hcs;exact⟨b,o+off,us,k2,hb,jA hb,p1,tv h g3 p2⟩
    .cases hl
  .cases hl
 | .cZ ds,y,u,hl,hu=>by simp only[aN,aF]at hl;subst hl;simp only[ae]at hu⊢;obtain⟨b,o,h1,h3⟩:=hu;exact⟨b,o,h1,h3.fD (λ b hb=>ez.1 hb) (λ b hb _=>jA hb)⟩
 | .dF f caps,y,u,hl,hu=>by
  simp only[aN]at hl;split at hl
  .rename_i cs g1;cases hl;simp only[ae]at hu⊢;obtain⟨us,h1,h2⟩:=hu;exact⟨us,h1,nD h g1 h2⟩
  .cases hl
 | .ab,y,u,hl,_=>by simp[aN]at hl
 | .dead,y,u,hl,_=>by simp[aN]at hl
 | .cN cs,y,u,hl,hu=>by
  simp only[aN]at hl;split at hl
  .rename_i ys g1;cases hl;simp only[ae]at hu⊢;obtain⟨b,o,us,h1,h2,h3,h4,h5⟩:=hu;exact⟨b,o,us,h1,h2,jA h2,h4,nD h g1 h5⟩
  .cases hl
 | .cP hd lo n k,y,u,hl,hu=>by
  simp only[aN]at hl;split at hl
  .rename_i n' ds hr;cases hl;obtain⟨ad,cap,h1,h2,h3⟩:=kX h hu hr;simp only[ae];exact⟨ad,cap,h1,h2,h3.fD (λ b hb=>ez.1 hb) (λ b hb _=>jA hb)⟩
  .cases hl
 | .lk _ _ _,y,u,hl,_=>by simp[aN]at hl
theorem nD (h:aw cx ⟨v,r⟩ a w β):∀{xs ys:List C} {us:List Value},aN.lendCs r xs=some ys->ar cx w r β xs us->ar (bV cx.P w (Av cx r β) en) w [] β0 ys us
 |[],ys,us,hl,hu=>by simp only[aN.lendCs,aF]at hl;subst hl;simpa[ar]using hu
 |x::xs,ys,us,hl,hu=>by
  simp only[aN.lendCs]at hl;split at hl
  .rename_i y ys' g1 g2;cases hl;simp only[ar]at hu⊢;obtain⟨u,us',h1,h2,h3⟩:=hu;exact⟨u,us',h1,uW h g1 h2,nD h g2 h3⟩
  .cases hl
end
theorem CC (h:aw cx ⟨v,r⟩ a w β) {x y:AV} {u:Value} (hl:iA r x=some y) (hu:ak cx w r β x u):ak (bV cx.P w (Av cx r β) en) w [] β0 y u:=by
 unfold iA at hl;split at hl
 .split at hl
  .rename_i y' g1;cases hl;exact ck.2 (uW h g1 (ck.1 hu))
  .cases hl
 .split at hl
  .rename_i y' g1;cases hl;obtain⟨us,h1,h2⟩:=ec.1 hu;exact ec.2 ⟨us,h1,nD h g1 h2⟩
  .cases hl
 .cases hl
theorem kg (h:aw cx ⟨v,r⟩ a w β):∀{xs:List AV} {ys:List Arg} {us:List Value},ef r xs=some ys->aL cx w r β xs us->
  ∀{zs:List Arg} {vs:List Value},aV cx.P w (Av cx r β) en (λ _=>⟨none,0⟩) 0 zs [] vs->aV cx.P w (Av cx r β) en (λ _=>⟨none,0⟩) 0 (ys++zs) [] (us++vs)
 |[],ys,us,hl,hu,zs,vs,hz=>by simp only[ef,aF]at hl;subst hl;simp only[aL]at hu;subst hu;simpa using hz
 |x::xs,ys,us,hl,hu,zs,vs,hz=>by
  simp only[ef]at hl;split at hl
  .rename_i y ys' g1 g2;cases hl;simp only[aL]at hu;obtain⟨u,us',rfl,h2,h3⟩:=hu;simp only[iE,aV];exact⟨u,us'++vs,rfl,CC h g1 h2,kg h g2 h3 hz⟩
  .cases hl
theorem jF:∀{xs:List AV} {ys:List Arg},ef r xs=some ys->br ys=[]
 |[],ys,hl=>by simp only[ef,aF]at hl;subst hl;rfl
 |x::xs,ys,hl=>by
  simp only[ef]at hl;split at hl
  .rename_i y ys' g1 g2;cases hl;simp only[br];exact jF g2
  .cases hl
theorem jD:∀(xs ys:List Arg),br (xs++ys)=br xs++br ys
 |[],_=>rfl
 | .f _::xs,ys=>jD xs ys
 | .ob _ l::xs,ys=>by simp[br,jD xs ys]
 | .row .. ::xs,ys=>by simp[br,jD xs ys]
 | .cW .. ::xs,ys=>by simp[br,jD xs ys]
theorem lb:∀{xs:List C} {us:List Value},ar cx w r β xs us->aL cx w r β (xs.map AV.one) us
 |[],us,h=>by simpa[ar,aL]using h
 |x::xs,us,h=>by simp only[ar]at h;obtain⟨u,us',rfl,h1,h2⟩:=h;simp only[fF,aL];exact⟨u,us',rfl,ck.2 h1,lb h2⟩
theorem DA (h:aw cx ⟨v,r⟩ a w β) {f:Operand} {args:Array Operand} {ts:Array TypeId} {n:FuncId} {as:List Arg} {post:List RF->List (List RO)->Prop} {o:Oper} (ho:o.op= .call ⟨.value f,args,ts⟩)
  (hc:c=true) (s1:aO c v f) (s2:cr c v args.toList) (hcall:bY v r f args=some (n,as)) (hok:ag cx.P n as post):
  ∃us:Array Value,(execOp a.eval o).run cx.P w= .ok (.enter n us) w/\
   Calls cx.P n us w λ e w'=>∃rfs objs u,post rfs objs/\e= .returned u/\dT w (Av cx r β) en w' [] rfs objs u:=by
 have e1:=bH h hc s1;have e2:=iw h hc s2;unfold bY at hcall;split at hcall
 .rename_i n' caps as' g1 g2;split at hcall
  .rename_i cs g3;cases hcall
   -- whom it calls
   have hcap:∃cv:Array Value,a.eval f= .func (.func n) #[] cv/\ar cx w r β caps cv.toList:=by
    unfold gn at g1;split at g1
    .rename_i n' h1;cases g1;rw[h1]at e1;exact⟨#[],(bj.1 e1).1,by simp[ar]⟩
    .rename_i n' caps' h1;cases g1;rw[h1]at e1;simp only[ak,ae]at e1;obtain⟨us,k1,k2⟩:=e1;exact⟨us,k1,k2⟩
    .cases g1
   obtain⟨cv,k1,k2⟩:=hcap;have hargs:=kg h g2 e2 (kg h g3 (lb k2) (zs:=[]) (vs:=[]) (by simp[aV]));simp only[dz]at hargs;have hobj:br (as'++cs)=[]:=by rw[jD,jF g2,jF g3];rfl
   refine⟨(args.toList.map a.eval++cv.toList).toArray, ?_, ?_⟩
   .have:=hok.1 (args.toList.map a.eval++cv.toList).toArray w;have hm:(args.toList.map a.eval++cv.toList).toArray=args.map a.eval++cv:=by apply er;simp
    rw[hm]at this⊢;simp[execOp,ho,resolve,k1,Deferred.ofValue,invoke,this]
   .refine hok.2 w (Av cx r β) en (λ _=>⟨none,0⟩) [] _ (λ b hb=> ?_) (λ b hb=>hb.elim) hargs (by rw[hobj];intro b hb;exact hb.elim) List.nodup_nil (by rw[hobj];intro i j b o o' sz n ds bo sz' n' ds' bo' h1;simp at h1);rcases hb with hb|⟨s,j,res,o,hl,_,hbs⟩
    .exact c9 (h.a0 b hb) h.n0
    .exact(h.rs _ _ _ hl).1.lt hbs
  .cases hcall
 .cases hcall
theorem Dg (h:aw cx ⟨v,r⟩ a w β) {f:Operand} {args:Array Operand} {ts:Array TypeId} {n:FuncId} {as:List Arg} {post:List ct->List RF->List (List RO)->Prop} {o:Oper} (ho:o.op= .call ⟨.value f,args,ts⟩)
  (hc:c=true) (s1:aO c v f) (s2:cr c v args.toList) (hcall:bY v r f args=some (n,as)) (hok:wJ cx.P n as post):
  ∃us:Array Value,(execOp a.eval o).run cx.P w= .ok (.enter n us) w/\
   Calls cx.P n us w λ e w'=>∃bs rfs objs u,post bs rfs objs/\e= .returned u/\(∀b∈bI bs,w.heap.size≤b)/\dT w (λ b=>Av cx r β b∨b∈bI bs) en w' bs rfs objs u:=by
 have e1:=bH h hc s1;have e2:=iw h hc s2;unfold bY at hcall;split at hcall
 .rename_i n' caps as' g1 g2;split at hcall
  .rename_i cs g3;cases hcall
   -- whom it calls
   have hcap:∃cv:Array Value,a.eval f= .func (.func n) #[] cv/\ar cx w r β caps cv.toList:=by
    unfold gn at g1;split at g1
    .rename_i n' h1;cases g1;rw[h1]at e1;exact⟨#[],(bj.1 e1).1,by simp[ar]⟩
    .rename_i n' caps' h1;cases g1;rw[h1]at e1;simp only[ak,ae]at e1;obtain⟨us,k1,k2⟩:=e1;exact⟨us,k1,k2⟩
    .cases g1
   obtain⟨cv,k1,k2⟩:=hcap;have hargs:=kg h g2 e2 (kg h g3 (lb k2) (zs:=[]) (vs:=[]) (by simp[aV]));simp only[dz]at hargs;have hobj:br (as'++cs)=[]:=by rw[jD,jF g2,jF g3];rfl
   refine⟨(args.toList.map a.eval++cv.toList).toArray, ?_, ?_⟩
   .have:=hok.1 (args.toList.map a.eval++cv.toList).toArray w;have hm:(args.toList.map a.eval++cv.toList).toArray=args.map a.eval++cv:=by apply er;simp
    rw[hm]at this⊢;simp[execOp,ho,resolve,k1,Deferred.ofValue,invoke,this]
   .refine hok.2 w (Av cx r β) _ (λ b hb=> ?_) hargs;rcases hb with hb|⟨s,j,res,o,hl,_,hbs⟩
    .exact c9 (h.a0 b hb) h.n0
    .exact(h.rs _ _ _ hl).1.lt hbs
  .cases hcall
 .cases hcall
end
section
variable {cx:Cx} {v:List AV} {r:Rs} {a:Act} {w:World} {β:Nat->Nat->Pl} {T:Nat->Option TI} {c:Bool}
theorem foldl_push:∀(ns:List Int) (s:ByteArray),ns.foldl (λ r n=>r.push (UInt8.ofNat n.toNat)) s=⟨s.data++(ns.map λ n=>UInt8.ofNat n.toNat).toArray⟩
 |[],s=>by simp
 |n::ns,s=>by rw[lE,foldl_push ns];simp[ByteArray.push]
theorem sx {w:World} {A:Nat->Prop}:∀{ds:List D} {l:List UInt8} {us:List Value},bytesOf ds=some l->us.length=ds.length->(∀(k:Nat) (d:D),ds[k]? =some d->∃u,us[k]? =some u/\Rd w A d u)->
  ∃ns:List Int,us=ns.map (Value.int .u8)/\l=ns.map λ n=>UInt8.ofNat n.toNat
 |[],l,us,h,hl,_=>by simp only[bytesOf,aF]at h;subst h;exact⟨[],by simpa using hl,rfl⟩
 |d::ds,l,us,h,hl,hu=>by
  cases us with
  |nil=>simp at hl
  |cons u us=>
   unfold bytesOf at h;split at h
   .rename_i heq;cases heq
   .rename_i n ds' heq;cases heq;split at h
    .rename_i l' h2;cases h;obtain⟨ns,e1,e2⟩:=sx h2 (by simpa using hl) λ k d hk=>by simpa using hu (k+1) d (by simpa using hk)
     obtain⟨u',g1,g2⟩:=hu 0 (.v (.int .u8 n)) rfl;simp only[bG,aF]at g1;subst g1;simp only[Rd]at g2;exact⟨n::ns,by rw[fF,←e1,g2.1],by rw[fF,←e2]⟩
    .cases h
   .cases h
theorem D6 (hT:bx cx.P T) (h:aw cx ⟨v,r⟩ a w β) (hc:c=true) {o:Oper} {s t:TypeId} {x:Operand} (ho:o.op= .convert s t x) (hs:(ah T c v r o.dst o.op).sc):
  cd cx v a w (execOp a.eval o) (ah T c v r o.dst o.op).x (ah T c v r o.dst o.op).r:=by
 simp only[ho,ah]at hs⊢;obtain⟨s1,hs⟩:=hs;have e1:=bH h hc s1;change cd cx v a w (execOp a.eval o) (fX T r s t (ev v x)).x (fX T r s t (ev v x)).r;unfold fX at hs⊢;split at hs
 .rename_i ti h1;split at hs
  .rename_i k k0 n h3 h2;rw[h2]at e1;have f1:=(bj.1 e1).1;have s2:=hs;unfold isInt at s2;split at s2
   .rename_i si h4;split at s2
    .rename_i k3 h5;obtain⟨d1,g1,g2,_⟩:=(hT t ti h1).1.eC w;obtain⟨d2,g3,g4,_⟩:=(hT s si h4).1.eC w;rw[h3]at g2;rw[h5]at g4;simp only[h1,h3,h2];refine .val h (u:= .int k (k.wrap n)) ?_ (bj.2 ⟨rfl,rfl⟩);have hd1:d1= .int k:=by cases d1<;>simp[cK]at g2;rw[g2]
     have hd2:d2= .int k3:=by cases d2<;>simp[cK]at g4;rw[g4]
     simp[execOp,ho,convert,g1,g3,hd1,hd2,f1,Conv.intToInt]
    .cases s2
   .cases s2
  .rename_i y h3 h2;rw[h2]at e1;split at hs
   .rename_i n ds h4;split at hs
    .rename_i l h5;obtain⟨s2,s3⟩:=hs;unfold oO at s2;split at s2
     .rename_i e ei h6;split at s2
      .rename_i h7;obtain⟨ad,cap,q1,q2,q3⟩:=kX h (ck.1 e1) h4;obtain⟨f1,f2,hty,f4⟩:=fv hT h6 w;obtain⟨d1,g1,g2,g3⟩:=(hT t ti h1).1.eC w;obtain⟨d2,g4,g5,g6⟩:=hty.eC w;rw[h3]at g2;rw[h7]at g5;have hd1:d1= .string:=by cases d1<;>simp[cK]at g2;rfl
       have hd2:d2= .int .u8:=by cases d2<;>simp[cK]at g5;rw[g5]
       obtain⟨us,p1,p2,p3,_⟩:=mb (P:=cx.P) (n:=n) (cap:=cap) (m:=n) (size:=1) q3 (by omega);obtain⟨ns,r1,r2⟩:=sx h5 p1 p3;simp only[h1,h3,h2,h4,h5];refine .val h (u:= .string ⟨l.toArray⟩) ?_ (bj.2 ⟨rfl,rfl⟩);have hrun:(convert s t (.slice ad n cap)).run cx.P w= .ok (.string ⟨l.toArray⟩) w:=by
        rw[run_convert_bytes_string w s t e ad n cap f4 (by rw[g6,hd2]) (by rw[g3,hd1])];cases ad with
        |none=>
         have:ds=[]:=by
          rcases Classical.em (ds=[])with h|h
          .exact h
          .obtain⟨_,_,hh⟩:=q3.addr h;cases hh
         subst this;simp only[bytesOf,aF]at h5;subst h5;simp[Conv.bytesToString,ByteArray.empty,ByteArray.emptyWithCapacity];rfl
        |some b=>
         have hl:(loadCells b n).run cx.P w= .ok (ns.map (Value.int .u8)).toArray w:=by rw[←r1];simpa[Builtin.firstCells]using p2
         rw[run_bytesToString w b n cap ns hl,foldl_push,←r2];simp[ByteArray.empty,ByteArray.emptyWithCapacity];rfl
       simp[execOp,ho,q1,hrun]
      .cases s2
     .cases s2
    .exact hs.elim
   .exact hs.elim
  .exact hs.elim
 .exact hs.elim
theorem aw.grow (h:aw cx ⟨v,r⟩ a w β) {w':World} (hp:∀b,b<w.heap.size->w'.heap[b]? =w.heap[b]?) (hz:w.heap.size≤w'.heap.size) (ho:w'.os=w.os) (hu:w'.output=w.output):
  aw cx ⟨v,r⟩ a w' β/\Ext cx w r β w' r β:=by
 have x:Ext cx w r β w' r β:=⟨λ _=>Nat.le_refl _,λ hd res' _ hg=>⟨res',hg,rfl,rfl,rfl,Nat.le_refl _⟩,⟨λ b hb _=>hp b hb,λ _ _ h=>h⟩,λ b hb _=>hp b (c9 hb h.n0),ho,hu⟩
 exact⟨{h with
  sl:=λ i y hi=>by obtain⟨u,h1,h2⟩:=h.sl i y hi;exact⟨u,h1,h2.ext x⟩
  rs:=λ s j res hl=>⟨(h.rs s j res hl).1.ext x (λ b o hb=>hp b ((h.rs s j res hl).1.lt hb)) (λ b o hb=>(h.rs s j res hl).1.lt hb),(h.rs s j res hl).2⟩
  n0:=eR h.n0 hz
  aP:=λ b hb hB=>by rw[hp b (c9 hb h.n0)];exact h.aP b hb hB
  rw:=λ p n u hm=>(h.rw p n u hm).ext x
  os:=by rw[ho];exact h.os
  out:=by rw[hu];exact h.out},x⟩
theorem EB (h:aw cx ⟨v,r⟩ a w β) {o:Oper} {t:TypeId} (ho:o.op= .makeMap t none):
  cd cx v a w (execOp a.eval o) (ah T c v r o.dst o.op).x (ah T c v r o.dst o.op).r:=by
 simp only[ho,ah];obtain⟨h1,_⟩:=h.grow (w':=w.alloc (.map #[] 0)) (λ b hb=>il w _ hb) (by simp) rfl rfl;exact⟨_,w.alloc (.map #[] 0),β, .map (some w.heap.size),by simp[execOp,ho,Instr.makeMap,run_newObj], .inl rfl,h1,by simp only[ak,ae,Rd];rfl⟩
theorem Bl {z:Array Value} {n size:Nat} (h:z.size=size):madeCells z (n*size)=Builtin.zeroCells z n:=by subst h;rfl
theorem DJ (hT:bx cx.P T) (h:aw cx ⟨v,r⟩ a w β) (hc:c=true) {o:Oper} {t:TypeId} {x y:Operand} (ho:o.op= .makeSlice t x y) (hs:(ah T c v r o.dst o.op).sc):
  cd cx v a w (execOp a.eval o) (ah T c v r o.dst o.op).x (ah T c v r o.dst o.op).r:=by
 simp only[ho,ah]at hs⊢;obtain⟨⟨s1,s2⟩,hs⟩:=hs;have e1:=bH h hc s1;have e2:=bH h hc s2;change cd cx v a w (execOp a.eval o) (kH T r c o.dst t (ev v x) (ev v y)).x (kH T r c o.dst t (ev v x) (ev v y)).r;unfold kH at hs⊢;split at hs
 .rename_i e ei k n k2 m d h1 h2 h3 h4;simp only[h1,h2,h3,h4];rw[h2]at e1;rw[h3]at e2;obtain⟨q1,q2,q3,q4⟩:=hs hc;subst q2;have f1:=(bj.1 e1).1;have f2:=(bj.1 e2).1;obtain⟨g1,g2,hty,g3⟩:=fv hT h1 w;have hty0:=hty;obtain⟨⟨i,z,d0,hi,_,hz,hsz,hby,hzz,_⟩,_,_⟩:=hty0;have hzs:z.cells.size=ei.size:=by rw[←js,←hzz,hty.len]
  have hrun:=run_make (P:=cx.P) w t e i z g3 hi hz k k2 n n q1 (Int.le_refl _) (by rw[←hby];omega) (by omega);rw[←hsz,Bl hzs]at hrun;obtain⟨z1,z2,z3⟩:=l9 (cx:=cx) (w:=w.alloc (.cells (Builtin.zeroCells z.cells n.toNat) e)) (A:=λ _=>False) hty hzz.symm (n:=n.toNat);obtain⟨β2,t1,t2⟩:=mc h hc (d:=d) (n:=n.toNat) (sz:=ei.size) (ds:=dY ei.zero n.toNat) (pl0:=⟨some (w.heap.size,0),n.toNat⟩) (w':=w.alloc (.cells (Builtin.zeroCells z.cells n.toNat) e))
   (λ b o hb=>by cases hb;rfl) (λ b hb'=>il w _ hb') (by simp) (by rw[nK,hty.len];exact Nat.le_refl _) (Nat.le_refl _) (λ A' hA=>by
    have:=vn (w:=w) (A:=A') (ds:=dY ei.zero n.toNat) (us:=(Builtin.zeroCells z.cells n.toNat).toList) (e:=e) (sz:=ei.size) (n:=n.toNat) (by rw[nK,hty.len,z1]) z1
     (λ k d' hk=>by obtain⟨u,y1,y2⟩:=(l9 (cx:=cx) (w:=w.alloc (.cells (Builtin.zeroCells z.cells n.toNat).toList.toArray e (0,0))) (A:=A') hty hzz.symm (n:=n.toNat)).2.1 k d' hk;exact⟨u,y1,y2⟩)
    simpa using this)
  refine⟨_,_,β2,_, ?_, .inl rfl,t1,t2⟩;simp[execOp,ho,f1,f2,hrun]
 .exact hs.elim
theorem CQ (hT:bx cx.P T) (h:aw cx ⟨v,r⟩ a w β) (hc:c=true) {o:Oper} {t:TypeId} {x:Operand} (ho:o.op= .makeInterface t x) (hs:(ah T c v r o.dst o.op).sc):
  cd cx v a w (execOp a.eval o) (ah T c v r o.dst o.op).x (ah T c v r o.dst o.op).r:=by
 simp only[ho,ah]at hs⊢;obtain⟨s1,hs⟩:=hs;have e1:=bH h hc s1;change cd cx v a w (execOp a.eval o) (fT T r t (ev v x)).x (fT T r t (ev v x)).r;unfold fT at hs⊢;split at hs
 .rename_i ti h1;split at hs
  .rename_i fs l h3 h2;split at hs
   .rename_i vs h4;rw[h2]at e1;obtain⟨us,f1,f2⟩:=ec.1 e1;have f3:=nE h4 f2;obtain⟨d1,g1,g2,_⟩:=(hT t ti h1).1.eC w;rw[h3]at g2;simp only[h1,h3,h2,h4];refine .val h (u:= .iface t (.agg vs.toArray)) ?_ (bj.2 ⟨rfl,rfl⟩);have hus:us=vs.toArray:=by rw[←f3]
    cases d1<;>simp[cK]at g2<;>simp[execOp,ho,Instr.makeInterface,g1,f1,hus]
   .exact hs.elim
  .rename_i k0 k n h3 h2;rw[h2]at e1;have f1:=(bj.1 e1).1;obtain⟨d1,g1,g2,_⟩:=(hT t ti h1).1.eC w;rw[h3]at g2;simp only[h1,h3,h2];refine .val h (u:= .iface t (.int k n)) ?_ (bj.2 ⟨rfl,rfl⟩);cases d1<;>simp[cK]at g2<;>simp[execOp,ho,Instr.makeInterface,g1,f1]
  .exact hs.elim
 .exact hs.elim
end
section
variable {cx:Cx} {v:List AV} {r:Rs} {a:Act} {w:World} {β:Nat->Nat->Pl} {T:Nat->Option TI} {c:Bool}
theorem Et (h:aw cx ⟨v,r⟩ a w β) (hc:c=true) {o:Oper} {ts:Array TypeId} {as:Array Operand} (ho:o.op= .call ⟨.builtin .min,as,ts⟩)
  (hs:(ah T c v r o.dst o.op).sc):cd cx v a w (execOp a.eval o) (ah T c v r o.dst o.op).x (ah T c v r o.dst o.op).r:=by
 simp only[ho,ah]at hs⊢;exact wO (mx:=false) h hc (by rw[ho];rfl) hs
theorem EA (h:aw cx ⟨v,r⟩ a w β) (hc:c=true) {o:Oper} {ts:Array TypeId} {as:Array Operand} (ho:o.op= .call ⟨.builtin .max,as,ts⟩)
  (hs:(ah T c v r o.dst o.op).sc):cd cx v a w (execOp a.eval o) (ah T c v r o.dst o.op).x (ah T c v r o.dst o.op).r:=by
 simp only[ho,ah]at hs⊢;exact wO (mx:=true) h hc (by rw[ho];rfl) hs
theorem wq (hT:bx cx.P T) (h:aw cx ⟨v,r⟩ a w β) (hc:c=true) {o:Oper} (hs:(ah T c v r o.dst o.op).sc):
  cd cx v a w (execOp a.eval o) (ah T c v r o.dst o.op).x (ah T c v r o.dst o.op).r:=by
 have no:∀{op:Op},o.op=op->ah T c v r o.dst op=bad->cd cx v a w (execOp a.eval o) (ah T c v r o.dst o.op).x (ah T c v r o.dst o.op).r:=λ h1 h2=>by rw[h1,h2]at hs;exact hs.elim
 cases ho:o.op with
 |move x=>rw[←ho];exact DK h hc ho hs
 |assign x=>rw[←ho];exact BR h hc ho hs
 |pick t x z=>rw[←ho];exact DG h hc ho hs
 |alloc t=>rw[←ho];exact CG hT h hc ho hs
 |box t x=>rw[←ho];exact EE h hc ho hs
 |build t ps=>rw[←ho];exact Di hT h hc ho hs
 |buildSlice t n ps=>rw[←ho];exact AP hT h hc ho hs
 |makeSlice t x y=>rw[←ho];exact DJ hT h hc ho hs
 |makeMap t x=>
  cases x with
  |none=>rw[←ho];exact EB h ho
  |some _=>rw[←ho];exact no ho rfl
 |load t x=>rw[←ho];exact DS hT h hc ho hs
 |store t x y=>rw[←ho];exact C6 h hc hT ho hs
 |nilCheck x=>rw[←ho];exact Ev h hc ho hs
 |binOp op t x y yt=>rw[←ho];exact Eg hT h hc ho hs
 |unOp op t x=>
  cases op with
  |not=>rw[←ho];exact Ea h hc ho hs
  |_=>rw[←ho];exact no ho rfl
 |convert s t x=>rw[←ho];exact D6 hT h hc ho hs
 |makeInterface t x=>rw[←ho];exact CQ hT h hc ho hs
 |makeFunc fn first caps=>
  cases fn with
  |func f=>rw[←ho];exact Dt h hc ho hs
  |_=>rw[←ho];exact no ho rfl
 |slice t x lo hi mx=>
  cases mx with
  |none=>rw[←ho];exact C7 hT h hc ho hs
  |some _=>rw[←ho];exact Cf hT h hc ho hs
 |fieldAddr t x f=>rw[←ho];exact CE hT h hc ho hs
 |indexAddr t x i=>rw[←ho];exact Ei hT h hc ho hs
 |index t x i=>rw[←ho];exact C8 hT h hc ho hs
 |field t x f=>rw[←ho];exact Cb hT h hc ho hs
 |extract x i=>rw[←ho];exact BI h hc ho hs
 |call k=>
  obtain⟨callee,as,ts⟩:=k;cases callee with
  |builtin b=>
   cases b with
   |append=>rw[←ho];exact BT h hc hT ho hs
   |len=>rw[←ho];exact EH (x:= .const undef) hT h hc ho hs
   |cap=>rw[←ho];exact Ej hT h hc ho hs
   |copy=>rw[←ho];exact DU h hc hT ho hs
   |clear=>rw[←ho];exact CR h hc hT ho hs
   |max=>rw[←ho];exact EA h hc ho hs
   |min=>rw[←ho];exact Et h hc ho hs
   |_=>rw[←ho];exact no ho rfl
  |_=>rw[←ho];exact no ho rfl
 |_=>rw[←ho];exact no ho rfl
theorem we {x:Out} {p:Prop}:(x.with p).r=x.r:=rfl
theorem eY {x:Out} {p:Prop} (h:(x.with p).sc):x.sc:=h.2
theorem EC {o:BinOp} {t:Nat} {x y:AV} (hs:(hC T r o t x y).sc):(hC T r o t x y).r=r:=by
 unfold hC at*
 repeat' split at hs
 all_goals first|exact hs.elim|simp only[*]
theorem Ey {t:Nat} {x y:AV} (hs:(gY T r c t x y).sc):(gY T r c t x y).r=r:=by
 unfold gY at*
 repeat' split at hs
 all_goals first|exact hs.elim|simp only[*]
theorem CW {t f:Nat} {y:AV} (hs:(gO T r t f y).sc):(gO T r t f y).r=r:=by
 unfold gO at*
 repeat' split at hs
 all_goals first|exact hs.elim|simp only[*]
theorem CU {t:Nat} {y:AV} {l hi:Option AV} (hs:(gR T r c t y l hi).sc):(gR T r c t y l hi).r=r:=by
 unfold gR at*
 repeat' split at hs
 all_goals first|exact hs.elim|simp only[*]
theorem Cp {t:Nat} {y:AV} {l hi m:Option AV} (hs:(gL T r c t y l hi m).sc):(gL T r c t y l hi m).r=r:=by
 unfold gL at*
 repeat' split at hs
 all_goals first|exact hs.elim|simp only[*]
theorem D8 {e e2:Nat} {y:AV} (hs:(fX T r e e2 y).sc):(fX T r e e2 y).r=r:=by
 unfold fX at*
 repeat' split at hs
 all_goals first|exact hs.elim|simp only[*]
theorem CS {t:Nat} {y:AV} (hs:(fT T r t y).sc):(fT T r t y).r=r:=by
 unfold fT at*
 repeat' split at hs
 all_goals first|exact hs.elim|simp only[*]
theorem Ek {t:Option Nat} {y:AV} (hs:(hU T r t y).sc):(hU T r t y).r=r:=by
 unfold hU at*
 repeat' split at hs
 all_goals first|exact hs.elim|simp only[*]
theorem wP {mx:Bool} {y:List AV} (hs:(fu r mx y).sc):(fu r mx y).r=r:=by
 unfold fu at*
 repeat' split at hs
 all_goals first|exact hs.elim|simp only[*]
theorem qf {op:Op} {dst:Option Nat} (hg:oz op=true) (hs:(ah T c v r dst op).sc):(ah T c v r dst op).r=r:=by
 cases op with
 |move x=>rfl
 |pick t x z=>
  simp only[ah]at hs⊢
  repeat' split at hs
  all_goals first|exact hs.elim|simp only[*]
 |build t ps=>
  simp only[ah]at hs⊢
  repeat' split at hs
  all_goals first|exact hs.elim|simp only[*]
 |load t x=>
  simp only[ah]at hs⊢
  repeat' split at hs
  all_goals first|exact hs.elim|simp only[*]
 |nilCheck x=>
  simp only[ah]at hs⊢
  repeat' split at hs
  all_goals first|exact hs.elim|simp only[*]
 |binOp op t x y yt=>exact EC (eY hs)
 |unOp op t x=>
  cases op with
  |not=>
   simp only[ah]at hs⊢
   repeat' split at hs
   all_goals first|exact hs.elim|simp only[*]
  |_=>exact hs.elim
 |convert s t x=>exact D8 (eY hs)
 |makeInterface t x=>exact CS (eY hs)
 |makeFunc fn first caps=>
  cases fn with
  |func f=>
   obtain⟨first⟩:=first
   cases first with
   |nil=>
    simp only[ah]at hs⊢
    repeat' split at hs
    all_goals first|exact hs.elim|simp only[*]
   |cons _ _=>rfl
  |_=>exact hs.elim
 |slice t x lo hi mx=>
  cases mx with
  |none=>exact CU (eY hs)
  |some _=>exact Cp (eY hs)
 |fieldAddr t x f=>
  simp only[ah]at hs⊢
  repeat' split at hs
  all_goals first|exact hs.elim|simp only[*]
 |indexAddr t x i=>exact Ey (eY hs)
 |field t x f=>exact CW (eY hs)
 |index t x i=>
  simp only[ah]at hs⊢
  repeat' split at hs
  all_goals first|exact hs.elim|simp only[*]
 |extract x i=>
  simp only[ah]at hs⊢
  repeat' split at hs
  all_goals first|exact hs.elim|simp only[*]
 |call k=>
  obtain⟨callee,as,ts⟩:=k;cases callee with
  |builtin b=>
   cases b with
   |len=>
    simp only[ah]at hs⊢;split at hs
    .try simp only[*]
     exact Ek (eY hs)
    .exact hs.elim
   |max=>exact wP (eY hs)
   |min=>exact wP (eY hs)
   |_=>cases hg
  |_=>cases hg
 |_=>cases hg
end
section
variable {cx:Cx} {v:List AV} {r r':Rs} {a:Act} {w w':World} {β β':Nat->Nat->Pl} {T:Nat->Option TI} {c:Bool}
def rowAt (e sz:Nat) (ds:List D):aM:={e,var:=false,fz:=false,sz,cells:=ds.map C.d}
def gz (r':Rs) (β':Nat->Nat->Pl) (γ:Nat->Pl) (s e k:Nat) (l:List RO):Prop:=
 ∀(i sz n:Nat) (ds:List D) (bo:Bool),l[i]? =some (.own sz n ds bo)->(∃bb,ax r' ⟨s,k+i+1,e⟩=some {rowAt e sz ds with cf:=bb})/\β' s (k+i+1)=γ (k+i)/\e<af r' s
theorem gz.tail {γ:Nat->Pl} {s e k:Nat} {x:RO} {l:List RO} (h:gz r' β' γ s e k (x::l)):gz r' β' γ s e (k+1) l:=λ i sz n ds bo hi=>by have:=h (i+1) sz n ds bo (by simpa using hi);simpa[cq,gW 1 i]using this
theorem gz.left {γ:Nat->Pl} {s e k:Nat} {l m:List RO} (h:gz r' β' γ s e k (l++m)):gz r' β' γ s e k l:=λ i sz n ds bo hi=>
 h i sz n ds bo (by rw[bJ (bq.1 hi).1];exact hi)
theorem gz.right {γ:Nat->Pl} {s e k:Nat} {l m:List RO} (h:gz r' β' γ s e k (l++m)):gz r' β' γ s e (k+l.length) m:=λ i sz n ds bo hi=>by have:=h (l.length+i) sz n ds bo (by rw[bT (ej _ _)];simpa using hi);simpa[cq]using this
theorem ke {A:Nat->Prop} {γ:Nat->Pl} {s e:Nat} (hA:∀b,Av cx r' β' b->A b):∀{l:List RO} {k:Nat} {us:List Value},gz r' β' γ s e k l->bM A w' γ k l us->ar cx w' r' β' (cX s e k l) us
 |[],k,us,_,h=>by simpa[bM,cX,ar]using h
 | .d x::l,k,us,hb,h=>by simp only[bM,cy]at h;obtain⟨u,us',rfl,h1,h2⟩:=h;simp only[cX,ar,ae];exact⟨u,us',rfl,h1.bC ⟨λ _ _ _=>rfl,λ b _ hb=>hA b hb⟩,ke hA hb.tail h2⟩
 | .own sz n ds bo::l,k,us,hb,h=>by
  simp only[bM,cy]at h;obtain⟨u,us',rfl,⟨h1,h2,h3,ad,h4,h5⟩,h6⟩:=h;simp only[cX,ar,ae];obtain⟨⟨bb,g1⟩,g2,g3⟩:=hb 0 sz n ds bo (by simp);simp only[eo]at g1 g2;refine⟨u,us',rfl,⟨by rw[h4];rfl,g3,λ res hres=> ?_⟩,ke hA hb.tail h6⟩;rw[g1]at hres;cases hres;rw[g2];refine⟨rfl,by simpa[rowAt]using h1,by simpa using h2,ad,by simpa using h4, ?_⟩;rcases h5 with h5|⟨b,o,h5,h7⟩
  .exact .inl (by simpa using h5)
  .exact .inr ⟨b,o,h5,by simpa using h7⟩
theorem l8 {s e:Nat}:∀{l:List RO} {k:Nat},(cX s e k l).length=l.length
 |[],_=>rfl
 | .d _::l,k=>by simp[cX,l8 (l:=l)]
 | .own .. ::l,k=>by simp[cX,l8 (l:=l)]
theorem De {A:Nat->Prop} {γ:Nat->Pl} {s e k:Nat} (hA:∀b,Av cx r' β' b->A b) {x:RF} {u:Value} (hb:gz r' β' γ s e k x.cells) (h:fP A w' γ k x u):
  ak cx w' r' β' (mI s e k x) u:=by
 cases x with
 |one x=>
  simp only[fP]at h;have:=ke (us:=[u]) hA hb (by simp only[RF.cells,bM];exact⟨u,[],rfl,h,rfl⟩);simp only[RF.cells]at this;unfold mI;cases hx:cX s e k [x]with
  |nil=>have:=congrArg List.length hx;simp[l8]at this
  |cons y ys=>
   cases ys with
   |cons _ _=>have:=congrArg List.length hx;simp[l8]at this
   |nil=>
    rw[hx]at this;simp only[ar]at this;obtain⟨u',us',h1,h2,_⟩:=this;cases h1;simp only[hx];exact ck.2 h2
 |agg l=>
  simp only[fP]at h;obtain⟨us,rfl,h2⟩:=h;exact ec.2 ⟨us,rfl,ke hA hb h2⟩
theorem kh {A:Nat->Prop} {γ:Nat->Pl} {s e:Nat} (hA:∀b,Av cx r' β' b->A b):∀{rfs:List RF} {k:Nat} {us:List Value},gz r' β' γ s e k (rfs.flatMap RF.cells)->cM A w' γ k rfs us->
  aL cx w' r' β' (ed s e k rfs) us
 |[],k,us,_,h=>by simpa[cM,ed,aL]using h
 |x::rfs,k,us,hb,h=>by simp only[cM]at h;obtain⟨u,us',rfl,h1,h2⟩:=h;simp only[dA]at hb;simp only[ed,aL];exact⟨u,us',rfl,De hA hb.left h1,kh hA hb.right h2⟩
theorem mo {l:List AV} {us:List Value} {u:Value} (hu:u=(match us with|[x]=>x|us=> .tuple us.toArray)) (h:aL cx w' r' β' l us):ak cx w' r' β' (fb l) u:=by
 cases l with
 |nil=>simp only[aL]at h;subst h;subst hu;simp only[fb,ak];exact⟨_,rfl,by simp[aL]⟩
 |cons x l=>
  simp only[aL]at h;obtain⟨y,ys,rfl,h1,h2⟩:=h;cases l with
  |nil=>simp only[aL]at h2;subst h2;subst hu;exact h1
  |cons x' l=>
   simp only[aL]at h2;obtain⟨y',ys',rfl,h3,h4⟩:=h2;subst hu;simp only[fb,ak];refine⟨_,rfl, ?_⟩;simp only[aL];exact⟨y,_,rfl,h1,y',ys',rfl,h3,h4⟩
theorem nJ:∀{l:List RO},eu l=true->∀(i sz n:Nat) (ds:List D) (bo:Bool),l[i]? ≠some (RO.own sz n ds bo)
 |[],_,i,_,_,_,_=>by simp
 | .d x::l,h,0,_,_,_,_=>by simp
 | .d x::l,h,i+1,sz,n,ds,bo=>by simpa using nJ (l:=l) (by simpa[eu]using h) i sz n ds bo
 | .own .. ::l,h,_,_,_,_,_=>by simp[eu]at h
theorem fm {γ:Nat->Pl}:∀{l:List RO} {k i sz n b o:Nat} {ds:List D} {bo:Bool},l[i]? =some (.own sz n ds bo)->(γ (k+i)).base=some (b,o)->NB γ k l b
 |[],_,_,_,_,_,_,_,_,h,_=>by simp at h
 | .d x::l,k,0,_,_,_,_,_,_,h,_=>by simp at h
 | .own sz n ds _::l,k,0,_,_,_,o,_,_,h,hb=>by simp only[NB];exact .inl ⟨o,hb⟩
 | .d x::l,k,i+1,sz,n,b,o,ds,bo,h,hb=>by simp only[NB];exact fm (i:=i) (by simpa using h) (by rw[←hb];congr 2;omega)
 | .own _ _ _ _::l,k,i+1,sz,n,b,o,ds,bo,h,hb=>by simp only[NB];exact .inr (fm (i:=i) (by simpa using h) (by rw[←hb];congr 2;omega))
theorem nu {B:Bool} {e:Nat}:∀{l:List RO} {j:Nat} {res:aM},(cT B e l)[j]? =some (some res)->∃sz n ds bo,l[j]? =some (.own sz n ds bo)/\res={rowAt e sz ds with cf:=bo&&B}
 |[],j,_,h=>by simp[cT]at h
 | .d x::l,0,_,h=>by simp[cT]at h
 | .own sz n ds bo::l,0,res,h=>by simp only[cT,bG,aF]at h;exact⟨sz,n,ds,bo,by simp,h.symm⟩
 | .d x::l,j+1,res,h=>by simpa using nu (l:=l) (j:=j) (by simpa[cT]using h)
 | .own .. ::l,j+1,res,h=>by simpa using nu (l:=l) (j:=j) (by simpa[cT]using h)
theorem kd {B:Bool} {e:Nat}:∀{l:List RO} {j sz n:Nat} {ds:List D} {bo:Bool},l[j]? =some (.own sz n ds bo)->(cT B e l)[j]? =some (some {rowAt e sz ds with cf:=bo&&B})
 |[],j,_,_,_,_,h=>by simp at h
 | .d x::l,0,_,_,_,_,h=>by simp at h
 | .own sz n ds bo::l,0,_,_,_,_,h=>by simp only[bG,aF,RO.own.injEq]at h;obtain⟨rfl,rfl,rfl,rfl⟩:=h;rfl
 | .d x::l,j+1,sz,n,ds,bo,h=>by simpa[cT]using kd (B:=B) (e:=e) (l:=l) (j:=j) (by simpa using h)
 | .own .. ::l,j+1,sz,n,ds,bo,h=>by simpa[cT]using kd (B:=B) (e:=e) (l:=l) (j:=j) (by simpa using h)
theorem bM.row {A:Nat->Prop} {γ:Nat->Pl}:∀{l:List RO} {k i sz n:Nat} {ds:List D} {bo:Bool} {us:List Value},bM A w' γ k l us->l[i]? =some (.own sz n ds bo)->bL w' A (γ (k+i)) sz ds
 |[],_,_,_,_,_,_,_,_,h=>by simp at h
 |x::l,k,0,sz,n,ds,bo,us,h,hi=>by simp only[bG,aF]at hi;subst hi;simp only[bM,cy]at h;obtain⟨u,us',_,⟨_,_,h3,_⟩,_⟩:=h;exact h3
 |x::l,k,i+1,sz,n,ds,bo,us,h,hi=>by simp only[bM]at h;obtain⟨u,us',_,_,h2⟩:=h;have:=bM.row h2 (i:=i) (by simpa using hi);rw[show k+(i+1)=k+1+i from by omega];exact this
theorem cM.row {A:Nat->Prop} {γ:Nat->Pl}:∀{rfs:List RF} {k i sz n:Nat} {ds:List D} {bo:Bool} {us:List Value},cM A w' γ k rfs us->(rfs.flatMap RF.cells)[i]? =some (.own sz n ds bo)->bL w' A (γ (k+i)) sz ds
 |[],_,_,_,_,_,_,_,_,h=>by simp at h
 |x::rfs,k,i,sz,n,ds,bo,us,h,hi=>by
  simp only[cM]at h;obtain⟨u,us',_,h1,h2⟩:=h;rw[dA]at hi;rcases fg i x.cells.length with hlt|hge
  .rw[bJ hlt]at hi;cases x with
   |one x=>
    simp only[fP]at h1;exact bM.row (us:=[u]) (l:=[x]) (by simp only[bM];exact⟨u,[],rfl,h1,rfl⟩) hi
   |agg l=>
    simp only[fP]at h1;obtain⟨us,_,h3⟩:=h1;exact bM.row h3 hi
  .rw[bT hge]at hi;have:=cM.row h2 hi;rw[show k+x.cells.length+(i - x.cells.length)=k+i from by omega]at this;exact this
theorem aw.calm (h:aw cx ⟨v,r⟩ a w β) (hsz:w.heap.size≤w'.heap.size) (hold:∀b,b<w.heap.size->w'.heap[b]? =w.heap[b]?) (hos:w'.os=w.os) (hout:w'.output=w.output):
  aw cx ⟨v,r⟩ a w' β/\Ext cx w r β w' r β:=by
 have x:Ext cx w r β w' r β:=⟨λ _=>Nat.le_refl _,λ hd res' _ hg=>⟨res',hg,rfl,rfl,rfl,Nat.le_refl _⟩,⟨λ b hb _=>hold b hb,λ _ _ h=>h⟩,λ b hb _=>hold b (c9 hb h.n0),hos,hout⟩;exact⟨h.mk' x (λ s j res hl=>⟨(h.rs s j res hl).1.ext x (λ b o hb=>hold b ((h.rs s j res hl).1.lt hb)) (λ b o hb=>(h.rs s j res hl).1.lt hb),(h.rs s j res hl).2⟩) h.inj h.fr hsz,x⟩
theorem tS (h:aw cx ⟨v,r⟩ a w β) {rfs:List RF} {u:Value} (hn:eu (rfs.flatMap RF.cells)=true) (hr:dT w (Av cx r β) en w' [] rfs [] u):
  aw cx ⟨v,r⟩ a w' β/\ak cx w' r β (fb (ed 0 0 0 rfs)) u:=by
 obtain⟨⟨γ,us,h1,h2,_,_,_⟩,h3,h4,h5,h6⟩:=hr;obtain⟨g1,g2⟩:=h.calm h3 (λ b hb=>h4 b hb (λ h=>h.elim)) h5 h6;refine⟨g1,mo h1 (kh (γ:=γ) (λ b hb=> .inl hb) (λ i sz n ds bo hi=>absurd hi (nJ hn i sz n ds bo)) h2)⟩
theorem D0 (h:aw cx ⟨v,r⟩ a w β) {rfs:List RF} {u:Value} {d:Nat} (hr:dT w (Av cx r β) en w' [] rfs [] u):
  ∃β',aw cx ⟨v,az d {next:=af r d+1,l:=none::cT false (af r d) (rfs.flatMap RF.cells)} r⟩ a w' β'/\
   ak cx w' (az d {next:=af r d+1,l:=none::cT false (af r d) (rfs.flatMap RF.cells)} r) β' (fb (ed d (af r d) 0 rfs)) u:=by
 obtain⟨⟨γ,us,h1,h2,_,hnb,_,hap⟩,h3,h4,h5,h6⟩:=hr;simp only[bA,kD,dz]at h2 hnb hap;generalize hcs:rfs.flatMap RF.cells=cs at*;generalize hr':az d {next:=af r d+1,l:=none::cT false (af r d) cs} r=r';have hlook:∀j res,aq r' d j=some res->∃k sz n ds bo,j=k+1/\cs[k]? =some (.own sz n ds bo)/\res=rowAt (af r d) sz ds:=λ j res hl=>by
  rw[←hr',dy,ao rfl]at hl;simp only at hl;split at hl
  .rename_i q hj;cases hl;cases j with
   |zero=>simp at hj
   |succ k=>
    obtain⟨sz,n,ds,bo,g1,g2⟩:=nu (by simpa using hj);exact⟨k,sz,n,ds,bo,rfl,g1,by simpa[rowAt]using g2⟩
  .cases hl
 have hlook2:∀s j,s≠d->aq r' s j=aq r s j:=λ s j hs=>by rw[←hr',dy,aj (du hs)]
 have hnx:∀s,af r' s=if d=s then af r d+1 else af r s:=λ s=>by rw[←hr',c6]
 let β':Nat->Nat->Pl:=λ s j=>if s=d then γ (j - 1)else β s j
 have hβ0:∀k,β' d (k+1)=γ k:=λ k=>by simp[β']
 have hβ1:∀s j,s≠d->β' s j=β s j:=λ s j hs=>by simp[β',hs]
 have hnew:∀{k sz n ds bo b o},cs[k]? =some (.own sz n ds bo)->(γ k).base=some (b,o)->w.heap.size≤b:=λ {k sz n ds bo b o} hk hb=>by have:=hnb b (fm (k:=0) hk (by simpa using hb));exact this.1.resolve_right λ h=>h
 have hlt:∀{s j res b o},aq r s j=some res->(β s j).base=some (b,o)->b<w.heap.size:=λ hl hb=>(h.rs _ _ _ hl).1.lt hb
 have hAv:∀b,Av cx r' β' b->Av cx r β b∨NB γ 0 cs b:=λ b hA=>by
  rcases hA with hA|⟨s,j,res,o,hl,hf,hb⟩
  .exact .inl (.inl hA)
  .by_cases hs:s=d
   .subst hs;obtain⟨k,sz,n,ds,bo,rfl,g1,g2⟩:=hlook _ _ hl;rw[hβ0]at hb;exact .inr (fm (k:=0) g1 (by simpa using hb))
   .rw[hlook2 _ _ hs]at hl;rw[hβ1 _ _ hs]at hb;exact .inl (.inr ⟨s,j,res,o,hl,hf,hb⟩)
 have hx:Ext cx w r β w' r' β':=by
  refine⟨λ s=> ?_,λ hd res' hlt' hg=> ?_,⟨λ b hb' _=>h4 b hb' (λ h=>h),λ b hb' hA=> ?_⟩,λ b hb' hn=>h4 b (c9 hb' h.n0) (λ h=>h),h5,h6⟩
  .rw[hnx];split
   .rename_i e;subst e;exact kB _
   .exact Nat.le_refl _
  .obtain⟨hl,hee⟩:=bh hg;by_cases hs:hd.s=d
   .rw[hs]at hl hlt';obtain⟨k,sz,n,ds,bo,_,_,rfl⟩:=hlook _ _ hl;simp only[rowAt]at hee;omega
   .rw[hlook2 _ _ hs]at hl;exact⟨res',dH hl hee,hβ1 _ _ hs,rfl,rfl,Nat.le_refl _⟩
  .rcases hAv b hA with h'|h'
   .exact h'
   .have:=(hnb b h').1.resolve_right λ h=>h
    omega
 have hH:aw cx ⟨v,r'⟩ a w' β':=by
  refine h.mk' hx (λ s j res hl=> ?_) (λ s j res s' j' res' b o o' hl hf hl' hf' hbs hbs'=> ?_) (λ s j res b o hl hf hbs=> ?_) h3
  .by_cases hs:s=d
   .subst hs;obtain⟨k,sz,n,ds,bo,rfl,g1,rfl⟩:=hlook _ _ hl;rw[hβ0];refine⟨?_,by rw[hnx,ao rfl];exact eH _⟩;unfold bn;rw[aj (by simp[rowAt])];refine⟨ds,rfl, ?_,λ hf=>by simp[rowAt]at hf⟩;have:=cM.row h2 (by rw[hcs];exact g1);rw[bu]at this;exact this.bC ⟨λ _ _ _=>rfl,λ b _ hb=>hAv b hb⟩ (λ _ _ _=>rfl)
   .rw[hlook2 _ _ hs]at hl;rw[hβ1 _ _ hs];obtain⟨g1,g2⟩:=h.rs s j res hl;exact⟨g1.ext hx (λ b o hb=>h4 b (g1.lt hb) (λ h=>h)) (λ b o hb=>g1.lt hb),by rw[hnx,aj (du hs)];exact g2⟩
  .by_cases hs:s=d<;>by_cases hs':s'=d
   .subst hs;subst hs';obtain⟨k,sz,n,ds,bo,rfl,g1,rfl⟩:=hlook _ _ hl;obtain⟨k',sz',n',ds',bo',rfl,g1',rfl⟩:=hlook _ _ hl';rw[hβ0]at hbs hbs';exact⟨rfl,by rw[hap k k' b o o' sz n ds bo sz' n' ds' bo' g1 g1' hbs hbs']⟩
   .subst hs;obtain⟨k,sz,n,ds,bo,rfl,g1,rfl⟩:=hlook _ _ hl;rw[hβ0]at hbs;rw[hlook2 _ _ hs']at hl';rw[hβ1 _ _ hs']at hbs';have h5:=hnew g1 hbs;have h6:=hlt hl' hbs';omega
   .subst hs';obtain⟨k,sz,n,ds,bo,rfl,g1,rfl⟩:=hlook _ _ hl';rw[hβ0]at hbs';rw[hlook2 _ _ hs]at hl;rw[hβ1 _ _ hs]at hbs;have h5:=hnew g1 hbs';have h6:=hlt hl hbs;omega
   .rw[hlook2 _ _ hs]at hl;rw[hlook2 _ _ hs']at hl';rw[hβ1 _ _ hs]at hbs;rw[hβ1 _ _ hs']at hbs';exact h.inj _ _ _ _ _ _ _ _ _ hl hf hl' hf' hbs hbs'
  .by_cases hs:s=d
   .subst hs;obtain⟨k,sz,n,ds,bo,rfl,g1,rfl⟩:=hlook _ _ hl;rw[hβ0]at hbs;have h5:=hnew g1 hbs;have h6:=h.n0;exact⟨.inl (by omega),λ _=>by omega⟩
   .rw[hlook2 _ _ hs]at hl;rw[hβ1 _ _ hs]at hbs;exact h.fr _ _ _ _ _ hl hf hbs
 refine⟨β',hH,mo h1 (kh (γ:=γ) hAv (λ i sz n ds bo hi=> ?_) h2)⟩;rw[hcs]at hi;refine⟨⟨false,dH ?_ rfl⟩,by rw[bu];exact hβ0 i,by rw[hnx,ao rfl];exact eH _⟩;rw[←hr',dy,ao rfl];simp[kd hi,rowAt]
theorem Em (h:aw cx ⟨v,r⟩ a w β) {rfs:List RF} {u:Value} (hr:dT w (Av cx r β) en w' [] rfs [] u) (dst:Option Nat):
  ∃β',aw cx ⟨v,(cS r dst rfs).2⟩ a w' β'/\ak cx w' (cS r dst rfs).2 β' (cS r dst rfs).1 u:=by
 unfold cS eD;simp only;split
 .rename_i hn;exact⟨β,tS h hn hr⟩
 .cases dst with
  |some d=>exact D0 h hr
  |none=>exact⟨β,(h.calm hr.size (λ b hb=>hr.aP b hb (λ h=>h)) hr.os hr.out).1,by simp[ak,ae]⟩
end
def lY (r:Rs):AV->Option RF
 | .one x=>match gB r x with|some y=>some (.one y)|none=>none
 | .agg l=>match ch r l with|some y=>some (.agg y)|none=>none
 |_=>none
def fY (r:Rs):List AV->Option (List RF)
 |[]=>some []
 |x::xs=>match lY r x,fY r xs with
  |some y,some ys=>some (y::ys)
  |_,_=>none
def iT:AV->List C
 | .one x=>[x]
 | .agg l=>l
 |_=>[]
def dm:List AV->List C
 |[]=>[]
 |x::xs=>iT x++dm xs
def dD:List (List C)->List C
 |[]=>[]
 |x::xs=>x++dD xs
section
variable (T:Nat->Option TI)
def kR (v:List AV) (r:Rs):ResultVar->Prop×AV
 | .tmp t=>(True,aW v (.tmp t))
 | .cell a t=>match aW v (.tmp a)with
  | .one (.ptr h off)=>match ax r h with
   |some res=>fK T t (res.cells.drop off)
   |none=>(False, .one .dead)
  |_=>(False, .one .dead)
def eJ (v:List AV) (r:Rs):List ResultVar->Prop×List AV
 |[]=>(True,[])
 |x::xs=>((kR T v r x).1/\(eJ v r xs).1,(kR T v r x).2::(eJ v r xs).2)
inductive Pos where
 |o (p:Nat)
 |r (p n:Nat)
 |h (hd:Hd)
def ff (r:Rs):List Pos->Option (List (List C))
 |[]=>some []
 | .o p::ps=>match ax r ⟨p,0,0⟩,ff r ps with
  |some res,some cs=>if res.var=true then some (res.cells::cs)else none
  |_,_=>none
 | .r _ _::ps=>match ff r ps with
  |some cs=>some ([]::cs)
  |none=>none
 | .h _::_=>none
def pb (r:Rs) (rc:List (Nat×Nat)) (p n:Nat):List C:=
 match ax r ⟨p,1,0⟩with
 |some res=>if res.fz=true then []else if res.var=true then []else if rc.contains (p,1)=true then []else [C.own ⟨p,1,0⟩ 0 n]
 |none=>[]
def eF (r:Rs) (rc:List (Nat×Nat)):List Pos->List (List C)->List (List C)
 |[],cs=>cs
 | .o _::ps,c::cs=>c::eF r rc ps cs
 | .r p n::ps,_::cs=>pb r rc p n::eF r rc ps cs
 | .h _::ps,c::cs=>c::eF r rc ps cs
 |_::_,[]=>[]
def mD (r:Rs) (ys:List AV) (ps:List Pos):Option (List (List C)):=
 match ff r ps with
 |some cs=>some (eF r (dJ r (dm ys++dD cs)) ps cs)
 |none=>none
def oB (r:Rs) (ys:List AV) (ocs:Option (List (List C))) (post:List RF->List (List RO)->Prop):Prop:=
 match fY r ys,ocs with
 |some rfs,some cs=>match e9 r cs with
  |some objs=>gg (dJ r (dm ys++dD cs))=true/\post rfs objs
  |none=>False
 |_,_=>False
def gu (rvs:List ResultVar) (ps:List Pos) (post:List RF->List (List RO)->Prop) (g:G):Prop:=
 (eJ T g.v g.r rvs).1/\oB g.r (eJ T g.v g.r rvs).2 (mD g.r (eJ T g.v g.r rvs).2 ps) post
end
section
variable {T:Nat->Option TI} {cx:Cx} {v:List AV} {r:Rs} {a:Act} {w:World} {β:Nat->Nat->Pl}
def γof (β:Nat->Nat->Pl) (L:List C) (k:Nat):Pl:=
 match L[k]? with
 |some (.own h _ _)=>β h.s h.j
 |_=>⟨none,0⟩
theorem qe:∀{l:List C} {ys:List RO} {i:Nat} {y:RO},ch r l=some ys->ys[i]? =some y->∃x,l[i]? =some x/\gB r x=some y
 |[],ys,i,y,h,hi=>by simp only[ch,aF]at h;subst h;simp at hi
 |x::l,ys,i,y,h,hi=>by
  simp only[ch]at h;split at h
  .rename_i y' ys' h1 h2;cases h;cases i with
   |zero=>simp only[bG,aF]at hi⊢;subst hi;exact⟨x,rfl,h1⟩
   |succ i=>simpa using qe (i:=i) h2 (by simpa using hi)
  .cases h
theorem vK {x:C} {sz n:Nat} {ds:List D} {bo:Bool} (h:gB r x=some (.own sz n ds bo)):∃hd res,x= .own hd 0 n/\ax r hd=some res/\res.fz=false/\sz=res.sz/\cQ res.cells=some ds/\bo=res.cf:=by
 unfold gB at h;split at h
 .cases h
 .rename_i hd lo m;split at h
  .rename_i res hg;split at h
   .split at h<;>cases h
   .rename_i hf;split at h
    .rename_i ds' _ hd';cases h;exact⟨hd,res,rfl,hg,by simpa using hf,rfl,hd',rfl⟩
    .cases h
  .cases h
 .cases h
theorem my {hd:Hd} {lo n:Nat} {res:aM} (hg:ax r hd=some res) (hf:res.fz=false):i9 r (.own hd lo n)=[(hd.s,hd.j)]:=by unfold i9;simp[hg,hf]
theorem nN:∀{l:List C} {i:Nat} {x:C} {p:Nat×Nat},l[i]? =some x->p∈i9 r x->p∈dJ r l
 |[],_,_,_,h,_=>by simp at h
 |y::l,0,x,p,h,hp=>by simp only[bG,aF]at h;subst h;simp[dJ,hp]
 |y::l,i+1,x,p,h,hp=>by simp only[dJ,eQ];exact .inr (nN (i:=i) (by simpa using h) hp)
theorem sY:∀{l m:List (Nat×Nat)},gg (l++m)=true->gg m=true/\∀p∈l,p ∉ m
 |[],m,h=>⟨h,λ p hp=>by simp at hp⟩
 |x::l,m,h=>by
  simp only[iE,gg,cg,mG,mR,eQ,iK,not_or]at h;obtain⟨g1,g2⟩:=sY h.2;refine⟨g1,λ p hp=> ?_⟩;simp only[dw]at hp;rcases hp with rfl|hp
  .exact h.1.2
  .exact g2 p hp
theorem ql:∀{l:List C} {i j:Nat} {x y:C} {p:Nat×Nat},gg (dJ r l)=true->l[i]? =some x->l[j]? =some y->p∈i9 r x->p∈i9 r y->i=j
 |[],_,_,_,_,_,_,h,_,_,_=>by simp at h
 |z::l,i,j,x,y,p,h,hx,hy,px,py=>by
  simp only[dJ]at h;obtain⟨g1,g2⟩:=sY h;cases i with
  |zero=>
   cases j with
   |zero=>rfl
   |succ j=>
    simp only[bG,aF]at hx;subst hx;exact absurd (nN (i:=j) (by simpa using hy) py) (g2 p px)
  |succ i=>
   cases j with
   |zero=>
    simp only[bG,aF]at hy;subst hy;exact absurd (nN (i:=i) (by simpa using hx) px) (g2 p py)
   |succ j=>
    have:=ql (i:=i) (j:=j) g1 (by simpa using hx) (by simpa using hy) px py;omega
theorem EF (h:aw cx ⟨v,r⟩ a w β) {A:Nat->Prop} (hA:∀b,A b->Av cx r β b) {x:C} {y:RO} {u:Value} {pl:Pl} (hr:gB r x=some y) (hu:ae cx w r β x u)
  (hpl:∀hd lo n,x= .own hd lo n->pl=β hd.s hd.j):cy A w pl y u:=by
 unfold gB at hr;split at hr
 .cases hr;simp only[ae]at hu;exact hu.bC ⟨λ _ _ _=>rfl,λ b _ hb=>hA b hb⟩
 .rename_i hd lo n;have hq:=hpl hd lo n rfl;clear hpl;split at hr
  .rename_i res hg;simp only[ae]at hu;have hown:=hu.2.2 res hg;obtain⟨hl,he⟩:=bh hg;obtain⟨ds0,k1,k2,k3⟩:=(h.rs _ _ _ hl).1.row hown.1;split at hr
   .rename_i hf;split at hr
    .rename_i ds hd';cases hr;rw[k1,gN,eE]at hd';cases hd';obtain⟨ad,cap,m1,m2,m3⟩:=lu (Tp:=λ b=>¬Av cx r β b) hown k2 k1 (λ b o hb=>k3 hf b o hb);simp only[cy,Rd];exact⟨ad,cap,m1,m2,ek.bC ⟨λ _ _ _=>rfl,λ b _ hb=>hA b hb⟩ (fS.2 m3)⟩
    .cases hr
   .split at hr
    .rename_i ds _ hd';cases hr;rw[k1,eE]at hd';cases hd';obtain⟨_,h2,h3,ad,h4,h5⟩:=hown;simp only[cy];rw[hq];refine⟨by rw[k1]at h2;simpa using h2,by omega,k2.bC ⟨λ _ _ _=>rfl,λ b _ hb=>hA b hb⟩ (λ _ _ _=>rfl),ad,by simpa using h4, ?_⟩;rcases h5 with h5|⟨b,o,h5,h6⟩
     .exact .inl (by simpa using h5)
     .exact .inr ⟨b,o,h5,by simpa using h6⟩
    .cases hr
  .cases hr
 .cases hr
theorem ko (h:aw cx ⟨v,r⟩ a w β) {A:Nat->Prop} (hA:∀b,A b->Av cx r β b) {L:List C}:∀{l:List C} {k:Nat} {ys:List RO} {us:List Value},ch r l=some ys->ar cx w r β l us->
  (∀i x,l[i]? =some x->L[k+i]? =some x)->bM A w (γof β L) k ys us
 |[],k,ys,us,hr,hu,_=>by simp only[ch,aF]at hr;subst hr;simpa[ar,bM]using hu
 |x::l,k,ys,us,hr,hu,hL=>by
  simp only[ch]at hr;split at hr
  .rename_i y ys' h1 h2;cases hr;simp only[ar]at hu;obtain⟨u,us',rfl,g1,g2⟩:=hu;simp only[bM];have hk:=hL 0 x (by simp);simp only[eo]at hk;refine⟨u,us',rfl,EF h hA h1 g1 (λ hd lo n he=>by unfold γof;rw[hk,he]),ko h hA h2 g2 λ i x' hi=> ?_⟩;have:=hL (i+1) x' (by simpa using hi)
   rwa[show k+1+i=k+(i+1) from by omega]
  .cases hr
theorem lr:∀{l:List C} {ys:List RO},ch r l=some ys->ys.length=l.length
 |[],ys,h=>by simp only[ch,aF]at h;subst h;rfl
 |x::l,ys,h=>by
  simp only[ch]at h;split at h
  .rename_i y ys' h1 h2;cases h;simp[lr h2]
  .cases h
theorem Dz (h:aw cx ⟨v,r⟩ a w β) {A:Nat->Prop} (hA:∀b,A b->Av cx r β b) {L:List C} {x:AV} {k:Nat} {y:RF} {u:Value} (hr:lY r x=some y) (hu:ak cx w r β x u)
  (hL:∀i z,(iT x)[i]? =some z->L[k+i]? =some z):fP A w (γof β L) k y u/\y.cells.length=(iT x).length/\ch r (iT x)=some y.cells:=by
 unfold lY at hr;split at hr
 .rename_i x;split at hr
  .rename_i y' h1;cases hr;have h2:ch r [x]=some [y']:=by simp[ch,h1]
   have:=ko h hA (L:=L) (k:=k) h2 (us:=[u]) (by simp only[ar];exact⟨u,[],rfl,ck.1 hu,rfl⟩) hL;simp only[bM]at this;obtain⟨u',us',e1,e2,_⟩:=this;cases e1;exact⟨e2,rfl,h2⟩
  .cases hr
 .rename_i l;split at hr
  .rename_i ys h1;cases hr;obtain⟨us,e1,e2⟩:=ec.1 hu;simp only[fP];exact⟨⟨us,e1,ko h hA h1 e2 hL⟩,lr h1,h1⟩
  .cases hr
 .cases hr
theorem np:∀{l m:List C} {ys zs:List RO},ch r l=some ys->ch r m=some zs->ch r (l++m)=some (ys++zs)
 |[],m,ys,zs,h1,h2=>by simp only[ch,aF]at h1;subst h1;simpa using h2
 |x::l,m,ys,zs,h1,h2=>by
  simp only[ch]at h1;split at h1
  .rename_i y ys' g1 g2;cases h1;simp[ch,g1,np g2 h2]
  .cases h1
theorem nO (h:aw cx ⟨v,r⟩ a w β) {A:Nat->Prop} (hA:∀b,A b->Av cx r β b) {L:List C}:∀{xs:List AV} {k:Nat} {ys:List RF} {us:List Value},fY r xs=some ys->aL cx w r β xs us->
  (∀i z,(dm xs)[i]? =some z->L[k+i]? =some z)->cM A w (γof β L) k ys us/\ch r (dm xs)=some (ys.flatMap RF.cells)
 |[],k,ys,us,hr,hu,_=>by simp only[fY,aF]at hr;subst hr;exact⟨by simpa[aL,cM]using hu,rfl⟩
 |x::xs,k,ys,us,hr,hu,hL=>by
  simp only[fY]at hr;split at hr
  .rename_i y ys' h1 h2;cases hr;simp only[aL]at hu;obtain⟨u,us',rfl,g1,g2⟩:=hu;obtain⟨e1,e2,e3⟩:=Dz h hA (L:=L) (k:=k) h1 g1 (λ i z hi=>hL i z (by simp only[dm];rw[bJ (bq.1 hi).1];exact hi))
   obtain⟨e4,e5⟩:=nO h hA (L:=L) (k:=k+y.cells.length) h2 g2 (λ i z hi=>by have:=hL ((iT x).length+i) z (by simp only[dm];rw[bT (ej _ _)];simpa using hi);rw[e2,cq];exact this)
   simp only[cM,dA,dm];exact⟨⟨u,us',rfl,e1,e4⟩,np e3 e5⟩
  .cases hr
theorem sP:∀{cs:List (List C)} {objs:List (List RO)},e9 r cs=some objs->ch r (dD cs)=some objs.flatten
 |[],objs,h=>by simp only[e9,aF]at h;subst h;rfl
 |c::cs,objs,h=>by
  simp only[e9]at h;split at h
  .rename_i y ys h1 h2;cases h;simp only[dD,fl];exact np h1 (sP h2)
  .cases h
def cY (r:Rs):List Pos->List (List C)->Prop
 |[],[]=>True
 | .o p::ps,c::cs=>(∃res,ax r ⟨p,0,0⟩=some res/\res.var=true/\c=res.cells)/\cY r ps cs
 | .r p n::ps,c::cs=>(c=[]∨c=[C.own ⟨p,1,0⟩ 0 n])/\cY r ps cs
 | .h hd::ps,c::cs=>(∃res,ax r hd=some res/\res.var=true/\c=res.cells)/\cY r ps cs
 |_,_=>False
theorem pW {rc:List (Nat×Nat)}:∀{ps:List Pos} {cs:List (List C)},ff r ps=some cs->cY r ps (eF r rc ps cs)
 |[],cs,h=>by simp only[ff,aF]at h;subst h;simp[eF,cY]
 | .o p::ps,cs,h=>by
  simp only[ff]at h;split at h
  .rename_i res cs' g1 g2;split at h
   .rename_i hv;cases h;simp only[eF,cY];exact⟨⟨res,g1,hv,rfl⟩,pW g2⟩
   .cases h
  .cases h
 | .r p n::ps,cs,h=>by
  simp only[ff]at h;split at h
  .rename_i cs' g2;cases h;simp only[eF,cY];refine⟨?_,pW g2⟩;unfold pb;split
   .split
    .exact .inl rfl
    .split
     .exact .inl rfl
     .split
      .exact .inl rfl
      .exact .inr rfl
   .exact .inl rfl
  .cases h
 | .h hd::ps,cs,h=>by simp[ff]at h
theorem tT {ys:List AV} {ps:List Pos} {cs:List (List C)} (h:mD r ys ps=some cs):cY r ps cs:=by
 unfold mD at h;split at h
 .rename_i cs' g;cases h;exact pW g
 .cases h
def b9 (cx:Cx) (w:World) (r:Rs) (β:Nat->Nat->Pl):List Pos->List ct->Prop
 |[],[]=>True
 | .o p::ps, .bP b::bs=>(∀res,ax r ⟨p,0,0⟩=some res->(β p 0).base=some (b,0))/\b9 cx w r β ps bs
 | .r p n::ps, .val u::bs=>ae cx w r β (.own ⟨p,1,0⟩ 0 n) u/\b9 cx w r β ps bs
 | .h hd::ps, .bP b::bs=>(∀res,ax r hd=some res->(β hd.s hd.j).base=some (b,0))/\b9 cx w r β ps bs
 |_,_=>False
theorem og (h:aw cx ⟨v,r⟩ a w β) {A:Nat->Prop} (hA:∀b,A b->Av cx r β b) {L:List C}:∀{ps:List Pos} {bs:List ct} {cs:List (List C)} {objs:List (List RO)} {k:Nat},cY r ps cs->e9 r cs=some objs->
  b9 cx w r β ps bs->(∀i z,(dD cs)[i]? =some z->L[k+i]? =some z)->dO A w (γof β L) k objs bs
 |[],[],[],objs,k,h1,h2,hb,hL=>by simp only[e9,aF]at h2;subst h2;simp[dO]
 | .o p::ps, .bP b::bs,c0::cs',objs,k,h1,h2,hb,hL=>by
  simp only[cY]at h1;obtain⟨⟨res,g1,hv,rfl⟩,g2⟩:=h1;simp only[b9]at hb;simp only[e9]at h2;split at h2
  .rename_i ys yss g3 g4;cases h2;obtain⟨hl,_⟩:=bh g1;have hok:=(h.rs _ _ _ hl).1;unfold bn at hok;rw[ao hv]at hok;obtain⟨_,b',c,e,k1,k2,k3,k4⟩:=hok;have hb0:=hb.1 res g1;simp only at k1;rw[hb0]at k1;cases k1;simp only[dO];refine⟨⟨c,e,k2,ko h hA g3 k3 (λ i z hi=>hL i z ?_),k4⟩, ?_⟩
   .simp only[dD];rw[bJ (bq.1 hi).1];exact hi
   .refine og h hA g2 g4 hb.2 λ i z hi=> ?_
    have:=hL (res.cells.length+i) z (by simp only[dD];rw[bT (ej _ _)];simpa using hi);rw[lr g3,cq];exact this
  .cases h2
 | .h hd::ps, .bP b::bs,c0::cs',objs,k,h1,h2,hb,hL=>by
  simp only[cY]at h1;obtain⟨⟨res,g1,hv,rfl⟩,g2⟩:=h1;simp only[b9]at hb;simp only[e9]at h2;split at h2
  .rename_i ys yss g3 g4;cases h2;obtain⟨hl,_⟩:=bh g1;have hok:=(h.rs _ _ _ hl).1;unfold bn at hok;rw[ao hv]at hok;obtain⟨_,b',c,e,k1,k2,k3,k4⟩:=hok;have hb0:=hb.1 res g1
   try simp only at k1
   rw[hb0]at k1;cases k1;simp only[dO];refine⟨⟨c,e,k2,ko h hA g3 k3 (λ i z hi=>hL i z ?_),k4⟩, ?_⟩
   .simp only[dD];rw[bJ (bq.1 hi).1];exact hi
   .refine og h hA g2 g4 hb.2 λ i z hi=> ?_
    have:=hL (res.cells.length+i) z (by simp only[dD];rw[bT (ej _ _)];simpa using hi);rw[lr g3,cq];exact this
  .cases h2
 | .r p n::ps, .val u::bs,c0::cs',objs,k,h1,h2,hb,hL=>by
  simp only[cY]at h1;obtain⟨g1,g2⟩:=h1;simp only[b9]at hb;simp only[e9]at h2;split at h2
  .rename_i ys yss g3 g4;cases h2;simp only[dO];refine⟨?_, ?_⟩
   .rcases g1 with rfl|rfl
    .simp only[ch,aF]at g3;exact .inl g3.symm
    .refine .inr (ko h hA (L:=L) g3 (us:=[u]) (by simp only[ar];exact⟨u,[],rfl,hb.1,rfl⟩) λ i z hi=>hL i z ?_);simp only[dD];rw[bJ (bq.1 hi).1];exact hi
   .refine og h hA g2 g4 hb.2 λ i z hi=> ?_
    have:=hL (c0.length+i) z (by simp only[dD];rw[bT (ej _ _)];simpa using hi);rw[lr g3,cq];exact this
  .cases h2
 |[],_::_,_,_,_,_,_,hb,_=>by simp[b9]at hb
 | .o _::_,[],_,_,_,_,_,hb,_=>by simp[b9]at hb
 | .h _::_,[],_,_,_,_,_,hb,_=>by simp[b9]at hb
 | .h _::_, .val _::_,_,_,_,_,_,hb,_=>by simp[b9]at hb
 | .h _::_, .bP _::_,[],_,_,h1,_,_,_=>by simp[cY]at h1
 | .r _ _::_,[],_,_,_,_,_,hb,_=>by simp[b9]at hb
 | .o _::_, .val _::_,_,_,_,_,_,hb,_=>by simp[b9]at hb
 | .r _ _::_, .bP _::_,_,_,_,_,_,hb,_=>by simp[b9]at hb
 | .o _::_, .bP _::_,[],_,_,h1,_,_,_=>by simp[cY]at h1
 | .r _ _::_, .val _::_,[],_,_,h1,_,_,_=>by simp[cY]at h1
 |[],[],_::_,_,_,h1,_,_,_=>by simp[cY]at h1
theorem jO {γ:Nat->Pl}:∀{l:List RO} {k b:Nat},NB γ k l b->∃i sz n ds bo o,l[i]? =some (RO.own sz n ds bo)/\(γ (k+i)).base=some (b,o)
 |[],_,_,h=>h.elim
 | .d x::l,k,b,h=>by obtain⟨i,sz,n,ds,bo,o,h1,h2⟩:=jO (l:=l) (by simpa[NB]using h);exact⟨i+1,sz,n,ds,bo,o,by simpa using h1,by rw[←h2];congr 2;omega⟩
 | .own sz n ds bo::l,k,b,h=>by
  simp only[NB]at h;rcases h with⟨o,h⟩|h
  .exact⟨0,sz,n,ds,bo,o,by simp,h⟩
  .obtain⟨i,sz,n,ds,bo,o,h1,h2⟩:=jO (l:=l) h;exact⟨i+1,sz,n,ds,bo,o,by simpa using h1,by rw[←h2];congr 2;omega⟩
def j4:List Value->Value
 |[x]=>x
 |us=> .tuple us.toArray
theorem wm (h:aw cx ⟨v,r⟩ a w β) {A1:Nat->Prop} (hA1:∀b,A1 b->Av cx r β b) {ys:List AV} {us:List Value} {u:Value} {ps:List Pos} {bs:List ct} {cs:List (List C)} {rfs:List RF} {objs:List (List RO)} (hu:aL cx w r β ys us)
  (hus:u=j4 us) (h1:fY r ys=some rfs) (h2:cY r ps cs) (h3:e9 r cs=some objs) (h4:gg (dJ r (dm ys++dD cs))=true)
  (hb:b9 cx w r β ps bs)
  (hbs:∀s j res b o,aq r s j=some res->res.fz=false->res.var=false->(β s j).base=some (b,o)->b ∉ bI bs):
  dT cx.w0 A1 cx.aH w bs rfs objs u:=by
 have hall:ch r (dm ys++dD cs)=some (bA rfs objs):=by unfold bA;exact np (nO h (A:=λ _=>False) (λ b hb=>hb.elim) (L:=dm ys) (k:=0) h1 hu (λ i z hi=>by simpa using hi)).2 (sP h3)
 generalize hL:dm ys++dD cs=L at*;have hown:∀{i sz n b o:Nat} {ds:List D} {bo:Bool},(bA rfs objs)[i]? =some (.own sz n ds bo)->(γof β L i).base=some (b,o)->
   ∃hd lo m res,L[i]? =some (.own hd lo m)/\ax r hd=some res/\res.fz=false/\(β hd.s hd.j).base=some (b,o)/\bo=res.cf:=λ {i sz n b o ds bo} hi hbase=>by
  obtain⟨x,g1,g2⟩:=qe hall hi;obtain⟨hd,res,rfl,g3,g4,_,_,g5⟩:=vK g2;unfold γof at hbase;rw[g1]at hbase;exact⟨hd,0,n,res,g1,g3,g4,hbase,g5⟩
 have hNB:∀b,NB (γof β L) 0 (bA rfs objs) b->∃s j res o,aq r s j=some res/\res.fz=false/\(β s j).base=some (b,o)/\∃hd lo m i,hd.s=s/\hd.j=j/\L[i]? =some (C.own hd lo m)/\ax r hd=some res:=λ b hb'=>by obtain⟨i,sz,n,ds,bo,o,g1,g2⟩:=jO hb';rw[bu]at g2;obtain⟨hd,lo,m,res,g3,g4,g5,g6,_⟩:=hown g1 g2;exact⟨hd.s,hd.j,res,o,(bh g4).1,g5,g6,hd,lo,m,i,rfl,rfl,g3,g4⟩
 have hA:∀b,(A1 b∨NB (γof β L) 0 (bA rfs objs) b)->Av cx r β b:=λ b hb'=>by
  rcases hb' with hb'|hb'
  .exact hA1 b hb'
  .obtain⟨s,j,res,o,g1,g2,g3,_⟩:=hNB b hb';exact .inr ⟨s,j,res,o,g1,g2,g3⟩
 -- a row's handle is no variable's
 have hrow:∀{hd:Hd} {lo m i:Nat} {res:aM},L[i]? =some (C.own hd lo m)->ax r hd=some res->(bA rfs objs)[i]? ≠none->res.var=false:=λ {hd lo m i res} g1 g2 g3=>by
  cases hi:(bA rfs objs)[i]? with
  |none=>exact absurd hi g3
  |some y=>
   have hlt:i<L.length:=(bq.1 g1).1;by_cases hv:res.var=true
   ·-- its value is a slice of the row:ae says so
    have hcs:∃u,ae cx w r β (.own hd lo m) u:=by
     subst hL;rcases fg i (dm ys).length with hlt2|hge
     .rw[bJ hlt2]at g1;have:∀{xs:List AV} {vs:List Value} {k:Nat} {x:C},aL cx w r β xs vs->(dm xs)[k]? =some x->∃u,ae cx w r β x u:=by
       intro xs;induction xs with
       |nil=>intro vs k x _ hk;simp[dm]at hk
       |cons y' xs ih=>
        intro vs k x hvs hk;simp only[aL]at hvs;obtain⟨u0,us0,rfl,e1,e2⟩:=hvs;simp only[dm]at hk;rcases fg k (iT y').length with q|q
        .rw[bJ q]at hk;unfold iT at hk;split at hk
         .rename_i x';cases k with
          |zero=>simp only[bG,aF]at hk;subst hk;exact⟨_,ck.1 e1⟩
          |succ k=>simp at hk
         .rename_i l;obtain⟨us1,_,e3⟩:=ec.1 e1;obtain⟨u1,_,e4⟩:=eL e3 hk;exact⟨u1,e4⟩
         .simp at hk
        .rw[bT q]at hk;exact ih e2 hk
      exact this hu g1
     .rw[bT hge]at g1;have:∀{ps:List Pos} {bs:List ct} {cs:List (List C)} {k:Nat} {x:C},cY r ps cs->b9 cx w r β ps bs->(dD cs)[k]? =some x->∃u,ae cx w r β x u:=by
       intro ps;induction ps with
       |nil=>intro bs cs k x hcs hp hk;cases cs with
        |nil=>simp[dD]at hk
        |cons c cs=>simp[cY]at hcs
       |cons p ps ih=>
        intro bs cs k x hcs hp hk;cases cs with
        |nil=>cases p<;>simp[cY]at hcs
        |cons c0 cs0=>
         cases bs with
         |nil=>cases p<;>simp[b9]at hp
         |cons b0 bs0=>
          simp only[dD]at hk;cases p with
          |o p=>
           cases b0 with
           |val u0=>simp[b9]at hp
           |bP b0=>
            simp only[cY]at hcs;simp only[b9]at hp;obtain⟨⟨res0,q1,q3,rfl⟩,q2⟩:=hcs;rcases fg k res0.cells.length with q|q
            .rw[bJ q]at hk;have hok:=(h.rs _ _ _ (bh q1).1).1;unfold bn at hok;rw[ao q3]at hok;obtain⟨_,b',c,e,k1,k2,k3,k4⟩:=hok;obtain⟨u1,_,e4⟩:=eL k3 hk;exact⟨u1,e4⟩
            .rw[bT q]at hk;exact ih q2 hp.2 hk
          |h hd=>
           cases b0 with
           |val u0=>simp[b9]at hp
           |bP b0=>
            simp only[cY]at hcs;simp only[b9]at hp;obtain⟨⟨res0,q1,q3,rfl⟩,q2⟩:=hcs;rcases fg k res0.cells.length with q|q
            .rw[bJ q]at hk;have hok:=(h.rs _ _ _ (bh q1).1).1;unfold bn at hok;rw[ao q3]at hok;obtain⟨_,b',c,e,k1,k2,k3,k4⟩:=hok;obtain⟨u1,_,e4⟩:=eL k3 hk;exact⟨u1,e4⟩
            .rw[bT q]at hk;exact ih q2 hp.2 hk
          |r p n=>
           cases b0 with
           |bP b0=>simp[b9]at hp
           |val u0=>
            simp only[cY]at hcs;simp only[b9]at hp;rcases fg k c0.length with q|q
            .rw[bJ q]at hk;rcases hcs.1 with rfl|rfl
             .simp at q
             .cases k with
              |zero=>simp only[bG,aF]at hk;subst hk;exact⟨_,hp.1⟩
              |succ k=>simp at hk
            .rw[bT q]at hk;exact ih hcs.2 hp.2 hk
      exact this h2 hb g1
    obtain⟨u,hu'⟩:=hcs;simp only[ae]at hu';exact(hu'.2.2 res g2).1
   .simpa using hv
 refine⟨⟨γof β L,us,by rw[hus];rfl, ?_, ?_,λ b hb'=> ?_,λ i sz n ds b o hi hbi=> ?_,λ i j b o o' sz n ds bo sz' n' ds' bo' hi hj hbi hbj=> ?_⟩,h.n0,h.aP,h.os,h.out⟩
 .exact(nO h hA (L:=L) (k:=0) h1 hu (λ i z hi=>by rw[bu,←hL,bJ (bq.1 hi).1];exact hi)).1
 .have e1:(dm ys).length=(rfs.flatMap RF.cells).length:=by have:=lr (nO h (A:=λ _=>False) (λ b hb=>hb.elim) (L:=dm ys) (k:=0) h1 hu (λ i z hi=>by simpa using hi)).2;exact this.symm
  exact og h hA (L:=L) h2 h3 hb (λ i z hi=>by rw[←hL,←e1,bT (ej _ _)];simpa using hi)
 .obtain⟨i,sz,n,ds,bo,o,g1,g2⟩:=jO hb';rw[bu]at g2;obtain⟨hd,lo,m,res,g3,g4,g5,g6,_⟩:=hown g1 g2;have hlk:=(bh g4).1;exact⟨(h.fr _ _ _ _ _ hlk g5 g6).1,hbs _ _ _ _ _ hlk g5 (hrow g3 g4 (by rw[g1];simp)) g6⟩
 .obtain⟨hd,lo,m,res,g3,g4,g5,g6,g7⟩:=hown hi hbi;exact(h.fr _ _ _ _ _ (bh g4).1 g5 g6).2 g7.symm
 .obtain⟨hd,lo,m,res,g3,g4,g5,g6,_⟩:=hown hi hbi;obtain⟨hd',lo',m',res',g3',g4',g5',g6',_⟩:=hown hj hbj;obtain⟨e1,e2⟩:=h.inj _ _ _ _ _ _ _ _ _ (bh g4).1 g5 (bh g4').1 g5' g6 g6';exact ql h4 g3 g3' (by rw[my g4 g5];exact iZ.2 rfl) (by rw[my g4' g5',e1,e2];exact iZ.2 rfl)
end
section
variable {cx:Cx} {v:List AV} {r r':Rs} {a:Act} {w w':World} {β β':Nat->Nat->Pl} {T:Nat->Option TI} {c:Bool} {mv:Mv}
def Mv.has:Mv->Nat->Prop
 | .o _,_=>True
 | .r h _,j=>j=h.j
def MB (r:Rs) (β:Nat->Nat->Pl) (mv:Mv) (b:Nat):Prop:=
 ∃j res o,mv.has j/\aq r mv.s j=some res/\res.fz=false/\(β mv.s j).base=some (b,o)
theorem MB.ob {b:Nat} (h:MB r β mv b):OB r β b:=by obtain⟨j,res,o,_,h2,h3,h4⟩:=h;exact⟨mv.s,j,res,o,h2,h3,h4⟩
theorem MB.fr (h:aw cx ⟨v,r⟩ a w β) {b:Nat} (hb:MB r β mv b):cx.n0≤b∨cx.aH b:=by obtain⟨j,res,o,_,h2,h3,h4⟩:=hb;exact(h.fr _ _ _ _ _ h2 h3 h4).1
theorem MB.lt (h:aw cx ⟨v,r⟩ a w β) {b:Nat} (hb:MB r β mv b):b<w.heap.size:=by obtain⟨j,res,o,_,h2,h3,h4⟩:=hb;exact(h.rs _ _ _ h2).1.lt h4
theorem oZ (h:aw cx ⟨v,r⟩ a w β) {b:Nat} (hb:b<w.heap.size) (ht:ib cx (Av cx r β) b):ib (bV cx.P w (Av cx r β) (MB r β mv)) (Av (bV cx.P w (Av cx r β) (MB r β mv)) [] β0) b:=by
 refine .inr ⟨hb,λ hm=> ?_⟩;rcases ht with ht|⟨h1,h2⟩
 .exact ht (.inr hm.ob)
 .rcases hm.fr h with h3|h3
  .exact absurd h1 (Nat.not_lt.2 h3)
  .exact h2 h3
theorem mh (h:aw cx ⟨v,r⟩ a w β) {s j b o:Nat} {res:aM} (hl:aq r s j=some res) (hb:(β s j).base=some (b,o)) (hs:s≠mv.s) (hlt:b<w.heap.size):
  ib (bV cx.P w (Av cx r β) (MB r β mv)) (Av (bV cx.P w (Av cx r β) (MB r β mv)) [] β0) b:=by
 refine .inr ⟨hlt,λ hm=> ?_⟩;obtain⟨k,res',o',_,h2,h3,h4⟩:=hm;cases hf:res.fz with
 |false=>exact hs (h.inj _ _ _ _ _ _ _ _ _ hl hf h2 h3 hb h4).1
 |true=>
  have hok:=(h.rs _ _ _ hl).1;unfold bn at hok;rw[aj (by simp[h.vz _ _ _ hl hf])]at hok;obtain⟨_,_,_,g⟩:=hok;exact g hf b o hb (.inr ⟨_,k,res',o',h2,h3,h4⟩)
theorem Ck {ds:List D} {b o:Nat} (h:gM cx w r β (ds.map C.d) b o):ba w (Av cx r β) (λ b'=>b'=b) ds (some ⟨b,o,none⟩):=
 ba.mk (T:=λ b'=>b'=b) rfl λ k d hk=>by obtain⟨u,h1,h2,_⟩:=h k (.d d) (by rw[eK,hk];rfl);simp only[ae]at h2;exact⟨u,h1,h2⟩
abbrev l5 (cx:Cx) (w:World) (r:Rs) (β:Nat->Nat->Pl) (mv:Mv):Cx:=bV cx.P w (Av cx r β) (MB r β mv)
theorem Co (h:aw cx ⟨v,r⟩ a w β) {hd:Hd} {lo n:Nat} {y:C} {u:Value} (hl:aN r (.own hd lo n)=some y) (hs:mv.s≠hd.s) (hu:ae cx w r β (.own hd lo n) u):ae (l5 cx w r β mv) w [] β0 y u:=by
  simp only[aN,rowOf]at hl;simp only[ae]at hu;cases hg:ax r hd with
  |none=>simp[hg]at hl
  |some res=>
   simp only[hg]at hl;cases hds:cQ (sub lo n res.sz res.cells)with
   |none=>simp[hds]at hl
   |some ds=>
    simp only[hds,aF]at hl;subst hl;have hown:=hu.2.2 res hg;obtain⟨hlk,_⟩:=bh hg;obtain⟨ds0,k1,k2,k3⟩:=(h.rs _ _ _ hlk).1.row hown.1;rw[k1,gN,eE]at hds;cases hds;obtain⟨ad,cap,m1,m2,m3⟩:=lu (Tp:=λ b=>∃o,(β hd.s hd.j).base=some (b,o)) hown k2 k1 (λ b o hb=>⟨o,hb⟩);simp only[ae];exact⟨ad,cap,m1,m2,m3.fD (λ b hb=>ez.1 hb) (λ b hb ⟨o,ho⟩=>mh h hlk ho (λ e=>hs e.symm) hb)⟩
theorem Cr (h:aw cx ⟨v,r⟩ a w β) {s:Nat} {x y:C} {u:Value} (hl:fh r s x=some y) (hs:mv.s≠s) (hu:ae cx w r β x u):ae (l5 cx w r β mv) w [] β0 y u:=by
 unfold fh at hl;split at hl
 .cases hl;simp only[ae]at hu⊢;exact(qc hu).bC ⟨λ _ _ _=>rfl,λ b _ hb=>ez.1 hb⟩
 .cases hl;simp only[ae]at hu⊢;obtain⟨ad,cap,h1,h2,h3⟩:=hu;exact⟨ad,cap,h1,h2,h3.fD (λ b hb=>ez.1 hb) (λ b hb ht=>oZ h hb ht)⟩
 .split at hl
  .rename_i hd lo n e;refine Co h (hd:=hd) (lo:=lo) (n:=n) ?_ (by rw[e];exact hs) hu;simpa only[aN]using hl
  .cases hl
 .cases hl
theorem sL (h:aw cx ⟨v,r⟩ a w β) {s:Nat}:∀{xs ys:List C} {us:List Value},fC r s xs=some ys->mv.s≠s->ar cx w r β xs us->ar (l5 cx w r β mv) w [] β0 ys us
 |[],ys,us,hl,_,hu=>by simp only[fC,aF]at hl;subst hl;simpa[ar]using hu
 |x::xs,ys,us,hl,hs,hu=>by
  simp only[fC]at hl;split at hl
  .rename_i y ys' g1 g2;cases hl;simp only[ar]at hu⊢;obtain⟨u,us',rfl,h1,h2⟩:=hu;exact⟨u,us',rfl,Cr h g1 hs h1,sL h g2 hs h2⟩
  .cases hl
mutual
theorem uT (h:aw cx ⟨v,r⟩ a w β):∀{x y:C} {u:Value},aN r x=some y->mv.s ∉ aX x->ae cx w r β x u->ae (l5 cx w r β mv) w [] β0 y u
 | .d x,y,u,hl,_,hu=>by simp only[aN,aF]at hl;subst hl;simp only[ae]at hu⊢;exact hu.bC ⟨λ _ _ _=>rfl,λ b _ hb=>ez.1 hb⟩
 | .aI n ds,y,u,hl,_,hu=>by simp only[aN,aF]at hl;subst hl;simp only[ae]at hu⊢;obtain⟨ad,cap,h1,h2,h3⟩:=hu;exact⟨ad,cap,h1,h2,h3.fD (λ b hb=>ez.1 hb) (λ b hb ht=>oZ h hb ht)⟩
 | .own hd lo n,y,u,hl,hs,hu=>by
  simp only[aN,rowOf]at hl;simp only[ae]at hu;cases hg:ax r hd with
  |none=>simp[hg]at hl
  |some res=>
   simp only[hg]at hl;cases hds:cQ (sub lo n res.sz res.cells)with
   |none=>simp[hds]at hl
   |some ds=>
    simp only[hds,aF]at hl;subst hl;have hown:=hu.2.2 res hg;obtain⟨hlk,_⟩:=bh hg;obtain⟨ds0,k1,k2,k3⟩:=(h.rs _ _ _ hlk).1.row hown.1;rw[k1,gN,eE]at hds;cases hds;obtain⟨ad,cap,m1,m2,m3⟩:=lu (Tp:=λ b=>∃o,(β hd.s hd.j).base=some (b,o)) hown k2 k1 (λ b o hb=>⟨o,hb⟩);simp only[ae];exact⟨ad,cap,m1,m2,m3.fD (λ b hb=>ez.1 hb) (λ b hb ⟨o,ho⟩=>mh h hlk ho (λ e=>hs (by simp[aX,←e])) hb)⟩
 | .ptr hd off,y,u,hl,hs,hu=>by
  simp only[aN]at hl;split at hl
  .rename_i res g1;split at hl
   .rename_i ds g2;cases hl;simp only[ae]at hu⊢;obtain⟨b,o,k1,k2⟩:=hu.2.2 res g1;obtain⟨hlk,_⟩:=bh g1;have hcs:=((h.rs _ _ _ hlk).1.cells k1).drop (k:=off);rw[qw g2]at hcs;exact⟨b,o+off,k2,(Ck hcs).fD (λ b hb=>ez.1 hb) (λ b' hb e=>by subst e;exact mh h hlk k1 (λ e=>hs (by simp[aX,←e])) hb)⟩
   .split at hl
    .rename_i cs g3;cases hl;simp only[ae]at hu⊢;obtain⟨b,o,k1,k2⟩:=hu.2.2 res g1;obtain⟨hlk,_⟩:=bh g1;have hb:=(h.rs _ _ _ hlk).1.lt k1;have hcs:=((h.rs _ _ _ hlk).1.cells k1).drop (k:=off);obtain⟨us,p1,p2⟩:=sU hcs;exact⟨b,o+off,us,k2,hb,mh h hlk k1 (λ e=>hs (by simp[aX,←e])) hb,p1,sL h g3 (by simpa[aX]using hs) p2⟩
    .cases hl
  .cases hl
 | .cZ ds,y,u,hl,_,hu=>by simp only[aN,aF]at hl;subst hl;simp only[ae]at hu⊢;obtain⟨b,o,h1,h3⟩:=hu;exact⟨b,o,h1,h3.fD (λ b hb=>ez.1 hb) (λ b hb ht=>oZ h hb ht)⟩
 | .dF f caps,y,u,hl,hs,hu=>by
  simp only[aN]at hl;split at hl
  .rename_i cs g1;cases hl;simp only[ae]at hu⊢;obtain⟨us,h1,h2⟩:=hu;exact⟨us,h1,lg h g1 (by simpa[aX]using hs) h2⟩
  .cases hl
 | .ab,y,u,hl,_,_=>by simp[aN]at hl
 | .dead,y,u,hl,_,_=>by simp[aN]at hl
 | .cN cs,y,u,hl,hs,hu=>by
  simp only[aN]at hl;split at hl
  .rename_i ys g1;cases hl;simp only[ae]at hu⊢;obtain⟨b,o,us,h1,h2,h3,h4,h5⟩:=hu;exact⟨b,o,us,h1,h2,oZ h h2 h3,h4,lg h g1 (by simpa[aX]using hs) h5⟩
  .cases hl
 | .lk _ _ _,y,u,hl,_,_=>by simp[aN]at hl
 | .cP hd lo n k,y,u,hl,hs,hu=>by
  simp only[aN,rowOf]at hl;simp only[ae]at hu;cases hg:ax r hd with
  |none=>simp[hg]at hl
  |some res=>
   simp only[hg]at hl;cases hds:cQ (sub lo n res.sz res.cells)with
   |none=>simp[hds]at hl
   |some ds=>
    simp only[hds,aF]at hl;subst hl;obtain⟨x1,x2,x3,ad,rfl,x4⟩:=hu;obtain⟨y1,y2⟩:=x4 res hg;obtain⟨hlk,_⟩:=bh hg;obtain⟨ds0,k1,k2,k3⟩:=(h.rs _ _ _ hlk).1.row y1;rw[k1,gN,eE]at hds;cases hds;have m3:=qg (Tp:=λ b=>∃o,(β hd.s hd.j).base=some (b,o)) x3 y2 k2 (λ b o hb=>⟨o,hb⟩);simp only[ae];exact⟨ad,_,rfl,by omega,m3.fD (λ b hb=>ez.1 hb) (λ b hb ⟨o,ho⟩=>mh h hlk ho (λ e=>hs (by simp[aX,←e])) hb)⟩
theorem lg (h:aw cx ⟨v,r⟩ a w β):∀{xs ys:List C} {us:List Value},aN.lendCs r xs=some ys->mv.s ∉ bp xs->ar cx w r β xs us->ar (l5 cx w r β mv) w [] β0 ys us
 |[],ys,us,hl,_,hu=>by simp only[aN.lendCs,aF]at hl;subst hl;simpa[ar]using hu
 |x::xs,ys,us,hl,hs,hu=>by
  simp only[aN.lendCs]at hl;simp only[bp,eQ,not_or]at hs;split at hl
  .rename_i y ys' g1 g2;cases hl;simp only[ar]at hu⊢;obtain⟨u,us',h1,h2,h3⟩:=hu;exact⟨u,us',h1,uT h g1 hs.1 h2,lg h g2 hs.2 h3⟩
  .cases hl
end
theorem tA (h:aw cx ⟨v,r⟩ a w β) {x y:AV} {u:Value} (hl:iA r x=some y) (hs:mv.s ∉ aY x) (hu:ak cx w r β x u):ak (l5 cx w r β mv) w [] β0 y u:=by
 unfold iA at hl;split at hl
 .split at hl
  .rename_i y' g1;cases hl;exact ck.2 (uT h g1 (by simpa[aY]using hs) (ck.1 hu))
  .cases hl
 .split at hl
  .rename_i y' g1;cases hl;obtain⟨us,h1,h2⟩:=ec.1 hu;exact ec.2 ⟨us,h1,lg h g1 (by simpa[aY]using hs) h2⟩
  .cases hl
 .cases hl
theorem sG (h:aw cx ⟨v,r⟩ a w β) {γ:Nat->Pl} {k:Nat} {bs:List ct}:∀{xs:List AV} {ys:List Arg} {us:List Value},ef r xs=some ys->mv.s ∉ dq xs->aL cx w r β xs us->
  ∀{zs:List Arg} {vs:List Value},aV cx.P w (Av cx r β) (MB r β mv) γ k zs bs vs->aV cx.P w (Av cx r β) (MB r β mv) γ k (ys++zs) bs (us++vs)
 |[],ys,us,hl,_,hu,zs,vs,hz=>by simp only[ef,aF]at hl;subst hl;simp only[aL]at hu;subst hu;simpa using hz
 |x::xs,ys,us,hl,hs,hu,zs,vs,hz=>by
  simp only[ef]at hl;simp only[dq,eQ,not_or]at hs;split at hl
  .rename_i y ys' g1 g2;cases hl;simp only[aL]at hu;obtain⟨u,us',rfl,h2,h3⟩:=hu;simp only[iE,aV];exact⟨u,us'++vs,rfl,tA h g1 hs.1 h2,sG h g2 hs.2 h3 hz⟩
  .cases hl
def γM (r:Rs) (β:Nat->Nat->Pl) (mv:Mv):Nat->Pl:=
 match mv with
 | .o h=>match ax r h with
  |some res=>γof β res.cells
  |none=>λ _=>⟨none,0⟩
 | .r h _=>λ _=>β h.s h.j
theorem ub {s:Nat}:∀{l:List (Nat×Nat)},jk s l=true->∀p∈l,p.1=s
 |[],_,p,hp=>by simp at hp
 |q::l,h,p,hp=>by
  simp only[jk,cg,gx]at h;rcases dw.1 hp with rfl|hp
  .exact h.1
  .exact ub h.2 p hp
def lW (r:Rs) (β:Nat->Nat->Pl) (mv:Mv) (hold:ct) (u:Value):Prop:=
 match mv with
 | .o hd=>∃res b,ax r hd=some res/\res.var=true/\hd.j=0/\(β hd.s 0).base=some (b,0)/\hold= .bP b
 | .r hd n=>hold= .val u/\∃res,ax r hd=some res/\res.fz=false/\hE (β hd.s hd.j) res 0 n u
theorem pA:∀{l a b:List C} {q:Hd×Nat×Nat},gH l=some (a,q,b)->l=a++ .own q.1 q.2.1 q.2.2::b
 |[],_,_,_,h=>by simp[gH]at h
 |x::xs,a,b,q,h=>by
  simp only[gH]at h;cases hx:mK x with
  |some q'=>
   rw[hx]at h;cases h;unfold mK at hx;split at hx
   .cases hx;rfl
   .cases hx
  |none=>
   rw[hx]at h;simp only at h;cases hs:gH xs with
   |none=>rw[hs]at h;cases h
   |some z=>
    obtain⟨a',q',b'⟩:=z;rw[hs]at h;cases h;rw[pA hs];rfl
theorem sJ:∀{l m:List C} {us:List Value},ar cx w r β (l++m) us->∃vs ws,us=vs++ws/\ar cx w r β l vs/\ar cx w r β m ws
 |[],m,us,h=>⟨[],us,rfl,by simp[ar],h⟩
 |x::l,m,us,h=>by simp only[iE,ar]at h⊢;obtain⟨u,us',rfl,h1,h2⟩:=h;obtain⟨vs,ws,rfl,g1,g2⟩:=sJ h2;exact⟨u::vs,ws,rfl,⟨u,vs,rfl,h1,g1⟩,g2⟩
theorem vt (h:aw cx ⟨v,r⟩ a w β) (W:Option FuncId) {hd:Hd} {off:Nat} {l:List RO} {u:Value} {dst:Option Nat} {aI:List Nat} {l':List RO} (hm:jz r hd off=some l) (hsc:dB r dst (.o hd) aI l') (hr:ae cx w r β (.ptr hd off) u):
  ∃hold u1,(∀(zs:List Arg) (vs:List Value),(∀k,aV cx.P w (Av cx r β) (MB r β (.o hd)) (γM r β (.o hd)) k zs [] vs)->aV cx.P w (Av cx r β) (MB r β (.o hd)) (γM r β (.o hd)) 0 (.ob W l::zs) [hold] (nn W u::vs))/\
   (∀b,NB (γM r β (.o hd)) 0 (br [.ob W l]) b->MB r β (.o hd) b/\b ∉ bI [hold])/\jW (γM r β (.o hd)) (br [.ob W l])/\
   lW r β (.o hd) hold u1:=by
 unfold jz at hm;cases hg:ax r hd with
 |none=>simp[hg]at hm
 |some res=>
  simp only[hg]at hm;cases hro:ch r res.cells with
  |none=>simp[hro]at hm
  |some l=>
   simp only[hro]at hm;by_cases hcond:res.var=true/\hd.j=0/\off=0/\((bp res.cells).all (·==hd.s)&&(jk hd.s (dJ r res.cells)&&gg (dJ r res.cells)))=true
   .rw[ao hcond]at hm;obtain⟨hv,hj,rfl,hc4⟩:=hcond;simp only[cg]at hc4;obtain⟨_,hhome,hnd⟩:=hc4;cases hm;simp only[dB,hg]at hsc;simp only[ae]at hr;obtain⟨b,o,e1,e2⟩:=hr.2.2 res hg;obtain⟨hlk,_⟩:=bh hg;have hok:=(h.rs _ _ _ hlk).1;unfold bn at hok;rw[ao hv]at hok;obtain⟨hf,b',c,e,k1,k2,k3,k4⟩:=hok;rw[e1]at k1;cases k1;have hγ:γM r β (.o hd)=γof β res.cells:=by simp[γM,hg]
    have hrow:∀{i sz n bb oo:Nat} {ds:List D} {bo:Bool},l[i]? =some (.own sz n ds bo)->(γof β res.cells i).base=some (bb,oo)->
      ∃hd' m res',res.cells[i]? =some (.own hd' 0 m)/\ax r hd'=some res'/\res'.fz=false/\hd'.s=hd.s/\(β hd'.s hd'.j).base=some (bb,oo)/\res'.var=false:=λ {i sz n bb oo ds bo} hi hb=>by
     obtain⟨x,g1,g2⟩:=qe hro hi;obtain⟨hd',res',rfl,g3,g4,_,_,_⟩:=vK g2;unfold γof at hb;rw[g1]at hb;have hmem:=nN (r:=r) (p:=(hd'.s,hd'.j)) g1 (by rw[my g3 g4];simp);obtain⟨u1,_,e4⟩:=eL k3 g1;simp only[ae]at e4;exact⟨hd',n,res',g1,g3,g4,ub hhome _ hmem,hb,(e4.2.2 res' g3).1⟩
    refine⟨.bP b,u,λ zs vs hz=> ?_,λ bb hb=> ?_,λ i j bb o o' sz n ds bo sz' n' ds' bo' hi hj' hbi hbj=> ?_,res,b,hg,hv,hj, ?_,rfl⟩
    .simp only[aV];refine⟨b,[],vs,c,e,by rw[e2],rfl,⟨hd.j,res,0,trivial,hlk,hf,e1⟩,k2, ?_,k4,hz _⟩;rw[hγ];exact ko h (λ b hb=>hb) hro k3 (λ i x hi=>by simpa using hi)
    .rw[hγ]at hb;simp only[br,dz]at hb;obtain⟨i,sz,n,ds,bo,o2,g1,g2⟩:=jO hb;rw[bu]at g2;obtain⟨hd',m,res',q1,q2,q3,q4,q5,q6⟩:=hrow g1 g2;have hlk':=(bh q2).1;refine⟨⟨hd'.j,res',o2,trivial,by show aq r hd.s _=_;rw[←q4];exact hlk',q3,by show(β hd.s _).base=_;rw[←q4];exact q5⟩,λ hmem=> ?_⟩;simp only[bI,iZ]at hmem;subst hmem;obtain⟨p1,p2⟩:=h.inj _ _ _ _ _ _ _ _ _ hlk' q3 hlk hf q5 e1;rw[p1,p2,hlk]at hlk';cases hlk';rw[hv]at q6;cases q6
    .rw[hγ]at hbi hbj;simp only[br,dz]at hi hj';obtain⟨hd1,m1,fq,q1,q2,q3,q4,q5,q6⟩:=hrow hi hbi;obtain⟨hd2,m2,res2,p1,p2,p3,p4,p5,p6⟩:=hrow hj' hbj;obtain⟨t1,t2⟩:=h.inj _ _ _ _ _ _ _ _ _ (bh q2).1 q3 (bh p2).1 p3 q5 p5;exact ql hnd q1 p1 (by rw[my q2 q3];exact iZ.2 rfl) (by rw[my p2 p3,t1,t2];exact iZ.2 rfl)
    .rw[hj]at e1;exact e1
   .rw[aj hcond]at hm;cases hm
theorem C' (h:aw cx ⟨v,r⟩ a w β) {x:AV} {y:Arg} {u:Value} {dst:Option Nat} {aI:List Nat} {l':List RO} (hm:dE r x=some (y,mv)) (hsc:dB r dst mv aI l') (hu:ak cx w r β x u):
  ∃hold u1,(∀(zs:List Arg) (vs:List Value),(∀k,aV cx.P w (Av cx r β) (MB r β mv) (γM r β mv) k zs [] vs)->aV cx.P w (Av cx r β) (MB r β mv) (γM r β mv) 0 (y::zs) [hold] (u::vs))/\
   (∀b,NB (γM r β mv) 0 (br [y]) b->MB r β mv b/\b ∉ bI [hold])/\jW (γM r β mv) (br [y])/\
   lW r β mv hold u1:=by
 cases x with
 |agg l=>
  simp only[dE]at hm;cases hsp:gH l with
  |none=>rw[hsp]at hm;cases hm
  |some q=>
   obtain⟨a0,⟨hd,lo,n⟩,b0⟩:=q;rw[hsp]at hm;simp only at hm;cases hla:aN.lendCs r a0 with
   |none=>rw[hla]at hm;cases hm
   |some a1=>
   cases hlb:aN.lendCs r b0 with
   |none=>rw[hla,hlb]at hm;cases hm
   |some b1=>
   cases hg:ax r hd with
   |none=>rw[hla,hlb,hg]at hm;cases hm
   |some res=>
   rw[hla,hlb,hg]at hm;simp only at hm;cases hds:cQ res.cells with
   |none=>simp[hds]at hm
   |some ds=>
    simp only[hds]at hm;by_cases hcond:res.var=false/\res.fz=false/\lo=0/\(bp a0++bp b0).contains hd.s=false
    .rw[ao hcond]at hm;obtain⟨hv,hf,rfl,hns⟩:=hcond;cases hm;simp only[mR,eQ,iK,not_or]at hns;have hl:=pA hsp;subst hl;obtain⟨us,rfl,hus⟩:=ec.1 hu;obtain⟨vs,ws0,e1,hva,hwb0⟩:=sJ hus;simp only[ar]at hwb0;obtain⟨u1,ws,rfl,hr,hwb⟩:=hwb0;simp only[ae]at hr;have hown:=hr.2.2 res hg;obtain⟨hlk,_⟩:=bh hg;obtain⟨ds0,k1,k2,k3⟩:=(h.rs _ _ _ hlk).1.row hv;rw[k1,eE]at hds;cases hds;have hγ:∀k,γM r β (.r hd n) k=β hd.s hd.j:=λ k=>by simp[γM]
     have hus2:Value.agg us= .agg (vs++u1::ws).toArray:=by rw[←e1]
     refine⟨.val u1,u1,λ zs vs' hz=> ?_,λ bb hb=> ?_,λ i j bb o o' sz n ds bo sz' n' ds' bo' hi hj' hbi hbj=> ?_,rfl,res,hg,hf,hown⟩
     .simp only[aV];refine⟨vs,u1,ws,[],vs',by rw[hus2],rfl,lg (mv:= .r hd n) h hla hns.1 hva,lg (mv:= .r hd n) h hlb hns.2 hwb, ?_,hz _⟩;rw[hγ];simp only[cy];obtain⟨_,h2,h3,ad,h4,h5⟩:=hown;refine⟨by rw[k1]at h2;simpa using h2,by omega,k2,ad,by simpa using h4, ?_⟩;rcases h5 with h5|⟨b,o,h5,h6⟩
      .exact .inl (by simpa using h5)
      .exact .inr ⟨b,o,h5,by simpa using h6⟩
     .simp only[br,NB,hγ]at hb;rcases hb with⟨o,hb⟩|hb
      .exact⟨⟨hd.j,res,o,rfl,hlk,hf,hb⟩,by simp[bI]⟩
      .exact hb.elim
     .simp only[br]at hi hj';cases i with
      |zero=>cases j with
       |zero=>rfl
       |succ j=>simp at hj'
      |succ i=>simp at hi
    .rw[aj hcond]at hm;cases hm
 |eW _=>simp[dE]at hm
 |gd _ _=>simp[dE]at hm
 |one x=>
 cases x with
 |d _=>simp[dE]at hm
 |aI _ _=>simp[dE]at hm
 |cZ _=>simp[dE]at hm
 |ab=>simp[dE]at hm
 |dead=>simp[dE]at hm
 |cP=>simp[dE]at hm
 |lk=>simp[dE]at hm
 |cN=>simp[dE]at hm
 |ptr hd off=>
  simp only[dE]at hm;split at hm
  .rename_i l hp;cases hm;exact vt h none hp hsc (ck.1 hu)
  .cases hm
 |dF f caps=>
  unfold dE at hm;split at hm
  .rename_i h1;cases h1
  .rename_i h1;cases h1
  .rename_i f' hd off h1;cases h1;split at hm
   .rename_i l hp;cases hm;have hu:=ck.1 hu;simp only[ae]at hu;obtain⟨us,rfl,hus⟩:=hu;simp only[ar]at hus;obtain⟨u0,us',e1,e2,e3⟩:=hus;subst e3;have:=vt h (some f) hp hsc (by simp only[ae];exact e2);rw[show us= #[u0] from er (by simpa using e1)];exact this
   .cases hm
  .rename_i h1;cases h1
  .cases hm
 |own hd lo n=>
  simp only[dE]at hm;cases hg:ax r hd with
  |none=>simp[hg]at hm
  |some res=>
   simp only[hg]at hm;cases hds:cQ res.cells with
   |none=>simp[hds]at hm
   |some ds=>
    simp only[hds]at hm;by_cases hcond:res.var=false/\res.fz=false/\lo=0
    .rw[ao hcond]at hm;obtain⟨hv,hf,rfl⟩:=hcond;cases hm;have hr:=ck.1 hu;simp only[ae]at hr;have hown:=hr.2.2 res hg;obtain⟨hlk,_⟩:=bh hg;obtain⟨ds0,k1,k2,k3⟩:=(h.rs _ _ _ hlk).1.row hv;rw[k1,eE]at hds;cases hds;have hγ:∀k,γM r β (.r hd n) k=β hd.s hd.j:=λ k=>by simp[γM]
     refine⟨.val u,u,λ zs vs hz=> ?_,λ bb hb=> ?_,λ i j bb o o' sz n ds bo sz' n' ds' bo' hi hj' hbi hbj=> ?_,rfl,res,hg,hf,hown⟩
     .simp only[aV];refine⟨u,[],vs,rfl,rfl, ?_,hz _⟩;rw[hγ];simp only[cy];obtain⟨_,h2,h3,ad,h4,h5⟩:=hown;refine⟨by rw[k1]at h2;simpa using h2,by omega,k2,ad,by simpa using h4, ?_⟩;rcases h5 with h5|⟨b,o,h5,h6⟩
      .exact .inl (by simpa using h5)
      .exact .inr ⟨b,o,h5,by simpa using h6⟩
     .simp only[br,NB,hγ]at hb;rcases hb with⟨o,hb⟩|hb
      .exact⟨⟨hd.j,res,o,rfl,hlk,hf,hb⟩,by simp[bI]⟩
      .exact hb.elim
     .simp only[br]at hi hj';cases i with
      |zero=>cases j with
       |zero=>rfl
       |succ j=>simp at hj'
      |succ i=>simp at hi
    .rw[aj hcond]at hm;cases hm
theorem pJ (h:aw cx ⟨v,r⟩ a w β) {dst:Option Nat} {aI:List Nat} {l':List RO}:∀{i:Nat} {xs:List AV} {ys:List Arg} {us:List Value},eO r i xs=some (ys,mv)->dB r dst mv aI l'->mv.s ∉ fE i xs->aL cx w r β xs us->
  ∃x y u hold,dE r x=some (y,mv)/\
   (∀(zs:List Arg) (vs:List Value),(∀k,aV cx.P w (Av cx r β) (MB r β mv) (γM r β mv) k zs [] vs)->aV cx.P w (Av cx r β) (MB r β mv) (γM r β mv) 0 (ys++zs) [hold] (us++vs))/\
   br ys=br [y]/\
   (∀b,NB (γM r β mv) 0 (br [y]) b->MB r β mv b/\b ∉ bI [hold])/\jW (γM r β mv) (br [y])/\
   lW r β mv hold u
 |_,[],ys,us,hm,_,_,_=>by simp[eO]at hm
 |0,x::xs,ys,us,hm,hsc,hs,hu=>by
  simp only[eO]at hm;split at hm
  .rename_i y mv' ys' g1 g2;cases hm;simp only[aL]at hu;obtain⟨u,us',rfl,h1,h2⟩:=hu;obtain⟨hold,u1,q1,q2,q3,q4⟩:=C' h g1 hsc h1;refine⟨x,y,u1,hold,g1,λ zs vs hz=> ?_, ?_,q2,q3,q4⟩
   .exact q1 (ys'++zs) (us'++vs) (λ k=>sG h g2 (by simpa[fE]using hs) h2 (hz k))
   .have:=jD [y] ys';simp only[iE,kx]at this;rw[this,jF g2,dz]
  .cases hm
 |i+1,x::xs,ys,us,hm,hsc,hs,hu=>by
  simp only[eO]at hm;split at hm
  .rename_i y ys' mv' g1 g2;cases hm;simp only[fE,eQ,not_or]at hs;simp only[aL]at hu;obtain⟨u,us',rfl,h1,h2⟩:=hu;obtain⟨x',y',u',hold,q0,q1,q2,q3⟩:=pJ h g2 hsc hs.2 h2;refine⟨x',y',u',hold,q0,λ zs vs hz=> ?_,q2,q3⟩;simp only[iE,aV];exact⟨u,us'++vs,rfl,tA h g1 hs.1 h1,q1 zs vs hz⟩
  .cases hm
end
section
variable {cx:Cx} {v:List AV} {r r':Rs} {a:Act} {w w':World} {β β':Nat->Nat->Pl} {T:Nat->Option TI} {c:Bool} {mv:Mv}
theorem aw.dv (h:aw cx ⟨v,r⟩ a w β) {L:List RO} {γ:Nat->Pl} {bl:List Nat} {idx:Nat->Nat×Nat}
  (nx:∀s,af r s≤af r' s)
  (aP:∀(hd:Hd) (res':aM),hd.e<af r hd.s->ax r' hd=some res'->
   ∃res,ax r hd=some res/\β' hd.s hd.j=β hd.s hd.j/\res'.var=res.var/\res'.sz=res.sz/\res.cells.length≤res'.cells.length)
  (cls:∀s j res,aq r' s j=some res->res.e<af r' s/\
   ((aq r s j=some res/\β' s j=β s j/\¬(s=mv.s/\mv.has j))∨
    (∃m sz n ds bo,L[m]? =some (.own sz n ds bo)/\β' s j=γ m/\res.var=false/\res.fz=false/\res.sz=sz/\res.cells=ds.map C.d/\(res.cf=false->bo=false∨∀b,MB r β mv b->cx.n0≤b)/\idx m=(s,j))∨
    (∃res0 b,aq r s j=some res0/\res0.fz=false/\s=mv.s/\mv.has j/\β' s j=β s j/\res.var=true/\res.fz=false/\res.cf=res0.cf/\(β s j).base=some (b,0)/\b∈bl/\
     ∃cs e,w'.heap[b]? =some (.cells cs e (0,0))/\(∀u∈cs.toList,flat u=true)/\(Ext cx w r β w' r' β'->(∀b,Av cx r' β' b->Av cx r β b∨NB γ 0 L b)->ar cx w' r' β' res.cells cs.toList))))
  (hrow:∀m sz n ds bo,L[m]? =some (.own sz n ds bo)->bL w' (λ b=>Av cx r β b∨NB γ 0 L b) (γ m) sz ds)
  (hnb:∀b,NB γ 0 L b->(w.heap.size≤b∨MB r β mv b)/\b ∉ bl)
  (hfresh:∀(i sz n:Nat) (ds:List D) (b o:Nat),L[i]? =some (.own sz n ds false)->(γ i).base=some (b,o)->w.heap.size≤b)
  (hap:jW γ L) (hsz:w.heap.size≤w'.heap.size) (hold:∀b,b<w.heap.size->¬MB r β mv b->w'.heap[b]? =w.heap[b]?) (hos:w'.os=w.os) (hout:w'.output=w.output):
  aw cx ⟨v,r'⟩ a w' β'/\Ext cx w r β w' r' β'/\∀b,Av cx r' β' b->Av cx r β b∨NB γ 0 L b:=by
 have hAv:∀b,Av cx r' β' b->Av cx r β b∨NB γ 0 L b:=λ b hA=>by
  rcases hA with hA|⟨s,j,res,o,hl,hf,hb⟩
  .exact .inl (.inl hA)
  .obtain⟨_,hc⟩:=cls s j res hl;rcases hc with⟨g1,g2,_⟩|⟨m,sz,n,ds,bo,g1,g2,_⟩|⟨res0,b',g1,g2,_,_,g3,_⟩
   .exact .inl (.inr ⟨s,j,res,o,g1,hf,by rw[←g2];exact hb⟩)
   .rw[g2]at hb;exact .inr (fm (k:=0) g1 (by rw[bu];exact hb))
   .rw[g3]at hb;exact .inl (.inr ⟨s,j,res0,o,g1,g2,hb⟩)
 have hx:Ext cx w r β w' r' β':=by
  refine⟨nx,aP,⟨λ b hb hA=>hold b hb λ hm=>hA (.inr hm.ob),λ b hb hA=> ?_⟩,λ b hb hn=>hold b (c9 hb h.n0) λ hm=> ?_,hos,hout⟩
  .rcases hAv b hA with h'|h'
   .exact h'
   .rcases(hnb b h').1 with h1|h1
    .omega
    .exact .inr h1.ob
  .rcases hm.fr h with h1|h1
   .omega
   .exact hn h1
 have hkeep:∀{s j res b o},aq r s j=some res->¬(s=mv.s/\mv.has j)->(β s j).base=some (b,o)->¬MB r β mv b:=λ {s j res b o} hl hm hb hM=>by
  obtain⟨k,res',o',m1,m2,m3,m4⟩:=hM;cases hf:res.fz with
  |false=>
   obtain⟨e1,e2⟩:=h.inj _ _ _ _ _ _ _ _ _ hl hf m2 m3 hb m4;exact hm ⟨e1,by rw[e2];exact m1⟩
  |true=>
   have hok:=(h.rs _ _ _ hl).1;unfold bn at hok;rw[aj (by simp[h.vz _ _ _ hl hf])]at hok;obtain⟨_,_,_,g⟩:=hok;exact g hf b o hb (.inr ⟨_,k,res',o',m2,m3,m4⟩)
 refine⟨h.mk' hx (λ s j res hl=> ?_) (λ s j res s' j' res' b o o' hl hf hl' hf' hb hb'=> ?_) (λ s j res b o hl hf hb=> ?_) hsz,hx,hAv⟩
 .obtain⟨he,hc⟩:=cls s j res hl;refine⟨?_,he⟩;rcases hc with⟨g1,g2,g3⟩|⟨m,sz,n,ds,bo,g1,g2,g3,g4,g5,g6,_,_⟩|⟨res0,b,g1,g2,g3,g4,g5,g6,g7,g8,g9,g10,cs,e,g11,g12,g13⟩
  .rw[g2];have hok:=(h.rs _ _ _ g1).1;exact hok.ext hx (λ b o hb=>hold b (hok.lt hb) (hkeep g1 g3 hb)) (λ b o hb=>hok.lt hb)
  .unfold bn;rw[aj (by simp[g3]),g2];refine⟨ds,g6, ?_,λ hf=>by rw[g4]at hf;cases hf⟩;rw[g5];exact(hrow m sz n ds bo g1).bC ⟨λ _ _ _=>rfl,λ b _ hb=>hAv b hb⟩ (λ _ _ _=>rfl)
  .unfold bn;rw[ao g6,g5];exact⟨g7,b,cs,e,g9,g11,g13 hx hAv,g12⟩
 .obtain⟨_,hc⟩:=cls s j res hl;obtain⟨_,hc'⟩:=cls s' j' res' hl';rcases hc with⟨g1,g2,g3⟩|⟨m,sz,n,ds,bo,g1,g2,g3,g4,g5,g6,_,g7⟩|⟨res0,b0,g1,g2,g3,g4,g5,g6,g7,g8,g9,g10,_⟩<;>
   rcases hc' with⟨k1,k2,k3⟩|⟨m',sz',n',ds',bo',k1,k2,k3,k4,k5,k6,_,k7⟩|⟨res0',b0',k1,k2,k3,k4,k5,k6,k7,k8,k9,k10,_⟩
  .rw[g2]at hb;rw[k2]at hb';exact h.inj _ _ _ _ _ _ _ _ _ g1 hf k1 hf' hb hb'
  .rw[g2]at hb;rw[k2]at hb';have hlt:=(h.rs _ _ _ g1).1.lt hb;rcases(hnb b (fm (k:=0) k1 (by rw[bu];exact hb'))).1 with q|q
   .omega
   .exact absurd q (hkeep g1 g3 hb)
  .rw[g2]at hb;rw[k5]at hb';exact h.inj _ _ _ _ _ _ _ _ _ g1 hf k1 k2 hb hb'
  .rw[g2]at hb;rw[k2]at hb';have hlt:=(h.rs _ _ _ k1).1.lt hb';rcases(hnb b (fm (k:=0) g1 (by rw[bu];exact hb))).1 with q|q
   .omega
   .exact absurd q (hkeep k1 k3 hb')
  .rw[g2]at hb;rw[k2]at hb';have:=hap m m' b o o' sz n ds bo sz' n' ds' bo' g1 k1 hb hb';subst this;rw[g7]at k7;cases k7;exact⟨rfl,rfl⟩
  .rw[g2]at hb;rw[k5,k9]at hb';cases hb';exact absurd k10 (hnb b (fm (k:=0) g1 (by rw[bu];exact hb))).2
  .rw[g5]at hb;rw[k2]at hb';exact h.inj _ _ _ _ _ _ _ _ _ g1 g2 k1 hf' hb hb'
  .rw[g5,g9]at hb;rw[k2]at hb';cases hb;exact absurd g10 (hnb b (fm (k:=0) k1 (by rw[bu];exact hb'))).2
  .rw[g5]at hb;rw[k5]at hb';exact h.inj _ _ _ _ _ _ _ _ _ g1 g2 k1 k2 hb hb'
 .obtain⟨_,hc⟩:=cls s j res hl;rcases hc with⟨g1,g2,g3⟩|⟨m,sz,n,ds,bo,g1,g2,g3,g4,g5,g6,g8,g7⟩|⟨res0,b0,g1,g2,g3,g4,g5,g6,g7,g8,g9,g10,_⟩
  .rw[g2]at hb;exact h.fr _ _ _ _ _ g1 hf hb
  .rw[g2]at hb;have hn0:=h.n0;rcases(hnb b (fm (k:=0) g1 (by rw[bu];exact hb))).1 with q|q
   .exact⟨.inl (by omega),λ _=>by omega⟩
   .refine⟨q.fr h,λ hbor=> ?_⟩;rcases g8 hbor with q'|q'
    .subst q';have:=hfresh m sz n ds b o g1 hb;omega
    .exact q' b q
  .rw[g5]at hb;rw[g8];exact h.fr _ _ _ _ _ g1 g2 hb
theorem v3 (h:aw cx ⟨v,r⟩ a w β) (hB:hG r mv=false):∀b,MB r β mv b->cx.n0≤b:=λ b hb=>by
 obtain⟨j,res,o,_,h2,h3,h4⟩:=hb;refine(h.fr _ _ _ _ _ h2 h3 h4).2 ?_;unfold hG at hB;unfold aq at h2;cases hrs:aa mv.s r with
 |none=>simp[hrs]at h2
 |some rs=>
  simp only[hrs]at h2 hB;have hj:rs.l[j]? =some (some res):=by
   split at h2
   .rename_i q hq;cases h2;exact hq
   .cases h2
  have:=List.any_eq_false.1 hB (some res) (kF hj);simpa using this
theorem me {B:Bool} {e s:Nat} {L:List (Option aM)} {l:List RO} {next j:Nat} {x:Option aM} {res:aM} (hl:aq (az s ⟨next,x::cT B e l⟩ r) s j=some res):
  (j=0/\x=some res)∨∃k sz n ds bo,j=k+1/\l[k]? =some (.own sz n ds bo)/\res={rowAt e sz ds with cf:=bo&&B}:=by
 rw[dy,ao rfl]at hl;cases j with
 |zero=>
  simp only[bG]at hl;split at hl
  .rename_i q hq;cases hl;simp only[aF]at hq;exact .inl ⟨rfl,hq⟩
  .cases hl
 |succ k=>
  simp only[fI]at hl;split at hl
  .rename_i q hq;cases hl;obtain⟨sz,n,ds,bo,g1,g2⟩:=nu hq;exact .inr ⟨k,sz,n,ds,bo,rfl,g1,g2⟩
  .cases hl
def j3 (dst:Option Nat) (rfs:List RF):Option Nat:=if eu (rfs.flatMap RF.cells)=true then none else dst
def dp (B:Bool) (r1:Rs) (od:Option Nat) (cells:List RO):Rs:=
 match od with
 |some d=>az d {next:=af r1 d+1,l:=none::cT B (af r1 d) cells} r1
 |none=>r1
theorem kW {B:Bool} {r1:Rs} {dst:Option Nat} {rfs:List RF}:(eD B r1 dst rfs).2=dp B r1 (j3 dst rfs) (rfs.flatMap RF.cells):=by
 unfold eD j3 dp;simp only;split
 .rfl
 .cases dst<;>rfl
theorem wv {B:Bool} {r1:Rs} {dst:Option Nat} {rfs:List RF} {u:Value} {us:List Value} {γ:Nat->Pl} {A:Nat->Prop} (hu:u=(match us with|[x]=>x|us=> .tuple us.toArray))
  (hA:∀b,Av cx (eD B r1 dst rfs).2 β' b->A b) (h2:cM A w' γ 0 rfs us) (hγ:∀d k,j3 dst rfs=some d->k<(rfs.flatMap RF.cells).length->β' d (k+1)=γ k):
  ak cx w' (eD B r1 dst rfs).2 β' (eD B r1 dst rfs).1 u:=by
 unfold eD at hA⊢;simp only at hA⊢;split
 .rename_i hn;rw[ao hn]at hA;exact mo hu (kh (γ:=γ) hA (λ i sz n ds bo hi=>absurd hi (nJ hn i sz n ds bo)) h2)
 .rename_i hn;rw[aj hn]at hA;cases dst with
  |none=>simp[ak,ae]
  |some d=>
   simp only at hA⊢;refine mo hu (kh (γ:=γ) hA (λ i sz n ds bo hi=> ?_) h2);refine⟨⟨bo&&B,dH ?_ rfl⟩,by rw[bu];exact hγ d i (by unfold j3;rw[aj hn]) (bq.1 hi).1,by rw[c6,ao rfl];exact eH _⟩;rw[dy,ao rfl];simp[kd hi,rowAt]
end
section
variable {cx:Cx} {v:List AV} {r r':Rs} {a:Act} {w w':World} {β β':Nat->Nat->Pl} {T:Nat->Option TI} {c:Bool} {mv:Mv}
theorem bM.kt {A:Nat->Prop} {γ:Nat->Pl} {m:Nat}:∀{l:List RO} {k:Nat} {us:List Value},bM A w γ (m+k) l us->bM A w (λ i=>γ (m+i)) k l us
 |[],_,_,h=>h
 |x::l,k,us,h=>by simp only[bM]at h⊢;obtain⟨u,us',rfl,h1,h2⟩:=h;exact⟨u,us',rfl,h1,bM.kt (k:=k+1) h2⟩
theorem ik {B:Bool} {r1:Rs} {od:Option Nat} {cells:List RO} {s:Nat}:af (dp B r1 od cells) s=if od=some s then af r1 s+1 else af r1 s:=by
 cases od with
 |none=>simp[dp]
 |some d=>
  simp only[dp,c6,aF];by_cases h:d=s
  .subst h;simp
  .simp[h]
theorem mf {B:Bool} {r1:Rs} {od:Option Nat} {cells:List RO} {s j:Nat} (h:od≠some s):aq (dp B r1 od cells) s j=aq r1 s j:=by
 cases od with
 |none=>rfl
 |some d=>simp only[dp,dy];rw[aj (λ e=>h (by rw[e]))]
theorem vJ {dst:Option Nat} {rfs:List RF} {aI:List Nat} {s:Nat} (h:(dl dst++aI).contains s=false):j3 dst rfs≠some s:=by
 unfold j3;split
 .simp
 .intro e;rw[e]at h;simp[dl]at h
theorem Eb (h:aw cx ⟨v,r⟩ a w β) {hd:Hd} {res:aM} {b:Nat} {dst:Option Nat} {aI:List Nat} {l':List RO} {rfs:List RF} {u:Value} (hg:ax r hd=some res) (hv:res.var=true) (hj:hd.j=0)
  (hbase:(β hd.s 0).base=some (b,0)) (hsc:dB r dst (.o hd) aI l') (hr:dT w (Av cx r β) (MB r β (.o hd)) w' [.bP b] rfs [l'] u):
  ∃β',aw cx ⟨v,(bindM r dst (.o hd) rfs l').2⟩ a w' β'/\ak cx w' (bindM r dst (.o hd) rfs l').2 β' (bindM r dst (.o hd) rfs l').1 u:=by
 simp only[dB,hg]at hsc;obtain⟨s1,s2⟩:=hsc;obtain⟨⟨γ,us,m1,m2,m3,m4,m5,m6⟩,hsz,hold,hos,hout⟩:=hr;have hod:=vJ (rfs:=rfs) s1;have hbof:=v3 (mv:= .o hd) h;unfold bindM;generalize hB:hG r (.o hd)=B at*;have hbo:∀{bo:Bool},(bo&&B)=false->bo=false∨∀b,MB r β (.o hd) b->cx.n0≤b:=λ {bo} hb=>by
  cases bo with
  |false=>exact .inl rfl
  |true=>exact .inr (hbof (by simpa using hb))
 rw[show fJ r (.o hd) l'=az hd.s {next:=af r hd.s+1,l:=some {res with cells:=cX hd.s (af r hd.s) 0 l'}::cT B (af r hd.s) l'} r by simp only[fJ,hg,hB]];generalize hr1:az hd.s {next:=af r hd.s+1,l:=some {res with cells:=cX hd.s (af r hd.s) 0 l'}::cT B (af r hd.s) l'} r=r1;have hL:bA rfs [l']=rfs.flatMap RF.cells++l':=by simp[bA]
 rw[hL]at m2 m3 m4 m5 m6;rw[kW]at*;generalize hcs:rfs.flatMap RF.cells=cs at*;generalize hodd:j3 dst rfs=od at*;obtain⟨hlk,hee⟩:=bh hg;rw[hj]at hlk
 let β':Nat->Nat->Pl:=λ s j=>if od=some s then γ (j - 1)else if s=hd.s then(if j=0 then β hd.s 0 else γ (cs.length+(j - 1)))else β s j
 have hnx1:∀s,s≠hd.s->af r1 s=af r s:=λ s hs=>by rw[←hr1,c6,aj (du hs)]
 have hnxS:af r1 hd.s=af r hd.s+1:=by rw[←hr1,c6,ao rfl]
 have hlk1:∀s j,s≠hd.s->aq r1 s j=aq r s j:=λ s j hs=>by rw[←hr1,dy,aj (du hs)]
 have hlt:hd.e<af r hd.s:=by rw[←hee];exact(h.rs _ _ _ hlk).2
 have hf:res.fz=false:=by have hok:=(h.rs _ _ _ hlk).1;unfold bn at hok;rw[ao hv]at hok;exact hok.1
 -- what stands where
 have hat:∀s j res',aq (dp B r1 od cs) s j=some res'->
   (∃k sz n ds bo,od=some s/\j=k+1/\cs[k]? =some (.own sz n ds bo)/\res'={rowAt (af r s) sz ds with cf:=bo&&B})∨
   (od≠some s/\s=hd.s/\((j=0/\res'={res with cells:=cX hd.s (af r hd.s) 0 l'})∨∃k sz n ds bo,j=k+1/\l'[k]? =some (.own sz n ds bo)/\res'={rowAt (af r hd.s) sz ds with cf:=bo&&B}))∨
   (od≠some s/\s≠hd.s/\aq r s j=some res'):=λ s j res' hl=>by
  by_cases ho:od=some s
  .subst ho;have hs:s≠hd.s:=λ e=>hod (by rw[e])
   simp only[dp]at hl;rw[hnx1 s hs]at hl;rcases me (L:=[]) hl with⟨_,e⟩|⟨k,sz,n,ds,bo,e1,e2,e3⟩
   .cases e
   .exact .inl ⟨k,sz,n,ds,bo,rfl,e1,e2,e3⟩
  .rw[mf ho]at hl;by_cases hs:s=hd.s
   .subst hs;rw[←hr1]at hl;rcases me (L:=[]) hl with⟨e1,e2⟩|⟨k,sz,n,ds,bo,e1,e2,e3⟩
    .cases e2;exact .inr (.inl ⟨ho,rfl, .inl ⟨e1,rfl⟩⟩)
    .exact .inr (.inl ⟨ho,rfl, .inr ⟨k,sz,n,ds,bo,e1,e2,e3⟩⟩)
   .rw[hlk1 s j hs]at hl;exact .inr (.inr ⟨ho,hs,hl⟩)
 have hobj:=m3;simp only[dO]at hobj;obtain⟨⟨arr,e,o1,o2,o3⟩,_⟩:=hobj;obtain⟨q1,q2,q3⟩:=h.dv (r':=dp B r1 od cs) (β':=β') (mv:= .o hd) (L:=cs++l') (γ:=γ) (bl:=[b]) (idx:=λ m=>if m<cs.length then(od.getD 0,m+1)else(hd.s,m - cs.length+1))
  (λ s=>by
   rw[ik];by_cases hs:s=hd.s
   .subst hs;rw[hnxS];split<;>omega
   .rw[hnx1 s hs];split<;>omega)
  (λ hd' res' hlt' hg'=>by
   obtain⟨hl',he'⟩:=bh hg';rcases hat _ _ _ hl' with⟨k,sz,n,ds,bo,e1,e2,e3,e4⟩|⟨e1,e2,⟨e3,e4⟩|⟨k,sz,n,ds,bo,e3,e4,e5⟩⟩|⟨e1,e2,e3⟩
   .rw[e4]at he';simp only[rowAt]at he';omega
   .rw[e4]at he'⊢;simp only at he'⊢;refine⟨res,dH (by rw[e2,e3];exact hlk) he', ?_,rfl,rfl,by rw[l8,s2];exact Nat.le_refl _⟩;simp only[β',e3,e2];rw[aj hod];simp
   .rw[e5]at he';simp only[rowAt]at he';rw[e2]at hlt';omega
   .refine⟨res',dH e3 he', ?_,rfl,rfl,Nat.le_refl _⟩;simp only[β'];rw[aj e1,aj e2])
  (λ s j res' hl=>by
   rcases hat _ _ _ hl with⟨k,sz,n,ds,bo,e1,e2,e3,e4⟩|⟨e1,e2,⟨e3,e4⟩|⟨k,sz,n,ds,bo,e3,e4,e5⟩⟩|⟨e1,e2,e3⟩
   .have hs:s≠hd.s:=λ e=>hod (by rw[e1,e])
    have hk:=(bq.1 e3).1;refine⟨by rw[ik,ao e1,hnx1 s hs,e4];simp[rowAt], .inr (.inl ⟨k,sz,n,ds,bo,by rw[bJ hk];exact e3, ?_,by rw[e4];rfl,by rw[e4];rfl,by rw[e4];rfl,by rw[e4];rfl, ?_, ?_⟩)⟩
    .simp only[β'];rw[ao e1,e2];rfl
    .rw[e4];intro hb;exact hbo hb
    .simp only[ao hk,e1,e2];rfl
   .subst e2 e3;refine⟨by rw[ik,aj e1,hnxS,e4];simp only;omega, .inr (.inr ⟨res,b,hlk,hf,rfl,trivial, ?_,by rw[e4];exact hv,by rw[e4];exact hf,by rw[e4],hbase,by simp,arr,e,o1,o3,λ hx hA=> ?_⟩)⟩
    .simp only[β'];rw[aj e1];simp
    .rw[e4];simp only;refine ke (γ:=λ k=>γ (cs.length+k)) (A:=λ b=>Av cx r β b∨NB γ 0 (cs++l') b) hA (λ i sz n ds bo hi=> ?_) (bM.kt (m:=cs.length) (k:=0) o2);refine⟨⟨bo&&B,dH ?_ rfl⟩, ?_, ?_⟩
     .rw[mf hod,←hr1,dy,ao rfl];simp only[bu,fI,kd hi]
     .simp only[β',bu];rw[aj hod];simp
     .rw[ik,aj hod,hnxS];omega
   .subst e2;refine⟨by rw[ik,aj e1,hnxS,e5];simp[rowAt], .inr (.inl ⟨cs.length+k,sz,n,ds,bo,by rw[bT (ej _ _)];simpa using e4, ?_,by rw[e5];rfl,by rw[e5];rfl,by rw[e5];rfl,by rw[e5];rfl, ?_, ?_⟩)⟩
    .simp only[β'];rw[aj e1,e3];simp
    .rw[e5];intro hb;exact hbo hb
    .rw[aj (by omega),e3];simp
   .refine⟨?_, .inl ⟨e3, ?_,λ hh=>e2 hh.1⟩⟩
    .rw[ik,aj e1,hnx1 s e2];exact(h.rs _ _ _ e3).2
    .simp only[β'];rw[aj e1,aj e2])
  (λ m sz n ds bo hm=>by
   rcases fg m cs.length with q|q
   .rw[bJ q]at hm;have:=cM.row m2 (i:=m) (by rw[hcs];exact hm)
    rwa[bu]at this
   .rw[bT q]at hm;have:=bM.row o2 hm
    rwa[show cs.length+(m - cs.length)=m by omega]at this)
  (λ b' hb'=>by have:=m4 b' hb';simpa[bI]using this) m5 m6 hsz hold hos hout
 refine⟨β',q1, ?_⟩;have hfin:=wv (cx:=cx) (w':=w') (β':=β') (B:=B) (r1:=r1) (dst:=dst) (rfs:=rfs) (γ:=γ) (A:=λ b=>Av cx r β b∨NB γ 0 (cs++l') b) m1
  (λ b hb=>q3 b (by rw[kW,hcs,hodd]at hb;exact hb)) m2 (λ d k hd' hk=>by simp only[β'];rw[←hodd,hd',ao rfl];rfl)
 rw[kW,hcs,hodd]at hfin;exact hfin
theorem EJ (h:aw cx ⟨v,r⟩ a w β) {hd:Hd} {n0:Nat} {res:aM} {u0:Value} {dst:Option Nat} {aI:List Nat} {l':List RO} {rfs:List RF} {u:Value} (hg:ax r hd=some res) (hf:res.fz=false)
  (hown:hE (β hd.s hd.j) res 0 n0 u0) (hsc:dB r dst (.r hd n0) aI l') (hr:dT w (Av cx r β) (MB r β (.r hd n0)) w' [.val u0] rfs [l'] u):
  ∃β',aw cx ⟨v,(bindM r dst (.r hd n0) rfs l').2⟩ a w' β'/\ak cx w' (bindM r dst (.r hd n0) rfs l').2 β' (bindM r dst (.r hd n0) rfs l').1 u:=by
 simp only[dB,hg]at hsc;obtain⟨s1,s2⟩:=hsc;obtain⟨⟨γ,us,m1,m2,m3,m4,m5,m6⟩,hsz,hold,hos,hout⟩:=hr;have hod:=vJ (rfs:=rfs) s1;obtain⟨hlk,hee⟩:=bh hg;obtain⟨rs,hrs,hrj⟩:∃rs,aa hd.s r=some rs/\rs.l[hd.j]? =some (some res):=by
  unfold aq at hlk;cases hrs:aa hd.s r with
  |none=>simp[hrs]at hlk
  |some rs=>
   simp only[hrs]at hlk;refine⟨rs,rfl, ?_⟩;split at hlk
   .rename_i q hq;cases hlk;exact hq
   .cases hlk
 have hjlt:hd.j<rs.l.length:=(bq.1 hrj).1;have hbof:=v3 (mv:= .r hd n0) h;unfold bindM;generalize hB:hG r (.r hd n0)=B at*;have hbo:∀{bo:Bool},(bo&&B)=false->bo=false∨∀b,MB r β (.r hd n0) b->cx.n0≤b:=λ {bo} hb=>by
  cases bo with
  |false=>exact .inl rfl
  |true=>exact .inr (hbof (by simpa using hb))
 -- what stands at the row's place behind the call
 obtain⟨x,hx,hx2⟩:∃x:Option aM,fJ r (.r hd n0) l'=az hd.s {rs with l:=rs.l.set hd.j x} r/\
   (x=none∨∃sz ds bo,l'=[.own sz n0 ds bo]/\0<n0/\sz=res.sz/\ds.length=res.cells.length/\x=some {res with cells:=ds.map C.d}):=by
  simp only[fJ,hg,hrs];split at s2
  .exact⟨none,rfl, .inl rfl⟩
  .rename_i sz n' ds' bo;obtain⟨e1,e2,e3,e4⟩:=s2;subst e1;exact⟨_,rfl, .inr ⟨sz,ds',bo,rfl,e2,e3,e4,rfl⟩⟩
  .exact s2.elim
 rw[hx];generalize hr1:az hd.s {rs with l:=rs.l.set hd.j x} r=r1;have hL:bA rfs [l']=rfs.flatMap RF.cells++l':=by simp[bA]
 rw[hL]at m2 m3 m4 m5 m6;rw[kW]at*;generalize hcs:rfs.flatMap RF.cells=cs at*;generalize hodd:j3 dst rfs=od at*
 let β':Nat->Nat->Pl:=λ s j=>if od=some s then γ (j - 1)else β s j
 have hns:af r hd.s=rs.next:=by unfold af;simp only[hrs]
 have hnx1:∀s,af r1 s=af r s:=λ s=>by
  rw[←hr1,c6];split
  .rename_i e;subst e;exact hns.symm
  .rfl
 have hobj:=m3;simp only[dO]at hobj
 -- a row that comes back lies where it lay
 have hback:∀sz ds bo,l'=[.own sz n0 ds bo]->0<n0->γ cs.length=β hd.s hd.j:=λ sz ds bo e hp=>by
  subst e;have h1:=hobj.1.resolve_left (by simp);simp only[bM,cy]at h1;obtain⟨u1,us1,e1,⟨_,g2,_,ad,g3,g4⟩,_⟩:=h1;cases e1;obtain⟨_,_,k1,ad',k2,k3⟩:=hown;rw[g3]at k2;simp only[Value.slice.injEq,Nat.sub_zero,ca]at k2;obtain⟨rfl,k4⟩:=k2;have hc0:(γ cs.length).cap≠0:=by omega
  obtain⟨b1,o1,p1,p2⟩:=g4.resolve_left hc0;obtain⟨b2,o2,p3,p4⟩:=k3.resolve_left (by omega);rw[p2]at p4;simp only[Nat.zero_mul,eo,aF,Addr.mk.injEq,cc]at p4;obtain⟨rfl,rfl⟩:=p4;cases hγ:γ cs.length with
  |mk bs1 c1=>
   cases hβ:β hd.s hd.j with
   |mk bs2 c2=>
    rw[hγ]at p1 k4;rw[hβ]at p3 k4;simp only at p1 p3 k4;rw[p1,p3,k4]
 have hat:∀s j res',aq (dp B r1 od cs) s j=some res'->
   (∃k sz n ds bo,od=some s/\j=k+1/\cs[k]? =some (.own sz n ds bo)/\res'={rowAt (af r s) sz ds with cf:=bo&&B})∨
   (od≠some s/\s=hd.s/\j=hd.j/\∃sz ds bo,l'=[.own sz n0 ds bo]/\0<n0/\sz=res.sz/\ds.length=res.cells.length/\res'={res with cells:=ds.map C.d})∨
   (od≠some s/\¬(s=hd.s/\j=hd.j)/\aq r s j=some res'):=λ s j res' hl=>by
  by_cases ho:od=some s
  .subst ho;simp only[dp]at hl;rw[hnx1 s]at hl;rcases me (L:=[]) hl with⟨_,e⟩|⟨k,sz,n,ds,bo,e1,e2,e3⟩
   .cases e
   .exact .inl ⟨k,sz,n,ds,bo,rfl,e1,e2,e3⟩
  .rw[mf ho]at hl;rw[←hr1,dy]at hl;by_cases hs:hd.s=s
   .subst hs;rw[ao rfl]at hl;simp only at hl;by_cases hjj:hd.j=j
    .subst hjj;rw[lI hjlt]at hl;rcases hx2 with rfl|⟨sz,ds,bo,f1,f2,f3,f4,rfl⟩
     .simp at hl
     .simp only[aF]at hl;exact .inr (.inl ⟨ho,rfl,rfl,sz,ds,bo,f1,f2,f3,f4,hl.symm⟩)
    .rw[fV hjj]at hl;refine .inr (.inr ⟨ho,λ e=>hjj e.2.symm, ?_⟩);unfold aq;simp only[hrs];exact hl
   .rw[aj hs]at hl;exact .inr (.inr ⟨ho,λ e=>hs e.1.symm,hl⟩)
 obtain⟨q1,q2,q3⟩:=h.dv (r':=dp B r1 od cs) (β':=β') (mv:= .r hd n0) (L:=cs++l') (γ:=γ) (bl:=[]) (idx:=λ m=>if m<cs.length then(od.getD 0,m+1)else(hd.s,hd.j))
  (λ s=>by rw[ik,hnx1 s];split<;>omega)
  (λ hd' res' hlt' hg'=>by
   obtain⟨hl',he'⟩:=bh hg';rcases hat _ _ _ hl' with⟨k,sz,n,ds,bo,e1,e2,e3,e4⟩|⟨e1,e2,e3,sz,ds,bo,f1,f2,f3,f4,f5⟩|⟨e1,e2,e3⟩
   .rw[e4]at he';simp only[rowAt]at he';omega
   .rw[f5]at he'⊢;simp only at he'⊢;refine⟨res,dH (by rw[e2,e3];exact hlk) he', ?_,rfl,rfl,by rw[fG,f4];exact Nat.le_refl _⟩;simp only[β'];rw[aj e1]
   .refine⟨res',dH e3 he', ?_,rfl,rfl,Nat.le_refl _⟩;simp only[β'];rw[aj e1])
  (λ s j res' hl=>by
   rcases hat _ _ _ hl with⟨k,sz,n,ds,bo,e1,e2,e3,e4⟩|⟨e1,e2,e3,sz,ds,bo,f1,f2,f3,f4,f5⟩|⟨e1,e2,e3⟩
   .have hk:=(bq.1 e3).1;refine⟨by rw[ik,ao e1,hnx1 s,e4];simp[rowAt], .inr (.inl ⟨k,sz,n,ds,bo,by rw[bJ hk];exact e3, ?_,by rw[e4];rfl,by rw[e4];rfl,by rw[e4];rfl,by rw[e4];rfl, ?_, ?_⟩)⟩
    .simp only[β'];rw[ao e1,e2];rfl
    .rw[e4];intro hb;exact hbo hb
    .simp only[ao hk,e1,e2];rfl
   .subst e2 e3;refine⟨by rw[ik,aj e1,hnx1,f5];exact(h.rs _ _ _ hlk).2, .inr (.inl ⟨cs.length,sz,n0,ds,bo,by rw[f1,bT (Nat.le_refl _)];simp, ?_,by rw[f5];exact hown.1,by rw[f5];exact hf,by rw[f5,f3],by rw[f5], ?_, ?_⟩)⟩
    .simp only[β'];rw[aj e1];exact(hback sz ds bo f1 f2).symm
    .rw[f5];intro hb;refine .inr λ b hM=> ?_
     obtain⟨k,res',o',m1,m2,m3,m4⟩:=hM;simp only[Mv.has]at m1;subst m1;rw[show aq r (Mv.r hd n0).s hd.j=aq r hd.s hd.j from rfl,hlk]at m2;cases m2;exact(h.fr _ _ _ _ _ hlk hf m4).2 hb
    .rw[aj (Nat.lt_irrefl _)]
   .refine⟨?_, .inl ⟨e3, ?_,λ hh=>e2 hh⟩⟩
    .rw[ik,aj e1,hnx1 s];exact(h.rs _ _ _ e3).2
    .simp only[β'];rw[aj e1])
  (λ m sz n ds bo hm=>by
   rcases fg m cs.length with q|q
   .rw[bJ q]at hm;have:=cM.row m2 (i:=m) (by rw[hcs];exact hm)
    rwa[bu]at this
   .rw[bT q]at hm;have o2:=hobj.1.resolve_left (λ e=>by rw[e]at hm;simp at hm);have:=bM.row o2 hm
    rwa[show cs.length+(m - cs.length)=m by omega]at this)
  (λ b' hb'=>by have:=m4 b' hb';simpa[bI]using this) m5 m6 hsz hold hos hout
 refine⟨β',q1, ?_⟩;have hfin:=wv (cx:=cx) (w':=w') (β':=β') (B:=B) (r1:=r1) (dst:=dst) (rfs:=rfs) (γ:=γ) (A:=λ b=>Av cx r β b∨NB γ 0 (cs++l') b) m1
  (λ b hb=>q3 b (by rw[kW,hcs,hodd]at hb;exact hb)) m2 (λ d k hd' hk=>by simp only[β'];rw[←hodd,hd',ao rfl];rfl)
 rw[kW,hcs,hodd]at hfin;exact hfin
theorem D7 (h:aw cx ⟨v,r⟩ a w β) {hold:ct} {u0:Value} {dst:Option Nat} {aI:List Nat} {l':List RO} {rfs:List RF} {u:Value} (hm:lW r β mv hold u0)
  (hsc:dB r dst mv aI l') (hr:dT w (Av cx r β) (MB r β mv) w' [hold] rfs [l'] u):
  ∃β',aw cx ⟨v,(bindM r dst mv rfs l').2⟩ a w' β'/\ak cx w' (bindM r dst mv rfs l').2 β' (bindM r dst mv rfs l').1 u:=by
 cases mv with
 |o hd=>
  obtain⟨res,b,h1,h2,h3,h4,rfl⟩:=hm;exact Eb h h1 h2 h3 h4 hsc hr
 |r hd n=>
  obtain⟨rfl,res,h1,h2,h3⟩:=hm;exact EJ h h1 h2 h3 hsc hr
end
section
variable {cx:Cx} {v:List AV} {r r':Rs} {a:Act} {w w':World} {β β':Nat->Nat->Pl} {T:Nat->Option TI} {c:Bool}
theorem cM.kt {A:Nat->Prop} {γ:Nat->Pl} {m:Nat}:∀{l:List RF} {k:Nat} {us:List Value},cM A w γ (m+k) l us->cM A w (λ i=>γ (m+i)) k l us
 |[],_,_,h=>h
 |x::l,k,us,h=>by
  simp only[cM]at h⊢;obtain⟨u,us',rfl,h1,h2⟩:=h;refine⟨u,us',rfl, ?_,cM.kt (k:=k+x.cells.length) (by rw[←cq];exact h2)⟩;cases x with
  |one x=>exact h1
  |agg l=>
   simp only[fP]at h1⊢;obtain⟨us,e1,e2⟩:=h1;exact⟨us,e1,bM.kt e2⟩
def lS (d:Nat) (rfs:List RF):Option Nat:=if eu (rfs.flatMap RF.cells)=true then none else some (d+pK)
theorem DX {d:Nat} {rfs:List RF} {l:List RO}:(cI r d rfs l).2=dp false (az d {next:=af r d+1,l:=some {e:=af r d,var:=true,fz:=false,sz:=0,cells:=cX d (af r d) 0 l}::cT false (af r d) l} r) (lS d rfs) (rfs.flatMap RF.cells):=by
 unfold cI lS;split
 .rfl
 .simp only[dp];rw[c6,aj (by unfold pK;omega)]
theorem Dq (h:aw cx ⟨v,r⟩ a w β) {d b:Nat} {l:List RO} {rfs:List RF} {u:Value} (hb0:w.heap.size≤b)
  (hr:dT w (λ x=>Av cx r β x∨x∈bI [.bP b]) en w' [.bP b] (.one (.d (.v (eb b)))::rfs) [l] u):
  ∃β',aw cx ⟨v,(cI r d rfs l).2⟩ a w' β'/\ak cx w' (cI r d rfs l).2 β' (cI r d rfs l).1 u:=by
 obtain⟨⟨γ,us,m1,m2,m3,m4,m5,m6⟩,hsz,hold,hos,hout⟩:=hr;have hL:bA (.one (.d (.v (eb b)))::rfs) [l]= .d (.v (eb b))::(rfs.flatMap RF.cells++l):=by simp[bA,RF.cells]
 rw[hL]at m2 m3 m4 m5 m6;generalize hcs:rfs.flatMap RF.cells=cs at*;have hlen:(List.flatMap RF.cells (.one (.d (.v (eb b)))::rfs)).length=1+cs.length:=by simp[RF.cells,hcs];omega
 rw[hlen]at m3;rw[DX,hcs];generalize hodd:lS d rfs=od at*;have hod:∀s,od=some s->s=d+pK:=λ s hs=>by rw[←hodd]at hs;unfold lS at hs;split at hs;cases hs;cases hs;rfl
 have hodn:od≠some d:=λ e=>by have:=hod d e;unfold pK at this;omega
 generalize hr1:az d {next:=af r d+1,l:=some {e:=af r d,var:=true,fz:=false,sz:=0,cells:=cX d (af r d) 0 l}::cT false (af r d) l} r=r1
 -- the places
 let β':Nat->Nat->Pl:=λ s j=>if od=some s then γ (1+(j - 1))else if s=d then(if j=0 then⟨some (b,0),1⟩else γ (1+cs.length+(j - 1)))else β s j
 have hnx1:∀s,s≠d->af r1 s=af r s:=λ s hs=>by rw[←hr1,c6,aj (du hs)]
 have hnxS:af r1 d=af r d+1:=by rw[←hr1,c6,ao rfl]
 have hlk1:∀s j,s≠d->aq r1 s j=aq r s j:=λ s j hs=>by rw[←hr1,dy,aj (du hs)]
 have hat:∀s j res',aq (dp false r1 od cs) s j=some res'->
   (∃k sz n ds bo,od=some s/\j=k+1/\cs[k]? =some (.own sz n ds bo)/\res'=rowAt (af r s) sz ds)∨
   (od≠some s/\s=d/\((j=0/\res'={e:=af r d,var:=true,fz:=false,sz:=0,cells:=cX d (af r d) 0 l})∨∃k sz n ds bo,j=k+1/\l[k]? =some (.own sz n ds bo)/\res'=rowAt (af r d) sz ds))∨
   (od≠some s/\s≠d/\aq r s j=some res'):=λ s j res' hl=>by
  by_cases ho:od=some s
  .subst ho;have hs:s≠d:=λ e=>hodn (by rw[e])
   simp only[dp]at hl;rw[hnx1 s hs]at hl;rcases me (L:=[]) hl with⟨_,e⟩|⟨k,sz,n,ds,bo,e1,e2,e3⟩
   .cases e
   .exact .inl ⟨k,sz,n,ds,bo,rfl,e1,e2,by rw[e3];simp[rowAt]⟩
  .rw[mf ho]at hl;by_cases hs:s=d
   .subst hs;rw[←hr1]at hl;rcases me (L:=[]) hl with⟨e1,e2⟩|⟨k,sz,n,ds,bo,e1,e2,e3⟩
    .cases e2;exact .inr (.inl ⟨ho,rfl, .inl ⟨e1,rfl⟩⟩)
    .exact .inr (.inl ⟨ho,rfl, .inr ⟨k,sz,n,ds,bo,e1,e2,by rw[e3];simp[rowAt]⟩⟩)
   .rw[hlk1 s j hs]at hl;exact .inr (.inr ⟨ho,hs,hl⟩)
 have hobj:=m3;simp only[dO]at hobj;obtain⟨⟨arr,e,o1,o2,o3⟩,_⟩:=hobj;obtain⟨u0,us',rfl,m20,m21⟩:∃u0 us',us=u0::us'/\u0=eb b/\cM (λ b'=>(Av cx r β b'∨b'∈bI [.bP b])∨NB γ 0 (.d (.v (eb b))::(cs++l)) b') w' γ 1 rfs us':=by simp only[cM,fP,cy,Rd,RF.cells,dK,jq]at m2;obtain⟨x,xs,e1,e2,e3⟩:=m2;exact⟨x,xs,e1,e2.1,e3⟩
 subst m20;generalize hZ:RO.d (.v (eb b))::(cs++l)=Z at*;have hZc:∀k,k<cs.length->Z[1+k]? =cs[k]? :=λ k hk=>by rw[←hZ,gW 1 k,fI,bJ hk]
 have hZl:∀k,Z[1+cs.length+k]? =l[k]? :=λ k=>by rw[←hZ,show 1+cs.length+k=(cs.length+k)+1 by omega,fI,bT (ej _ _)];simp
 have hlt:∀{s j res b o},aq r s j=some res->(β s j).base=some (b,o)->b<w.heap.size:=λ hl hb=>(h.rs _ _ _ hl).1.lt hb
 have hnew:∀{k sz n ds bo b' o},Z[k]? =some (.own sz n ds bo)->(γ k).base=some (b',o)->NB γ 0 Z b'/\w.heap.size≤b'/\b'≠b:=λ {k sz n ds bo b' o} hk hb=>by have h1:=fm (k:=0) hk (by simpa using hb);have:=m4 b' h1;exact⟨h1,this.1.resolve_right λ h=>h,λ e=>this.2 (by simp[bI,e])⟩
 -- what stands at a place:an aP one,the object,a row
 have hcase:∀s j res',aq (dp false r1 od cs) s j=some res'->
   (aq r s j=some res'/\β' s j=β s j/\s≠d/\od≠some s)∨
   (s=d/\j=0/\β' s j=⟨some (b,0),1⟩/\res'={e:=af r d,var:=true,fz:=false,sz:=0,cells:=cX d (af r d) 0 l})∨
   (∃k sz n ds bo,Z[k]? =some (.own sz n ds bo)/\β' s j=γ k/\res'=rowAt (af r s) sz ds/\(od=some s∨s=d)/\j≠0/\k=(if od=some s then j else cs.length+j)):=λ s j res' hl=>by
  rcases hat s j res' hl with⟨k,sz,n,ds,bo,e1,e2,e3,e4⟩|⟨e1,e2,⟨e3,e4⟩|⟨k,sz,n,ds,bo,e3,e4,e5⟩⟩|⟨e1,e2,e3⟩
  .exact .inr (.inr ⟨1+k,sz,n,ds,bo,by rw[hZc k (bq.1 e3).1];exact e3,by simp only[β'];rw[ao e1,e2];rfl,e4, .inl e1,by omega,by rw[ao e1];omega⟩)
  .subst e2 e3;exact .inr (.inl ⟨rfl,rfl,by simp only[β'];rw[aj e1];simp,e4⟩)
  .subst e2;exact .inr (.inr ⟨1+cs.length+k,sz,n,ds,bo,by rw[hZl];exact e4,by simp only[β'];rw[aj e1,e3];simp,e5, .inr rfl,by omega,by rw[aj e1];omega⟩)
  .exact .inl ⟨e3,by simp only[β'];rw[aj e1,aj e2],e2,e1⟩
 have hAv:∀b',Av cx (dp false r1 od cs) β' b'->Av cx r β b'∨NB γ 0 Z b'∨b'=b:=λ b' hA=>by
  rcases hA with hA|⟨s,j,res,o,hl,hf,hb⟩
  .exact .inl (.inl hA)
  .rcases hcase s j res hl with⟨q1,q2,_⟩|⟨q1,q2,q3,q4⟩|⟨k,sz,n,ds,bo,q1,q2,_⟩
   .rw[q2]at hb;exact .inl (.inr ⟨s,j,res,o,q1,hf,hb⟩)
   .rw[q3]at hb;cases hb;exact .inr (.inr rfl)
   .rw[q2]at hb;exact .inr (.inl (hnew q1 hb).1)
 have hnx:∀s,af (dp false r1 od cs) s=if od=some s∨s=d then af r s+1 else af r s:=λ s=>by
  rw[ik];by_cases hs:s=d
  .subst hs;rw[aj hodn,hnxS,ao (.inr rfl)]
  .rw[hnx1 s hs];by_cases ho:od=some s
   .rw[ao ho,ao (.inl ho)]
   .rw[aj ho,aj (by simp[ho,hs])]
 have hx:Ext cx w r β w' (dp false r1 od cs) β':=by
  refine⟨λ s=> ?_,λ hd res' hlt' hg=> ?_,⟨λ b hb' _=>hold b hb' (λ h=>h),λ b' hb' hA=> ?_⟩,λ b hb' hn=>hold b (c9 hb' h.n0) (λ h=>h),hos,hout⟩
  .rw[hnx];split<;>omega
  .obtain⟨hl,hee⟩:=bh hg;rcases hcase _ _ _ hl with⟨q1,q2,_⟩|⟨q1,q2,q3,q4⟩|⟨k,sz,n,ds,bo,q1,q2,q3,_⟩
   .exact⟨res',dH q1 hee,q2,rfl,rfl,Nat.le_refl _⟩
   .rw[q4]at hee;rw[q1]at hlt';simp only at hee;omega
   .rw[q3]at hee;simp only[rowAt]at hee;omega
  .rcases hAv b' hA with h'|h'|h'
   .exact h'
   .have:=(m4 b' h').1.resolve_right λ h=>h
    omega
   .omega
 have hA:∀b',Av cx (dp false r1 od cs) β' b'->(Av cx r β b'∨b'∈bI [.bP b])∨NB γ 0 Z b':=λ b' hA=>by
  rcases hAv b' hA with h'|h'|h'
  .exact .inl (.inl h')
  .exact .inr h'
  .exact .inl (.inr (by simp[bI,h']))
 have hbo:gz (dp false r1 od cs) β' (λ k=>γ (1+cs.length+k)) d (af r d) 0 l:=λ i sz n ds bo hi=>by
  refine⟨⟨false,dH ?_ rfl⟩, ?_, ?_⟩
  .rw[mf hodn,←hr1,dy,ao rfl];simp only[bu,fI,kd hi,Bool.and_false]
  .simp only[β',bu];rw[aj hodn];simp
  .rw[hnx,ao (.inr rfl)];omega
 have hH:aw cx ⟨v,dp false r1 od cs⟩ a w' β':=by
  refine h.mk' hx (λ s j res hl=> ?_) (λ s j res s' j' res' b1 o o' hl hf hl' hf' hbs hbs'=> ?_) (λ s j res b1 o hl hf hbs=> ?_) hsz
  .rcases hcase s j res hl with⟨q1,q2,q3,q4⟩|⟨q1,q2,q3,q4⟩|⟨k,sz,n,ds,bo,q1,q2,q3,q4,_⟩
   .obtain⟨g1,g2⟩:=h.rs s j res q1;rw[q2];exact⟨g1.ext hx (λ b o hb=>hold b (g1.lt hb) (λ h=>h)) (λ b o hb=>g1.lt hb),by rw[hnx,aj (by simp[q3,q4])];exact g2⟩
   .subst q1 q2;refine⟨?_,by rw[hnx,ao (.inr rfl),q4];exact eH _⟩;unfold bn;rw[q4,ao rfl,q3];exact⟨rfl,b,arr,e,rfl,o1,ke (A:=λ b'=>(Av cx r β b'∨b'∈bI [.bP b])∨NB γ 0 Z b') hA hbo (bM.kt (m:=1+cs.length) (k:=0) o2),o3⟩
   .refine⟨?_,by rw[hnx,ao q4,q3];exact eH _⟩;rw[q2,q3];refine jH (ds:=ds) rfl rfl rfl ?_;have hrow:bL w' (λ b'=>(Av cx r β b'∨b'∈bI [.bP b])∨NB γ 0 Z b') (γ k) sz ds:=by
     rcases fg k (1+cs.length)with hk|hk
     .cases k with
      |zero=>rw[←hZ]at q1;simp at q1
      |succ k=>
       have hk':k<cs.length:=by omega
       rw[gW k 1,hZc k hk']at q1;have:=cM.row m21 (i:=k) (by rw[hcs];exact q1)
       rwa[gW 1 k]at this
     .obtain⟨m,rfl⟩:∃m,k=1+cs.length+m:=⟨k - (1+cs.length),by omega⟩;rw[hZl]at q1;have:=bM.row o2 q1;exact this
    exact hrow.bC ⟨λ _ _ _=>rfl,λ b _ hb=>hA b hb⟩ (λ _ _ _=>rfl)
  .rcases hcase s j res hl with⟨q1,q2,q3,q4⟩|⟨q1,q2,q3,q4⟩|⟨k,sz,n,ds,bo,q1,q2,q3,q4,q5,q6⟩<;>
    rcases hcase s' j' res' hl' with⟨p1,p2,p3,p4⟩|⟨p1,p2,p3,p4⟩|⟨k',sz',n',ds',bo',p1,p2,p3,p4,p5,p6⟩
   .rw[q2]at hbs;rw[p2]at hbs';exact h.inj _ _ _ _ _ _ _ _ _ q1 hf p1 hf' hbs hbs'
   .rw[q2]at hbs;rw[p3]at hbs';cases hbs';exact absurd (hlt q1 hbs) (by omega)
   .rw[q2]at hbs;rw[p2]at hbs';have:=hlt q1 hbs;have:=(hnew p1 hbs').2.1;omega
   .rw[q3]at hbs;rw[p2]at hbs';cases hbs;exact absurd (hlt p1 hbs') (by omega)
   .exact⟨by rw[q1,p1],by rw[q2,p2]⟩
   .rw[q3]at hbs;rw[p2]at hbs';cases hbs;exact absurd rfl (hnew p1 hbs').2.2
   .rw[q2]at hbs;rw[p2]at hbs';have:=hlt p1 hbs';have:=(hnew q1 hbs).2.1;omega
   .rw[q2]at hbs;rw[p3]at hbs';cases hbs';exact absurd rfl (hnew q1 hbs).2.2
   .rw[q2]at hbs;rw[p2]at hbs';have hk:=m6 k k' b1 o o' sz n ds bo sz' n' ds' bo' q1 p1 hbs hbs';subst hk
    -- one place of the results,one slot
    have hbnd:∀{k sz n ds bo s j},Z[k]? =some (RO.own sz n ds bo)->(od=some s∨s=d)->j≠0->k=(if od=some s then j else cs.length+j)->aq (dp false r1 od cs) s j≠none->(od=some s/\j≤cs.length)∨(od≠some s/\s=d):=λ {k sz n ds bo s j} z1 z2 z3 z4 z5=>by
     by_cases ho:od=some s
     .refine .inl ⟨ho, ?_⟩;cases hq:aq (dp false r1 od cs) s j with
      |none=>exact absurd hq z5
      |some q=>
       rcases hat s j q hq with⟨k2,_,_,_,_,_,e2,e3,_⟩|⟨e1,_⟩|⟨e1,_⟩
       .have:=(bq.1 e3).1;omega
       .exact absurd ho e1
       .exact absurd ho e1
     .exact .inr ⟨ho,z2.resolve_left ho⟩
    rcases hbnd q1 q4 q5 q6 (by rw[hl];simp)with⟨t1,t2⟩|⟨t1,t2⟩<;>rcases hbnd p1 p4 p5 p6 (by rw[hl'];simp)with⟨t3,t4⟩|⟨t3,t4⟩
    .rw[t1]at t3;cases t3;rw[ao t1]at q6;rw[ao t1]at p6;exact⟨rfl,by omega⟩
    .rw[ao t1]at q6;rw[aj t3]at p6;omega
    .rw[aj t1]at q6;rw[ao t3]at p6;omega
    .rw[aj t1]at q6;rw[aj t3]at p6;exact⟨by rw[t2,t4],by omega⟩
  .rcases hcase s j res hl with⟨q1,q2,q3,q4⟩|⟨q1,q2,q3,q4⟩|⟨k,sz,n,ds,bo,q1,q2,q3,q4,q5,q6⟩
   .rw[q2]at hbs;exact h.fr _ _ _ _ _ q1 hf hbs
   .rw[q3]at hbs;cases hbs;have:=h.n0;exact⟨.inl (by omega),λ _=>by omega⟩
   .rw[q2]at hbs;have:=(hnew q1 hbs).2.1;have:=h.n0;exact⟨.inl (by omega),λ _=>by omega⟩
 refine⟨β',hH, ?_⟩;have hptr:ak cx w' (dp false r1 od cs) β' (.one (.ptr ⟨d,0,af r d⟩ 0)) (eb b):=by simp only[ak,ae];refine⟨rfl,by rw[hnx,ao (.inr rfl)];exact eH _,λ res hg=>⟨b,0, ?_,rfl⟩⟩;simp only[β'];rw[aj hodn];simp
 -- the value
 rw[show(cI r d rfs l).1=fb (.one (.ptr ⟨d,0,af r d⟩ 0)::(match od with|none=>ed 0 0 0 rfs|some D=>ed D (af r D) 0 rfs)) by rw[←hodd];unfold cI lS;split<;>rfl]
 refine mo m1 ?_;simp only[aL];refine⟨eb b,us',rfl,hptr, ?_⟩;have hsh:cM (λ b'=>(Av cx r β b'∨b'∈bI [.bP b])∨NB γ 0 Z b') w' (λ i=>γ (1+i)) 0 rfs us':=cM.kt (m:=1) (k:=0) m21;cases hq:od with
 |none=>
  rw[hq]at hodd;unfold lS at hodd;split at hodd
  .rename_i hno;rw[hq]at hA;exact kh hA (λ i sz n ds bo hi=>absurd hi (nJ hno i sz n ds bo)) hsh
  .cases hodd
 |some D=>
  subst hq;simp only;refine kh hA (λ i sz n ds bo hi=> ?_) hsh;rw[hcs]at hi;have hDd:D≠d:=λ e=>hodn (by rw[e])
  refine⟨⟨false,dH ?_ ?_⟩, ?_, ?_⟩
  .simp only[dp];rw[hnx1 D hDd,dy,ao rfl];simp only[bu,fI,kd hi,Bool.and_false]
  .rfl
  .simp only[β',bu];rw[ao trivial];simp
  .rw[hnx,ao (.inl rfl)];omega
end
section
variable {v v':List AV} {r r':Rs} {T:Nat->Option TI} {c:Bool}
theorem gm {x:Operand} (h:aW v' x=aW v x):ev v' x=ev v x:=by unfold ev;rw[h]
theorem fw {x:Operand} (h:aW v' x=aW v x):aO c v' x=aO c v x:=by unfold aO;rw[h]
theorem jf:∀{xs:List Operand},(∀x∈xs,aW v' x=aW v x)->cj v' xs=cj v xs
 |[],_=>rfl
 |x::xs,h=>by simp only[cj];rw[gm (h x (by simp)),jf λ y hy=>h y (by simp[hy])]
theorem iS:∀{xs:List Operand},(∀x∈xs,aW v' x=aW v x)->cr c v' xs=cr c v xs
 |[],_=>rfl
 |x::xs,h=>by simp only[cr];rw[fw (h x (by simp)),iS λ y hy=>h y (by simp[hy])]
theorem mi {x:Option Operand} (h:∀y,x=some y->aW v' y=aW v y):dM v' x=dM v x:=by
 cases x with
 |none=>rfl
 |some y=>simp only[dM,gm (h y rfl)]
theorem nC {x:Option Operand} (h:∀y,x=some y->aW v' y=aW v y):ew c v' x=ew c v x:=by
 cases x with
 |none=>rfl
 |some y=>simp only[ew,fw (h y rfl)]
theorem oP {dst:Option Nat} {op:Op} (h:∀x∈op.operands.toList,aW v' x=aW v x):ah T c v' r dst op=ah T c v r dst op:=by
 have one:∀{x:Operand},x∈op.operands.toList->ev v' x=ev v x/\aO c v' x=aO c v x:=λ hx=>⟨gm (h _ hx),fw (h _ hx)⟩
 cases op with
 |move x=>simp only[ah,one (x:=x) (by simp[Op.operands])]
 |assign x=>simp only[ah,one (x:=x) (by simp[Op.operands])]
 |pick t x z=>simp only[ah,one (x:=t) (by simp[Op.operands]),h x (by simp[Op.operands]),h z (by simp[Op.operands])]
 |alloc t=>rfl
 |box t x=>simp only[ah,one (x:=x) (by simp[Op.operands])]
 |build t ps=>
  have h':∀x∈ps.toList.map (·.2),aW v' x=aW v x:=λ x hx=>h x (by simpa[Op.operands]using hx)
  simp only[ah,jf h',iS h']
 |buildSlice t n ps=>
  have h':∀x∈ps.toList.map (·.2),aW v' x=aW v x:=λ x hx=>h x (by simpa[Op.operands]using hx)
  simp only[ah,jf h',iS h']
 |load t x=>simp only[ah,one (x:=x) (by simp[Op.operands])]
 |makeSlice t x y=>simp only[ah,one (x:=x) (by simp[Op.operands]),one (x:=y) (by simp[Op.operands])]
 |makeMap t x=>cases x<;>rfl
 |store t x y=>simp only[ah,one (x:=x) (by simp[Op.operands]),one (x:=y) (by simp[Op.operands])]
 |nilCheck x=>simp only[ah,one (x:=x) (by simp[Op.operands])]
 |binOp op t x y yt=>simp only[ah,one (x:=x) (by simp[Op.operands]),one (x:=y) (by simp[Op.operands])]
 |unOp op t x=>
  cases op with
  |not=>simp only[ah,one (x:=x) (by simp[Op.operands])]
  |_=>rfl
 |convert s t x=>simp only[ah,one (x:=x) (by simp[Op.operands])]
 |makeInterface t x=>simp only[ah,one (x:=x) (by simp[Op.operands])]
 |makeFunc fn first caps=>
  cases fn with
  |func f=>
   obtain⟨first⟩:=first
   cases first with
   |cons _ _=>rfl
   |nil=>
    have h':∀x∈caps.toList,aW v' x=aW v x:=λ x hx=>h x (by simpa[Op.operands]using hx)
    simp only[ah,jf h',iS h']
  |_=>rfl
 |slice t x lo hi mx=>
  have h1:∀y,lo=some y->aW v' y=aW v y:=λ y hy=>h y (by simp[Op.operands,hy])
  have h2:∀y,hi=some y->aW v' y=aW v y:=λ y hy=>h y (by simp[Op.operands,hy])
  cases mx with
  |some m=>
   have h3:aW v' m=aW v m:=h m (by simp[Op.operands]);simp only[ah,one (x:=x) (by simp[Op.operands]),mi h1,mi h2,nC h1,nC h2,mi (x:=some m) (λ y hy=>by cases hy;exact h3),fw h3]
  |none=>
   simp only[ah,one (x:=x) (by simp[Op.operands]),mi h1,mi h2,nC h1,nC h2]
 |fieldAddr t x f=>simp only[ah,one (x:=x) (by simp[Op.operands])]
 |indexAddr t x i=>simp only[ah,one (x:=x) (by simp[Op.operands]),one (x:=i) (by simp[Op.operands])]
 |index t x i=>simp only[ah,one (x:=x) (by simp[Op.operands]),one (x:=i) (by simp[Op.operands])]
 |field t x f=>simp only[ah,one (x:=x) (by simp[Op.operands])]
 |extract x i=>simp only[ah,one (x:=x) (by simp[Op.operands])]
 |call k=>
  obtain⟨callee,as,ts⟩:=k;cases callee with
  |builtin b=>
   have h':∀x∈as.toList,aW v' x=aW v x:=λ x hx=>h x (by simpa[Op.operands,Call.operands]using hx)
   cases b with
   |append=>
    simp only[ah];split
    .rename_i s x h0;have hs:=h' s (by rw[h0];simp);have hx:=h' x (by rw[h0];simp);rw[gm hs,gm hx,fw hs,fw hx]
    .rfl
   |len=>
    simp only[ah];split
    .rename_i x h0;have hx:=h' x (by rw[h0];simp);rw[gm hx,fw hx]
    .rfl
   |cap=>
    simp only[ah];split
    .rename_i x h0;have hx:=h' x (by rw[h0];simp);rw[gm hx,fw hx]
    .rfl
   |clear=>
    simp only[ah];split
    .rename_i x h0;have hx:=h' x (by rw[h0];simp);rw[gm hx,fw hx]
    .rfl
   |copy=>
    simp only[ah];split
    .rename_i s x h0;have hs:=h' s (by rw[h0];simp);have hx:=h' x (by rw[h0];simp);rw[gm hs,gm hx,fw hs,fw hx]
    .rfl
   |max=>simp only[ah,jf h',iS h']
   |min=>simp only[ah,jf h',iS h']
   |_=>rfl
  |_=>rfl
 |_=>rfl
theorem vL {f:Operand} {args:Array Operand} (h1:aW v' f=aW v f) (h2:∀x∈args.toList,aW v' x=aW v x):bY v' r f args=bY v r f args:=by unfold bY;rw[gm h1,jf h2]
end
end Go.Pk
