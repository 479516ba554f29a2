import Derived.Test.YtjdbaocjeeficaaGreatK4
import Derived.Orders
set_option linter.unusedVariables false
set_option linter.unusedSimpArgs false
set_option linter.unusedSectionVars false
namespace Go.Pk
section
variable {v:List AV} {r r' r0 r0':Rs} {T:Nat->Option TI} {c:Bool} {t:List Nat}
def Rl (t:List Nat) (r0 r0' r r':Rs):Prop:=(∀s∈t,aa s r'=aa s r)/\∀s,s ∉ t->aa s r=aa s r0/\aa s r'=aa s r0'
theorem Rl.start (h:∀s∈t,aa s r'=aa s r):Rl t r r' r r':=⟨h,λ _ _=>⟨rfl,rfl⟩⟩
theorem Rl.set {s:Nat} {y:RS} (h:Rl t r0 r0' r r') (hs:s∈t):Rl t r0 r0' (az s y r) (az s y r'):=by
 refine⟨λ s' hs'=> ?_,λ s' hs'=> ?_⟩
 .rw[bX,bX];split
  .rfl
  .exact h.1 s' hs'
 .have hne:s≠s':=λ e=>hs' (e▸hs)
  rw[bX,bX,aj hne,aj hne];exact h.2 s' hs'
theorem fy {hd:Hd} (h:aa hd.s r'=aa hd.s r):ax r' hd=ax r hd:=by unfold ax aq;rw[h]
theorem iz {s:Nat} (h:aa s r'=aa s r):af r' s=af r s:=by unfold af;rw[h]
theorem Rl.get {hd:Hd} (h:Rl t r0 r0' r r') (hs:hd.s∈t):ax r' hd=ax r hd:=fy (h.1 _ hs)
theorem lv {x:C} (h:∀s∈aX x,aa s r'=aa s r):rowOf r' x=rowOf r x:=by
 unfold rowOf;split
 .rfl
 .rfl
 .rfl
 .rename_i hd lo n;rw[fy (h hd.s (by simp[aX]))]
 .rename_i hd lo n k;rw[fy (h hd.s (by simp[aX]))]
 .rfl
theorem B8 {y:AV} (h:∀s∈aY y,aa s r'=aa s r):ku r' y=ku r y:=by
 unfold ku;split
 .exact lv (by simpa[aY]using h)
 .rfl
theorem CH {y:AV} (h:∀s∈aY y,aa s r'=aa s r):iC r' y=iC r y:=by
 unfold iC;split
 .rfl
 .rename_i y _;exact lv (by simpa[aY]using h)
 .rfl
theorem Dh {x:C} {d:D} {r1:Rs} (h:Rl t r0 r0' r r') (hx:∀s∈aX x,s∈t) (hs:gV r x=some (d,r1)):∃r1',gV r' x=some (d,r1')/\Rl t r0 r0' r1 r1':=by
 unfold gV at hs⊢;split at hs
 .cases hs;exact⟨r',rfl,h⟩
 .rename_i hd lo n;have hm:hd.s∈t:=hx _ (by simp[aX]);rw[h.get hm,h.1 _ hm];split at hs
  .split at hs
   .cases hs
   .rename_i hb;rw[aj hb];split at hs
    .rename_i ds h1
     try simp only[h1]
     cases hs;exact⟨_,rfl,h.set hm⟩
    .cases hs
  .cases hs
 .cases hs
theorem pV:∀{xs:List C} {ds:List D} {r r' r1:Rs},Rl t r0 r0' r r'->(∀s∈bp xs,s∈t)->eG r xs=some (ds,r1)->∃r1',eG r' xs=some (ds,r1')/\Rl t r0 r0' r1 r1'
 |[],ds,r,r',r1,h,_,hs=>by simp only[eG,aF,gU]at hs⊢;obtain⟨rfl,rfl⟩:=hs;exact⟨r',⟨rfl,rfl⟩,h⟩
 |x::xs,ds,r,r',r1,h,hx,hs=>by
  simp only[eG]at hs⊢;split at hs
  .rename_i d r2 h1;obtain⟨r2',g1,g2⟩:=Dh h (λ s hs=>hx s (by simp[bp,hs])) h1;split at hs
   .rename_i ds' r3 h2;obtain⟨r3',g3,g4⟩:=pV g2 (λ s hs=>hx s (by simp[bp,hs])) h2;cases hs;exact⟨r3',by simp[g1,g3],g4⟩
   .cases hs
  .cases hs
theorem C1 {d e k:Nat} {x:C} (h:Rl t r0 r0' r r') (hx:∀s∈aX x,s∈t):
  (dL d e k x r').1=(dL d e k x r).1/\(dL d e k x r').2.1=(dL d e k x r).2.1/\Rl t r0 r0' (dL d e k x r).2.2 (dL d e k x r').2.2:=by
 unfold dL;split
 .rename_i hd lo n;have hm:hd.s∈t:=hx _ (by simp[aX]);rw[h.get hm,h.1 _ hm];split
  .split
   .exact⟨rfl,rfl,h⟩
   .exact⟨rfl,rfl,h.set hm⟩
  .exact⟨rfl,rfl,h⟩
 .exact⟨rfl,rfl,h⟩
 .exact⟨rfl,rfl,h⟩
 .exact⟨rfl,rfl,h⟩
theorem pN {d:Nat}:∀{xs:List C} {e k:Nat} {r r':Rs},Rl t r0 r0' r r'->(∀s∈bp xs,s∈t)->
  (b8 d e k xs r').1=(b8 d e k xs r).1/\(b8 d e k xs r').2.1=(b8 d e k xs r).2.1/\Rl t r0 r0' (b8 d e k xs r).2.2 (b8 d e k xs r').2.2
 |[],_,_,_,_,h,_=>⟨rfl,rfl,h⟩
 |x::xs,e,k,r,r',h,hx=>by obtain⟨g1,g2,g3⟩:=C1 (x:=x) (d:=d) (e:=e) (k:=k) h (λ s hs=>hx s (by simp[bp,hs]));obtain⟨g4,g5,g6⟩:=pN (xs:=xs) (e:=e+1) (k:=k+1) g3 (λ s hs=>hx s (by simp[bp,hs]));simp only[b8];rw[g1,g2,g4,g5];exact⟨rfl,rfl,g6⟩
theorem BP {d:Nat} {y:AV} (h:Rl t r0 r0' r r') (hd:d∈t) (hy:∀s∈aY y,s∈t):(iX r' d y).1=(iX r d y).1/\Rl t r0 r0' (iX r d y).2 (iX r' d y).2:=by
 unfold iX;split
 .rename_i hd' lo n;have hm:hd'.s∈t:=hy _ (by simp[aY,aX]);split
  .exact⟨rfl,h⟩
  .rw[h.get hm,h.1 _ hm,iz (h.1 _ hd)];split
   .split
    .exact⟨rfl,h⟩
    .split
     .exact⟨rfl,(h.set hm).set hd⟩
     .exact⟨rfl,h⟩
   .exact⟨rfl,h⟩
 .exact⟨rfl,h⟩
theorem dV {x:Operand}:aY (ev v x)=dg v x:=by
 unfold ev dg;split
 .rename_i h;rw[h];simp[aY]
 .rename_i h;rw[h]
 .rename_i h;rw[h]
 .rename_i h;rw[h]
theorem nM:∀{xs:List Operand},dq (cj v xs)=dt v xs
 |[]=>rfl
 |x::xs=>by simp only[cj,dq,dt,dV,nM (xs:=xs)]
theorem pz {y:AV} {s:Nat} (h:s∈bp (cellsOf y)):s∈aY y:=by
 unfold cellsOf at h;split at h
 .split at h
  .simpa[bp,aY]using h
  .simp[bp]at h
 .simpa[aY]using h
 .simp[bp]at h
theorem rU:∀{xs ys:List C},bp (xs++ys)=bp xs++bp ys
 |[],ys=>rfl
 |x::xs,ys=>by simp[bp,rU (xs:=xs)]
theorem sO:∀{ys:List AV} {s:Nat},s∈bp (ys.flatMap cellsOf)->s∈dq ys
 |[],s,h=>by simp[bp]at h
 |y::ys,s,h=>by rw[dA,rU,eQ]at h;simp only[dq,eQ];exact h.imp pz sO
structure nh (w:List Nat) (r r':Rs) (o o':Out):Prop where
 sc:o'.sc
 x:o'.x=o.x
 on:∀s∈w,aa s o'.r=aa s o.r
 off:∀s,s ∉ w->aa s o'.r=aa s r'/\aa s o.r=aa s r
theorem nh.calm {op:Op} {dst:Option Nat} (hg:oz op=true) (hs:(ah T c v r dst op).sc)
  (h:(ah T c v r' dst op).sc=(ah T c v r dst op).sc/\(ah T c v r' dst op).x=(ah T c v r dst op).x):nh [] r r' (ah T c v r dst op) (ah T c v r' dst op):=
 have h':(ah T c v r' dst op).sc:=by rw[h.1];exact hs
 ⟨h',h.2,λ s hs'=>by simp at hs',λ s _=>⟨by rw[qf hg h'],by rw[qf hg hs]⟩⟩
theorem nh.i5 {o o':Out} (h:o'.sc) (hx:o'.x=o.x) (hr:Rl t r r' o.r o'.r):nh t r r' o o':=
 ⟨h,hx,hr.1,λ s hs=>⟨(hr.2 s hs).2,(hr.2 s hs).1⟩⟩
theorem qk {x:Operand} {hd:Hd} {off:Nat} (h:ev v x= .one (.ptr hd off)):hd.s∈dg v x:=by rw[←dV,h];simp[aY,aX]
theorem DY {e:Nat} {y iv:AV} (h:∀s∈aY y,aa s r'=aa s r):(gY T r' c e y iv).sc=(gY T r c e y iv).sc/\(gY T r' c e y iv).x=(gY T r c e y iv).x:=by
 unfold gY;split
 .rename_i _ hd lo _ _;rw[fy (h hd.s (by simp[aY,aX]))];split<;>exact⟨rfl,rfl⟩
 .exact⟨rfl,rfl⟩
 .exact⟨rfl,rfl⟩
 .rename_i hd _ _;rw[fy (h hd.s (by simp[aY,aX]))];split<;>exact⟨rfl,rfl⟩
 .split<;>exact⟨rfl,rfl⟩
 all_goals exact⟨rfl,rfl⟩
theorem BV {e:Nat} {y:AV} {l hi:Option AV} (h:∀s∈aY y,aa s r'=aa s r):
  (gR T r' c e y l hi).sc=(gR T r c e y l hi).sc/\(gR T r' c e y l hi).x=(gR T r c e y l hi).x:=by
 unfold gR;split
 .split<;>exact⟨rfl,rfl⟩
 .rename_i hd lo n;rw[fy (h hd.s (by simp[aY,aX]))];split<;>exact⟨rfl,rfl⟩
 .rename_i hd lo n k;rw[fy (h hd.s (by simp[aY,aX]))];split<;>exact⟨rfl,rfl⟩
 .split<;>exact⟨rfl,rfl⟩
 .split<;>exact⟨rfl,rfl⟩
 .exact⟨rfl,rfl⟩
theorem BB {e:Nat} {y:AV} {l hi m:Option AV} (h:∀s∈aY y,aa s r'=aa s r):
  (gL T r' c e y l hi m).sc=(gL T r c e y l hi m).sc/\(gL T r' c e y l hi m).x=(gL T r c e y l hi m).x:=by
 unfold gL;split
 .rename_i hd lo n k;rw[fy (h hd.s (by simp[aY,aX]))];split<;>exact⟨rfl,rfl⟩
 .exact⟨rfl,rfl⟩
theorem DQ {e:Option Nat} {y:AV} (h:∀s∈aY y,aa s r'=aa s r):(gZ T r' e y).sc=(gZ T r e y).sc/\(gZ T r' e y).x=(gZ T r e y).x:=by
 unfold gZ;split
 .rename_i hd lo n k;rw[fy (h hd.s (by simp[aY,aX]))];split<;>exact⟨rfl,rfl⟩
 .exact⟨rfl,rfl⟩
theorem wA {e:Option Nat} {y:AV} (hs:(gZ T r e y).sc):(gZ T r e y).r=r:=by
 unfold gZ at*
 repeat' split at hs
 all_goals first|exact hs.elim|simp only[*]
theorem Bz {d:Nat} {y:AV}:aY (jc d y)=aY y:=by
 unfold jc;split
 .split<;>simp[aY,aX]
 .rfl
theorem DM {d:Nat} {y:AV} (h:∀s∈aY y,aa s r'=aa s r):jw r' d y=jw r d y:=by
 unfold jw;split
 .rename_i hd lo n k;rw[fy (h hd.s (by simp[aY,aX]))]
 .rfl
theorem ud {hd:Hd} {lo:Nat} {ds:List D} {r1:Rs} (h:Rl t r0 r0' r r') (hm:hd.s∈t) (hp:ji r hd lo ds=some r1):∃r1',ji r' hd lo ds=some r1'/\Rl t r0 r0' r1 r1':=by
 unfold ji at hp⊢;rw[h.get hm,h.1 _ hm];split at hp
 .rename_i res rs h1 h2
  try simp only[h1,h2]
  cases hp;exact⟨_,rfl,h.set hm⟩
 .cases hp
theorem vh {y:AV} {hd:Hd} {lo n:Nat} (h:jU y=some (hd,lo,n)):hd.s∈aY y:=by
 unfold jU at h;split at h
 .cases h;simp[aY,aX]
 .cases h;simp[aY,aX]
 .cases h
theorem Dc {ts:Array Nat} {x y:AV} (h:Rl t r0 r0' r r') (hx:∀s∈aY x,s∈t) (hy:∀s∈aY y,aa s r'=aa s r) (hs:(iI T r ts x y).sc):
  (iI T r' ts x y).sc/\(iI T r' ts x y).x=(iI T r ts x y).x/\Rl t r0 r0' (iI T r ts x y).r (iI T r' ts x y).r:=by
 unfold iI at hs⊢;rw[B8 hy];split at hs
 .rename_i e ei hd lo n m ds2 h1 h2 h3;have hm:hd.s∈t:=hx _ (vh h2)
  try simp only[h1,h2,h3]
  rw[h.get hm];split at hs
  .rename_i res r1 h4 h5;obtain⟨r1',g1,g2⟩:=ud h hm h5;simp only[h4,h5,g1];exact⟨hs,by trivial,g2⟩
  .exact hs.elim
 .exact hs.elim
theorem B3 {ts:Array Nat} {x:AV} (h:Rl t r0 r0' r r') (hx:∀s∈aY x,s∈t) (hs:(ir T r ts x).sc):
  (ir T r' ts x).sc/\(ir T r' ts x).x=(ir T r ts x).x/\Rl t r0 r0' (ir T r ts x).r (ir T r' ts x).r:=by
 unfold ir at hs⊢;split at hs
 .rename_i e ei hd lo n h1 h2;have hm:hd.s∈t:=hx _ (vh h2)
  try simp only[h1,h2]
  rw[h.get hm];split at hs
  .rename_i res r1 h4 h5;obtain⟨r1',g1,g2⟩:=ud h hm h5;simp only[h4,h5,g1];exact⟨hs,by trivial,g2⟩
  .exact hs.elim
 .exact hs.elim
theorem DI {e:Option Nat} {y:AV} (h:∀s∈aY y,aa s r'=aa s r):(hU T r' e y).sc=(hU T r e y).sc/\(hU T r' e y).x=(hU T r e y).x:=by
 unfold hU;split
 .rename_i hd lo n;rw[fy (h hd.s (by simp[aY,aX]))];split<;>exact⟨rfl,rfl⟩
 .rename_i hd lo n k;rw[fy (h hd.s (by simp[aY,aX]))];split<;>exact⟨rfl,rfl⟩
 all_goals exact⟨rfl,rfl⟩
theorem C3 {e e2:Nat} {y:AV} (h:∀s∈aY y,aa s r'=aa s r):(fX T r' e e2 y).sc=(fX T r e e2 y).sc/\(fX T r' e e2 y).x=(fX T r e e2 y).x:=by
 unfold fX;split
 .split
  .exact⟨rfl,rfl⟩
  .rename_i x hx;rw[lv (x:=x) λ s hs=>h s (by simpa[aY]using hs)];split
   .split<;>exact⟨rfl,rfl⟩
   .exact⟨rfl,rfl⟩
  .exact⟨rfl,rfl⟩
 .exact⟨rfl,rfl⟩
theorem B' {e:Nat} {y:AV}:(fT T r' e y).sc=(fT T r e y).sc/\(fT T r' e y).x=(fT T r e y).x:=by
 unfold fT;split
 .split
  .split<;>exact⟨rfl,rfl⟩
  .exact⟨rfl,rfl⟩
  .exact⟨rfl,rfl⟩
 .exact⟨rfl,rfl⟩
theorem Ca {e f:Nat} {y:AV}:(gO T r' e f y).sc=(gO T r e f y).sc/\(gO T r' e f y).x=(gO T r e f y).x:=by
 unfold gO;split
 .split
  .split<;>exact⟨rfl,rfl⟩
  .exact⟨rfl,rfl⟩
 .exact⟨rfl,rfl⟩
theorem vQ {mx:Bool} {y:List AV}:(fu r' mx y).sc=(fu r mx y).sc/\(fu r' mx y).x=(fu r mx y).x:=by unfold fu;split<;>exact⟨rfl,rfl⟩
theorem vw {o:BinOp} {e:Nat} {x y:C} (h:∀s∈aX x,aa s r'=aa s r):iN T r' o e x y=iN T r o e x y:=by
 unfold iN;split
 .rfl
 .rfl
 .rfl
 .rfl
 .rename_i hd _ n;rw[fy (h hd.s (by simp[aX]))]
 .rfl
 .rename_i hd off;rw[fy (h hd.s (by simp[aX]))]
 all_goals rfl
theorem D4 {o:BinOp} {e:Nat} {x y:AV} (h:∀s∈aY x,aa s r'=aa s r):(hC T r' o e x y).sc=(hC T r o e x y).sc/\(hC T r' o e x y).x=(hC T r o e x y).x:=by
 unfold hC;split
 .rename_i x y;split
  .exact⟨rfl,rfl⟩
  .have e1:=vw (T:=T) (r:=r) (r':=r') (o:=o) (e:=e) (x:= .d (.v x)) (y:= .d (.v y)) (by simp[aX]);simp only[e1];cases iN T r o e (.d (.v x)) (.d (.v y))with
   |none=>exact⟨rfl,rfl⟩
   |some p=>exact⟨rfl,rfl⟩
 .rename_i x y _;have e1:=vw (T:=T) (r:=r) (r':=r') (o:=o) (e:=e) (x:=x) (y:=y) (by simpa[aY]using h);simp only[e1];cases iN T r o e x y with
  |none=>exact⟨rfl,rfl⟩
  |some p=>exact⟨rfl,rfl⟩
 .split
  .split<;>exact⟨rfl,rfl⟩
  .exact⟨rfl,rfl⟩
 .exact⟨rfl,rfl⟩
theorem iq {o o':Out} {p:Prop} (h:o'.sc=o.sc/\o'.x=o.x):(o'.with p).sc=(o.with p).sc/\(o'.with p).x=(o.with p).x:=by simp only[Out.with,h.1,h.2,and_self]
theorem Ct {e:Nat} {av y:AV} (h:Rl t r0 r0' r r') (ha:∀s∈aY av,s∈t) (hy:∀s∈aY y,s∈t) (hs:(iy T r e av y).sc):
  (iy T r' e av y).sc/\(iy T r' e av y).x=(iy T r e av y).x/\Rl t r0 r0' (iy T r e av y).r (iy T r' e av y).r:=by
 unfold iy at hs⊢;split at hs
 .rename_i ti hd off h1;have hm:hd.s∈t:=ha _ (by simp[aY,aX]);have hc:∀s∈bp (cellsOf y),s∈t:=λ s hs=>hy s (pz hs)
  try simp only[h1]
  rw[h.get hm,h.1 _ hm];split at hs
  .rename_i res h2
   try simp only[h2]
   split at hs
   .rename_i hv;simp only[hv,eP];split at hs
    .rename_i rs h3
     try simp only[h3]
     split at hs
     .rename_i hsm
      try simp only[hsm]
      exact⟨hs,by trivial,h.set hm⟩
     rename_i hsm
     try simp only[hsm]
     obtain⟨g1,g2,g3⟩:=pN (d:=hd.s) (e:=rs.next) (k:=off) h hc;rw[g1,g2];exact⟨hs,by trivial,g3.set hm⟩
    .exact hs.elim
   .rename_i hv;simp only[hv];split at hs
    .rename_i ds r1 h3;obtain⟨r1',g1,g2⟩:=pV h hc h3;simp only[h3,g1];rw[g2.get hm,g2.1 _ hm];split at hs
     .rename_i res' rs' h4 h5
      try simp only[h4,h5]
      exact⟨hs,by trivial,g2.set hm⟩
     .exact hs.elim
    .exact hs.elim
  .exact hs.elim
 .exact hs.elim
theorem Dy {dst:Option Nat} {ts:Array Nat} {x y:AV} (h:Rl t r0 r0' r r') (hd:∀s∈dl dst,s∈t) (hx:∀s∈aY x,s∈t) (hy:∀s∈aY y,aa s r'=aa s r) (hs:(iM T r c dst ts x y).sc):
  (iM T r' c dst ts x y).sc/\(iM T r' c dst ts x y).x=(iM T r c dst ts x y).x/\Rl t r0 r0' (iM T r c dst ts x y).r (iM T r' c dst ts x y).r:=by
 unfold iM at hs⊢;rw[CH hy];split at hs
 .rename_i e ei m ds2 hd' lo n h1 h2 h3;have hm:hd'.s∈t:=hx _ (by simp[aY,aX])
  try simp only[h1,h2,h3]
  rw[h.get hm,h.1 _ hm];split at hs
  .rename_i res rs h4 h5
   try simp only[h4,h5]
   split at hs
   .rename_i ds1 h6;simp only[h6];exact⟨hs,by trivial,h.set hm⟩
   .exact hs.elim
  .exact hs.elim
 .rename_i e ei m ds2 h1 h2 h3
  try simp only[h1,h2,h3]
  split at hs
  .rename_i d;have hm:d∈t:=hd d (by simp[dl]);simp only;rw[iz (h.1 _ hm)];exact⟨hs,by trivial,h.set hm⟩
  .exact hs.elim
 .rename_i e ei m ds2 hd' lo n k h1 h2 h3;have hm:hd'.s∈t:=hx _ (by simp[aY,aX])
  try simp only[h1,h2,h3]
  unfold m9 at hs⊢;rw[h.get hm,h.1 _ hm];split at hs
  .rename_i res rs h4 h5
   try simp only[h4,h5]
   split at hs
   .rename_i ds1 h6
    try simp only[h6]
    split at hs
    .rename_i hfit;rw[ao hfit];exact⟨hs,by rw[ao hfit],by rw[ao hfit];exact h.set hm⟩
    .rename_i hfit;rw[aj hfit];split at hs
     .rename_i d;have hm2:d∈t:=hd d (by simp[dl]);simp only;rw[iz (h.1 _ hm2),aj hfit];exact⟨hs,by trivial,h.set hm2⟩
     .exact hs.elim
   .exact hs.elim
  .exact hs.elim
 .unfold nb at hs⊢;split at hs
  .rename_i e ei kk l hd' lo n k h1 h2 y1 y2 y3;have hm:hd'.s∈t:=hx _ (by simp[aY,aX])
   try simp only[h1,h2]
   rw[h.get hm];split at hs
   .rename_i res d h4;have hm2:d∈t:=hd d (by simp[dl])
    try simp only[h4]
    rw[iz (h.1 _ hm2)];split at hs
    .rename_i ds1 h6
     try simp only[h6]
     exact⟨hs,by trivial,h.set hm2⟩
    .exact hs.elim
   .exact hs.elim
  .exact hs.elim
theorem oI {op:Op} {dst:Option Nat} (hr:∀s∈(bK v dst op).t,aa s r'=aa s r) (hs:(ah T c v r dst op).sc):
  nh (bK v dst op).w r r' (ah T c v r dst op) (ah T c v r' dst op):=by
 have R:=Rl.start hr;cases op with
 |move x=>exact .calm rfl hs ⟨rfl,rfl⟩
 |assign x=>
  simp only[bK,FP.both]at R⊢;simp only[ah]at hs⊢;cases dst with
  |none=>exact hs.elim
  |some d=>
   obtain⟨g1,g2⟩:=BP (d:=d) (y:=jc d (ev v x)) R (by simp[dl]) (λ s hs=>by rw[Bz,dV]at hs;simp[hs]);refine .i5 ⟨hs.1, ?_⟩ g1 g2;show jw r' d (ev v x);rw[DM (r:=r) λ s hs=>by rw[dV]at hs;exact R.1 s (by simp[hs])];exact hs.2
 |pick t x z=>
  refine .calm rfl hs ?_;simp only[ah];split<;>exact⟨rfl,rfl⟩
 |alloc t=>
  simp only[bK,FP.both]at R⊢;simp only[ah]at hs⊢;split at hs
  .rename_i ti d h1
   try simp only[h1]
   rw[iz (R.1 d (by simp[dl]))];exact .i5 trivial rfl (R.set (by simp[dl]))
  .exact hs.elim
 |makeMap t x=>
  cases x with
  |none=>exact .i5 trivial rfl R
  |some _=>exact hs.elim
 |makeSlice t x y=>
  simp only[bK,FP.both]at R⊢;simp only[ah]at hs⊢;unfold kH at hs⊢;split at hs
  .rename_i e ei k n k2 m d h1 h2 h3
   try simp only[h1,h2,h3]
   rw[iz (R.1 d (by simp[dl]))];exact .i5 hs rfl (R.set (by simp[dl]))
  .exact hs.2.elim
 |box t x=>
  simp only[bK,FP.both]at R⊢;simp only[ah]at hs⊢;split at hs
  .rename_i ti d h1
   try simp only[h1]
   have hd:d∈dg v x++dl (some d):=by simp[dl]
   rw[iz (R.1 d hd)];obtain⟨g1,g2,g3⟩:=pN (xs:=cellsOf (ev v x)) (d:=d) (e:=af r d+1) (k:=0) (R.set (y:={next:=af r d,l:=[]}) hd)
    (λ s hs=>by have:=pz hs;rw[dV]at this;simp[this])
   rw[g1,g2];exact .i5 hs rfl (g3.set hd)
  .exact hs.elim
 |build t ps=>
  refine .calm rfl hs ?_;simp only[ah];split
  .split<;>exact⟨rfl,rfl⟩
  .exact⟨rfl,rfl⟩
 |buildSlice t n ps=>
  simp only[bK,FP.both]at R⊢;simp only[ah]at hs⊢;split at hs
  .rename_i e ei d h1
   try simp only[h1]
   have hd:d∈dt v (ps.toList.map (·.2))++dl (some d):=by simp[dl]
   rw[iz (R.1 d hd)];split at hs
   .rename_i ds r1 h2;obtain⟨r1',g1,g2⟩:=pV (R.set (y:={next:=af r d,l:=[]}) hd) (λ s hs=>by have:=sO hs;rw[nM]at this;simp[this]) h2;simp only[h2,g1];exact .i5 hs rfl (g2.set hd)
   .exact hs.elim
  .exact hs.elim
 |load t x=>
  refine .calm rfl hs ?_;simp only[ah];split
  .rename_i hd off h1;rw[R.get (by simpa[bK]using qk h1)];split<;>exact⟨rfl,rfl⟩
  all_goals exact⟨rfl,rfl⟩
 |store t x y=>
  simp only[bK,FP.both]at R⊢;obtain⟨g1,g2,g3⟩:=Ct (e:=t) (av:=ev v x) (y:=ev v y) R (λ s hs=>by rw[dV]at hs;simp[hs]) (λ s hs=>by rw[dV]at hs;simp[hs]) (eY hs);exact .i5 ⟨hs.1,g1⟩ g2 g3
 |nilCheck x=>
  refine .calm rfl hs ?_;simp only[ah];split
  .rename_i hd off h1;rw[R.get (by simpa[bK]using qk h1)];split<;>exact⟨rfl,rfl⟩
  all_goals exact⟨rfl,rfl⟩
 |binOp op t x y yt=>exact .calm rfl hs (iq (D4 λ s hs=>R.1 s (by rw[dV]at hs;simp[bK,hs])))
 |unOp op t x=>
  cases op with
  |not=>
   refine .calm rfl hs ?_;simp only[ah];split<;>exact⟨rfl,rfl⟩
  |_=>exact hs.elim
 |convert s t x=>exact .calm rfl hs (iq (C3 λ s hs=>R.1 s (by rw[dV]at hs;simpa[bK]using hs)))
 |makeInterface t x=>exact .calm rfl hs (iq B')
 |field t x f=>exact .calm rfl hs (iq Ca)
 |makeFunc fn first caps=>
  cases fn with
  |func f=>
   obtain⟨first⟩:=first
   cases first with
   |nil=>
    refine .calm rfl hs ?_;simp only[ah];split<;>exact⟨rfl,rfl⟩
   |cons _ _=>exact .calm rfl hs ⟨rfl,rfl⟩
  |_=>exact hs.elim
 |slice t x lo hi mx=>
  cases mx with
  |none=>exact .calm rfl hs (iq (BV λ s hs=>by rw[dV]at hs;exact R.1 s (by simpa[bK]using hs)))
  |some m=>exact .calm rfl hs (iq (BB λ s hs=>by rw[dV]at hs;exact R.1 s (by simpa[bK]using hs)))
 |fieldAddr t x f=>
  refine .calm rfl hs ?_;simp only[ah];split
  .rename_i o hd off h1 h2;rw[R.get (by simpa[bK]using qk h2)];split<;>exact⟨rfl,rfl⟩
  all_goals exact⟨rfl,rfl⟩
 |indexAddr t x i=>exact .calm rfl hs (iq (DY λ s hs=>by rw[dV]at hs;exact R.1 s (by simpa[bK]using hs)))
 |index t x i=>
  refine .calm rfl hs ?_;simp only[ah];split
  .exact⟨rfl,rfl⟩
  .split<;>exact⟨rfl,rfl⟩
  .exact⟨rfl,rfl⟩
 |extract x i=>
  refine .calm rfl hs ?_;simp only[ah];split
  .split<;>exact⟨rfl,rfl⟩
  .exact⟨rfl,rfl⟩
 |call k=>
  obtain⟨callee,as,ts⟩:=k;cases callee with
  |builtin b=>
   cases b with
   |append=>
    simp only[bK]at R⊢;simp only[ah]at hs⊢;split at hs
    .rename_i s x h0;simp only[h0,dt,hY,dz]at R⊢;obtain⟨g1,g2,g3⟩:=Dy (dst:=dst) (ts:=ts) (x:=ev v s) (y:=ev v x) (c:=c) (t:=dg v s++dl dst)
      (Rl.start λ q hq=>R.1 q (by simp only[eQ]at hq⊢;rcases hq with hq|hq<;>simp[hq])) (λ s hs=>by simp[hs]) (λ s hs=>by rw[dV]at hs;simp[hs])
      (λ q hq=>by rw[dV]at hq;exact R.1 q (by simp[hq])) (eY hs)
     exact .i5 ⟨hs.1,g1⟩ g2 g3
    .exact hs.elim
   |len=>
    refine .calm rfl hs ?_;simp only[ah];split
    .rename_i x h0;exact iq (DI λ s hs=>by rw[dV]at hs;exact R.1 s (by simpa[bK,h0,dt]using hs))
    .exact⟨rfl,rfl⟩
   |cap=>
    simp only[bK]at R⊢;simp only[ah]at hs⊢;split at hs
    .rename_i x h0;simp only[h0,dt,dz]at R⊢;obtain⟨g1,g2⟩:=iq (p:=aO c v x) (DQ (T:=T) (r:=r) (r':=r') (e:=ts[0]?) (y:=ev v x) λ s hs=>by rw[dV]at hs;exact R.1 s (by simp[hs]));have hs':=hs;rw[←g1]at hs';exact⟨hs',g2,λ s hs=>by simp at hs,λ s _=>⟨by rw[we,wA (eY hs')],by rw[we,wA (eY hs)]⟩⟩
    .exact hs.elim
   |copy=>
    simp only[bK]at R⊢;simp only[ah]at hs⊢;split at hs
    .rename_i s x h0;simp only[h0,dt,hY,dz]at R⊢;obtain⟨g1,g2,g3⟩:=Dc (T:=T) (ts:=ts) (x:=ev v s) (y:=ev v x) (t:=dg v s)
      (Rl.start λ q hq=>R.1 q (by simp[hq])) (λ s hs=>by rw[dV]at hs;exact hs)
      (λ q hq=>by rw[dV]at hq;exact R.1 q (by simp[hq])) (eY hs)
     exact .i5 ⟨hs.1,g1⟩ g2 g3
    .exact hs.elim
   |clear=>
    simp only[bK]at R⊢;simp only[ah]at hs⊢;split at hs
    .rename_i s h0;simp only[h0,dt,hY,dz]at R⊢;obtain⟨g1,g2,g3⟩:=B3 (T:=T) (ts:=ts) (x:=ev v s) (t:=dg v s)
      (Rl.start λ q hq=>R.1 q (by simp[hq])) (λ s hs=>by rw[dV]at hs;exact hs) (eY hs)
     exact .i5 ⟨hs.1,g1⟩ g2 g3
    .exact hs.elim
   |max=>exact .calm rfl hs (iq vQ)
   |min=>exact .calm rfl hs (iq vQ)
   |_=>exact hs.elim
  |_=>exact hs.elim
 |_=>exact hs.elim
end
section
variable {v v':List AV} {r r' r0 r0':Rs} {T:Nat->Option TI} {c:Bool}
theorem tC {s:Nat} (h:aa s r'=aa s r):∀{xs:List C},fC r' s xs=fC r s xs
 |[]=>rfl
 |x::xs=>by
  have e:fh r' s x=fh r s x:=by
   unfold fh;split
   .rfl
   .rfl
   .split
    .rename_i hd lo n e;rw[lv (r:=r) (r':=r') (x:= .own hd lo n) (by simp[aX,e,h])]
    .rfl
   .rfl
  simp only[fC];rw[e,tC h]
mutual
theorem um:∀{x:C},(∀s∈aX x,aa s r'=aa s r)->aN r' x=aN r x
 | .d _,_=>by simp only[aN]
 | .aI _ _,_=>by simp only[aN]
 | .cZ _,_=>by simp only[aN]
 | .ab,_=>by simp only[aN]
 | .dead,_=>by simp only[aN]
 | .cN cs,h=>by simp only[aN];rw[ld (by simpa[aX]using h)]
 | .cP hd lo n k,h=>by simp only[aN];rw[lv h]
 | .lk _ _ _,_=>by simp only[aN]
 | .own hd lo n,h=>by simp only[aN];rw[lv h]
 | .ptr hd off,h=>by
  simp only[aN];rw[fy (h hd.s (by simp[aX]))];cases ax r hd with
  |none=>rfl
  |some res=>simp only;rw[tC (h hd.s (by simp[aX]))]
 | .dF f caps,h=>by simp only[aN];rw[ld (by simpa[aX]using h)]
theorem ld:∀{xs:List C},(∀s∈bp xs,aa s r'=aa s r)->aN.lendCs r' xs=aN.lendCs r xs
 |[],_=>by simp only[aN.lendCs]
 |x::xs,h=>by simp only[aN.lendCs];rw[um λ s hs=>h s (by simp[bp,hs]),ld λ s hs=>h s (by simp[bp,hs])]
end
theorem uK {x:AV} (h:∀s∈aY x,aa s r'=aa s r):iA r' x=iA r x:=by
 unfold iA;split
 .rw[um (by simpa[aY]using h)]
 .rw[ld (by simpa[aY]using h)]
 .rfl
theorem nL:∀{xs:List AV},(∀s∈dq xs,aa s r'=aa s r)->ef r' xs=ef r xs
 |[],_=>rfl
 |x::xs,h=>by simp only[ef];rw[uK λ s hs=>h s (by simp[dq,hs]),nL λ s hs=>h s (by simp[dq,hs])]
theorem pD:∀{xs:List C},dq (xs.map AV.one)=bp xs
 |[]=>rfl
 |x::xs=>by simp[dq,bp,aY,pD (xs:=xs)]
theorem vr {f:Operand} {args:Array Operand} (h1:∀s∈dg v f,aa s r'=aa s r) (h2:∀s∈dt v args.toList,aa s r'=aa s r):
  bY v r' f args=bY v r f args:=by
 unfold bY;rw[nL (xs:=cj v args.toList) (by rw[nM];exact h2)];split
 .rename_i n caps as g1 g2;rw[nL (xs:=caps.map AV.one)];rw[pD];intro s hs;refine h1 s ?_;rw[←dV];unfold gn at g1;split at g1
  .cases g1;simp[bp]at hs
  .rename_i n' caps' h3;cases g1;rw[h3];simpa[aY,aX]using hs
  .cases g1
 .rfl
theorem sS {B:Bool} {dst:Option Nat} {rfs:List RF} (h:∀s∈dl dst,aa s r'=aa s r):
  (eD B r' dst rfs).1=(eD B r dst rfs).1/\(∀s∈dl dst,aa s (eD B r' dst rfs).2=aa s (eD B r dst rfs).2)/\
   ∀s,s ∉ dl dst->aa s (eD B r' dst rfs).2=aa s r'/\aa s (eD B r dst rfs).2=aa s r:=by
 unfold eD;simp only;split
 .exact⟨rfl,h,λ _ _=>⟨rfl,rfl⟩⟩
 .cases dst with
  |none=>exact⟨rfl,h,λ _ _=>⟨rfl,rfl⟩⟩
  |some d=>
   have hd:=iz (h d (by simp[dl]));simp only;rw[hd];have R:=Rl.set (y:={next:=af r d+1,l:=none::cT B (af r d) (rfs.flatMap RF.cells)}) (Rl.start h) (s:=d) (by simp[dl]);exact⟨rfl,R.1,λ s hs=>⟨(R.2 s hs).2,(R.2 s hs).1⟩⟩
theorem ui {dst:Option Nat} {rfs:List RF} (h:∀s∈dl dst,aa s r'=aa s r):
  (cS r' dst rfs).1=(cS r dst rfs).1/\(∀s∈dl dst,aa s (cS r' dst rfs).2=aa s (cS r dst rfs).2)/\
   ∀s,s ∉ dl dst->aa s (cS r' dst rfs).2=aa s r'/\aa s (cS r dst rfs).2=aa s r:=sS h
variable {cx:Cx} {a:Act} {w:World} {β:Nat->Nat->Pl} {all:List Oper}
theorem lH (h:aw cx ⟨v,r⟩ a w β) {j:Nat} {want c' b:Bool} (hg:de all v j=some (c',b)):(yielded all.toArray a.tmps j==some want)=(c'&&(b==want)):=by
 unfold de at hg;split at hg
 .rename_i o ho;split at hg
  .rename_i d hd;have hy:yielded all.toArray a.tmps j=(match a.tmps[d]? with|some (.bool b)=>some b|_=>none):=by unfold yielded;simp only[jR,ho,Option.bind_some,hd];rfl
   rw[fe]at hg;cases hv:v[d]? with
   |none=>rw[hv]at hg;simp[jo]at hg
   |some y=>
    obtain⟨u,h1,h2⟩:=h.sl d y hv;rw[hv]at hg;simp only[Option.getD_some]at hg;rw[hy,h1];have hu:(c'=true->u= .bool b)/\(c'=false->u=undef):=by
     unfold jo at hg;split at hg
     .cases hg;exact⟨λ _=>(bj.1 h2).1,λ h=>by cases h⟩
     .cases hg;simp only[ak]at h2;exact⟨λ h=>(dN.1 (h2.1 h)).1,h2.2⟩
     .cases hg;simp only[ak]at h2;exact⟨λ h=>by(cases h),λ _=>h2.2 trivial⟩
     .cases hg
    cases c' with
    |true=>rw[hu.1 rfl];simp
    |false=>rw[hu.2 rfl];simp[undef]
  .cases hg
 .cases hg
theorem eZ {dst:Option Nat} {op:Op}:∀s∈(bK v dst op).w,s∈(bK v dst op).t:=by
 intro s hs;have hh:∀{l:List Operand},s∈hY v l->s∈dt v l:=λ {l} h=>by
  cases l with
  |nil=>exact h
  |cons x xs=>simp only[hY,dt]at h⊢;simp[h]
 unfold bK at hs⊢;split at hs
 case h_15=>
  simp only[eQ]at hs⊢;exact hs.imp hh id
 all_goals simp_all[FP.both]
theorem Es {dst:Option Nat} {x:AV}:(⟨v,r⟩:G).put dst x=⟨bf v dst x,r⟩:=by cases dst<;>rfl
def rG (cx:Cx) (v':List AV) (r':Rs) (dst:Option Nat) (x:AV) (W:List Nat) (r1:Rs) (a':Act) (w':World):Prop:=
 ∃r1',cU cx ⟨bf v' dst x,r1'⟩ a' w'/\(∀s∈W,aa s r1'=aa s r1)/\∀s,s ∉ W->aa s r1'=aa s r'
theorem wT {o:Oper} {Q:Exit->Act->World->Prop} {K:Act->World->Prop} {x:AV} {r1:Rs} (hd:cd cx v' a w (execOp a.eval o) x r1)
  (hK:∀u w' β',aw cx ⟨v',r1⟩ a w' β'->ak cx w' r1 β' x u->K (a.put o.dst u) w'):o.wp cx.P a w K Q:=by
 obtain⟨n,w',β',u,h1,h2,h3,h4⟩:=hd;unfold Oper.wp;rw[h1];rcases h2 with rfl|⟨rfl,rfl⟩
 .rw[Oper.upon_value];exact hK _ _ _ h3 h4
 .rw[Oper.upon_skip];exact hK _ _ _ h3 h4
theorem im {dst:Option Nat} {x:AV} {u:Value} {W:List Nat} {r1 r2:Rs} (h:aw cx ⟨v',r2⟩ a w β) (hx:ak cx w r2 β x u) (h1:∀s∈W,aa s r2=aa s r1) (h2:∀s,s ∉ W->aa s r2=aa s r'):
  rG cx v' r' dst x W r1 (a.put dst u) w:=
 ⟨r2,⟨β,by rw[←Es];exact h.put dst hx⟩,h1,h2⟩
theorem sN (hT:bx cx.P T) {o:Oper} (hs:(ah T true v r o.dst o.op).sc) (hv:∀x∈o.op.operands.toList,aW v' x=aW v x)
  (hr:∀s∈(bK v o.dst o.op).t,aa s r'=aa s r) (h:aw cx ⟨v',r'⟩ a w β) {Q:Exit->Act->World->Prop}:
  o.wp cx.P a w (rG cx v' r' o.dst (ah T true v r o.dst o.op).x (bK v o.dst o.op).w (ah T true v r o.dst o.op).r) Q:=by
 have hc:=oI (r':=r') hr hs;have hd:=wq (v:=v') (r:=r') (c:=true) hT h rfl (o:=o) (by rw[oP hv];exact hc.sc);rw[oP hv,hc.x]at hd;exact wT hd λ u w' β' g1 g2=>im g1 g2 hc.on λ s hs=>(hc.off s hs).1
end
section
variable {v v':List AV} {r r':Rs} {T:Nat->Option TI} {cx:Cx} {a:Act} {w w':World} {β:Nat->Nat->Pl} {mv:Mv}
theorem jh {hd:Hd} (h:aa hd.s r'=aa hd.s r):ax r' hd=ax r hd:=by unfold ax aq;rw[h]
theorem EV {s:Nat} (h:aa s r'=aa s r) {x:C} (hx:∀t∈aX x,t=s):gB r' x=gB r x:=by
 cases x with
 |own hd lo n=>
  have e:aa hd.s r'=aa hd.s r:=by rw[hx hd.s (by simp[aX])];exact h
  simp only[gB];rw[jh e]
 |_=>rfl
theorem wk {s:Nat} (h:aa s r'=aa s r):∀{l:List C},(∀t∈bp l,t=s)->ch r' l=ch r l
 |[],_=>rfl
 |x::l,hx=>by simp only[ch];rw[EV h (λ t ht=>hx t (by simp[bp,ht])),wk h (λ t ht=>hx t (by simp[bp,ht]))]
theorem vE {s:Nat} (h:aa s r'=aa s r):∀{l:List C},(∀t∈bp l,t=s)->dJ r' l=dJ r l
 |[],_=>rfl
 |x::l,hx=>by
  simp only[dJ];rw[vE h (λ t ht=>hx t (by simp[bp,ht]))];congr 1;cases x with
  |own hd lo n=>
   have e:aa hd.s r'=aa hd.s r:=by rw[hx hd.s (by simp[bp,aX])];exact h
   simp only[i9];rw[jh e]
  |_=>rfl
theorem sm:∀{l m:List C},bp (l++m)=bp l++bp m
 |[],_=>rfl
 |x::l,m=>by simp[bp,sm (l:=l)]
theorem vq {hd:Hd} {off:Nat} (h1:aa hd.s r'=aa hd.s r):jz r' hd off=jz r hd off:=by
 unfold jz;rw[jh h1];cases ax r hd with
 |none=>rfl
 |some res=>
  simp only;by_cases hc:(bp res.cells).all (·==hd.s)=true
  .have hc':∀t∈bp res.cells,t=hd.s:=λ t ht=>by have:=gT.1 hc t ht;simpa using this
   rw[wk h1 hc',vE h1 hc']
  .have hc':(bp res.cells).all (·==hd.s)=false:=by simpa using hc
   rw[hc'];simp only[eI,lP,and_false,jm];cases ch r' res.cells<;>cases ch r res.cells<;>rfl
theorem CN {x:AV} (h:∀s∈aY x,aa s r'=aa s r):dE r' x=dE r x:=by
 cases x with
 |agg l=>
  simp only[dE];cases hsp:gH l with
  |none=>rfl
  |some q=>
   obtain⟨a0,⟨hd,lo,n⟩,b0⟩:=q;have hl:=pA hsp;simp only;have hs:∀s,s∈bp a0∨s=hd.s∨s∈bp b0->aa s r'=aa s r:=λ s hs=>by refine h s ?_;rw[hl];simp only[aY,sm,bp,aX,eQ,dw,List.not_mem_nil,or_false];exact hs
   rw[ld λ s hh=>hs s (.inl hh),ld λ s hh=>hs s (.inr (.inr hh)),jh (hs hd.s (.inr (.inl rfl)))]
 |one c=>
  cases c with
  |ptr hd off=>
   simp only[dE];rw[vq (h hd.s (by simp[aY,aX]))]
  |dF f caps=>
   unfold dE;split
   .rename_i h1;cases h1
   .rename_i h1;cases h1
   .rename_i f' hd off h1;cases h1;rw[vq (h hd.s (by simp[aY,aX,bp]))]
   .rename_i h1;cases h1
   .rfl
  |own hd lo n=>
   have h1:=h hd.s (by simp[aY,aX]);simp only[dE];rw[jh h1]
  |_=>rfl
 |_=>rfl
theorem tu:∀{i:Nat} {xs:List AV},(∀s∈dq xs,aa s r'=aa s r)->eO r' i xs=eO r i xs
 |_,[],_=>by simp[eO]
 |0,x::xs,h=>by simp only[eO];rw[CN λ s hs=>h s (by simp[dq,hs]),nL λ s hs=>h s (by simp[dq,hs])]
 |i+1,x::xs,h=>by simp only[eO];rw[uK λ s hs=>h s (by simp[dq,hs]),tu λ s hs=>h s (by simp[dq,hs])]
theorem sd:∀{l m:List AV},dq (l++m)=dq l++dq m
 |[],_=>rfl
 |x::l,m=>by simp[dq,sd (l:=l)]
theorem pX:∀{l m:List AV} {us vs:List Value},aL cx w r β l us->aL cx w r β m vs->aL cx w r β (l++m) (us++vs)
 |[],m,us,vs,h,h2=>by simp only[aL]at h;subst h;exact h2
 |x::l,m,us,vs,h,h2=>by simp only[iE,aL]at h⊢;obtain⟨u,us',rfl,g1,g2⟩:=h;exact⟨u,us'++vs,rfl,g1,pX g2 h2⟩
theorem DN {i:Nat} {f:Operand} {args:Array Operand} (h1:aW v' f=aW v f) (h2:∀x∈args.toList,aW v' x=aW v x):dv i v' r f args=dv i v r f args:=by unfold dv;rw[gm h1,jf h2]
theorem D1 {i:Nat} {f:Operand} {args:Array Operand} (h1:∀s∈dg v f,aa s r'=aa s r) (h2:∀s∈dt v args.toList,aa s r'=aa s r):
  dv i v r' f args=dv i v r f args:=by
 unfold dv;split
 .rename_i n caps g1;rw[tu (xs:=cj v args.toList++caps.map AV.one)];intro s hs;rw[sd,eQ,nM,pD]at hs;rcases hs with hs|hs
  .exact h2 s hs
  refine h1 s ?_;rw[←dV];unfold gn at g1;split at g1
  .cases g1;simp[bp]at hs
  .rename_i n' caps' h3;cases g1;rw[h3];simpa[aY,aX]using hs
  .cases g1
 .rfl
theorem EN {dst:Option Nat} {aI:List Nat} {l':List RO} (h:aa mv.s r'=aa mv.s r):dB r' dst mv aI l'=dB r dst mv aI l':=by
 cases mv with
 |o hd=>simp only[dB];rw[jh (hd:=hd) (r:=r) (r':=r') h]
 |r hd n=>simp only[dB];rw[jh (hd:=hd) (r:=r) (r':=r') h]
theorem wE (h:aa mv.s r'=aa mv.s r):hG r' mv=hG r mv:=by unfold hG;rw[h]
theorem Dl {l':List RO} (h:aa mv.s r'=aa mv.s r):aa mv.s (fJ r' mv l')=aa mv.s (fJ r mv l')/\
  ∀s,s≠mv.s->aa s (fJ r' mv l')=aa s r'/\aa s (fJ r mv l')=aa s r:=by
 cases mv with
 |o hd=>
  have h':aa hd.s r'=aa hd.s r:=h;simp only[fJ];rw[jh (hd:=hd) h',wE (mv:= .o hd) h];have hn:af r' hd.s=af r hd.s:=by unfold af;rw[h']
  rw[hn];cases ax r hd with
  |none=>exact⟨h',λ s _=>⟨rfl,rfl⟩⟩
  |some res=>
   simp only[Mv.s];refine⟨by rw[bX,bX,ao rfl,ao rfl],λ s hs=>⟨by rw[bX,aj (du hs)],by rw[bX,aj (du hs)]⟩⟩
 |r hd n=>
  have h':aa hd.s r'=aa hd.s r:=h;simp only[fJ];rw[jh (hd:=hd) h',h'];cases ax r hd with
  |none=>exact⟨h',λ s _=>⟨rfl,rfl⟩⟩
  |some res=>
   cases aa hd.s r with
   |none=>exact⟨h',λ s _=>⟨rfl,rfl⟩⟩
   |some rs=>
    simp only[Mv.s];split
    .refine⟨by rw[bX,bX,ao rfl,ao rfl],λ s hs=>⟨by rw[bX,aj (du hs)],by rw[bX,aj (du hs)]⟩⟩
    .refine⟨by rw[bX,bX,ao rfl,ao rfl],λ s hs=>⟨by rw[bX,aj (du hs)],by rw[bX,aj (du hs)]⟩⟩
theorem vj {dst:Option Nat} {rfs:List RF} {l':List RO} (h:∀s∈mv.s::dl dst,aa s r'=aa s r):
  (bindM r' dst mv rfs l').1=(bindM r dst mv rfs l').1/\(∀s∈mv.s::dl dst,aa s (bindM r' dst mv rfs l').2=aa s (bindM r dst mv rfs l').2)/\
   ∀s,s ∉ mv.s::dl dst->aa s (bindM r' dst mv rfs l').2=aa s r'/\aa s (bindM r dst mv rfs l').2=aa s r:=by
 have h0:aa mv.s r'=aa mv.s r:=h mv.s (by simp);unfold bindM;rw[wE h0];obtain⟨b1,b2⟩:=Dl (l':=l') h0;have hall:∀s∈mv.s::dl dst,aa s (fJ r' mv l')=aa s (fJ r mv l'):=λ s hs=>by
  by_cases e:s=mv.s
  .subst e;exact b1
  .rw[(b2 s e).1,(b2 s e).2];exact h s hs
 obtain⟨g1,g2,g3⟩:=sS (B:=hG r mv) (dst:=dst) (rfs:=rfs) (λ s hs=>hall s (List.mem_cons_of_mem _ hs));refine⟨g1,λ s hs=> ?_,λ s hs=> ?_⟩
 .by_cases hd:s∈dl dst
  .exact g2 s hd
  .rw[(g3 s hd).1,(g3 s hd).2];exact hall s hs
 .simp only[dw,not_or]at hs;rw[(g3 s hs.2).1,(g3 s hs.2).2,(b2 s hs.1).1,(b2 s hs.1).2];exact⟨rfl,rfl⟩
theorem CI (h:aw cx ⟨v,r⟩ a w β) {f:Operand} {args:Array Operand} {ts:Array TypeId} {n:FuncId} {as:List Arg} {post:List RF->List (List RO)->Prop} {o:Oper} {i0:Nat} {dst:Option Nat} {aI:List Nat} {l':List RO}
  (ho:o.op= .call ⟨.value f,args,ts⟩) (s1:aO true v f) (s2:cr true v args.toList) (hcall:dv i0 v r f args=some (n,as,mv,aI)) (hsc:dB r dst mv aI l') (hok:ag cx.P n as post):
  ∃(us:Array Value) (hold:ct) (u0:Value),(execOp a.eval o).run cx.P w= .ok (.enter n us) w/\
   (Calls cx.P n us w λ e w'=>∃rfs objs u,post rfs objs/\e= .returned u/\dT w (Av cx r β) (MB r β mv) w' [hold] rfs objs u)/\lW r β mv hold u0:=by
 have e1:=bH h (c:=true) rfl s1;have e2:=iw h (c:=true) rfl s2;unfold dv at hcall;split at hcall
 .rename_i n' caps g1;split at hcall
  .rename_i as' mv' g2;cases hcall;have hcap:∃cv:Array Value,a.eval f= .func (.func n) #[] cv/\ar cx w r β caps cv.toList:=by
    unfold gn at g1;split at g1
    .rename_i n' h1;cases g1;rw[h1]at e1;exact⟨#[],(bj.1 e1).1,by simp[ar]⟩
    .rename_i n' caps' h1;cases g1;rw[h1]at e1;simp only[ak,ae]at e1;obtain⟨us,k1,k2⟩:=e1;exact⟨us,k1,k2⟩
    .cases g1
   obtain⟨cv,k1,k2⟩:=hcap;have hlent:mv.s ∉ fE i0 (cj v args.toList++caps.map AV.one):=by
    have:(dl dst++fE i0 (cj v args.toList++caps.map AV.one)).contains mv.s=false:=by
     cases mv with
     |o hd=>simp only[dB]at hsc;split at hsc;exact hsc.1;exact hsc.elim
     |r hd n=>simp only[dB]at hsc;split at hsc;exact hsc.1;exact hsc.elim
    simp only[mR,eQ,iK,not_or]at this⊢;exact this.2
   obtain⟨x1,y,u0,hold,q0,q1,q2,q3,q4,q5⟩:=pJ h g2 hsc hlent (pX e2 (lb k2));have hargs:=q1 [] [] (λ k=>by simp[aV]);simp only[dz]at hargs;refine⟨(args.toList.map a.eval++cv.toList).toArray,hold,u0, ?_, ?_,q5⟩
   .have:=hok.1 (args.toList.map a.eval++cv.toList).toArray w;have hm:(args.toList.map a.eval++cv.toList).toArray=args.map a.eval++cv:=by apply er;simp
    rw[hm]at this⊢;simp[execOp,ho,resolve,k1,Deferred.ofValue,invoke,this]
   .refine hok.2 w (Av cx r β) (MB r β mv) (γM r β mv) [hold] _ (λ b hb=> ?_) (λ b hb=> .inr hb.ob) hargs (by rw[q2];exact q3) ?_ (by rw[q2];exact q4)
    .rcases hb with hb|⟨s,j,res,o,hl,_,hbs⟩
     .exact c9 (h.a0 b hb) h.n0
     .exact(h.rs _ _ _ hl).1.lt hbs
    .cases hold<;>simp[bI]
  .cases hcall
 .cases hcall
end
section
variable {cx:Cx} {v:List AV} {r r':Rs} {a:Act} {w w':World} {β β':Nat->Nat->Pl} {T:Nat->Option TI} {c:Bool} {mv:Mv}
theorem Da (h:aw cx ⟨v,r⟩ a w β) {f:Operand} {args:Array Operand} {ts:Array TypeId} {n:FuncId} {as:List Arg} {x:Value} {o:Oper} (ho:o.op= .call ⟨.value f,args,ts⟩)
  (hc:c=true) (s1:aO c v f) (s2:cr c v args.toList) (hcall:bY v r f args=some (n,as)) (hok:oE cx.P n as x):
  ∃us:Array Value,(execOp a.eval o).run cx.P w= .ok (.enter n us) w/\
   Calls cx.P n us w λ e w'=>e= .panicked [{v:=x,recovered:=false}]/\l0 w en w':=by
 have e1:=bH h hc s1;have e2:=iw h hc s2;unfold bY at hcall;split at hcall
 .rename_i n' caps as' g1 g2;split at hcall
  .rename_i cs g3;cases hcall
   -- whom it calls
   have hcap:∃cv:Array Value,a.eval f= .func (.func n) #[] cv/\ar cx w r β caps cv.toList:=by
    unfold gn at g1;split at g1
    .rename_i n' h1;cases g1;rw[h1]at e1;exact⟨#[],(bj.1 e1).1,by simp[ar]⟩
    .rename_i n' caps' h1;cases g1;rw[h1]at e1;simp only[ak,ae]at e1;obtain⟨us,k1,k2⟩:=e1;exact⟨us,k1,k2⟩
    .cases g1
   obtain⟨cv,k1,k2⟩:=hcap;have hargs:=kg h g2 e2 (kg h g3 (lb k2) (zs:=[]) (vs:=[]) (by simp[aV]));simp only[dz]at hargs;have hobj:br (as'++cs)=[]:=by rw[jD,jF g2,jF g3];rfl
   refine⟨(args.toList.map a.eval++cv.toList).toArray, ?_, ?_⟩
   .have:=hok.1 (args.toList.map a.eval++cv.toList).toArray w;have hm:(args.toList.map a.eval++cv.toList).toArray=args.map a.eval++cv:=by apply er;simp
    rw[hm]at this⊢;simp[execOp,ho,resolve,k1,Deferred.ofValue,invoke,this]
   .refine hok.2 w (Av cx r β) en (λ _=>⟨none,0⟩) [] _ (λ b hb=> ?_) (λ b hb=>hb.elim) hargs (by rw[hobj];intro b hb;exact hb.elim) List.nodup_nil (by rw[hobj];intro i j b o o' sz n ds bo sz' n' ds' bo' h1;simp at h1);rcases hb with hb|⟨s,j,res,o,hl,_,hbs⟩
    .exact c9 (h.a0 b hb) h.n0
    .exact(h.rs _ _ _ hl).1.lt hbs
  .cases hcall
 .cases hcall
theorem BZ (h:aw cx ⟨v,r⟩ a w β) {f:Operand} {args:Array Operand} {ts:Array TypeId} {n:FuncId} {as:List Arg} {x:Value} {o:Oper} {i0:Nat} {dst:Option Nat} {aI:List Nat} {l':List RO}
  (ho:o.op= .call ⟨.value f,args,ts⟩) (s1:aO true v f) (s2:cr true v args.toList) (hcall:dv i0 v r f args=some (n,as,mv,aI)) (hsc:dB r dst mv aI l') (hok:oE cx.P n as x):
  ∃(us:Array Value) (hold:ct) (u0:Value),(execOp a.eval o).run cx.P w= .ok (.enter n us) w/\
   (Calls cx.P n us w λ e w'=>e= .panicked [{v:=x,recovered:=false}]/\l0 w (MB r β mv) w')/\lW r β mv hold u0:=by
 have e1:=bH h (c:=true) rfl s1;have e2:=iw h (c:=true) rfl s2;unfold dv at hcall;split at hcall
 .rename_i n' caps g1;split at hcall
  .rename_i as' mv' g2;cases hcall;have hcap:∃cv:Array Value,a.eval f= .func (.func n) #[] cv/\ar cx w r β caps cv.toList:=by
    unfold gn at g1;split at g1
    .rename_i n' h1;cases g1;rw[h1]at e1;exact⟨#[],(bj.1 e1).1,by simp[ar]⟩
    .rename_i n' caps' h1;cases g1;rw[h1]at e1;simp only[ak,ae]at e1;obtain⟨us,k1,k2⟩:=e1;exact⟨us,k1,k2⟩
    .cases g1
   obtain⟨cv,k1,k2⟩:=hcap;have hlent:mv.s ∉ fE i0 (cj v args.toList++caps.map AV.one):=by
    have:(dl dst++fE i0 (cj v args.toList++caps.map AV.one)).contains mv.s=false:=by
     cases mv with
     |o hd=>simp only[dB]at hsc;split at hsc;exact hsc.1;exact hsc.elim
     |r hd n=>simp only[dB]at hsc;split at hsc;exact hsc.1;exact hsc.elim
    simp only[mR,eQ,iK,not_or]at this⊢;exact this.2
   obtain⟨x1,y,u0,hold,q0,q1,q2,q3,q4,q5⟩:=pJ h g2 hsc hlent (pX e2 (lb k2));have hargs:=q1 [] [] (λ k=>by simp[aV]);simp only[dz]at hargs;refine⟨(args.toList.map a.eval++cv.toList).toArray,hold,u0, ?_, ?_,q5⟩
   .have:=hok.1 (args.toList.map a.eval++cv.toList).toArray w;have hm:(args.toList.map a.eval++cv.toList).toArray=args.map a.eval++cv:=by apply er;simp
    rw[hm]at this⊢;simp[execOp,ho,resolve,k1,Deferred.ofValue,invoke,this]
   .refine hok.2 w (Av cx r β) (MB r β mv) (γM r β mv) [hold] _ (λ b hb=> ?_) (λ b hb=> .inr hb.ob) hargs (by rw[q2];exact q3) ?_ (by rw[q2];exact q4)
    .rcases hb with hb|⟨s,j,res,o,hl,_,hbs⟩
     .exact c9 (h.a0 b hb) h.n0
     .exact(h.rs _ _ _ hl).1.lt hbs
    .cases hold<;>simp[bI]
  .cases hcall
 .cases hcall
theorem B5 (h:aw cx ⟨v,r⟩ a w β) (p:l0 w en w'):aw cx ⟨v,r⟩ a w' β:=by
 have x:Ext cx w r β w' r β:=⟨λ _=>Nat.le_refl _,λ hd res' _ hg=>⟨res',hg,rfl,rfl,rfl,Nat.le_refl _⟩,⟨λ b hb _=>p.aP b hb (λ h=>h),λ b _ h=>h⟩,
  λ b hb _=>p.aP b (c9 hb h.n0) (λ h=>h),p.os,p.out⟩
 refine h.mk' x (λ s j res hl=> ?_) h.inj h.fr p.size;obtain⟨g1,g2⟩:=h.rs s j res hl;exact⟨g1.ext x (λ b o hb=>p.aP b (g1.lt hb) (λ h=>h)) (λ b o hb=>g1.lt hb),g2⟩
theorem tc {s:Nat}:aa s (jZ r mv)=if s=mv.s then(aa s r).map (λ rs=>{rs with l:=[]})else aa s r:=by
 unfold jZ;by_cases hs:s=mv.s
 .subst hs;rw[ao rfl];cases hf:aa mv.s r with
  |none=>simp[hf]
  |some rs=>simp only[bX,ao,fZ]
 .rw[aj hs];cases hf:aa mv.s r with
  |none=>rfl
  |some rs=>simp only;rw[bX,aj (du hs)]
theorem tH {s:Nat}:af (jZ r mv) s=af r s:=by
 unfold af;rw[tc];by_cases hs:s=mv.s
 .rw[ao hs];cases aa s r<;>rfl
 .rw[aj hs]
theorem kZ {s j:Nat} {res:aM} (hl:aq (jZ r mv) s j=some res):s≠mv.s/\aq r s j=some res:=by
 unfold aq at hl⊢;rw[tc]at hl;by_cases hs:s=mv.s
 .rw[ao hs]at hl;cases hf:aa s r with
  |none=>rw[hf]at hl;simp at hl
  |some rs=>rw[hf]at hl;simp at hl
 .rw[aj hs]at hl;exact⟨hs,hl⟩
theorem BF (h:aw cx ⟨v,r⟩ a w β) (p:l0 w (MB r β mv) w'):aw cx ⟨v,jZ r mv⟩ a w' β:=by
 have hav:∀b,Av cx (jZ r mv) β b->Av cx r β b:=λ b hb=>by
  rcases hb with hb|⟨s,j,res,o,hl,hf,hbs⟩
  .exact .inl hb
  .exact .inr ⟨s,j,res,o,(kZ hl).2,hf,hbs⟩
 have hsame:∀s j res b o,s≠mv.s->aq r s j=some res->(β s j).base=some (b,o)->w'.heap[b]? =w.heap[b]? :=λ s j res b o hs hl hb=>by
  refine p.aP b ((h.rs _ _ _ hl).1.lt hb) λ hm=> ?_
  obtain⟨k,res',o',_,h2,h3,h4⟩:=hm;cases hf:res.fz with
  |false=>exact hs (h.inj _ _ _ _ _ _ _ _ _ hl hf h2 h3 hb h4).1
  |true=>
   have hok:=(h.rs _ _ _ hl).1;unfold bn at hok;rw[aj (by simp[h.vz _ _ _ hl hf])]at hok;obtain⟨_,_,_,g⟩:=hok;exact g hf b o hb (.inr ⟨_,k,res',o',h2,h3,h4⟩)
 have x:Ext cx w r β w' (jZ r mv) β:=by
  refine⟨λ s=>by rw[tH];exact Nat.le_refl _,λ hd res' _ hg=> ?_,⟨λ b hb hn=>p.aP b hb (λ hm=>hn (.inr hm.ob)),λ b _ hb=>hav b hb⟩,λ b hb hn=> ?_,p.os,p.out⟩
  .obtain⟨hl,he⟩:=bh hg;exact⟨res',dH (kZ hl).2 he,rfl,rfl,rfl,Nat.le_refl _⟩
  .refine p.aP b (c9 hb h.n0) λ hm=> ?_
   rcases hm.fr h with h1|h1
   .omega
   .exact hn h1
 refine h.mk' x (λ s j res hl=> ?_) (λ s j res s' j' res' b o o' hl hf hl' hf' hb hb'=>h.inj _ _ _ _ _ _ _ _ _ (kZ hl).2 hf (kZ hl').2 hf' hb hb')
  (λ s j res b o hl hf hb=>h.fr _ _ _ _ _ (kZ hl).2 hf hb) p.size
 obtain⟨hs,hl'⟩:=kZ hl;obtain⟨g1,g2⟩:=h.rs s j res hl';exact⟨g1.ext x (λ b o hb=>hsame s j res b o hs hl' hb) (λ b o hb=>g1.lt hb),by rw[tH];exact g2⟩
end
section
variable {v v':List AV} {r r':Rs} {T:Nat->Option TI} {c:Bool} {cx:Cx} {a:Act} {w:World} {β:Nat->Nat->Pl} {all:List Oper}
theorem ua {o:Oper} {f:Operand} {args:Array Operand} {ts:Array TypeId} {rfs:List RF} {n:FuncId} {as:List Arg} (ho:o.op= .call ⟨.value f,args,ts⟩) (hc:c=true)
  (s1:aO c v f) (s2:cr c v args.toList) (hcall:bY v r f args=some (n,as)) (hok:ag cx.P n as (λ r o=>r=rfs/\o=[]))
  (hv:∀x∈o.op.operands.toList,aW v' x=aW v x) (hr:∀s∈(bK v o.dst o.op).t,aa s r'=aa s r) (h:aw cx ⟨v',r'⟩ a w β)
  {Q:Exit->Act->World->Prop} {K:Act->World->Prop} (hK:∀u w',dT w (Av cx r' β) en w' [] rfs [] u->K (a.put o.dst u) w'):o.wp cx.P a w K Q:=by
 rw[ho]at hv hr;simp only[bK]at hr;have h1:aW v' f=aW v f:=hv f (by simp[Op.operands,Call.operands]);have h2:∀x∈args.toList,aW v' x=aW v x:=λ x hx=>hv x (by simp[Op.operands,Call.operands,hx])
 have h3:bY v' r' f args=some (n,as):=by rw[vL h1 h2,vr (λ s hs=>hr s (by simp[hs])) (λ s hs=>hr s (by simp[hs])),hcall]
 obtain⟨us,g1,g2⟩:=DA h ho hc (by rw[fw h1];exact s1) (by rw[iS h2];exact s2) h3 hok;unfold Oper.wp;rw[g1,mU];refine g2.mono λ e w' ⟨rfs',objs,u,⟨e1,e2⟩,e3,e4⟩=> ?_
 subst e1 e2 e3;exact hK u w' e4
def fA (cx:Cx) (all:List Oper) (o:Oper) (v:List AV) (r:Rs) (fp:FP) (x:AV) (r1:Rs):Prop:=
 (∀s,s ∉ fp.w->aa s r1=aa s r)/\
 ∀v' r',(∀x∈o.op.operands.toList,aW v' x=aW v x)->(∀j b,o.guard=some (j,b)->de all v' j=de all v j)->(∀s∈fp.t,aa s r'=aa s r)->
  ∀a w β,aw cx ⟨v',r'⟩ a w β->∀i Q,all.toArray[i]? =some o->wpOp cx.P all.toArray Q i (rG cx v' r' o.dst x fp.w r1) a w
theorem iR {o:Oper} {i:Nat} {Q:Exit->Act->World->Prop} {K:Act->World->Prop} (hi:all.toArray[i]? =some o) (hw:Region.wanted o (yielded all.toArray a.tmps)=true)
  (h:o.wp cx.P a w K Q):wpOp cx.P all.toArray Q i K a w:=by
 unfold wpOp;simp only[hi,hw,eP];exact .inl h
theorem nS {o:Oper} {i:Nat} {Q:Exit->Act->World->Prop} {K:Act->World->Prop} (hi:all.toArray[i]? =some o) (hw:Region.wanted o (yielded all.toArray a.tmps)=false)
  (h:K (a.put o.dst undef) w):wpOp cx.P all.toArray Q i K a w:=by
 unfold wpOp;simp only[hi,hw,lP,jm];exact h
theorem sb {o:Oper} {y:Nat->Option Bool} (h:o.guard=none):Region.wanted o y=true:=by unfold Region.wanted;rw[h]
theorem kV {o:Oper} {y:Nat->Option Bool} {j:Nat} {b:Bool} (h:o.guard=some (j,b)):Region.wanted o y=(y j==some b):=by unfold Region.wanted;rw[h]
def Wd (cx:Cx) (all:List Oper) (o:Oper) (v:List AV):Prop:=∀(v':List AV) (r':Rs) (a:Act) (w:World) (β:Nat->Nat->Pl),(∀j b,o.guard=some (j,b)->de all v' j=de all v j)->aw cx ⟨v',r'⟩ a w β->
 Region.wanted o (yielded all.toArray a.tmps)=true
theorem vg {o:Oper} (hg:o.guard=none):Wd cx all o v:=λ _ _ _ _ _ _ _=>sb hg
theorem DF {o:Oper} {j:Nat} {want c' b:Bool} (hg:o.guard=some (j,want)) (hgd:de all v j=some (c',b)) (hcc:(c'&&(b==want))=true):Wd cx all o v:=λ v' r' a w β hgv h=>by have hwant:=lH h (show de all v' j=some (c',b) by rw[hgv j want hg];exact hgd) (want:=want);rw[←kV hg,hcc]at hwant;exact hwant
theorem BW (hT:bx cx.P T) {o:Oper} (hg:o.guard=none) (hs:(ah T true v r o.dst o.op).sc):fA cx all o v r (bK v o.dst o.op) (ah T true v r o.dst o.op).x (ah T true v r o.dst o.op).r:=
 ⟨λ s hs'=>((oI (r':=r) (λ _ _=>rfl) hs).off s hs').2,λ v' r' hv _ hr a w β h i Q hi=>iR hi (sb hg) (sN hT hs hv hr h)⟩
theorem rW {o:Oper} {f:Operand} {args:Array Operand} {ts:Array TypeId} {rfs:List RF} {n:FuncId} {as:List Arg} (ho:o.op= .call ⟨.value f,args,ts⟩) (hw:Wd cx all o v)
  (s1:aO true v f) (s2:cr true v args.toList) (hcall:bY v r f args=some (n,as)) (hok:ag cx.P n as (λ r o=>r=rfs/\o=[])):
  fA cx all o v r (bK v o.dst o.op) (cS r o.dst rfs).1 (cS r o.dst rfs).2:=by
 have hfw:(bK v o.dst o.op).w=dl o.dst:=by rw[ho];rfl
 refine⟨λ s hs=> ?_,λ v' r' hv hgv hr a w β h i Q hi=>iR hi (hw v' r' a w β hgv h) (ua ho rfl s1 s2 hcall hok hv hr h λ u w' hret=> ?_)⟩
 .rw[hfw]at hs;exact((ui (r':=r) (dst:=o.dst) (rfs:=rfs) λ _ _=>rfl).2.2 s hs).2
 .obtain⟨β',g1,g2⟩:=Em h hret o.dst;obtain⟨e1,e2,e3⟩:=ui (r:=r) (r':=r') (dst:=o.dst) (rfs:=rfs) (λ s hs=>hr s (eZ s (by rw[hfw];exact hs)));rw[e1]at g2;rw[hfw];exact im g1 g2 e2 λ s hs=>(e3 s hs).1
theorem CA {o:Oper} {f:Operand} {args:Array Operand} {ts:Array TypeId} {d:Value} (ho:o.op= .call ⟨.value f,args,ts⟩) (hw:Wd cx all o v)
  (s1:aO true v f) (s2:cr true v args.toList) (he:mM cx.P v r f args d):fA cx all o v r (bK v o.dst o.op) (.one (.d (.v d))) r:=by
 refine⟨λ s _=>rfl,λ v' r' hv hgv hr a w β h i Q hi=>iR hi (hw v' r' a w β hgv h) ?_⟩;obtain⟨hd,n,hn,he⟩:=he;rw[ho]at hv hr;simp only[bK]at hr;have h1:aW v' f=aW v f:=hv f (by simp[Op.operands,Call.operands]);have h2:∀x∈args.toList,aW v' x=aW v x:=λ x hx=>hv x (by simp[Op.operands,Call.operands,hx])
 have e1:=bH h rfl (c:=true) (x:=f) (by rw[fw h1];exact s1);have e2:=iw h rfl (c:=true) (xs:=args.toList) (by rw[iS h2];exact s2);rw[gm h1]at e1;rw[jf h2]at e2;have hfn:a.eval f= .func (.func n) #[] #[]:=by
  unfold gn at hn;split at hn
  .rename_i n' h3;cases hn;rw[h3]at e1;exact(bj.1 e1).1
  .rename_i n' caps' h3;cases hn;rw[h3]at e1;simp only[ak,ae,ar]at e1;obtain⟨us,k1,k2⟩:=e1;rw[k1];congr 1;apply er;simpa using k2
  .cases hn
 have hrun:=he cx v' r' a w β rfl (λ s hs=>hr s (by simp[hs])) h _ e2;have hm:(args.toList.map a.eval).toArray=args.map a.eval:=by apply er;simp
 rw[hm]at hrun;unfold Oper.wp;have hex:(execOp a.eval o).run cx.P w= .ok (.value d) w:=by simp[execOp,ho,resolve,hfn,Deferred.ofValue,invoke,hrun]
 rw[hex,Oper.upon_value]
 exact im h (bj.2 ⟨rfl,hd⟩) (λ s hs=>hr s (by
  have:(bK v o.dst o.op).w=dl o.dst:=by rw[ho];rfl
  rw[this]at hs;simp[hs])) λ s _=>rfl
theorem DD (hT:bx cx.P T) {o:Oper} {j:Nat} {want c' b:Bool} (hg:o.guard=some (j,want)) (hgd:de all v j=some (c',b)) (hable:oz o.op=true)
  (hs:(ah T (c'&&(b==want)) v r o.dst o.op).sc):fA cx all o v r (bK v o.dst o.op) (.gd (c'&&(b==want)) (ah T (c'&&(b==want)) v r o.dst o.op).x) r:=by
 have hw0:(bK v o.dst o.op).w=[]:=by
  cases ho:o.op with
  |call k=>
   obtain⟨callee,as,ts⟩:=k;cases callee with
   |builtin bb=>cases bb<;>first|rfl|(rw[ho]at hable;cases hable)
   |_=>rw[ho]at hable;cases hable
  |_=>first|rfl|(rw[ho]at hable;cases hable)
 refine⟨λ _ _=>rfl,λ v' r' hv hgv hr a w β h i Q hi=> ?_⟩;have hgd':de all v' j=some (c',b):=by rw[hgv j want hg];exact hgd
 have hwant:=lH h hgd' (want:=want);rw[←kV hg]at hwant;cases hcc:(c'&&(b==want))with
 |true=>
  rw[hcc]at hwant hs;refine iR hi hwant ?_;have hc:=oI (r':=r') hr hs;have hd:=wq (v:=v') (r:=r') (c:=true) hT h rfl (o:=o) (by rw[oP hv];exact hc.sc);rw[oP hv,hc.x]at hd;rw[qf hable hc.sc]at hd;refine wT hd λ u w' β' g1 g2=> ?_
  rw[hw0];exact im g1 (by simp only[ak];exact⟨λ _=>g2,λ h=>by cases h⟩) (λ s hs=>by simp at hs) λ s _=>rfl
 |false=>
  rw[hcc]at hwant;refine nS hi hwant ?_;rw[hw0];exact im h (by simp only[ak];exact⟨λ h=>(by cases h),λ _=>by trivial⟩) (λ s hs=>by simp at hs) λ s _=>rfl
theorem A5 {o:Oper} {f:Operand} {args:Array Operand} {ts:Array TypeId} {rfs:List RF} {n:FuncId} {as:List Arg} {j:Nat} {want c' b:Bool} (ho:o.op= .call ⟨.value f,args,ts⟩) (hg:o.guard=some (j,want))
  (hgd:de all v j=some (c',b)) (s1:aO (c'&&(b==want)) v f) (s2:cr (c'&&(b==want)) v args.toList) (hcall:bY v r f args=some (n,as))
  (hok:(c'&&(b==want))=true->ag cx.P n as (λ r o=>r=rfs/\o=[])) (hno:eu (rfs.flatMap RF.cells)=true):
  fA cx all o v r (bK v o.dst o.op) (.gd (c'&&(b==want)) (fb (ed 0 0 0 rfs))) r:=by
 refine⟨λ _ _=>rfl,λ v' r' hv hgv hr a w β h i Q hi=> ?_⟩;have hgd':de all v' j=some (c',b):=by rw[hgv j want hg];exact hgd
 have hwant:=lH h hgd' (want:=want);rw[←kV hg]at hwant;cases hcc:(c'&&(b==want))with
 |true=>
  rw[hcc]at hwant;refine iR hi hwant (ua ho hcc s1 s2 hcall (hok hcc) hv hr h λ u w' hret=> ?_);obtain⟨g1,g2⟩:=tS h hno hret;exact im g1 (by simp only[ak];exact⟨λ _=>g2,λ h=>by cases h⟩) (λ s hs=>hr s (eZ s hs)) λ s _=>rfl
 |false=>
  rw[hcc]at hwant;refine nS hi hwant ?_;exact im h (by simp only[ak];exact⟨λ h=>(by cases h),λ _=>by trivial⟩) (λ s hs=>hr s (eZ s hs)) λ s _=>rfl
theorem CF (hT:bx cx.P T) {o:Oper} {j:Nat} {want c' b:Bool} (hg:o.guard=some (j,want)) (hgd:de all v j=some (c',b)) (hcc:(c'&&(b==want))=true)
  (hs:(ah T true v r o.dst o.op).sc):fA cx all o v r (bK v o.dst o.op) (ah T true v r o.dst o.op).x (ah T true v r o.dst o.op).r:=by
 refine⟨λ s hs'=>((oI (r':=r) (λ _ _=>rfl) hs).off s hs').2,λ v' r' hv hgv hr a w β h i Q hi=> ?_⟩;have hwant:=lH h (show de all v' j=some (c',b) by rw[hgv j want hg];exact hgd) (want:=want);rw[←kV hg,hcc]at hwant;exact iR hi hwant (sN hT hs hv hr h)
theorem om {o:Oper} {j:Nat} {want c' b:Bool} (hg:o.guard=some (j,want)) (hgd:de all v j=some (c',b)) (hcc:(c'&&(b==want))=false):fA cx all o v r (bK v o.dst o.op) i4 r:=by refine⟨λ _ _=>rfl,λ v' r' hv hgv hr a w β h i Q hi=> ?_⟩;have hwant:=lH h (show de all v' j=some (c',b) by rw[hgv j want hg];exact hgd) (want:=want);rw[←kV hg,hcc]at hwant;exact nS hi hwant (im h (by simp[ak,ae]) (λ s hs=>hr s (eZ s hs)) λ s _=>rfl)
theorem CY {o:Oper} {j:Nat} {want c' b:Bool} {x:AV} (hg:o.guard=some (j,want)) (hgd:de all v j=some (c',b)) (hcc:(c'&&(b==want))=false):fA cx all o v r (bK v o.dst o.op) (.gd (c'&&(b==want)) x) r:=by refine⟨λ _ _=>rfl,λ v' r' hv hgv hr a w β h i Q hi=> ?_⟩;have hwant:=lH h (show de all v' j=some (c',b) by rw[hgv j want hg];exact hgd) (want:=want);rw[←kV hg,hcc]at hwant;exact nS hi hwant (im h (by rw[hcc];simp[ak,ae]) (λ s hs=>hr s (eZ s hs)) λ s _=>rfl)
theorem sX {o:Oper} {f:Operand} {args:Array Operand} {ts:Array TypeId} {rfs:List RF} {l':List RO} {n:FuncId} {as:List Arg} {mv:Mv} {aI:List Nat} {i0:Nat} (ho:o.op= .call ⟨.value f,args,ts⟩) (hw:Wd cx all o v)
  (s1:aO true v f) (s2:cr true v args.toList) (hcall:dv i0 v r f args=some (n,as,mv,aI)) (hok:ag cx.P n as (λ r o=>r=rfs/\o=[l'])) (hsc:dB r o.dst mv aI l'):
  fA cx all o v r ⟨(bK v o.dst o.op).t++[mv.s],mv.s::dl o.dst⟩ (bindM r o.dst mv rfs l').1 (bindM r o.dst mv rfs l').2:=by
 refine⟨λ s hs=>(vj (r:=r) (r':=r) (λ _ _=>rfl)).2.2 s hs|>.2,λ v' r' hv hgv hr a w β h i Q hi=>iR hi (hw v' r' a w β hgv h) ?_⟩;rw[ho]at hv;have hft:∀s∈(dg v f++(dt v args.toList++dl o.dst)),aa s r'=aa s r:=λ s hs=>hr s (jV _ (by rw[ho];exact hs))
 have hms:aa mv.s r'=aa mv.s r:=hr mv.s (kE _ (by simp));have h1:aW v' f=aW v f:=hv f (by simp[Op.operands,Call.operands]);have h2:∀x∈args.toList,aW v' x=aW v x:=λ x hx=>hv x (by simp[Op.operands,Call.operands,hx])
 have h3:dv i0 v' r' f args=some (n,as,mv,aI):=by rw[DN h1 h2,D1 (λ s hs=>hft s (by simp[hs])) (λ s hs=>hft s (by simp[hs])),hcall]
 have hsc':dB r' o.dst mv aI l':=by rw[EN hms];exact hsc
 obtain⟨us,hold,u0,g1,g2,g3⟩:=CI h ho (by rw[fw h1];exact s1) (by rw[iS h2];exact s2) h3 hsc' hok;unfold Oper.wp;rw[g1,mU];refine g2.mono λ e w' ⟨rfs',objs,u,⟨e1,e2⟩,e3,e4⟩=> ?_
 subst e1 e2 e3;obtain⟨β',q1,q2⟩:=D7 h g3 hsc' e4
 obtain⟨k1,k2,k3⟩:=vj (r:=r) (r':=r') (dst:=o.dst) (mv:=mv) (rfs:=rfs') (l':=l') (λ s hs=>by
  rcases dw.1 hs with rfl|hs
  .exact hms
  .exact hft s (by simp[hs]))
 rw[k1]at q2;exact im q1 q2 k2 λ s hs=>(k3 s hs).1
theorem uS {d:Nat} {rfs:List RF} {l:List RO} (h:∀s∈(d+pK)::dl (some d),aa s r'=aa s r):
  (cI r' d rfs l).1=(cI r d rfs l).1/\(∀s∈(d+pK)::dl (some d),aa s (cI r' d rfs l).2=aa s (cI r d rfs l).2)/\
   ∀s,s ∉ (d+pK)::dl (some d)->aa s (cI r' d rfs l).2=aa s r'/\aa s (cI r d rfs l).2=aa s r:=by
 have h1:af r' d=af r d:=iz (h d (by simp[dl]));have h2:af r' (d+pK)=af r (d+pK):=iz (h (d+pK) (by simp));unfold cI;rw[h1,h2];split
 .refine⟨rfl,λ s hs=> ?_,λ s hs=> ?_⟩
  .rw[bX,bX,h s hs]
  .simp only[dl,dw,List.not_mem_nil,or_false,not_or]at hs;rw[bX,bX,aj (du hs.2),aj (du hs.2)];exact⟨rfl,rfl⟩
 .refine⟨rfl,λ s hs=> ?_,λ s hs=> ?_⟩
  .rw[bX,bX,bX,bX,h s hs]
  .simp only[dl,dw,List.not_mem_nil,or_false,not_or]at hs;rw[bX,bX,bX,bX,aj (du hs.1),aj (du hs.2),aj (du hs.1),aj (du hs.2)];exact⟨rfl,rfl⟩
theorem sQ {o:Oper} {f:Operand} {args:Array Operand} {ts:Array TypeId} {rfs:List RF} {l:List RO} {n:FuncId} {as:List Arg} {d:Nat} (ho:o.op= .call ⟨.value f,args,ts⟩) (hw:Wd cx all o v) (hd:o.dst=some d)
  (s1:aO true v f) (s2:cr true v args.toList) (hcall:bY v r f args=some (n,as)) (hok:c8 cx.P n as rfs l):
  fA cx all o v r ⟨(bK v o.dst o.op).t++[d+pK],(d+pK)::dl o.dst⟩ (cI r d rfs l).1 (cI r d rfs l).2:=by
 refine⟨λ s hs=>(uS (r:=r) (r':=r) (λ _ _=>rfl)).2.2 s (by rw[hd]at hs;exact hs)|>.2,λ v' r' hv hgv hr a w β h i Q hi=>iR hi (hw v' r' a w β hgv h) ?_⟩;rw[ho]at hv;have hft:∀s∈(dg v f++(dt v args.toList++dl o.dst)),aa s r'=aa s r:=λ s hs=>hr s (jV _ (by rw[ho];exact hs))
 have h1:aW v' f=aW v f:=hv f (by simp[Op.operands,Call.operands]);have h2:∀x∈args.toList,aW v' x=aW v x:=λ x hx=>hv x (by simp[Op.operands,Call.operands,hx])
 have h3:bY v' r' f args=some (n,as):=by rw[vL h1 h2,vr (λ s hs=>hft s (by simp[hs])) (λ s hs=>hft s (by simp[hs])),hcall]
 obtain⟨us,g1,g2⟩:=Dg h ho rfl (by rw[fw h1];exact s1) (by rw[iS h2];exact s2) h3 hok;unfold Oper.wp;rw[g1,mU];refine g2.mono λ e w' ⟨bs,rfs',objs,u,⟨b,e1,e2,e3⟩,e4,e5,e6⟩=> ?_
 subst e1 e2 e3 e4;obtain⟨β',q1,q2⟩:=Dq (d:=d) h (e5 b (by simp[bI])) e6;have hag:∀s∈(d+pK)::dl (some d),aa s r'=aa s r:=λ s hs=>by
  rcases dw.1 hs with rfl|hs
  .exact hr _ (kE _ (by simp))
  .exact hft s (by rw[hd];simp[hs])
 obtain⟨k1,k2,k3⟩:=uS (r:=r) (r':=r') (rfs:=rfs) (l:=l) hag;rw[k1]at q2;rw[hd];exact im q1 q2 k2 λ s hs=>(k3 s hs).1
theorem vl {o:Oper} {f:Operand} {args:Array Operand} {ts:Array TypeId} {s0:Nat} (ho:o.op= .call ⟨.value f,args,ts⟩):∀s∈(s0::dl o.dst),s∈((bK v o.dst o.op).t++[s0]):=by
 intro s hs;rw[ho];simp only[bK,eQ,dw,iZ]at hs⊢;rcases hs with rfl|hs
 .exact .inr (.inl rfl)
 .exact .inl (.inr (.inr hs))
def oW (cx:Cx) (all:List Oper) (o:Oper) (v:List AV) (r:Rs) (K:Ex->G->Prop):Prop:=
 ∀(a:Act) (w:World) (β:Nat->Nat->Pl),aw cx ⟨v,r⟩ a w β->∀(k:Nat) (Q:Exit->Act->World->Prop) (R:Act->World->Prop),all.toArray[k]? =some o->
  (∀x g a w,cU cx g a w->K (.panic x) g->Q (lR (.panic x)) a w)->wpOp cx.P all.toArray Q k R a w
def vU (T:Nat->Option TI) (cx:Cx) (all:List Oper) (o:Oper) (rest:List Oper) (v:List AV) (r:Rs) (K:Ex->G->Prop):Prop:=
 ∃v' r' fp x r1 off',(∀(cx:Cx) (a:Act) (w:World),cU cx ⟨v,r⟩ a w->cU cx ⟨v',r'⟩ a w)/\fA cx all o v' r' fp x r1/\aZ T cx.P all ⟨none,off'⟩ rest (bf v' o.dst x) r1 K
theorem Cv {all:List Oper} {v:List AV} {i j k lo n:Nat} {h:Hd} {ds:List D} (hi:v[i]? =some (.one (.own h lo n))):de all (v.set i (.one (.d (.sl k ds)))) j=de all v j:=by
 unfold de;split
 .split
  .rename_i d _;by_cases hd:i=d
   .subst hd;have hlt:i<v.length:=(bq.1 hi).1;rw[fe,fe,lI hlt,hi];rfl
   .rw[fe,fe,fV hd]
  .rfl
 .rfl
theorem CP {o:Oper} {f:Operand} {args:Array Operand} {ts:Array TypeId} {m:M} {K:Ex->G->Prop} (ho:o.op= .call ⟨.value f,args,ts⟩) (hw:Wd cx all o v) (s1:aO true v f) (s2:cr true v args.toList)
  (s3:ng cx.P m v r f args (bY v r f args) K):m.fp=none/\oW cx all o v r K:=by
 obtain⟨h1,n,as,x,hok,s3⟩:=s3;refine⟨h1,λ a w β h k Q R hk hQ=>iR hk (hw v r a w β (λ _ _ _=>rfl) h) ?_⟩;rcases s3 with⟨hcall,hK⟩|⟨i,mv,aI,l',hcall,hsc,hK⟩
 .obtain⟨us,g1,g2⟩:=Da h ho rfl s1 s2 hcall hok;unfold Oper.wp;rw[g1,mU];refine g2.mono λ e w' ⟨e1,e2⟩=> ?_
  subst e1;exact hQ x _ _ _ ⟨β,B5 h e2⟩ hK
 .obtain⟨us,hold,u0,g1,g2,_⟩:=BZ h ho s1 s2 hcall hsc hok;unfold Oper.wp;rw[g1,mU];refine g2.mono λ e w' ⟨e1,e2⟩=> ?_
  subst e1;exact hQ x _ _ _ ⟨β,BF h e2⟩ hK
theorem B4 {o:Oper} {y:Operand} {m:M} {K:Ex->G->Prop} (ho:o.op= .panic y) (hw:Wd cx all o v) (s1:aO true v y) (s3:nd m v r K (ev v y)):m.fp=none/\oW cx all o v r K:=by
 obtain⟨h1,s3⟩:=s3;refine⟨h1,λ a w β h k Q R hk hQ=>iR hk (hw v r a w β (λ _ _ _=>rfl) h) ?_⟩;have e1:=bH h (c:=true) rfl s1;split at s3
 .rename_i t z hy;rw[hy]at e1;have hv:=(bj.1 e1).1;unfold Oper.wp;have:(execOp a.eval o).run cx.P w= .halt (.panic (.iface t z)) w:=by simp only[execOp,ho,hv];rfl
  rw[this,Oper.upon_panic];exact hQ _ _ _ _ ⟨β,h⟩ s3
 .exact s3.elim
theorem sI {o:Oper} {f:Operand} {args:Array Operand} {ts:Array TypeId} {rest:List Oper} {m:M} {K:Ex->G->Prop} (ho:o.op= .call ⟨.value f,args,ts⟩) (hw:Wd cx all o v) (s1:aO true v f) (s2:cr true v args.toList)
  (s3:(fa cx.P true (bY v r f args) λ rfs=>aZ T cx.P all (bS m v o.dst o.op) rest (bf v o.dst (cS r o.dst rfs).1) (cS r o.dst rfs).2 K)∨
   (∃i,iU cx.P r o.dst (dv i v r f args) λ mv rfs l'=>aZ T cx.P all (eA o.dst mv.s (bS m v o.dst o.op)) rest (bf v o.dst (bindM r o.dst mv rfs l').1) (bindM r o.dst mv rfs l').2 K)∨
   (∃d,mM cx.P v r f args d/\aZ T cx.P all (bS m v o.dst o.op) rest (bf v o.dst (.one (.d (.v d)))) r K)∨
   (∃d,o.dst=some d/\iV cx.P (bY v r f args) λ rfs l=>aZ T cx.P all (eA o.dst (d+pK) (bS m v o.dst o.op)) rest (bf v o.dst (cI r d rfs l).1) (cI r d rfs l).2 K)∨
   ng cx.P (bS m v o.dst o.op) v r f args (bY v r f args) K∨
   oT (bS m v o.dst o.op) v r λ v' r'=>aO true v' f/\cr true v' args.toList/\
    ((fa cx.P true (bY v' r' f args) λ rfs=>aZ T cx.P all (bS m v o.dst o.op) rest (bf v' o.dst (cS r' o.dst rfs).1) (cS r' o.dst rfs).2 K)∨
    (∃i,iU cx.P r' o.dst (dv i v' r' f args) λ mv rfs l'=>aZ T cx.P all (eA o.dst mv.s (bS m v o.dst o.op)) rest (bf v' o.dst (bindM r' o.dst mv rfs l').1) (bindM r' o.dst mv rfs l').2 K)∨
    (∃d,o.dst=some d/\iV cx.P (bY v' r' f args) λ rfs l=>aZ T cx.P all (eA o.dst (d+pK) (bS m v o.dst o.op)) rest (bf v' o.dst (cI r' d rfs l).1) (cI r' d rfs l).2 K))):
  (∃fp x r1,fA cx all o v r fp x r1/\(∀s∈fp.w,s∈fp.t)/\∃off',aZ T cx.P all ⟨m.fp.map (fp::·),off'⟩ rest (bf v o.dst x) r1 K)∨(m.fp=none/\(oW cx all o v r K∨vU T cx all o rest v r K)):=by
 have hadd:∀{op:Op},bS m v o.dst op=⟨m.fp.map (bK v o.dst op::·),m.off⟩:=λ {op}=>by obtain⟨fp,off⟩:=m;cases fp<;>rfl
 have hnone:∀{op:Op},(bS m v o.dst op).fp=none->m.fp=none:=λ {op} h=>by obtain⟨fp,off⟩:=m;cases fp with|none=>rfl|some l=>cases h
 rcases s3 with s3|⟨i0,s3⟩|⟨d,s3,s4⟩|⟨d,hd,s3⟩|s3|s3
 .unfold fa at s3;split at s3
  .rename_i n as hcall;obtain⟨rfs,g1,g2⟩:=s3;rw[hadd]at g2;exact .inl ⟨_,_,_,rW ho hw s1 s2 hcall (g1 rfl),eZ,_,g2⟩
  .exact s3.elim
 .unfold iU at s3;split at s3
  .rename_i n as mv aI hcall;obtain⟨rfs,l',g1,g2,g3⟩:=s3;refine .inl ⟨_,_,_,sX ho hw s1 s2 hcall g1 g2,vl ho,m.off, ?_⟩;rw[hadd]at g3;obtain⟨fp,off⟩:=m;cases fp with
   |none=>exact g3
   |some l=>exact g3
  .exact s3.elim
 .rw[hadd]at s4;exact .inl ⟨_,_,_,CA ho hw s1 s2 s3,eZ,_,s4⟩
 .unfold iV at s3;split at s3
  .rename_i n as hcall;obtain⟨rfs,l,g1,g2⟩:=s3;refine .inl ⟨_,_,_,sQ ho hw hd s1 s2 hcall g1,vl ho,m.off, ?_⟩;rw[hadd]at g2;obtain⟨fp,off⟩:=m;cases fp with
   |none=>exact g2
   |some l=>exact g2
  .exact s3.elim
 .obtain⟨q1,q2⟩:=CP ho hw s1 s2 s3;exact .inr ⟨hnone q1, .inl q2⟩
 .obtain⟨q1,i,h,lo,n,k,ds,r',hi,himp,t1,t2,s3⟩:=s3;have q0:=hnone q1;have hw':Wd cx all o (v.set i (.one (.d (.sl k ds)))):=λ v' r' a w β hg hh=>hw v' r' a w β (λ j b e=>by rw[hg j b e,Cv hi]) hh
  obtain⟨fp0,off0⟩:=m;simp only at q0;subst q0;refine .inr ⟨rfl, .inr ?_⟩;rcases s3 with s3|⟨i0,s3⟩|⟨d,hd,s3⟩
  .unfold fa at s3;split at s3
   .rename_i n as hcall;obtain⟨rfs,g1,g2⟩:=s3;exact⟨_,_,_,_,_,_,himp,rW ho hw' t1 t2 hcall (g1 rfl),g2⟩
   .exact s3.elim
  .unfold iU at s3;split at s3
   .rename_i n as mv aI hcall;obtain⟨rfs,l',g1,g2,g3⟩:=s3;exact⟨_,_,_,_,_,off0,himp,sX ho hw' t1 t2 hcall g1 g2,g3⟩
   .exact s3.elim
  .unfold iV at s3;split at s3
   .rename_i n as hcall;obtain⟨rfs,l,g1,g2⟩:=s3;exact⟨_,_,_,_,_,off0,himp,sQ ho hw' hd t1 t2 hcall g1,g2⟩
   .exact s3.elim
theorem vv (hT:bx cx.P T) {o:Oper} {rest:List Oper} {m:M} {K:Ex->G->Prop} (hk:aZ T cx.P all m (o::rest) v r K):
  (∃fp x r1,fA cx all o v r fp x r1/\(∀s∈fp.w,s∈fp.t)/\∃off',aZ T cx.P all ⟨m.fp.map (fp::·),off'⟩ rest (bf v o.dst x) r1 K)∨(m.fp=none/\(oW cx all o v r K∨vU T cx all o rest v r K)):=by
 have hadd:∀{op:Op},bS m v o.dst op=⟨m.fp.map (bK v o.dst op::·),m.off⟩:=λ {op}=>by obtain⟨fp,off⟩:=m;cases fp<;>rfl
 unfold aZ at hk;split at hk
 .rename_i hg;split at hk
  .rename_i f args ts ho;obtain⟨s1,s2,s3⟩:=hk;exact sI ho (vg hg) s1 s2 s3
  .rename_i y ho;obtain⟨q1,q2⟩:=B4 ho (vg hg) hk.1 hk.2;exact .inr ⟨(by obtain⟨fp,off⟩:=m;cases fp with|none=>rfl|some l=>cases q1), .inl q2⟩
  .obtain⟨g1,g2⟩:=hk;rw[hadd]at g2;exact .inl ⟨_,_,_,BW hT hg g1,eZ,_,g2⟩
 .rename_i j want hg;split at hk
  .obtain⟨g1,g2⟩:=hk;cases hgd:de all v j with
   |none=>rw[hgd]at g1;exact g1.elim
   |some p=>
    obtain⟨c',b⟩:=p;rw[hgd]at g1;rw[hadd]at g2;exact .inl ⟨_,_,_,om hg hgd g1,eZ,_,g2⟩
  split at hk
  .rename_i c' b hgd;split at hk
   .rename_i f args ts ho;obtain⟨s1,s2,s3⟩:=hk;rcases s3 with s3|⟨hcc,g2⟩|⟨h1,h2⟩
    .unfold fa at s3;split at s3
     .rename_i n as hcall;obtain⟨rfs,g1,g2,g3⟩:=s3;rw[hadd]at g3;exact .inl ⟨_,_,_,A5 ho hg hgd s1 s2 hcall g1 g2,eZ,_,g3⟩
     .exact s3.elim
    .rw[hadd]at g2;exact .inl ⟨_,_,_,om hg hgd hcc,eZ,_,g2⟩
    .cases hcc:(c'&&(b==want))with
     |true=>
      rw[hcc]at s1 s2;exact sI ho (DF hg hgd hcc) s1 s2 (h1 hcc)
     |false=>
      have g2:=h2 hcc;rw[hadd]at g2;exact .inl ⟨_,_,_,om hg hgd hcc,eZ,_,g2⟩
   .split at hk
    .rename_i hable;obtain⟨g1,g2⟩:=hk;rw[hadd]at g2;cases hcc:(c'&&(b==want))with
     |true=>exact .inl ⟨_,_,_,DD hT hg hgd hable (g1 hcc),eZ,_,g2⟩
     |false=>exact .inl ⟨_,_,_,CY hg hgd hcc,eZ,_,g2⟩
    .cases hcc:(c'&&(b==want))with
     |true=>
      obtain⟨g1,g2⟩:=hk.1 hcc;rw[hadd]at g2;exact .inl ⟨_,_,_,CF hT hg hgd hcc g1,eZ,_,g2⟩
     |false=>
      have g2:=hk.2 hcc;rw[hadd]at g2;exact .inl ⟨_,_,_,om hg hgd hcc,eZ,_,g2⟩
  .exact hk.elim
end
end Go.Pk
