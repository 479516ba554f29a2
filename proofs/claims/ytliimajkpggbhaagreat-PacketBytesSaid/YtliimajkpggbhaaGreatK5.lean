import Derived.Test.YtliimajkpggbhaaGreatK4
import Derived.Orders
set_option linter.unusedVariables false
set_option linter.unusedSimpArgs false
set_option linter.unusedSectionVars false
namespace Go.Pk
section
variable {v:List AV} {r r' r0 r0':Rs} {T:Nat->Option TI} {c:Bool} {t:List Nat}
def Rl (t:List Nat) (r0 r0' r r':Rs):Prop:=(∀s∈t,ao s r'=ao s r)/\∀s,s ∉ t->ao s r=ao s r0/\ao s r'=ao s r0'
theorem Rl.start (h:∀s∈t,ao s r'=ao s r):Rl t r r' r r':=⟨h,λ _ _=>⟨rfl,rfl⟩⟩
theorem Rl.set {s:Nat} {y:RS} (h:Rl t r0 r0' r r') (hs:s∈t):Rl t r0 r0' (aN s y r) (aN s y r'):=by
 refine⟨λ s' hs'=> ?_,λ s' hs'=> ?_⟩
 .rw[dz,dz];split
  .rfl
  .exact h.1 s' hs'
 .have hne:s≠s':=λ e=>hs' (e▸hs)
  rw[dz,dz,aa hne,aa hne];exact h.2 s' hs'
theorem mT {hd:Hd} (h:ao hd.s r'=ao hd.s r):aQ r' hd=aQ r hd:=by unfold aQ aF;rw[h]
theorem qh {s:Nat} (h:ao s r'=ao s r):ar r' s=ar r s:=by unfold ar;rw[h]
theorem Rl.get {hd:Hd} (h:Rl t r0 r0' r r') (hs:hd.s∈t):aQ r' hd=aQ r hd:=mT (h.1 _ hs)
theorem xA {x:C} (h:∀s∈ck x,ao s r'=ao s r):rowOf r' x=rowOf r x:=by
 unfold rowOf;split
 .rfl
 .rfl
 .rfl
 .rename_i hd lo n;rw[mT (h hd.s (by simp[ck]))]
 .rename_i hd lo n k;rw[mT (h hd.s (by simp[ck]))]
 .rfl
theorem XA {y:AV} (h:∀s∈cj y,ao s r'=ao s r):vW r' y=vW r y:=by
 unfold vW;split
 .exact xA (by simpa[cj]using h)
 .rfl
theorem Zt {y:AV} (h:∀s∈cj y,ao s r'=ao s r):qD r' y=qD r y:=by
 unfold qD;split
 .rfl
 .rename_i y _;exact xA (by simpa[cj]using h)
 .rfl
theorem aac {x:C} {d:D} {r1:Rs} (h:Rl t r0 r0' r r') (hx:∀s∈ck x,s∈t) (hs:nn r x=some (d,r1)):∃r1',nn r' x=some (d,r1')/\Rl t r0 r0' r1 r1':=by
 unfold nn at hs⊢;split at hs
 .cases hs;exact⟨r',rfl,h⟩
 .rename_i hd lo n;have hm:hd.s∈t:=hx _ (by simp[ck]);rw[h.get hm,h.1 _ hm];split at hs
  .split at hs
   .cases hs
   .rename_i hb;rw[aa hb];split at hs
    .rename_i ds h1
     try simp only[h1]
     cases hs;exact⟨_,rfl,h.set hm⟩
    .cases hs
  .cases hs
 .cases hs
theorem FT:∀{xs:List C} {ds:List D} {r r' r1:Rs},Rl t r0 r0' r r'->(∀s∈cK xs,s∈t)->kQ r xs=some (ds,r1)->∃r1',kQ r' xs=some (ds,r1')/\Rl t r0 r0' r1 r1'
 |[],ds,r,r',r1,h,_,hs=>by simp only[kQ,bn,pA]at hs⊢;obtain⟨rfl,rfl⟩:=hs;exact⟨r',⟨rfl,rfl⟩,h⟩
 |x::xs,ds,r,r',r1,h,hx,hs=>by
  simp only[kQ]at hs⊢;split at hs
  .rename_i d r2 h1;obtain⟨r2',g1,g2⟩:=aac h (λ s hs=>hx s (by simp[cK,hs])) h1;split at hs
   .rename_i ds' r3 h2;obtain⟨r3',g3,g4⟩:=FT g2 (λ s hs=>hx s (by simp[cK,hs])) h2;cases hs;exact⟨r3',by simp[g1,g3],g4⟩
   .cases hs
  .cases hs
theorem Zg {d e k:Nat} {x:C} (h:Rl t r0 r0' r r') (hx:∀s∈ck x,s∈t):
  (iS d e k x r').1=(iS d e k x r).1/\(iS d e k x r').2.1=(iS d e k x r).2.1/\Rl t r0 r0' (iS d e k x r).2.2 (iS d e k x r').2.2:=by
 unfold iS;split
 .rename_i hd lo n;have hm:hd.s∈t:=hx _ (by simp[ck]);rw[h.get hm,h.1 _ hm];split
  .split
   .exact⟨rfl,rfl,h⟩
   .exact⟨rfl,rfl,h.set hm⟩
  .exact⟨rfl,rfl,h⟩
 .exact⟨rfl,rfl,h⟩
 .exact⟨rfl,rfl,h⟩
 .exact⟨rfl,rfl,h⟩
theorem Gg {d:Nat}:∀{xs:List C} {e k:Nat} {r r':Rs},Rl t r0 r0' r r'->(∀s∈cK xs,s∈t)->
  (ew d e k xs r').1=(ew d e k xs r).1/\(ew d e k xs r').2.1=(ew d e k xs r).2.1/\Rl t r0 r0' (ew d e k xs r).2.2 (ew d e k xs r').2.2
 |[],_,_,_,_,h,_=>⟨rfl,rfl,h⟩
 |x::xs,e,k,r,r',h,hx=>by obtain⟨g1,g2,g3⟩:=Zg (x:=x) (d:=d) (e:=e) (k:=k) h (λ s hs=>hx s (by simp[cK,hs]));obtain⟨g4,g5,g6⟩:=Gg (xs:=xs) (e:=e+1) (k:=k+1) g3 (λ s hs=>hx s (by simp[cK,hs]));simp only[ew];rw[g1,g2,g4,g5];exact⟨rfl,rfl,g6⟩
theorem YC {d:Nat} {y:AV} (h:Rl t r0 r0' r r') (hd:d∈t) (hy:∀s∈cj y,s∈t):(rD r' d y).1=(rD r d y).1/\Rl t r0 r0' (rD r d y).2 (rD r' d y).2:=by
 unfold rD;split
 .rename_i hd' lo n;have hm:hd'.s∈t:=hy _ (by simp[cj,ck]);split
  .exact⟨rfl,h⟩
  .rw[h.get hm,h.1 _ hm,qh (h.1 _ hd)];split
   .split
    .exact⟨rfl,h⟩
    .split
     .exact⟨rfl,(h.set hm).set hd⟩
     .exact⟨rfl,h⟩
   .exact⟨rfl,h⟩
 .exact⟨rfl,h⟩
theorem jw {x:Operand}:cj (ev v x)=gk v x:=by
 unfold ev gk;split
 .rename_i h;rw[h];simp[cj]
 .rename_i h;rw[h]
 .rename_i h;rw[h]
 .rename_i h;rw[h]
theorem CG:∀{xs:List Operand},i3 (eP v xs)=gS v xs
 |[]=>rfl
 |x::xs=>by simp only[eP,i3,gS,jw,CG (xs:=xs)]
theorem Fl {y:AV} {s:Nat} (h:s∈cK (cellsOf y)):s∈cj y:=by
 unfold cellsOf at h;split at h
 .split at h
  .simpa[cK,cj]using h
  .simp[cK]at h
 .simpa[cj]using h
 .simp[cK]at h
theorem Ia:∀{xs ys:List C},cK (xs++ys)=cK xs++cK ys
 |[],ys=>rfl
 |x::xs,ys=>by simp[cK,Ia (xs:=xs)]
theorem I':∀{ys:List AV} {s:Nat},s∈cK (ys.flatMap cellsOf)->s∈i3 ys
 |[],s,h=>by simp[cK]at h
 |y::ys,s,h=>by rw[fv,Ia,dN]at h;simp only[i3,dN];exact h.imp Fl I'
structure BG (w:List Nat) (r r':Rs) (o o':Out):Prop where
 sc:o'.sc
 x:o'.x=o.x
 on:∀s∈w,ao s o'.r=ao s o.r
 off:∀s,s ∉ w->ao s o'.r=ao s r'/\ao s o.r=ao s r
theorem BG.calm {op:Op} {dst:Option Nat} (hg:DP op=true) (hs:(aB T c v r dst op).sc)
  (h:(aB T c v r' dst op).sc=(aB T c v r dst op).sc/\(aB T c v r' dst op).x=(aB T c v r dst op).x):BG [] r r' (aB T c v r dst op) (aB T c v r' dst op):=
 have h':(aB T c v r' dst op).sc:=by rw[h.1];exact hs
 ⟨h',h.2,λ s hs'=>by simp at hs',λ s _=>⟨by rw[GR hg h'],by rw[GR hg hs]⟩⟩
theorem BG.tv {o o':Out} (h:o'.sc) (hx:o'.x=o.x) (hr:Rl t r r' o.r o'.r):BG t r r' o o':=
 ⟨h,hx,hr.1,λ s hs=>⟨(hr.2 s hs).2,(hr.2 s hs).1⟩⟩
theorem Hl {x:Operand} {hd:Hd} {off:Nat} (h:ev v x= .one (.ptr hd off)):hd.s∈gk v x:=by rw[←jw,h];simp[cj,ck]
theorem abF {e:Nat} {y iv:AV} (h:∀s∈cj y,ao s r'=ao s r):(pM T r' c e y iv).sc=(pM T r c e y iv).sc/\(pM T r' c e y iv).x=(pM T r c e y iv).x:=by
 unfold pM;split
 .rename_i _ hd lo _ _;rw[mT (h hd.s (by simp[cj,ck]))];split<;>exact⟨rfl,rfl⟩
 .exact⟨rfl,rfl⟩
 .exact⟨rfl,rfl⟩
 .rename_i hd _ _;rw[mT (h hd.s (by simp[cj,ck]))];split<;>exact⟨rfl,rfl⟩
 .split<;>exact⟨rfl,rfl⟩
 all_goals exact⟨rfl,rfl⟩
theorem YK {e:Nat} {y:AV} {l hi:Option AV} (h:∀s∈cj y,ao s r'=ao s r):
  (pf T r' c e y l hi).sc=(pf T r c e y l hi).sc/\(pf T r' c e y l hi).x=(pf T r c e y l hi).x:=by
 unfold pf;split
 .split<;>exact⟨rfl,rfl⟩
 .rename_i hd lo n;rw[mT (h hd.s (by simp[cj,ck]))];split<;>exact⟨rfl,rfl⟩
 .rename_i hd lo n k;rw[mT (h hd.s (by simp[cj,ck]))];split<;>exact⟨rfl,rfl⟩
 .split<;>exact⟨rfl,rfl⟩
 .split<;>exact⟨rfl,rfl⟩
 .exact⟨rfl,rfl⟩
theorem V4 {e:Nat} {y:AV} {l hi m:Option AV} (h:∀s∈cj y,ao s r'=ao s r):
  (pe T r' c e y l hi m).sc=(pe T r c e y l hi m).sc/\(pe T r' c e y l hi m).x=(pe T r c e y l hi m).x:=by
 unfold pe;split
 .rename_i hd lo n k;rw[mT (h hd.s (by simp[cj,ck]))];split<;>exact⟨rfl,rfl⟩
 .exact⟨rfl,rfl⟩
theorem abu {e:Option Nat} {y:AV} (h:∀s∈cj y,ao s r'=ao s r):(pI T r' e y).sc=(pI T r e y).sc/\(pI T r' e y).x=(pI T r e y).x:=by
 unfold pI;split
 .rename_i hd lo n k;rw[mT (h hd.s (by simp[cj,ck]))];split<;>exact⟨rfl,rfl⟩
 .exact⟨rfl,rfl⟩
theorem NC {e:Option Nat} {y:AV} (hs:(pI T r e y).sc):(pI T r e y).r=r:=by
 unfold pI at*
 repeat' split at hs
 all_goals first|exact hs.elim|simp only[*]
theorem Wo {d:Nat} {y:AV}:cj (r6 d y)=cj y:=by
 unfold r6;split
 .split<;>simp[cj,ck]
 .rfl
theorem abZ {d:Nat} {y:AV} (h:∀s∈cj y,ao s r'=ao s r):tW r' d y=tW r d y:=by
 unfold tW;split
 .rename_i hd lo n k;rw[mT (h hd.s (by simp[cj,ck]))]
 .rfl
theorem KN {hd:Hd} {lo:Nat} {ds:List D} {r1:Rs} (h:Rl t r0 r0' r r') (hm:hd.s∈t) (hp:sR r hd lo ds=some r1):∃r1',sR r' hd lo ds=some r1'/\Rl t r0 r0' r1 r1':=by
 unfold sR at hp⊢;rw[h.get hm,h.1 _ hm];split at hp
 .rename_i res rs h1 h2
  try simp only[h1,h2]
  cases hp;exact⟨_,rfl,h.set hm⟩
 .cases hp
theorem MH {y:AV} {hd:Hd} {lo n:Nat} (h:uL y=some (hd,lo,n)):hd.s∈cj y:=by
 unfold uL at h;split at h
 .cases h;simp[cj,ck]
 .cases h;simp[cj,ck]
 .cases h
theorem ZL {ts:Array Nat} {x y:AV} (h:Rl t r0 r0' r r') (hx:∀s∈cj x,s∈t) (hy:∀s∈cj y,ao s r'=ao s r) (hs:(qq T r ts x y).sc):
  (qq T r' ts x y).sc/\(qq T r' ts x y).x=(qq T r ts x y).x/\Rl t r0 r0' (qq T r ts x y).r (qq T r' ts x y).r:=by
 unfold qq at hs⊢;rw[XA hy];split at hs
 .rename_i e ei hd lo n m ds2 h1 h2 h3;have hm:hd.s∈t:=hx _ (MH h2)
  try simp only[h1,h2,h3]
  rw[h.get hm];split at hs
  .rename_i res r1 h4 h5;obtain⟨r1',g1,g2⟩:=KN h hm h5;simp only[h4,h5,g1];exact⟨hs,by trivial,g2⟩
  .exact hs.elim
 .exact hs.elim
theorem XY {ts:Array Nat} {x:AV} (h:Rl t r0 r0' r r') (hx:∀s∈cj x,s∈t) (hs:(qn T r ts x).sc):
  (qn T r' ts x).sc/\(qn T r' ts x).x=(qn T r ts x).x/\Rl t r0 r0' (qn T r ts x).r (qn T r' ts x).r:=by
 unfold qn at hs⊢;split at hs
 .rename_i e ei hd lo n h1 h2;have hm:hd.s∈t:=hx _ (MH h2)
  try simp only[h1,h2]
  rw[h.get hm];split at hs
  .rename_i res r1 h4 h5;obtain⟨r1',g1,g2⟩:=KN h hm h5;simp only[h4,h5,g1];exact⟨hs,by trivial,g2⟩
  .exact hs.elim
 .exact hs.elim
theorem ab2 {e:Option Nat} {y:AV} (h:∀s∈cj y,ao s r'=ao s r):(pO T r' e y).sc=(pO T r e y).sc/\(pO T r' e y).x=(pO T r e y).x:=by
 unfold pO;split
 .rename_i hd lo n;rw[mT (h hd.s (by simp[cj,ck]))];split<;>exact⟨rfl,rfl⟩
 .rename_i hd lo n k;rw[mT (h hd.s (by simp[cj,ck]))];split<;>exact⟨rfl,rfl⟩
 all_goals exact⟨rfl,rfl⟩
theorem Z2 {e e2:Nat} {y:AV} (h:∀s∈cj y,ao s r'=ao s r):(nS T r' e e2 y).sc=(nS T r e e2 y).sc/\(nS T r' e e2 y).x=(nS T r e e2 y).x:=by
 unfold nS;split
 .split
  .exact⟨rfl,rfl⟩
  .rename_i x hx;rw[xA (x:=x) λ s hs=>h s (by simpa[cj]using hs)];split
   .split<;>exact⟨rfl,rfl⟩
   .exact⟨rfl,rfl⟩
  .exact⟨rfl,rfl⟩
 .exact⟨rfl,rfl⟩
theorem Yr {e:Nat} {y:AV}:(nJ T r' e y).sc=(nJ T r e y).sc/\(nJ T r' e y).x=(nJ T r e y).x:=by
 unfold nJ;split
 .split
  .split<;>exact⟨rfl,rfl⟩
  .exact⟨rfl,rfl⟩
  .exact⟨rfl,rfl⟩
 .exact⟨rfl,rfl⟩
theorem Xl {e f:Nat} {y:AV}:(pn T r' e f y).sc=(pn T r e f y).sc/\(pn T r' e f y).x=(pn T r e f y).x:=by
 unfold pn;split
 .split
  .split<;>exact⟨rfl,rfl⟩
  .exact⟨rfl,rfl⟩
 .exact⟨rfl,rfl⟩
theorem NU {mx:Bool} {y:List AV}:(mL r' mx y).sc=(mL r mx y).sc/\(mL r' mx y).x=(mL r mx y).x:=by unfold mL;split<;>exact⟨rfl,rfl⟩
theorem MI {o:BinOp} {e:Nat} {x y:C} (h:∀s∈ck x,ao s r'=ao s r):qL T r' o e x y=qL T r o e x y:=by
 unfold qL;split
 .rfl
 .rfl
 .rfl
 .rfl
 .rename_i hd _ n;rw[mT (h hd.s (by simp[ck]))]
 .rfl
 .rename_i hd off;rw[mT (h hd.s (by simp[ck]))]
 all_goals rfl
theorem abt {o:BinOp} {e:Nat} {x y:AV} (h:∀s∈cj x,ao s r'=ao s r):(pF T r' o e x y).sc=(pF T r o e x y).sc/\(pF T r' o e x y).x=(pF T r o e x y).x:=by
 unfold pF;split
 .rename_i x y;split
  .exact⟨rfl,rfl⟩
  .have e1:=MI (T:=T) (r:=r) (r':=r') (o:=o) (e:=e) (x:= .d (.v x)) (y:= .d (.v y)) (by simp[ck]);simp only[e1];cases qL T r o e (.d (.v x)) (.d (.v y))with
   |none=>exact⟨rfl,rfl⟩
   |some p=>exact⟨rfl,rfl⟩
 .rename_i x y _;have e1:=MI (T:=T) (r:=r) (r':=r') (o:=o) (e:=e) (x:=x) (y:=y) (by simpa[cj]using h);simp only[e1];cases qL T r o e x y with
  |none=>exact⟨rfl,rfl⟩
  |some p=>exact⟨rfl,rfl⟩
 .split
  .split<;>exact⟨rfl,rfl⟩
  .exact⟨rfl,rfl⟩
 .exact⟨rfl,rfl⟩
theorem qd {o o':Out} {p:Prop} (h:o'.sc=o.sc/\o'.x=o.x):(o'.with p).sc=(o.with p).sc/\(o'.with p).x=(o.with p).x:=by simp only[Out.with,h.1,h.2,and_self]
theorem Yu {e:Nat} {av y:AV} (h:Rl t r0 r0' r r') (ha:∀s∈cj av,s∈t) (hy:∀s∈cj y,s∈t) (hs:(qo T r e av y).sc):
  (qo T r' e av y).sc/\(qo T r' e av y).x=(qo T r e av y).x/\Rl t r0 r0' (qo T r e av y).r (qo T r' e av y).r:=by
 unfold qo at hs⊢;split at hs
 .rename_i ti hd off h1;have hm:hd.s∈t:=ha _ (by simp[cj,ck]);have hc:∀s∈cK (cellsOf y),s∈t:=λ s hs=>hy s (Fl hs)
  try simp only[h1]
  rw[h.get hm,h.1 _ hm];split at hs
  .rename_i res h2
   try simp only[h2]
   split at hs
   .rename_i hv;simp only[hv,cS];split at hs
    .rename_i rs h3
     try simp only[h3]
     split at hs
     .rename_i hsm
      try simp only[hsm]
      exact⟨hs,by trivial,h.set hm⟩
     rename_i hsm
     try simp only[hsm]
     obtain⟨g1,g2,g3⟩:=Gg (d:=hd.s) (e:=rs.next) (k:=off) h hc;rw[g1,g2];exact⟨hs,by trivial,g3.set hm⟩
    .exact hs.elim
   .rename_i hv;simp only[hv];split at hs
    .rename_i ds r1 h3;obtain⟨r1',g1,g2⟩:=FT h hc h3;simp only[h3,g1];rw[g2.get hm,g2.1 _ hm];split at hs
     .rename_i res' rs' h4 h5
      try simp only[h4,h5]
      exact⟨hs,by trivial,g2.set hm⟩
     .exact hs.elim
    .exact hs.elim
  .exact hs.elim
 .exact hs.elim
theorem abe {dst:Option Nat} {ts:Array Nat} {x y:AV} (h:Rl t r0 r0' r r') (hd:∀s∈dl dst,s∈t) (hx:∀s∈cj x,s∈t) (hy:∀s∈cj y,ao s r'=ao s r) (hs:(qE T r c dst ts x y).sc):
  (qE T r' c dst ts x y).sc/\(qE T r' c dst ts x y).x=(qE T r c dst ts x y).x/\Rl t r0 r0' (qE T r c dst ts x y).r (qE T r' c dst ts x y).r:=by
 unfold qE at hs⊢;rw[Zt hy];split at hs
 .rename_i e ei m ds2 hd' lo n h1 h2 h3;have hm:hd'.s∈t:=hx _ (by simp[cj,ck])
  try simp only[h1,h2,h3]
  rw[h.get hm,h.1 _ hm];split at hs
  .rename_i res rs h4 h5
   try simp only[h4,h5]
   split at hs
   .rename_i ds1 h6;simp only[h6];exact⟨hs,by trivial,h.set hm⟩
   .exact hs.elim
  .exact hs.elim
 .rename_i e ei m ds2 h1 h2 h3
  try simp only[h1,h2,h3]
  split at hs
  .rename_i d;have hm:d∈t:=hd d (by simp[dl]);simp only;rw[qh (h.1 _ hm)];exact⟨hs,by trivial,h.set hm⟩
  .exact hs.elim
 .rename_i e ei m ds2 hd' lo n k h1 h2 h3;have hm:hd'.s∈t:=hx _ (by simp[cj,ck])
  try simp only[h1,h2,h3]
  unfold Bz at hs⊢;rw[h.get hm,h.1 _ hm];split at hs
  .rename_i res rs h4 h5
   try simp only[h4,h5]
   split at hs
   .rename_i ds1 h6
    try simp only[h6]
    split at hs
    .rename_i hfit;rw[aj hfit];exact⟨hs,by rw[aj hfit],by rw[aj hfit];exact h.set hm⟩
    .rename_i hfit;rw[aa hfit];split at hs
     .rename_i d;have hm2:d∈t:=hd d (by simp[dl]);simp only;rw[qh (h.1 _ hm2),aa hfit];exact⟨hs,by trivial,h.set hm2⟩
     .exact hs.elim
   .exact hs.elim
  .exact hs.elim
 .unfold BB at hs⊢;split at hs
  .rename_i e ei kk l hd' lo n k h1 h2 y1 y2 y3;have hm:hd'.s∈t:=hx _ (by simp[cj,ck])
   try simp only[h1,h2]
   rw[h.get hm];split at hs
   .rename_i res d h4;have hm2:d∈t:=hd d (by simp[dl])
    try simp only[h4]
    rw[qh (h.1 _ hm2)];split at hs
    .rename_i ds1 h6
     try simp only[h6]
     exact⟨hs,by trivial,h.set hm2⟩
    .exact hs.elim
   .exact hs.elim
  .exact hs.elim
theorem D9 {op:Op} {dst:Option Nat} (hr:∀s∈(dt v dst op).t,ao s r'=ao s r) (hs:(aB T c v r dst op).sc):
  BG (dt v dst op).w r r' (aB T c v r dst op) (aB T c v r' dst op):=by
 have R:=Rl.start hr;cases op with
 |move x=>exact .calm rfl hs ⟨rfl,rfl⟩
 |assign x=>
  simp only[dt,FP.both]at R⊢;simp only[aB]at hs⊢;cases dst with
  |none=>exact hs.elim
  |some d=>
   obtain⟨g1,g2⟩:=YC (d:=d) (y:=r6 d (ev v x)) R (by simp[dl]) (λ s hs=>by rw[Wo,jw]at hs;simp[hs]);refine .tv ⟨hs.1, ?_⟩ g1 g2;show tW r' d (ev v x);rw[abZ (r:=r) λ s hs=>by rw[jw]at hs;exact R.1 s (by simp[hs])];exact hs.2
 |pick t x z=>
  refine .calm rfl hs ?_;simp only[aB];split<;>exact⟨rfl,rfl⟩
 |alloc t=>
  simp only[dt,FP.both]at R⊢;simp only[aB]at hs⊢;split at hs
  .rename_i ti d h1
   try simp only[h1]
   rw[qh (R.1 d (by simp[dl]))];exact .tv trivial rfl (R.set (by simp[dl]))
  .exact hs.elim
 |makeSlice t x y=>
  simp only[dt,FP.both]at R⊢;simp only[aB]at hs⊢;unfold wg at hs⊢;split at hs
  .rename_i e ei k n k2 m d h1 h2 h3
   try simp only[h1,h2,h3]
   rw[qh (R.1 d (by simp[dl]))];exact .tv hs rfl (R.set (by simp[dl]))
  .exact hs.2.elim
 |box t x=>
  simp only[dt,FP.both]at R⊢;simp only[aB]at hs⊢;split at hs
  .rename_i ti d h1
   try simp only[h1]
   have hd:d∈gk v x++dl (some d):=by simp[dl]
   rw[qh (R.1 d hd)];obtain⟨g1,g2,g3⟩:=Gg (xs:=cellsOf (ev v x)) (d:=d) (e:=ar r d+1) (k:=0) (R.set (y:={next:=ar r d,l:=[]}) hd)
    (λ s hs=>by have:=Fl hs;rw[jw]at this;simp[this])
   rw[g1,g2];exact .tv hs rfl (g3.set hd)
  .exact hs.elim
 |build t ps=>
  refine .calm rfl hs ?_;simp only[aB];split
  .split<;>exact⟨rfl,rfl⟩
  .exact⟨rfl,rfl⟩
 |buildSlice t n ps=>
  simp only[dt,FP.both]at R⊢;simp only[aB]at hs⊢;split at hs
  .rename_i e ei d h1
   try simp only[h1]
   have hd:d∈gS v (ps.toList.map (·.2))++dl (some d):=by simp[dl]
   rw[qh (R.1 d hd)];split at hs
   .rename_i ds r1 h2;obtain⟨r1',g1,g2⟩:=FT (R.set (y:={next:=ar r d,l:=[]}) hd) (λ s hs=>by have:=I' hs;rw[CG]at this;simp[this]) h2;simp only[h2,g1];exact .tv hs rfl (g2.set hd)
   .exact hs.elim
  .exact hs.elim
 |load t x=>
  refine .calm rfl hs ?_;simp only[aB];split
  .rename_i hd off h1;rw[R.get (by simpa[dt]using Hl h1)];split<;>exact⟨rfl,rfl⟩
  all_goals exact⟨rfl,rfl⟩
 |store t x y=>
  simp only[dt,FP.both]at R⊢;obtain⟨g1,g2,g3⟩:=Yu (e:=t) (av:=ev v x) (y:=ev v y) R (λ s hs=>by rw[jw]at hs;simp[hs]) (λ s hs=>by rw[jw]at hs;simp[hs]) (mo hs);exact .tv ⟨hs.1,g1⟩ g2 g3
 |nilCheck x=>
  refine .calm rfl hs ?_;simp only[aB];split
  .rename_i hd off h1;rw[R.get (by simpa[dt]using Hl h1)];split<;>exact⟨rfl,rfl⟩
  all_goals exact⟨rfl,rfl⟩
 |binOp op t x y yt=>exact .calm rfl hs (qd (abt λ s hs=>R.1 s (by rw[jw]at hs;simp[dt,hs])))
 |unOp op t x=>
  cases op with
  |not=>
   refine .calm rfl hs ?_;simp only[aB];split<;>exact⟨rfl,rfl⟩
  |_=>exact hs.elim
 |convert s t x=>exact .calm rfl hs (qd (Z2 λ s hs=>R.1 s (by rw[jw]at hs;simpa[dt]using hs)))
 |makeInterface t x=>exact .calm rfl hs (qd Yr)
 |field t x f=>exact .calm rfl hs (qd Xl)
 |makeFunc fn first caps=>
  cases fn with
  |func f=>
   obtain⟨first⟩:=first
   cases first with
   |nil=>
    refine .calm rfl hs ?_;simp only[aB];split<;>exact⟨rfl,rfl⟩
   |cons _ _=>exact hs.elim
  |_=>exact hs.elim
 |slice t x lo hi mx=>
  cases mx with
  |none=>exact .calm rfl hs (qd (YK λ s hs=>by rw[jw]at hs;exact R.1 s (by simpa[dt]using hs)))
  |some m=>exact .calm rfl hs (qd (V4 λ s hs=>by rw[jw]at hs;exact R.1 s (by simpa[dt]using hs)))
 |fieldAddr t x f=>
  refine .calm rfl hs ?_;simp only[aB];split
  .rename_i o hd off h1 h2;rw[R.get (by simpa[dt]using Hl h2)];split<;>exact⟨rfl,rfl⟩
  all_goals exact⟨rfl,rfl⟩
 |indexAddr t x i=>exact .calm rfl hs (qd (abF λ s hs=>by rw[jw]at hs;exact R.1 s (by simpa[dt]using hs)))
 |index t x i=>
  refine .calm rfl hs ?_;simp only[aB];split
  .exact⟨rfl,rfl⟩
  .split<;>exact⟨rfl,rfl⟩
  .exact⟨rfl,rfl⟩
 |extract x i=>
  refine .calm rfl hs ?_;simp only[aB];split
  .split<;>exact⟨rfl,rfl⟩
  .exact⟨rfl,rfl⟩
 |call k=>
  obtain⟨callee,as,ts⟩:=k;cases callee with
  |builtin b=>
   cases b with
   |append=>
    simp only[dt]at R⊢;simp only[aB]at hs⊢;split at hs
    .rename_i s x h0;simp only[h0,gS,pP,fe]at R⊢;obtain⟨g1,g2,g3⟩:=abe (dst:=dst) (ts:=ts) (x:=ev v s) (y:=ev v x) (c:=c) (t:=gk v s++dl dst)
      (Rl.start λ q hq=>R.1 q (by simp only[dN]at hq⊢;rcases hq with hq|hq<;>simp[hq])) (λ s hs=>by simp[hs]) (λ s hs=>by rw[jw]at hs;simp[hs])
      (λ q hq=>by rw[jw]at hq;exact R.1 q (by simp[hq])) (mo hs)
     exact .tv ⟨hs.1,g1⟩ g2 g3
    .exact hs.elim
   |len=>
    refine .calm rfl hs ?_;simp only[aB];split
    .rename_i x h0;exact qd (ab2 λ s hs=>by rw[jw]at hs;exact R.1 s (by simpa[dt,h0,gS]using hs))
    .exact⟨rfl,rfl⟩
   |cap=>
    simp only[dt]at R⊢;simp only[aB]at hs⊢;split at hs
    .rename_i x h0;simp only[h0,gS,fe]at R⊢;obtain⟨g1,g2⟩:=qd (p:=bX c v x) (abu (T:=T) (r:=r) (r':=r') (e:=ts[0]?) (y:=ev v x) λ s hs=>by rw[jw]at hs;exact R.1 s (by simp[hs]));have hs':=hs;rw[←g1]at hs';exact⟨hs',g2,λ s hs=>by simp at hs,λ s _=>⟨by rw[N9,NC (mo hs')],by rw[N9,NC (mo hs)]⟩⟩
    .exact hs.elim
   |copy=>
    simp only[dt]at R⊢;simp only[aB]at hs⊢;split at hs
    .rename_i s x h0;simp only[h0,gS,pP,fe]at R⊢;obtain⟨g1,g2,g3⟩:=ZL (T:=T) (ts:=ts) (x:=ev v s) (y:=ev v x) (t:=gk v s)
      (Rl.start λ q hq=>R.1 q (by simp[hq])) (λ s hs=>by rw[jw]at hs;exact hs)
      (λ q hq=>by rw[jw]at hq;exact R.1 q (by simp[hq])) (mo hs)
     exact .tv ⟨hs.1,g1⟩ g2 g3
    .exact hs.elim
   |clear=>
    simp only[dt]at R⊢;simp only[aB]at hs⊢;split at hs
    .rename_i s h0;simp only[h0,gS,pP,fe]at R⊢;obtain⟨g1,g2,g3⟩:=XY (T:=T) (ts:=ts) (x:=ev v s) (t:=gk v s)
      (Rl.start λ q hq=>R.1 q (by simp[hq])) (λ s hs=>by rw[jw]at hs;exact hs) (mo hs)
     exact .tv ⟨hs.1,g1⟩ g2 g3
    .exact hs.elim
   |max=>exact .calm rfl hs (qd NU)
   |min=>exact .calm rfl hs (qd NU)
   |_=>exact hs.elim
  |_=>exact hs.elim
 |_=>exact hs.elim
end
section
variable {v v':List AV} {r r' r0 r0':Rs} {T:Nat->Option TI} {c:Bool}
theorem Kg {s:Nat} (h:ao s r'=ao s r):∀{xs:List C},mX r' s xs=mX r s xs
 |[]=>rfl
 |x::xs=>by
  have e:mA r' s x=mA r s x:=by
   unfold mA;split
   .rfl
   .rfl
   .split
    .rename_i hd lo n e;rw[xA (r:=r) (r':=r') (x:= .own hd lo n) (by simp[ck,e,h])]
    .rfl
   .rfl
  simp only[mX];rw[e,Kg h]
mutual
theorem LK:∀{x:C},(∀s∈ck x,ao s r'=ao s r)->bW r' x=bW r x
 | .d _,_=>by simp only[bW]
 | .aC _ _,_=>by simp only[bW]
 | .fJ _,_=>by simp only[bW]
 | .ab,_=>by simp only[bW]
 | .dead,_=>by simp only[bW]
 | .ib cs,h=>by simp only[bW];rw[xl (by simpa[ck]using h)]
 | .eX hd lo n k,h=>by simp only[bW];rw[xA h]
 | .lk _ _ _,_=>by simp only[bW]
 | .own hd lo n,h=>by simp only[bW];rw[xA h]
 | .ptr hd off,h=>by
  simp only[bW];rw[mT (h hd.s (by simp[ck]))];cases aQ r hd with
  |none=>rfl
  |some res=>simp only;rw[Kg (h hd.s (by simp[ck]))]
 | .fx f caps,h=>by simp only[bW];rw[xl (by simpa[ck]using h)]
theorem xl:∀{xs:List C},(∀s∈cK xs,ao s r'=ao s r)->bW.lendCs r' xs=bW.lendCs r xs
 |[],_=>by simp only[bW.lendCs]
 |x::xs,h=>by simp only[bW.lendCs];rw[LK λ s hs=>h s (by simp[cK,hs]),xl λ s hs=>h s (by simp[cK,hs])]
end
theorem K8 {x:AV} (h:∀s∈cj x,ao s r'=ao s r):qs r' x=qs r x:=by
 unfold qs;split
 .rw[LK (by simpa[cj]using h)]
 .rw[xl (by simpa[cj]using h)]
 .rfl
theorem zX:∀{xs:List AV},(∀s∈i3 xs,ao s r'=ao s r)->gD r' xs=gD r xs
 |[],_=>rfl
 |x::xs,h=>by simp only[gD];rw[K8 λ s hs=>h s (by simp[i3,hs]),zX λ s hs=>h s (by simp[i3,hs])]
theorem zd:∀{xs:List C},i3 (xs.map AV.one)=cK xs
 |[]=>rfl
 |x::xs=>by simp[i3,cK,cj,zd (xs:=xs)]
theorem Nd {f:Operand} {args:Array Operand} (h1:∀s∈gk v f,ao s r'=ao s r) (h2:∀s∈gS v args.toList,ao s r'=ao s r):
  dY v r' f args=dY v r f args:=by
 unfold dY;rw[zX (xs:=eP v args.toList) (by rw[CG];exact h2)];split
 .rename_i n caps as g1 g2;rw[zX (xs:=caps.map AV.one)];rw[zd];intro s hs;refine h1 s ?_;rw[←jw];unfold om at g1;split at g1
  .cases g1;simp[cK]at hs
  .rename_i n' caps' h3;cases g1;rw[h3];simpa[cj,ck]using hs
  .cases g1
 .rfl
theorem Jm {B:Bool} {dst:Option Nat} {rfs:List RF} (h:∀s∈dl dst,ao s r'=ao s r):
  (kh B r' dst rfs).1=(kh B r dst rfs).1/\(∀s∈dl dst,ao s (kh B r' dst rfs).2=ao s (kh B r dst rfs).2)/\
   ∀s,s ∉ dl dst->ao s (kh B r' dst rfs).2=ao s r'/\ao s (kh B r dst rfs).2=ao s r:=by
 unfold kh;simp only;split
 .exact⟨rfl,h,λ _ _=>⟨rfl,rfl⟩⟩
 .cases dst with
  |none=>exact⟨rfl,h,λ _ _=>⟨rfl,rfl⟩⟩
  |some d=>
   have hd:=qh (h d (by simp[dl]));simp only;rw[hd];have R:=Rl.set (y:={next:=ar r d+1,l:=none::fM B (ar r d) (rfs.flatMap RF.cells)}) (Rl.start h) (s:=d) (by simp[dl]);exact⟨rfl,R.1,λ s hs=>⟨(R.2 s hs).2,(R.2 s hs).1⟩⟩
theorem J6 {dst:Option Nat} {rfs:List RF} (h:∀s∈dl dst,ao s r'=ao s r):
  (eT r' dst rfs).1=(eT r dst rfs).1/\(∀s∈dl dst,ao s (eT r' dst rfs).2=ao s (eT r dst rfs).2)/\
   ∀s,s ∉ dl dst->ao s (eT r' dst rfs).2=ao s r'/\ao s (eT r dst rfs).2=ao s r:=Jm h
variable {cx:Cx} {a:Act} {w:World} {β:Nat->Nat->Pl} {all:List Oper}
theorem yo (h:aL cx ⟨v,r⟩ a w β) {j:Nat} {want c' b:Bool} (hg:gi all v j=some (c',b)):(yielded all.toArray a.tmps j==some want)=(c'&&(b==want)):=by
 unfold gi at hg;split at hg
 .rename_i o ho;split at hg
  .rename_i d hd;have hy:yielded all.toArray a.tmps j=(match a.tmps[d]? with|some (.bool b)=>some b|_=>none):=by unfold yielded;simp only[u9,ho,Option.bind_some,hd];rfl
   rw[j7]at hg;cases hv:v[d]? with
   |none=>rw[hv]at hg;simp[sX]at hg
   |some y=>
    obtain⟨u,h1,h2⟩:=h.sl d y hv;rw[hv]at hg;simp only[ku]at hg;rw[hy,h1];have hu:(c'=true->u= .bool b)/\(c'=false->u=undef):=by
     unfold sX at hg;split at hg
     .cases hg;exact⟨λ _=>(cR.1 h2).1,λ h=>by cases h⟩
     .cases hg;simp only[aE]at h2;exact⟨λ h=>(iG.1 (h2.1 h)).1,h2.2⟩
     .cases hg;simp only[aE]at h2;exact⟨λ h=>by(cases h),λ _=>h2.2 trivial⟩
     .cases hg
    cases c' with
    |true=>rw[hu.1 rfl];simp
    |false=>rw[hu.2 rfl];simp[undef]
  .cases hg
 .cases hg
theorem mu {dst:Option Nat} {op:Op}:∀s∈(dt v dst op).w,s∈(dt v dst op).t:=by
 intro s hs;have hh:∀{l:List Operand},s∈pP v l->s∈gS v l:=λ {l} h=>by
  cases l with
  |nil=>exact h
  |cons x xs=>simp only[pP,gS]at h⊢;simp[h]
 unfold dt at hs⊢;split at hs
 case h_15=>
  simp only[dN]at hs⊢;exact hs.imp hh id
 all_goals simp_all[FP.both]
theorem qj {dst:Option Nat} {x:AV}:(⟨v,r⟩:G).put dst x=⟨cq v dst x,r⟩:=by cases dst<;>rfl
def H2 (cx:Cx) (v':List AV) (r':Rs) (dst:Option Nat) (x:AV) (W:List Nat) (r1:Rs) (a':Act) (w':World):Prop:=
 ∃r1',dJ cx ⟨cq v' dst x,r1'⟩ a' w'/\(∀s∈W,ao s r1'=ao s r1)/\∀s,s ∉ W->ao s r1'=ao s r'
theorem Ot {o:Oper} {Q:Exit->Act->World->Prop} {K:Act->World->Prop} {x:AV} {r1:Rs} (hd:eN cx v' a w (execOp a.eval o) x r1)
  (hK:∀u w' β',aL cx ⟨v',r1⟩ a w' β'->aE cx w' r1 β' x u->K (a.put o.dst u) w'):o.wp cx.P a w K Q:=by
 obtain⟨n,w',β',u,h1,h2,h3,h4⟩:=hd;unfold Oper.wp;rw[h1];rcases h2 with rfl|⟨rfl,rfl⟩
 .rw[Oper.upon_value];exact hK _ _ _ h3 h4
 .rw[Oper.upon_skip];exact hK _ _ _ h3 h4
theorem qe {dst:Option Nat} {x:AV} {u:Value} {W:List Nat} {r1 r2:Rs} (h:aL cx ⟨v',r2⟩ a w β) (hx:aE cx w r2 β x u) (h1:∀s∈W,ao s r2=ao s r1) (h2:∀s,s ∉ W->ao s r2=ao s r'):
  H2 cx v' r' dst x W r1 (a.put dst u) w:=
 ⟨r2,⟨β,by rw[←qj];exact h.put dst hx⟩,h1,h2⟩
theorem JL (hT:cl cx.P T) {o:Oper} (hs:(aB T true v r o.dst o.op).sc) (hv:∀x∈o.op.operands.toList,b6 v' x=b6 v x)
  (hr:∀s∈(dt v o.dst o.op).t,ao s r'=ao s r) (h:aL cx ⟨v',r'⟩ a w β) {Q:Exit->Act->World->Prop}:
  o.wp cx.P a w (H2 cx v' r' o.dst (aB T true v r o.dst o.op).x (dt v o.dst o.op).w (aB T true v r o.dst o.op).r) Q:=by
 have hc:=D9 (r':=r') hr hs;have hd:=NI (v:=v') (r:=r') (c:=true) hT h rfl (o:=o) (by rw[D6 hv];exact hc.sc);rw[D6 hv,hc.x]at hd;exact Ot hd λ u w' β' g1 g2=>qe g1 g2 hc.on λ s hs=>(hc.off s hs).1
end
section
variable {v v':List AV} {r r':Rs} {T:Nat->Option TI} {cx:Cx} {a:Act} {w w':World} {β:Nat->Nat->Pl} {mv:Mv}
theorem sP {hd:Hd} (h:ao hd.s r'=ao hd.s r):aQ r' hd=aQ r hd:=by unfold aQ aF;rw[h]
theorem acR {s:Nat} (h:ao s r'=ao s r) {x:C} (hx:∀t∈ck x,t=s):pS r' x=pS r x:=by
 cases x with
 |own hd lo n=>
  have e:ao hd.s r'=ao hd.s r:=by rw[hx hd.s (by simp[ck])];exact h
  simp only[pS];rw[sP e]
 |_=>rfl
theorem Ob {s:Nat} (h:ao s r'=ao s r):∀{l:List C},(∀t∈cK l,t=s)->eS r' l=eS r l
 |[],_=>rfl
 |x::l,hx=>by simp only[eS];rw[acR h (λ t ht=>hx t (by simp[cK,ht])),Ob h (λ t ht=>hx t (by simp[cK,ht]))]
theorem MM {s:Nat} (h:ao s r'=ao s r):∀{l:List C},(∀t∈cK l,t=s)->jg r' l=jg r l
 |[],_=>rfl
 |x::l,hx=>by
  simp only[jg];rw[MM h (λ t ht=>hx t (by simp[cK,ht]))];congr 1;cases x with
  |own hd lo n=>
   have e:ao hd.s r'=ao hd.s r:=by rw[hx hd.s (by simp[cK,ck])];exact h
   simp only[tQ];rw[sP e]
  |_=>rfl
theorem IM:∀{l m:List C},cK (l++m)=cK l++cK m
 |[],_=>rfl
 |x::l,m=>by simp[cK,IM (l:=l)]
theorem Z1 {x:AV} (h:∀s∈cj x,ao s r'=ao s r):iT r' x=iT r x:=by
 cases x with
 |agg l=>
  simp only[iT];cases hsp:oW l with
  |none=>rfl
  |some q=>
   obtain⟨a0,⟨hd,lo,n⟩,b0⟩:=q;have hl:=Fm hsp;simp only;have hs:∀s,s∈cK a0∨s=hd.s∨s∈cK b0->ao s r'=ao s r:=λ s hs=>by refine h s ?_;rw[hl];simp only[cj,IM,cK,ck,dN,cF,iA,iR];exact hs
   rw[xl λ s hh=>hs s (.inl hh),xl λ s hh=>hs s (.inr (.inr hh)),sP (hs hd.s (.inr (.inl rfl)))]
 |one c=>
  cases c with
  |ptr hd off=>
   have h1:=h hd.s (by simp[cj,ck]);simp only[iT];rw[sP h1];cases aQ r hd with
   |none=>rfl
   |some res=>
    simp only;by_cases hc:(cK res.cells).all (·==hd.s)=true
    .have hc':∀t∈cK res.cells,t=hd.s:=λ t ht=>by have:=jh.1 hc t ht;simpa using this
     rw[Ob h1 hc',MM h1 hc']
    .have hc':(cK res.cells).all (·==hd.s)=false:=by simpa using hc
     rw[hc'];simp only[gV,lU,and_false,cE];cases eS r' res.cells<;>cases eS r res.cells<;>rfl
  |own hd lo n=>
   have h1:=h hd.s (by simp[cj,ck]);simp only[iT];rw[sP h1]
  |_=>rfl
 |_=>rfl
theorem KS:∀{i:Nat} {xs:List AV},(∀s∈i3 xs,ao s r'=ao s r)->lJ r' i xs=lJ r i xs
 |_,[],_=>by simp[lJ]
 |0,x::xs,h=>by simp only[lJ];rw[Z1 λ s hs=>h s (by simp[i3,hs]),zX λ s hs=>h s (by simp[i3,hs])]
 |i+1,x::xs,h=>by simp only[lJ];rw[K8 λ s hs=>h s (by simp[i3,hs]),KS λ s hs=>h s (by simp[i3,hs])]
theorem MR {i:Nat} {f:Operand} {args:Array Operand} (h1:b6 v' f=b6 v f) (h2:∀x∈args.toList,b6 v' x=b6 v x):fF i v' r f args=fF i v r f args:=by unfold fF;rw[oq h1,su h2]
theorem abq {i:Nat} {f:Operand} {args:Array Operand} (h1:∀s∈gk v f,ao s r'=ao s r) (h2:∀s∈gS v args.toList,ao s r'=ao s r):
  fF i v r' f args=fF i v r f args:=by
 unfold fF;rw[KS (xs:=eP v args.toList) (by rw[CG];exact h2)];split
 .rename_i n caps as mv g1 g2;rw[zX (xs:=caps.map AV.one)];rw[zd];intro s hs;refine h1 s ?_;rw[←jw];unfold om at g1;split at g1
  .cases g1;simp[cK]at hs
  .rename_i n' caps' h3;cases g1;rw[h3];simpa[cj,ck]using hs
  .cases g1
 .rfl
theorem acZ {dst:Option Nat} {aC:List Nat} {l':List RO} (h:ao mv.s r'=ao mv.s r):fA r' dst mv aC l'=fA r dst mv aC l':=by
 cases mv with
 |o hd=>simp only[fA];rw[sP (hd:=hd) (r:=r) (r':=r') h]
 |r hd n=>simp only[fA];rw[sP (hd:=hd) (r:=r) (r':=r') h]
theorem NF (h:ao mv.s r'=ao mv.s r):pQ r' mv=pQ r mv:=by unfold pQ;rw[h]
theorem abD {l':List RO} (h:ao mv.s r'=ao mv.s r):ao mv.s (nh r' mv l')=ao mv.s (nh r mv l')/\
  ∀s,s≠mv.s->ao s (nh r' mv l')=ao s r'/\ao s (nh r mv l')=ao s r:=by
 cases mv with
 |o hd=>
  have h':ao hd.s r'=ao hd.s r:=h;simp only[nh];rw[sP (hd:=hd) h',NF (mv:= .o hd) h];have hn:ar r' hd.s=ar r hd.s:=by unfold ar;rw[h']
  rw[hn];cases aQ r hd with
  |none=>exact⟨h',λ s _=>⟨rfl,rfl⟩⟩
  |some res=>
   simp only[Mv.s];refine⟨by rw[dz,dz,aj rfl,aj rfl],λ s hs=>⟨by rw[dz,aa (fu hs)],by rw[dz,aa (fu hs)]⟩⟩
 |r hd n=>
  have h':ao hd.s r'=ao hd.s r:=h;simp only[nh];rw[sP (hd:=hd) h',h'];cases aQ r hd with
  |none=>exact⟨h',λ s _=>⟨rfl,rfl⟩⟩
  |some res=>
   cases ao hd.s r with
   |none=>exact⟨h',λ s _=>⟨rfl,rfl⟩⟩
   |some rs=>
    simp only[Mv.s];split
    .refine⟨by rw[dz,dz,aj rfl,aj rfl],λ s hs=>⟨by rw[dz,aa (fu hs)],by rw[dz,aa (fu hs)]⟩⟩
    .refine⟨by rw[dz,dz,aj rfl,aj rfl],λ s hs=>⟨by rw[dz,aa (fu hs)],by rw[dz,aa (fu hs)]⟩⟩
theorem Mr {dst:Option Nat} {rfs:List RF} {l':List RO} (h:∀s∈mv.s::dl dst,ao s r'=ao s r):
  (bindM r' dst mv rfs l').1=(bindM r dst mv rfs l').1/\(∀s∈mv.s::dl dst,ao s (bindM r' dst mv rfs l').2=ao s (bindM r dst mv rfs l').2)/\
   ∀s,s ∉ mv.s::dl dst->ao s (bindM r' dst mv rfs l').2=ao s r'/\ao s (bindM r dst mv rfs l').2=ao s r:=by
 have h0:ao mv.s r'=ao mv.s r:=h mv.s (by simp);unfold bindM;rw[NF h0];obtain⟨b1,b2⟩:=abD (l':=l') h0;have hall:∀s∈mv.s::dl dst,ao s (nh r' mv l')=ao s (nh r mv l'):=λ s hs=>by
  by_cases e:s=mv.s
  .subst e;exact b1
  .rw[(b2 s e).1,(b2 s e).2];exact h s hs
 obtain⟨g1,g2,g3⟩:=Jm (B:=pQ r mv) (dst:=dst) (rfs:=rfs) (λ s hs=>hall s (jI _ hs));refine⟨g1,λ s hs=> ?_,λ s hs=> ?_⟩
 .by_cases hd:s∈dl dst
  .exact g2 s hd
  .rw[(g3 s hd).1,(g3 s hd).2];exact hall s hs
 .simp only[cF,kY]at hs;rw[(g3 s hs.2).1,(g3 s hs.2).2,(b2 s hs.1).1,(b2 s hs.1).2];exact⟨rfl,rfl⟩
theorem aar (h:aL cx ⟨v,r⟩ a w β) {f:Operand} {args:Array Operand} {ts:Array TypeId} {n:FuncId} {as:List Arg} {post:List RF->List (List RO)->Prop} {o:Oper} {i0:Nat} {dst:Option Nat} {aC:List Nat} {l':List RO}
  (ho:o.op= .call ⟨.value f,args,ts⟩) (s1:bX true v f) (s2:en true v args.toList) (hcall:fF i0 v r f args=some (n,as,mv,aC)) (hsc:fA r dst mv aC l') (hok:ah cx.P n as post):
  ∃(us:Array Value) (hold:dQ) (u0:Value),(execOp a.eval o).run cx.P w= .ok (.enter n us) w/\
   (Calls cx.P n us w λ e w'=>∃rfs objs u,post rfs objs/\e= .returned u/\fl w (Av cx r β) (MB r β mv) w' [hold] rfs objs u)/\Bl r β mv hold u0:=by
 have e1:=du h (c:=true) rfl s1;have e2:=qi h (c:=true) rfl s2;unfold fF at hcall;split at hcall
 .rename_i n' caps as' mv' g1 g2;split at hcall
  .rename_i cs g3;cases hcall;have hcap:∃cv:Array Value,a.eval f= .func (.func n) #[] cv/\aH cx w r β caps cv.toList:=by
    unfold om at g1;split at g1
    .rename_i n' h1;cases g1;rw[h1]at e1;exact⟨#[],(cR.1 e1).1,by simp[aH]⟩
    .rename_i n' caps' h1;cases g1;rw[h1]at e1;simp only[aE,ay]at e1;obtain⟨us,k1,k2⟩:=e1;exact⟨us,k1,k2⟩
    .cases g1
   obtain⟨cv,k1,k2⟩:=hcap;have hlent:mv.s ∉ mW i0 (eP v args.toList)++cK caps:=by
    have:(dl dst++(mW i0 (eP v args.toList)++cK caps)).contains mv.s=false:=by
     cases mv with
     |o hd=>simp only[fA]at hsc;split at hsc;exact hsc.1;exact hsc.elim
     |r hd n=>simp only[fA]at hsc;split at hsc;exact hsc.1;exact hsc.elim
    simp only[A2,dN,gg,kY]at this⊢;exact this.2
   simp only[dN,kY]at hlent;obtain⟨x,y,u0,hold,q0,q1,q2,q3,q4,q5⟩:=FZ h g2 hsc hlent.1 e2
   have hargs:=q1 cs cv.toList (λ k=>by have:=Ck (mv:=mv) (γ:=γM r β mv) (k:=k) (bs:=[]) h g3 (by rw[zd];exact hlent.2) (xq k2) (zs:=[]) (vs:=[]) (by simp[bP]);simpa using this)
   have hobj:cn (as'++cs)=cn [y]:=by rw[qW,qY g3,q2,fe]
   refine⟨(args.toList.map a.eval++cv.toList).toArray,hold,u0, ?_, ?_,q5⟩
   .have:=hok.1 (args.toList.map a.eval++cv.toList).toArray w;have hm:(args.toList.map a.eval++cv.toList).toArray=args.map a.eval++cv:=by apply lb;simp
    rw[hm]at this⊢;simp[execOp,ho,resolve,k1,Deferred.ofValue,invoke,this]
   .refine hok.2 w (Av cx r β) (MB r β mv) (γM r β mv) [hold] _ (λ b hb=> ?_) (λ b hb=> .inr hb.ob) hargs (by rw[hobj];exact q3) ?_ (by rw[hobj];exact q4)
    .rcases hb with hb|⟨s,j,res,o,hl,_,hbs⟩
     .exact gI (h.a0 b hb) h.n0
     .exact(h.rs _ _ _ hl).1.lt hbs
    .cases hold<;>simp[cW]
  .cases hcall
 .cases hcall
end
section
variable {cx:Cx} {v:List AV} {r r':Rs} {a:Act} {w w':World} {β β':Nat->Nat->Pl} {T:Nat->Option TI} {c:Bool} {mv:Mv}
theorem aad (h:aL cx ⟨v,r⟩ a w β) {f:Operand} {args:Array Operand} {ts:Array TypeId} {n:FuncId} {as:List Arg} {x:Value} {o:Oper} (ho:o.op= .call ⟨.value f,args,ts⟩)
  (hc:c=true) (s1:bX c v f) (s2:en c v args.toList) (hcall:dY v r f args=some (n,as)) (hok:gF cx.P n as x):
  ∃us:Array Value,(execOp a.eval o).run cx.P w= .ok (.enter n us) w/\
   Calls cx.P n us w λ e w'=>e= .panicked [{v:=x,recovered:=false}]/\vh w jP w':=by
 have e1:=du h hc s1;have e2:=qi h hc s2;unfold dY at hcall;split at hcall
 .rename_i n' caps as' g1 g2;split at hcall
  .rename_i cs g3;cases hcall
   -- whom it calls
   have hcap:∃cv:Array Value,a.eval f= .func (.func n) #[] cv/\aH cx w r β caps cv.toList:=by
    unfold om at g1;split at g1
    .rename_i n' h1;cases g1;rw[h1]at e1;exact⟨#[],(cR.1 e1).1,by simp[aH]⟩
    .rename_i n' caps' h1;cases g1;rw[h1]at e1;simp only[aE,ay]at e1;obtain⟨us,k1,k2⟩:=e1;exact⟨us,k1,k2⟩
    .cases g1
   obtain⟨cv,k1,k2⟩:=hcap;have hargs:=vy h g2 e2 (vy h g3 (xq k2) (zs:=[]) (vs:=[]) (by simp[bP]));simp only[fe]at hargs;have hobj:cn (as'++cs)=[]:=by rw[qW,qY g2,qY g3];rfl
   refine⟨(args.toList.map a.eval++cv.toList).toArray, ?_, ?_⟩
   .have:=hok.1 (args.toList.map a.eval++cv.toList).toArray w;have hm:(args.toList.map a.eval++cv.toList).toArray=args.map a.eval++cv:=by apply lb;simp
    rw[hm]at this⊢;simp[execOp,ho,resolve,k1,Deferred.ofValue,invoke,this]
   .refine hok.2 w (Av cx r β) jP (λ _=>⟨none,0⟩) [] _ (λ b hb=> ?_) (λ b hb=>hb.elim) hargs (by rw[hobj];intro b hb;exact hb.elim) Bh (by rw[hobj];intro i j b o o' sz n ds bo sz' n' ds' bo' h1;simp at h1);rcases hb with hb|⟨s,j,res,o,hl,_,hbs⟩
    .exact gI (h.a0 b hb) h.n0
    .exact(h.rs _ _ _ hl).1.lt hbs
  .cases hcall
 .cases hcall
theorem Xz (h:aL cx ⟨v,r⟩ a w β) {f:Operand} {args:Array Operand} {ts:Array TypeId} {n:FuncId} {as:List Arg} {x:Value} {o:Oper} {i0:Nat} {dst:Option Nat} {aC:List Nat} {l':List RO}
  (ho:o.op= .call ⟨.value f,args,ts⟩) (s1:bX true v f) (s2:en true v args.toList) (hcall:fF i0 v r f args=some (n,as,mv,aC)) (hsc:fA r dst mv aC l') (hok:gF cx.P n as x):
  ∃(us:Array Value) (hold:dQ) (u0:Value),(execOp a.eval o).run cx.P w= .ok (.enter n us) w/\
   (Calls cx.P n us w λ e w'=>e= .panicked [{v:=x,recovered:=false}]/\vh w (MB r β mv) w')/\Bl r β mv hold u0:=by
 have e1:=du h (c:=true) rfl s1;have e2:=qi h (c:=true) rfl s2;unfold fF at hcall;split at hcall
 .rename_i n' caps as' mv' g1 g2;split at hcall
  .rename_i cs g3;cases hcall;have hcap:∃cv:Array Value,a.eval f= .func (.func n) #[] cv/\aH cx w r β caps cv.toList:=by
    unfold om at g1;split at g1
    .rename_i n' h1;cases g1;rw[h1]at e1;exact⟨#[],(cR.1 e1).1,by simp[aH]⟩
    .rename_i n' caps' h1;cases g1;rw[h1]at e1;simp only[aE,ay]at e1;obtain⟨us,k1,k2⟩:=e1;exact⟨us,k1,k2⟩
    .cases g1
   obtain⟨cv,k1,k2⟩:=hcap;have hlent:mv.s ∉ mW i0 (eP v args.toList)++cK caps:=by
    have:(dl dst++(mW i0 (eP v args.toList)++cK caps)).contains mv.s=false:=by
     cases mv with
     |o hd=>simp only[fA]at hsc;split at hsc;exact hsc.1;exact hsc.elim
     |r hd n=>simp only[fA]at hsc;split at hsc;exact hsc.1;exact hsc.elim
    simp only[A2,dN,gg,kY]at this⊢;exact this.2
   simp only[dN,kY]at hlent;obtain⟨x0,y,u0,hold,q0,q1,q2,q3,q4,q5⟩:=FZ h g2 hsc hlent.1 e2
   have hargs:=q1 cs cv.toList (λ k=>by have:=Ck (mv:=mv) (γ:=γM r β mv) (k:=k) (bs:=[]) h g3 (by rw[zd];exact hlent.2) (xq k2) (zs:=[]) (vs:=[]) (by simp[bP]);simpa using this)
   have hobj:cn (as'++cs)=cn [y]:=by rw[qW,qY g3,q2,fe]
   refine⟨(args.toList.map a.eval++cv.toList).toArray,hold,u0, ?_, ?_,q5⟩
   .have:=hok.1 (args.toList.map a.eval++cv.toList).toArray w;have hm:(args.toList.map a.eval++cv.toList).toArray=args.map a.eval++cv:=by apply lb;simp
    rw[hm]at this⊢;simp[execOp,ho,resolve,k1,Deferred.ofValue,invoke,this]
   .refine hok.2 w (Av cx r β) (MB r β mv) (γM r β mv) [hold] _ (λ b hb=> ?_) (λ b hb=> .inr hb.ob) hargs (by rw[hobj];exact q3) ?_ (by rw[hobj];exact q4)
    .rcases hb with hb|⟨s,j,res,o,hl,_,hbs⟩
     .exact gI (h.a0 b hb) h.n0
     .exact(h.rs _ _ _ hl).1.lt hbs
    .cases hold<;>simp[cW]
  .cases hcall
 .cases hcall
theorem J1 (h:aL cx ⟨v,r⟩ a w β) (p:vh w jP w'):aL cx ⟨v,r⟩ a w' β:=by
 have x:Ext cx w r β w' r β:=⟨λ _=>Nat.le_refl _,λ hd res' _ hg=>⟨res',hg,rfl,rfl,rfl,Nat.le_refl _⟩,⟨λ b hb _=>p.bZ b hb (λ h=>h),λ b _ h=>h⟩,
  λ b hb _=>p.bZ b (gI hb h.n0) (λ h=>h),p.os,p.out⟩
 refine h.mk' x (λ s j res hl=> ?_) h.inj h.fr p.size;obtain⟨g1,g2⟩:=h.rs s j res hl;exact⟨g1.ext x (λ b o hb=>p.bZ b (g1.lt hb) (λ h=>h)) (λ b o hb=>g1.lt hb),g2⟩
theorem JC {s:Nat}:ao s (rO r mv)=if s=mv.s then(ao s r).map (λ rs=>{rs with l:=[]})else ao s r:=by
 unfold rO;by_cases hs:s=mv.s
 .subst hs;rw[aj rfl];cases hf:ao mv.s r with
  |none=>simp[hf]
  |some rs=>simp only[dz,aj,im]
 .rw[aa hs];cases hf:ao mv.s r with
  |none=>rfl
  |some rs=>simp only;rw[dz,aa (fu hs)]
theorem J' {s:Nat}:ar (rO r mv) s=ar r s:=by
 unfold ar;rw[JC];by_cases hs:s=mv.s
 .rw[aj hs];cases ao s r<;>rfl
 .rw[aa hs]
theorem xh {s j:Nat} {res:bV} (hl:aF (rO r mv) s j=some res):s≠mv.s/\aF r s j=some res:=by
 unfold aF at hl⊢;rw[JC]at hl;by_cases hs:s=mv.s
 .rw[aj hs]at hl;cases hf:ao s r with
  |none=>rw[hf]at hl;simp at hl
  |some rs=>rw[hf]at hl;simp at hl
 .rw[aa hs]at hl;exact⟨hs,hl⟩
theorem WG (h:aL cx ⟨v,r⟩ a w β) (p:vh w (MB r β mv) w'):aL cx ⟨v,rO r mv⟩ a w' β:=by
 have hav:∀b,Av cx (rO r mv) β b->Av cx r β b:=λ b hb=>by
  rcases hb with hb|⟨s,j,res,o,hl,hf,hbs⟩
  .exact .inl hb
  .exact .inr ⟨s,j,res,o,(xh hl).2,hf,hbs⟩
 have hsame:∀s j res b o,s≠mv.s->aF r s j=some res->(β s j).base=some (b,o)->w'.heap[b]? =w.heap[b]? :=λ s j res b o hs hl hb=>by
  refine p.bZ b ((h.rs _ _ _ hl).1.lt hb) λ hm=> ?_
  obtain⟨k,res',o',_,h2,h3,h4⟩:=hm;cases hf:res.fz with
  |false=>exact hs (h.inj _ _ _ _ _ _ _ _ _ hl hf h2 h3 hb h4).1
  |true=>
   have hok:=(h.rs _ _ _ hl).1;unfold cJ at hok;rw[aa (by simp[h.vz _ _ _ hl hf])]at hok;obtain⟨_,_,_,g⟩:=hok;exact g hf b o hb (.inr ⟨_,k,res',o',h2,h3,h4⟩)
 have x:Ext cx w r β w' (rO r mv) β:=by
  refine⟨λ s=>by rw[J'];exact Nat.le_refl _,λ hd res' _ hg=> ?_,⟨λ b hb hn=>p.bZ b hb (λ hm=>hn (.inr hm.ob)),λ b _ hb=>hav b hb⟩,λ b hb hn=> ?_,p.os,p.out⟩
  .obtain⟨hl,he⟩:=cp hg;exact⟨res',gu (xh hl).2 he,rfl,rfl,rfl,Nat.le_refl _⟩
  .refine p.bZ b (gI hb h.n0) λ hm=> ?_
   rcases hm.fr h with h1|h1
   .omega
   .exact hn h1
 refine h.mk' x (λ s j res hl=> ?_) (λ s j res s' j' res' b o o' hl hf hl' hf' hb hb'=>h.inj _ _ _ _ _ _ _ _ _ (xh hl).2 hf (xh hl').2 hf' hb hb')
  (λ s j res b o hl hf hb=>h.fr _ _ _ _ _ (xh hl).2 hf hb) p.size
 obtain⟨hs,hl'⟩:=xh hl;obtain⟨g1,g2⟩:=h.rs s j res hl';exact⟨g1.ext x (λ b o hb=>hsame s j res b o hs hl' hb) (λ b o hb=>g1.lt hb),by rw[J'];exact g2⟩
end
section
variable {v v':List AV} {r r':Rs} {T:Nat->Option TI} {c:Bool} {cx:Cx} {a:Act} {w:World} {β:Nat->Nat->Pl} {all:List Oper}
theorem J0 {o:Oper} {f:Operand} {args:Array Operand} {ts:Array TypeId} {rfs:List RF} {n:FuncId} {as:List Arg} (ho:o.op= .call ⟨.value f,args,ts⟩) (hc:c=true)
  (s1:bX c v f) (s2:en c v args.toList) (hcall:dY v r f args=some (n,as)) (hok:ah cx.P n as (λ r o=>r=rfs/\o=[]))
  (hv:∀x∈o.op.operands.toList,b6 v' x=b6 v x) (hr:∀s∈(dt v o.dst o.op).t,ao s r'=ao s r) (h:aL cx ⟨v',r'⟩ a w β)
  {Q:Exit->Act->World->Prop} {K:Act->World->Prop} (hK:∀u w',fl w (Av cx r' β) jP w' [] rfs [] u->K (a.put o.dst u) w'):o.wp cx.P a w K Q:=by
 rw[ho]at hv hr;simp only[dt]at hr;have h1:b6 v' f=b6 v f:=hv f (by simp[Op.operands,Call.operands]);have h2:∀x∈args.toList,b6 v' x=b6 v x:=λ x hx=>hv x (by simp[Op.operands,Call.operands,hx])
 have h3:dY v' r' f args=some (n,as):=by rw[Ht h1 h2,Nd (λ s hs=>hr s (by simp[hs])) (λ s hs=>hr s (by simp[hs])),hcall]
 obtain⟨us,g1,g2⟩:=aaI h ho hc (by rw[ml h1];exact s1) (by rw[pX h2];exact s2) h3 hok;unfold Oper.wp;rw[g1,yk];refine g2.mono λ e w' ⟨rfs',objs,u,⟨e1,e2⟩,e3,e4⟩=> ?_
 subst e1 e2 e3;exact hK u w' e4
def mq (cx:Cx) (all:List Oper) (o:Oper) (v:List AV) (r:Rs) (fp:FP) (x:AV) (r1:Rs):Prop:=
 (∀s,s ∉ fp.w->ao s r1=ao s r)/\
 ∀v' r',(∀x∈o.op.operands.toList,b6 v' x=b6 v x)->(∀j b,o.guard=some (j,b)->gi all v' j=gi all v j)->(∀s∈fp.t,ao s r'=ao s r)->
  ∀a w β,aL cx ⟨v',r'⟩ a w β->∀i Q,all.toArray[i]? =some o->wpOp cx.P all.toArray Q i (H2 cx v' r' o.dst x fp.w r1) a w
theorem n8 {o:Oper} {i:Nat} {Q:Exit->Act->World->Prop} {K:Act->World->Prop} (hi:all.toArray[i]? =some o) (hw:Region.wanted o (yielded all.toArray a.tmps)=true)
  (h:o.wp cx.P a w K Q):wpOp cx.P all.toArray Q i K a w:=by
 unfold wpOp;simp only[hi,hw,cS];exact .inl h
theorem C6 {o:Oper} {i:Nat} {Q:Exit->Act->World->Prop} {K:Act->World->Prop} (hi:all.toArray[i]? =some o) (hw:Region.wanted o (yielded all.toArray a.tmps)=false)
  (h:K (a.put o.dst undef) w):wpOp cx.P all.toArray Q i K a w:=by
 unfold wpOp;simp only[hi,hw,lU,cE];exact h
theorem uh {o:Oper} {y:Nat->Option Bool} (h:o.guard=none):Region.wanted o y=true:=by unfold Region.wanted;rw[h]
theorem xb {o:Oper} {y:Nat->Option Bool} {j:Nat} {b:Bool} (h:o.guard=some (j,b)):Region.wanted o y=(y j==some b):=by unfold Region.wanted;rw[h]
def Wd (cx:Cx) (all:List Oper) (o:Oper) (v:List AV):Prop:=∀(v':List AV) (r':Rs) (a:Act) (w:World) (β:Nat->Nat->Pl),(∀j b,o.guard=some (j,b)->gi all v' j=gi all v j)->aL cx ⟨v',r'⟩ a w β->
 Region.wanted o (yielded all.toArray a.tmps)=true
theorem G5 {o:Oper} (hg:o.guard=none):Wd cx all o v:=λ _ _ _ _ _ _ _=>uh hg
theorem aaS {o:Oper} {j:Nat} {want c' b:Bool} (hg:o.guard=some (j,want)) (hgd:gi all v j=some (c',b)) (hcc:(c'&&(b==want))=true):Wd cx all o v:=λ v' r' a w β hgv h=>by have hwant:=yo h (show gi all v' j=some (c',b) by rw[hgv j want hg];exact hgd) (want:=want);rw[←xb hg,hcc]at hwant;exact hwant
theorem Ku (hT:cl cx.P T) {o:Oper} (hg:o.guard=none) (hs:(aB T true v r o.dst o.op).sc):mq cx all o v r (dt v o.dst o.op) (aB T true v r o.dst o.op).x (aB T true v r o.dst o.op).r:=
 ⟨λ s hs'=>((D9 (r':=r) (λ _ _=>rfl) hs).off s hs').2,λ v' r' hv _ hr a w β h i Q hi=>n8 hi (uh hg) (JL hT hs hv hr h)⟩
theorem Im {o:Oper} {f:Operand} {args:Array Operand} {ts:Array TypeId} {rfs:List RF} {n:FuncId} {as:List Arg} (ho:o.op= .call ⟨.value f,args,ts⟩) (hw:Wd cx all o v)
  (s1:bX true v f) (s2:en true v args.toList) (hcall:dY v r f args=some (n,as)) (hok:ah cx.P n as (λ r o=>r=rfs/\o=[])):
  mq cx all o v r (dt v o.dst o.op) (eT r o.dst rfs).1 (eT r o.dst rfs).2:=by
 have hfw:(dt v o.dst o.op).w=dl o.dst:=by rw[ho];rfl
 refine⟨λ s hs=> ?_,λ v' r' hv hgv hr a w β h i Q hi=>n8 hi (hw v' r' a w β hgv h) (J0 ho rfl s1 s2 hcall hok hv hr h λ u w' hret=> ?_)⟩
 .rw[hfw]at hs;exact((J6 (r':=r) (dst:=o.dst) (rfs:=rfs) λ _ _=>rfl).2.2 s hs).2
 .obtain⟨β',g1,g2⟩:=NK h hret o.dst;obtain⟨e1,e2,e3⟩:=J6 (r:=r) (r':=r') (dst:=o.dst) (rfs:=rfs) (λ s hs=>hr s (mu s (by rw[hfw];exact hs)));rw[e1]at g2;rw[hfw];exact qe g1 g2 e2 λ s hs=>(e3 s hs).1
theorem YV {o:Oper} {f:Operand} {args:Array Operand} {ts:Array TypeId} {d:Value} (ho:o.op= .call ⟨.value f,args,ts⟩) (hw:Wd cx all o v)
  (s1:bX true v f) (s2:en true v args.toList) (he:Bg cx.P v r f args d):mq cx all o v r (dt v o.dst o.op) (.one (.d (.v d))) r:=by
 refine⟨λ s _=>rfl,λ v' r' hv hgv hr a w β h i Q hi=>n8 hi (hw v' r' a w β hgv h) ?_⟩;obtain⟨hd,n,hn,he⟩:=he;rw[ho]at hv hr;simp only[dt]at hr;have h1:b6 v' f=b6 v f:=hv f (by simp[Op.operands,Call.operands]);have h2:∀x∈args.toList,b6 v' x=b6 v x:=λ x hx=>hv x (by simp[Op.operands,Call.operands,hx])
 have e1:=du h rfl (c:=true) (x:=f) (by rw[ml h1];exact s1);have e2:=qi h rfl (c:=true) (xs:=args.toList) (by rw[pX h2];exact s2);rw[oq h1]at e1;rw[su h2]at e2;have hfn:a.eval f= .func (.func n) #[] #[]:=by
  unfold om at hn;split at hn
  .rename_i n' h3;cases hn;rw[h3]at e1;exact(cR.1 e1).1
  .rename_i n' caps' h3;cases hn;rw[h3]at e1;simp only[aE,ay,aH]at e1;obtain⟨us,k1,k2⟩:=e1;rw[k1];congr 1;apply lb;simpa using k2
  .cases hn
 have hrun:=he cx v' r' a w β rfl (λ s hs=>hr s (by simp[hs])) h _ e2;have hm:(args.toList.map a.eval).toArray=args.map a.eval:=by apply lb;simp
 rw[hm]at hrun;unfold Oper.wp;have hex:(execOp a.eval o).run cx.P w= .ok (.value d) w:=by simp[execOp,ho,resolve,hfn,Deferred.ofValue,invoke,hrun]
 rw[hex,Oper.upon_value]
 exact qe h (cR.2 ⟨rfl,hd⟩) (λ s hs=>hr s (by
  have:(dt v o.dst o.op).w=dl o.dst:=by rw[ho];rfl
  rw[this]at hs;simp[hs])) λ s _=>rfl
theorem aaO (hT:cl cx.P T) {o:Oper} {j:Nat} {want c' b:Bool} (hg:o.guard=some (j,want)) (hgd:gi all v j=some (c',b)) (hable:DP o.op=true)
  (hs:(aB T (c'&&(b==want)) v r o.dst o.op).sc):mq cx all o v r (dt v o.dst o.op) (.gd (c'&&(b==want)) (aB T (c'&&(b==want)) v r o.dst o.op).x) r:=by
 have hw0:(dt v o.dst o.op).w=[]:=by
  cases ho:o.op with
  |call k=>
   obtain⟨callee,as,ts⟩:=k;cases callee with
   |builtin bb=>cases bb<;>first|rfl|(rw[ho]at hable;cases hable)
   |_=>rw[ho]at hable;cases hable
  |_=>first|rfl|(rw[ho]at hable;cases hable)
 refine⟨λ _ _=>rfl,λ v' r' hv hgv hr a w β h i Q hi=> ?_⟩;have hgd':gi all v' j=some (c',b):=by rw[hgv j want hg];exact hgd
 have hwant:=yo h hgd' (want:=want);rw[←xb hg]at hwant;cases hcc:(c'&&(b==want))with
 |true=>
  rw[hcc]at hwant hs;refine n8 hi hwant ?_;have hc:=D9 (r':=r') hr hs;have hd:=NI (v:=v') (r:=r') (c:=true) hT h rfl (o:=o) (by rw[D6 hv];exact hc.sc);rw[D6 hv,hc.x]at hd;rw[GR hable hc.sc]at hd;refine Ot hd λ u w' β' g1 g2=> ?_
  rw[hw0];exact qe g1 (by simp only[aE];exact⟨λ _=>g2,λ h=>by cases h⟩) (λ s hs=>by simp at hs) λ s _=>rfl
 |false=>
  rw[hcc]at hwant;refine C6 hi hwant ?_;rw[hw0];exact qe h (by simp only[aE];exact⟨λ h=>(by cases h),λ _=>by trivial⟩) (λ s hs=>by simp at hs) λ s _=>rfl
theorem VM {o:Oper} {f:Operand} {args:Array Operand} {ts:Array TypeId} {rfs:List RF} {n:FuncId} {as:List Arg} {j:Nat} {want c' b:Bool} (ho:o.op= .call ⟨.value f,args,ts⟩) (hg:o.guard=some (j,want))
  (hgd:gi all v j=some (c',b)) (s1:bX (c'&&(b==want)) v f) (s2:en (c'&&(b==want)) v args.toList) (hcall:dY v r f args=some (n,as))
  (hok:(c'&&(b==want))=true->ah cx.P n as (λ r o=>r=rfs/\o=[])) (hno:jF (rfs.flatMap RF.cells)=true):
  mq cx all o v r (dt v o.dst o.op) (.gd (c'&&(b==want)) (kZ (jf 0 0 0 rfs))) r:=by
 refine⟨λ _ _=>rfl,λ v' r' hv hgv hr a w β h i Q hi=> ?_⟩;have hgd':gi all v' j=some (c',b):=by rw[hgv j want hg];exact hgd
 have hwant:=yo h hgd' (want:=want);rw[←xb hg]at hwant;cases hcc:(c'&&(b==want))with
 |true=>
  rw[hcc]at hwant;refine n8 hi hwant (J0 ho hcc s1 s2 hcall (hok hcc) hv hr h λ u w' hret=> ?_);obtain⟨g1,g2⟩:=KM h hno hret;exact qe g1 (by simp only[aE];exact⟨λ _=>g2,λ h=>by cases h⟩) (λ s hs=>hr s (mu s hs)) λ s _=>rfl
 |false=>
  rw[hcc]at hwant;refine C6 hi hwant ?_;exact qe h (by simp only[aE];exact⟨λ h=>(by cases h),λ _=>by trivial⟩) (λ s hs=>hr s (mu s hs)) λ s _=>rfl
theorem ZN (hT:cl cx.P T) {o:Oper} {j:Nat} {want c' b:Bool} (hg:o.guard=some (j,want)) (hgd:gi all v j=some (c',b)) (hcc:(c'&&(b==want))=true)
  (hs:(aB T true v r o.dst o.op).sc):mq cx all o v r (dt v o.dst o.op) (aB T true v r o.dst o.op).x (aB T true v r o.dst o.op).r:=by
 refine⟨λ s hs'=>((D9 (r':=r) (λ _ _=>rfl) hs).off s hs').2,λ v' r' hv hgv hr a w β h i Q hi=> ?_⟩;have hwant:=yo h (show gi all v' j=some (c',b) by rw[hgv j want hg];exact hgd) (want:=want);rw[←xb hg,hcc]at hwant;exact n8 hi hwant (JL hT hs hv hr h)
theorem DF {o:Oper} {j:Nat} {want c' b:Bool} (hg:o.guard=some (j,want)) (hgd:gi all v j=some (c',b)) (hcc:(c'&&(b==want))=false):mq cx all o v r (dt v o.dst o.op) rN r:=by refine⟨λ _ _=>rfl,λ v' r' hv hgv hr a w β h i Q hi=> ?_⟩;have hwant:=yo h (show gi all v' j=some (c',b) by rw[hgv j want hg];exact hgd) (want:=want);rw[←xb hg,hcc]at hwant;exact C6 hi hwant (qe h (by simp[aE,ay]) (λ s hs=>hr s (mu s hs)) λ s _=>rfl)
theorem aaa {o:Oper} {j:Nat} {want c' b:Bool} {x:AV} (hg:o.guard=some (j,want)) (hgd:gi all v j=some (c',b)) (hcc:(c'&&(b==want))=false):mq cx all o v r (dt v o.dst o.op) (.gd (c'&&(b==want)) x) r:=by refine⟨λ _ _=>rfl,λ v' r' hv hgv hr a w β h i Q hi=> ?_⟩;have hwant:=yo h (show gi all v' j=some (c',b) by rw[hgv j want hg];exact hgd) (want:=want);rw[←xb hg,hcc]at hwant;exact C6 hi hwant (qe h (by rw[hcc];simp[aE,ay]) (λ s hs=>hr s (mu s hs)) λ s _=>rfl)
theorem Jx {o:Oper} {f:Operand} {args:Array Operand} {ts:Array TypeId} {rfs:List RF} {l':List RO} {n:FuncId} {as:List Arg} {mv:Mv} {aC:List Nat} {i0:Nat} (ho:o.op= .call ⟨.value f,args,ts⟩) (hw:Wd cx all o v)
  (s1:bX true v f) (s2:en true v args.toList) (hcall:fF i0 v r f args=some (n,as,mv,aC)) (hok:ah cx.P n as (λ r o=>r=rfs/\o=[l'])) (hsc:fA r o.dst mv aC l'):
  mq cx all o v r ⟨(dt v o.dst o.op).t++[mv.s],mv.s::dl o.dst⟩ (bindM r o.dst mv rfs l').1 (bindM r o.dst mv rfs l').2:=by
 refine⟨λ s hs=>(Mr (r:=r) (r':=r) (λ _ _=>rfl)).2.2 s hs|>.2,λ v' r' hv hgv hr a w β h i Q hi=>n8 hi (hw v' r' a w β hgv h) ?_⟩;rw[ho]at hv;have hft:∀s∈(gk v f++(gS v args.toList++dl o.dst)),ao s r'=ao s r:=λ s hs=>hr s (tg _ (by rw[ho];exact hs))
 have hms:ao mv.s r'=ao mv.s r:=hr mv.s (wu _ (by simp));have h1:b6 v' f=b6 v f:=hv f (by simp[Op.operands,Call.operands]);have h2:∀x∈args.toList,b6 v' x=b6 v x:=λ x hx=>hv x (by simp[Op.operands,Call.operands,hx])
 have h3:fF i0 v' r' f args=some (n,as,mv,aC):=by rw[MR h1 h2,abq (λ s hs=>hft s (by simp[hs])) (λ s hs=>hft s (by simp[hs])),hcall]
 have hsc':fA r' o.dst mv aC l':=by rw[acZ hms];exact hsc
 obtain⟨us,hold,u0,g1,g2,g3⟩:=aar h ho (by rw[ml h1];exact s1) (by rw[pX h2];exact s2) h3 hsc' hok;unfold Oper.wp;rw[g1,yk];refine g2.mono λ e w' ⟨rfs',objs,u,⟨e1,e2⟩,e3,e4⟩=> ?_
 subst e1 e2 e3;obtain⟨β',q1,q2⟩:=aaE h g3 hsc' e4
 obtain⟨k1,k2,k3⟩:=Mr (r:=r) (r':=r') (dst:=o.dst) (mv:=mv) (rfs:=rfs') (l':=l') (λ s hs=>by
  rcases cF.1 hs with rfl|hs
  .exact hms
  .exact hft s (by simp[hs]))
 rw[k1]at q2;exact qe q1 q2 k2 λ s hs=>(k3 s hs).1
theorem LQ {d:Nat} {rfs:List RF} {l:List RO} (h:∀s∈(d+pK)::dl (some d),ao s r'=ao s r):
  (fG r' d rfs l).1=(fG r d rfs l).1/\(∀s∈(d+pK)::dl (some d),ao s (fG r' d rfs l).2=ao s (fG r d rfs l).2)/\
   ∀s,s ∉ (d+pK)::dl (some d)->ao s (fG r' d rfs l).2=ao s r'/\ao s (fG r d rfs l).2=ao s r:=by
 have h1:ar r' d=ar r d:=qh (h d (by simp[dl]));have h2:ar r' (d+pK)=ar r (d+pK):=qh (h (d+pK) (by simp));unfold fG;rw[h1,h2];split
 .refine⟨rfl,λ s hs=> ?_,λ s hs=> ?_⟩
  .rw[dz,dz,h s hs]
  .simp only[dl,cF,iA,iR,kY]at hs;rw[dz,dz,aa (fu hs.2),aa (fu hs.2)];exact⟨rfl,rfl⟩
 .refine⟨rfl,λ s hs=> ?_,λ s hs=> ?_⟩
  .rw[dz,dz,dz,dz,h s hs]
  .simp only[dl,cF,iA,iR,kY]at hs;rw[dz,dz,dz,dz,aa (fu hs.1),aa (fu hs.2),aa (fu hs.1),aa (fu hs.2)];exact⟨rfl,rfl⟩
theorem Jh {o:Oper} {f:Operand} {args:Array Operand} {ts:Array TypeId} {rfs:List RF} {l:List RO} {n:FuncId} {as:List Arg} {d:Nat} (ho:o.op= .call ⟨.value f,args,ts⟩) (hw:Wd cx all o v) (hd:o.dst=some d)
  (s1:bX true v f) (s2:en true v args.toList) (hcall:dY v r f args=some (n,as)) (hok:uK cx.P n as rfs l):
  mq cx all o v r ⟨(dt v o.dst o.op).t++[d+pK],(d+pK)::dl o.dst⟩ (fG r d rfs l).1 (fG r d rfs l).2:=by
 refine⟨λ s hs=>(LQ (r:=r) (r':=r) (λ _ _=>rfl)).2.2 s (by rw[hd]at hs;exact hs)|>.2,λ v' r' hv hgv hr a w β h i Q hi=>n8 hi (hw v' r' a w β hgv h) ?_⟩;rw[ho]at hv;have hft:∀s∈(gk v f++(gS v args.toList++dl o.dst)),ao s r'=ao s r:=λ s hs=>hr s (tg _ (by rw[ho];exact hs))
 have h1:b6 v' f=b6 v f:=hv f (by simp[Op.operands,Call.operands]);have h2:∀x∈args.toList,b6 v' x=b6 v x:=λ x hx=>hv x (by simp[Op.operands,Call.operands,hx])
 have h3:dY v' r' f args=some (n,as):=by rw[Ht h1 h2,Nd (λ s hs=>hft s (by simp[hs])) (λ s hs=>hft s (by simp[hs])),hcall]
 obtain⟨us,g1,g2⟩:=LX h ho rfl (by rw[ml h1];exact s1) (by rw[pX h2];exact s2) h3 hok;unfold Oper.wp;rw[g1,yk];refine g2.mono λ e w' ⟨bs,rfs',objs,u,⟨b,e1,e2,e3⟩,e4,e5,e6⟩=> ?_
 subst e1 e2 e3 e4;obtain⟨β',q1,q2⟩:=aba (d:=d) h (e5 b (by simp[cW])) e6;have hag:∀s∈(d+pK)::dl (some d),ao s r'=ao s r:=λ s hs=>by
  rcases cF.1 hs with rfl|hs
  .exact hr _ (wu _ (by simp))
  .exact hft s (by rw[hd];simp[hs])
 obtain⟨k1,k2,k3⟩:=LQ (r:=r) (r':=r') (rfs:=rfs) (l:=l) hag;rw[k1]at q2;rw[hd];exact qe q1 q2 k2 λ s hs=>(k3 s hs).1
theorem MW {o:Oper} {f:Operand} {args:Array Operand} {ts:Array TypeId} {s0:Nat} (ho:o.op= .call ⟨.value f,args,ts⟩):∀s∈(s0::dl o.dst),s∈((dt v o.dst o.op).t++[s0]):=by
 intro s hs;rw[ho];simp only[dt,dN,cF,jE]at hs⊢;rcases hs with rfl|hs
 .exact .inr (.inl rfl)
 .exact .inl (.inr (.inr hs))
def Ep (cx:Cx) (all:List Oper) (o:Oper) (v:List AV) (r:Rs) (K:Ex->G->Prop):Prop:=
 ∀(a:Act) (w:World) (β:Nat->Nat->Pl),aL cx ⟨v,r⟩ a w β->∀(k:Nat) (Q:Exit->Act->World->Prop) (R:Act->World->Prop),all.toArray[k]? =some o->
  (∀x g a w,dJ cx g a w->K (.panic x) g->Q (qG (.panic x)) a w)->wpOp cx.P all.toArray Q k R a w
def NT (T:Nat->Option TI) (cx:Cx) (all:List Oper) (o:Oper) (rest:List Oper) (v:List AV) (r:Rs) (K:Ex->G->Prop):Prop:=
 ∃v' r' fp x r1 off',(∀(cx:Cx) (a:Act) (w:World),dJ cx ⟨v,r⟩ a w->dJ cx ⟨v',r'⟩ a w)/\mq cx all o v' r' fp x r1/\bS T cx.P all ⟨none,off'⟩ rest (cq v' o.dst x) r1 K
theorem X3 {all:List Oper} {v:List AV} {i j k lo n:Nat} {h:Hd} {ds:List D} (hi:v[i]? =some (.one (.own h lo n))):gi all (v.set i (.one (.d (.sl k ds)))) j=gi all v j:=by
 unfold gi;split
 .split
  .rename_i d _;by_cases hd:i=d
   .subst hd;have hlt:i<v.length:=(cG.1 hi).1;rw[j7,j7,xR hlt,hi];rfl
   .rw[j7,j7,nk hd]
  .rfl
 .rfl
theorem L8 {o:Oper} {f:Operand} {args:Array Operand} {ts:Array TypeId} {m:M} {K:Ex->G->Prop} (ho:o.op= .call ⟨.value f,args,ts⟩) (hw:Wd cx all o v) (s1:bX true v f) (s2:en true v args.toList)
  (s3:Bu cx.P m v r f args (dY v r f args) K):m.fp=none/\Ep cx all o v r K:=by
 obtain⟨h1,n,as,x,hok,s3⟩:=s3;refine⟨h1,λ a w β h k Q R hk hQ=>n8 hk (hw v r a w β (λ _ _ _=>rfl) h) ?_⟩;rcases s3 with⟨hcall,hK⟩|⟨i,mv,aC,l',hcall,hsc,hK⟩
 .obtain⟨us,g1,g2⟩:=aad h ho rfl s1 s2 hcall hok;unfold Oper.wp;rw[g1,yk];refine g2.mono λ e w' ⟨e1,e2⟩=> ?_
  subst e1;exact hQ x _ _ _ ⟨β,J1 h e2⟩ hK
 .obtain⟨us,hold,u0,g1,g2,_⟩:=Xz h ho s1 s2 hcall hsc hok;unfold Oper.wp;rw[g1,yk];refine g2.mono λ e w' ⟨e1,e2⟩=> ?_
  subst e1;exact hQ x _ _ _ ⟨β,WG h e2⟩ hK
theorem YO {o:Oper} {y:Operand} {m:M} {K:Ex->G->Prop} (ho:o.op= .panic y) (hw:Wd cx all o v) (s1:bX true v y) (s3:Bw m v r K (ev v y)):m.fp=none/\Ep cx all o v r K:=by
 obtain⟨h1,s3⟩:=s3;refine⟨h1,λ a w β h k Q R hk hQ=>n8 hk (hw v r a w β (λ _ _ _=>rfl) h) ?_⟩;have e1:=du h (c:=true) rfl s1;split at s3
 .rename_i t z hy;rw[hy]at e1;have hv:=(cR.1 e1).1;unfold Oper.wp;have:(execOp a.eval o).run cx.P w= .halt (.panic (.iface t z)) w:=by simp only[execOp,ho,hv];rfl
  rw[this,Oper.upon_panic];exact hQ _ _ _ _ ⟨β,h⟩ s3
 .exact s3.elim
theorem JJ {o:Oper} {f:Operand} {args:Array Operand} {ts:Array TypeId} {rest:List Oper} {m:M} {K:Ex->G->Prop} (ho:o.op= .call ⟨.value f,args,ts⟩) (hw:Wd cx all o v) (s1:bX true v f) (s2:en true v args.toList)
  (s3:(lM cx.P true (dY v r f args) λ rfs=>bS T cx.P all (dK m v o.dst o.op) rest (cq v o.dst (eT r o.dst rfs).1) (eT r o.dst rfs).2 K)∨
   (∃i,rC cx.P r o.dst (fF i v r f args) λ mv rfs l'=>bS T cx.P all (jO o.dst mv.s (dK m v o.dst o.op)) rest (cq v o.dst (bindM r o.dst mv rfs l').1) (bindM r o.dst mv rfs l').2 K)∨
   (∃d,Bg cx.P v r f args d/\bS T cx.P all (dK m v o.dst o.op) rest (cq v o.dst (.one (.d (.v d)))) r K)∨
   (∃d,o.dst=some d/\rB cx.P (dY v r f args) λ rfs l=>bS T cx.P all (jO o.dst (d+pK) (dK m v o.dst o.op)) rest (cq v o.dst (fG r d rfs l).1) (fG r d rfs l).2 K)∨
   Bu cx.P (dK m v o.dst o.op) v r f args (dY v r f args) K∨
   Eb (dK m v o.dst o.op) v r λ v' r'=>bX true v' f/\en true v' args.toList/\
    ((lM cx.P true (dY v' r' f args) λ rfs=>bS T cx.P all (dK m v o.dst o.op) rest (cq v' o.dst (eT r' o.dst rfs).1) (eT r' o.dst rfs).2 K)∨
    (∃i,rC cx.P r' o.dst (fF i v' r' f args) λ mv rfs l'=>bS T cx.P all (jO o.dst mv.s (dK m v o.dst o.op)) rest (cq v' o.dst (bindM r' o.dst mv rfs l').1) (bindM r' o.dst mv rfs l').2 K)∨
    (∃d,o.dst=some d/\rB cx.P (dY v' r' f args) λ rfs l=>bS T cx.P all (jO o.dst (d+pK) (dK m v o.dst o.op)) rest (cq v' o.dst (fG r' d rfs l).1) (fG r' d rfs l).2 K))):
  (∃fp x r1,mq cx all o v r fp x r1/\(∀s∈fp.w,s∈fp.t)/\∃off',bS T cx.P all ⟨m.fp.map (fp::·),off'⟩ rest (cq v o.dst x) r1 K)∨(m.fp=none/\(Ep cx all o v r K∨NT T cx all o rest v r K)):=by
 have hadd:∀{op:Op},dK m v o.dst op=⟨m.fp.map (dt v o.dst op::·),m.off⟩:=λ {op}=>by obtain⟨fp,off⟩:=m;cases fp<;>rfl
 have hnone:∀{op:Op},(dK m v o.dst op).fp=none->m.fp=none:=λ {op} h=>by obtain⟨fp,off⟩:=m;cases fp with|none=>rfl|some l=>cases h
 rcases s3 with s3|⟨i0,s3⟩|⟨d,s3,s4⟩|⟨d,hd,s3⟩|s3|s3
 .unfold lM at s3;split at s3
  .rename_i n as hcall;obtain⟨rfs,g1,g2⟩:=s3;rw[hadd]at g2;exact .inl ⟨_,_,_,Im ho hw s1 s2 hcall (g1 rfl),mu,_,g2⟩
  .exact s3.elim
 .unfold rC at s3;split at s3
  .rename_i n as mv aC hcall;obtain⟨rfs,l',g1,g2,g3⟩:=s3;refine .inl ⟨_,_,_,Jx ho hw s1 s2 hcall g1 g2,MW ho,m.off, ?_⟩;rw[hadd]at g3;obtain⟨fp,off⟩:=m;cases fp with
   |none=>exact g3
   |some l=>exact g3
  .exact s3.elim
 .rw[hadd]at s4;exact .inl ⟨_,_,_,YV ho hw s1 s2 s3,mu,_,s4⟩
 .unfold rB at s3;split at s3
  .rename_i n as hcall;obtain⟨rfs,l,g1,g2⟩:=s3;refine .inl ⟨_,_,_,Jh ho hw hd s1 s2 hcall g1,MW ho,m.off, ?_⟩;rw[hadd]at g2;obtain⟨fp,off⟩:=m;cases fp with
   |none=>exact g2
   |some l=>exact g2
  .exact s3.elim
 .obtain⟨q1,q2⟩:=L8 ho hw s1 s2 s3;exact .inr ⟨hnone q1, .inl q2⟩
 .obtain⟨q1,i,h,lo,n,k,ds,r',hi,himp,t1,t2,s3⟩:=s3;have q0:=hnone q1;have hw':Wd cx all o (v.set i (.one (.d (.sl k ds)))):=λ v' r' a w β hg hh=>hw v' r' a w β (λ j b e=>by rw[hg j b e,X3 hi]) hh
  obtain⟨fp0,off0⟩:=m;simp only at q0;subst q0;refine .inr ⟨rfl, .inr ?_⟩;rcases s3 with s3|⟨i0,s3⟩|⟨d,hd,s3⟩
  .unfold lM at s3;split at s3
   .rename_i n as hcall;obtain⟨rfs,g1,g2⟩:=s3;exact⟨_,_,_,_,_,_,himp,Im ho hw' t1 t2 hcall (g1 rfl),g2⟩
   .exact s3.elim
  .unfold rC at s3;split at s3
   .rename_i n as mv aC hcall;obtain⟨rfs,l',g1,g2,g3⟩:=s3;exact⟨_,_,_,_,_,off0,himp,Jx ho hw' t1 t2 hcall g1 g2,g3⟩
   .exact s3.elim
  .unfold rB at s3;split at s3
   .rename_i n as hcall;obtain⟨rfs,l,g1,g2⟩:=s3;exact⟨_,_,_,_,_,off0,himp,Jh ho hw' hd t1 t2 hcall g1,g2⟩
   .exact s3.elim
theorem Hp (hT:cl cx.P T) {o:Oper} {rest:List Oper} {m:M} {K:Ex->G->Prop} (hk:bS T cx.P all m (o::rest) v r K):
  (∃fp x r1,mq cx all o v r fp x r1/\(∀s∈fp.w,s∈fp.t)/\∃off',bS T cx.P all ⟨m.fp.map (fp::·),off'⟩ rest (cq v o.dst x) r1 K)∨(m.fp=none/\(Ep cx all o v r K∨NT T cx all o rest v r K)):=by
 have hadd:∀{op:Op},dK m v o.dst op=⟨m.fp.map (dt v o.dst op::·),m.off⟩:=λ {op}=>by obtain⟨fp,off⟩:=m;cases fp<;>rfl
 unfold bS at hk;split at hk
 .rename_i hg;split at hk
  .rename_i f args ts ho;obtain⟨s1,s2,s3⟩:=hk;exact JJ ho (G5 hg) s1 s2 s3
  .rename_i y ho;obtain⟨q1,q2⟩:=YO ho (G5 hg) hk.1 hk.2;exact .inr ⟨(by obtain⟨fp,off⟩:=m;cases fp with|none=>rfl|some l=>cases q1), .inl q2⟩
  .obtain⟨g1,g2⟩:=hk;rw[hadd]at g2;exact .inl ⟨_,_,_,Ku hT hg g1,mu,_,g2⟩
 .rename_i j want hg;split at hk
  .obtain⟨g1,g2⟩:=hk;cases hgd:gi all v j with
   |none=>rw[hgd]at g1;exact g1.elim
   |some p=>
    obtain⟨c',b⟩:=p;rw[hgd]at g1;rw[hadd]at g2;exact .inl ⟨_,_,_,DF hg hgd g1,mu,_,g2⟩
  split at hk
  .rename_i c' b hgd;split at hk
   .rename_i f args ts ho;obtain⟨s1,s2,s3⟩:=hk;rcases s3 with s3|⟨hcc,g2⟩|⟨h1,h2⟩
    .unfold lM at s3;split at s3
     .rename_i n as hcall;obtain⟨rfs,g1,g2,g3⟩:=s3;rw[hadd]at g3;exact .inl ⟨_,_,_,VM ho hg hgd s1 s2 hcall g1 g2,mu,_,g3⟩
     .exact s3.elim
    .rw[hadd]at g2;exact .inl ⟨_,_,_,DF hg hgd hcc,mu,_,g2⟩
    .cases hcc:(c'&&(b==want))with
     |true=>
      rw[hcc]at s1 s2;exact JJ ho (aaS hg hgd hcc) s1 s2 (h1 hcc)
     |false=>
      have g2:=h2 hcc;rw[hadd]at g2;exact .inl ⟨_,_,_,DF hg hgd hcc,mu,_,g2⟩
   .split at hk
    .rename_i hable;obtain⟨g1,g2⟩:=hk;rw[hadd]at g2;cases hcc:(c'&&(b==want))with
     |true=>exact .inl ⟨_,_,_,aaO hT hg hgd hable (g1 hcc),mu,_,g2⟩
     |false=>exact .inl ⟨_,_,_,aaa hg hgd hcc,mu,_,g2⟩
    .cases hcc:(c'&&(b==want))with
     |true=>
      obtain⟨g1,g2⟩:=hk.1 hcc;rw[hadd]at g2;exact .inl ⟨_,_,_,ZN hT hg hgd hcc g1,mu,_,g2⟩
     |false=>
      have g2:=hk.2 hcc;rw[hadd]at g2;exact .inl ⟨_,_,_,DF hg hgd hcc,mu,_,g2⟩
  .exact hk.elim
end
end Go.Pk
