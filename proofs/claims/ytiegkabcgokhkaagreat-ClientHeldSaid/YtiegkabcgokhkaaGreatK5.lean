import Derived.Test.YtiegkabcgokhkaaGreatK4
import Derived.Orders
set_option linter.unusedVariables false
set_option linter.unusedSimpArgs false
set_option linter.unusedSectionVars false
namespace Go.Pk
section
variable {v:List AV} {r r' r0 r0':Rs} {T:Nat->Option TI} {c:Bool} {t:List Nat}
def Rl (t:List Nat) (r0 r0' r r':Rs):Prop:=(∀s∈t,ah s r'=ah s r)/\∀s,s ∉ t->ah s r=ah s r0/\ah s r'=ah s r0'
theorem Rl.start (h:∀s∈t,ah s r'=ah s r):Rl t r r' r r':=⟨h,λ _ _=>⟨rfl,rfl⟩⟩
theorem Rl.set {s:Nat} {y:RS} (h:Rl t r0 r0' r r') (hs:s∈t):Rl t r0 r0' (aM s y r) (aM s y r'):=by
 refine⟨λ s' hs'=> ?_,λ s' hs'=> ?_⟩
 .rw[cp,cp];split
  .rfl
  .exact h.1 s' hs'
 .have hne:s≠s':=λ e=>hs' (e▸hs)
  rw[cp,cp,ar hne,ar hne];exact h.2 s' hs'
theorem ib {hd:Hd} (h:ah hd.s r'=ah hd.s r):aK r' hd=aK r hd:=by unfold aK aB;rw[h]
theorem j9 {s:Nat} (h:ah s r'=ah s r):aq r' s=aq r s:=by unfold aq;rw[h]
theorem Rl.get {hd:Hd} (h:Rl t r0 r0' r r') (hs:hd.s∈t):aK r' hd=aK r hd:=ib (h.1 _ hs)
theorem oB {x:C} (h:∀s∈bm x,ah s r'=ah s r):rowOf r' x=rowOf r x:=by
 unfold rowOf;split
 .rfl
 .rfl
 .rfl
 .rename_i hd lo n;rw[ib (h hd.s (by simp[bm]))]
 .rename_i hd lo n k;rw[ib (h hd.s (by simp[bm]))]
 .rfl
theorem Ks {y:AV} (h:∀s∈bj y,ah s r'=ah s r):ng r' y=ng r y:=by
 unfold ng;split
 .exact oB (by simpa[bj]using h)
 .rfl
theorem Lb {y:AV} (h:∀s∈bj y,ah s r'=ah s r):ki r' y=ki r y:=by
 unfold ki;split
 .rfl
 .rename_i y _;exact oB (by simpa[bj]using h)
 .rfl
theorem KM {x:C} {d:D} {r1:Rs} (h:Rl t r0 r0' r r') (hx:∀s∈bm x,s∈t) (hs:jj r x=some (d,r1)):∃r1',jj r' x=some (d,r1')/\Rl t r0 r0' r1 r1':=by
 unfold jj at hs⊢;split at hs
 .cases hs;exact⟨r',rfl,h⟩
 .rename_i hd lo n;have hm:hd.s∈t:=hx _ (by simp[bm]);rw[h.get hm,h.1 _ hm];split at hs
  .split at hs
   .cases hs
   .rename_i hb;rw[ar hb];split at hs
    .rename_i ds h1
     try simp only[h1]
     cases hs;exact⟨_,rfl,h.set hm⟩
    .cases hs
  .cases hs
 .cases hs
theorem uS:∀{xs:List C} {ds:List D} {r r' r1:Rs},Rl t r0 r0' r r'->(∀s∈bG xs,s∈t)->gh r xs=some (ds,r1)->∃r1',gh r' xs=some (ds,r1')/\Rl t r0 r0' r1 r1'
 |[],ds,r,r',r1,h,_,hs=>by simp only[gh,aQ,jI]at hs⊢;obtain⟨rfl,rfl⟩:=hs;exact⟨r',⟨rfl,rfl⟩,h⟩
 |x::xs,ds,r,r',r1,h,hx,hs=>by
  simp only[gh]at hs⊢;split at hs
  .rename_i d r2 h1;obtain⟨r2',g1,g2⟩:=KM h (λ s hs=>hx s (by simp[bG,hs])) h1;split at hs
   .rename_i ds' r3 h2;obtain⟨r3',g3,g4⟩:=uS g2 (λ s hs=>hx s (by simp[bG,hs])) h2;cases hs;exact⟨r3',by simp[g1,g3],g4⟩
   .cases hs
  .cases hs
theorem Lf {d e k:Nat} {x:C} (h:Rl t r0 r0' r r') (hx:∀s∈bm x,s∈t):
  (eM d e k x r').1=(eM d e k x r).1/\(eM d e k x r').2.1=(eM d e k x r).2.1/\Rl t r0 r0' (eM d e k x r).2.2 (eM d e k x r').2.2:=by
 unfold eM;split
 .rename_i hd lo n;have hm:hd.s∈t:=hx _ (by simp[bm]);rw[h.get hm,h.1 _ hm];split
  .split
   .exact⟨rfl,rfl,h⟩
   .exact⟨rfl,rfl,h.set hm⟩
  .exact⟨rfl,rfl,h⟩
 .exact⟨rfl,rfl,h⟩
 .exact⟨rfl,rfl,h⟩
 .exact⟨rfl,rfl,h⟩
theorem uU {d:Nat}:∀{xs:List C} {e k:Nat} {r r':Rs},Rl t r0 r0' r r'->(∀s∈bG xs,s∈t)->
  (cE d e k xs r').1=(cE d e k xs r).1/\(cE d e k xs r').2.1=(cE d e k xs r).2.1/\Rl t r0 r0' (cE d e k xs r).2.2 (cE d e k xs r').2.2
 |[],_,_,_,_,h,_=>⟨rfl,rfl,h⟩
 |x::xs,e,k,r,r',h,hx=>by obtain⟨g1,g2,g3⟩:=Lf (x:=x) (d:=d) (e:=e) (k:=k) h (λ s hs=>hx s (by simp[bG,hs]));obtain⟨g4,g5,g6⟩:=uU (xs:=xs) (e:=e+1) (k:=k+1) g3 (λ s hs=>hx s (by simp[bG,hs]));simp only[cE];rw[g1,g2,g4,g5];exact⟨rfl,rfl,g6⟩
theorem Ko {d:Nat} {y:AV} (h:Rl t r0 r0' r r') (hd:d∈t) (hy:∀s∈bj y,s∈t):(kJ r' d y).1=(kJ r d y).1/\Rl t r0 r0' (kJ r d y).2 (kJ r' d y).2:=by
 unfold kJ;split
 .rename_i hd' lo n;have hm:hd'.s∈t:=hy _ (by simp[bj,bm]);split
  .exact⟨rfl,h⟩
  .rw[h.get hm,h.1 _ hm,j9 (h.1 _ hd)];split
   .split
    .exact⟨rfl,h⟩
    .split
     .exact⟨rfl,(h.set hm).set hd⟩
     .exact⟨rfl,h⟩
   .exact⟨rfl,h⟩
 .exact⟨rfl,h⟩
theorem fj {x:Operand}:bj (ev v x)=dM v x:=by
 unfold ev dM;split
 .rename_i h;rw[h];simp[bj]
 .rename_i h;rw[h]
 .rename_i h;rw[h]
 .rename_i h;rw[h]
theorem rS:∀{xs:List Operand},eR (cO v xs)=eh v xs
 |[]=>rfl
 |x::xs=>by simp only[cO,eR,eh,fj,rS (xs:=xs)]
theorem uj {y:AV} {s:Nat} (h:s∈bG (cellsOf y)):s∈bj y:=by
 unfold cellsOf at h;split at h
 .split at h
  .simpa[bG,bj]using h
  .simp[bG]at h
 .simpa[bj]using h
 .simp[bG]at h
theorem xd:∀{xs ys:List C},bG (xs++ys)=bG xs++bG ys
 |[],ys=>rfl
 |x::xs,ys=>by simp[bG,xd (xs:=xs)]
theorem xM:∀{ys:List AV} {s:Nat},s∈bG (ys.flatMap cellsOf)->s∈eR ys
 |[],s,h=>by simp[bG]at h
 |y::ys,s,h=>by rw[fm,xd,eE]at h;simp only[eR,eE];exact h.imp uj xM
structure qS (w:List Nat) (r r':Rs) (o o':Out):Prop where
 sc:o'.sc
 x:o'.x=o.x
 on:∀s∈w,ah s o'.r=ah s o.r
 off:∀s,s ∉ w->ah s o'.r=ah s r'/\ah s o.r=ah s r
theorem qS.calm {op:Op} {dst:Option Nat} (hg:sY op=true) (hs:(az T c v r dst op).sc)
  (h:(az T c v r' dst op).sc=(az T c v r dst op).sc/\(az T c v r' dst op).x=(az T c v r dst op).x):qS [] r r' (az T c v r dst op) (az T c v r' dst op):=
 have h':(az T c v r' dst op).sc:=by rw[h.1];exact hs
 ⟨h',h.2,λ s hs'=>by simp at hs',λ s _=>⟨by rw[vf hg h'],by rw[vf hg hs]⟩⟩
theorem qS.lD {o o':Out} (h:o'.sc) (hx:o'.x=o.x) (hr:Rl t r r' o.r o'.r):qS t r r' o o':=
 ⟨h,hx,hr.1,λ s hs=>⟨(hr.2 s hs).2,(hr.2 s hs).1⟩⟩
theorem vn {x:Operand} {hd:Hd} {off:Nat} (h:ev v x= .one (.ptr hd off)):hd.s∈dM v x:=by rw[←fj,h];simp[bj,bm]
theorem MC {e:Nat} {y iv:AV} (h:∀s∈bj y,ah s r'=ah s r):(jU T r' c e y iv).sc=(jU T r c e y iv).sc/\(jU T r' c e y iv).x=(jU T r c e y iv).x:=by
 unfold jU;split
 .rename_i _ hd lo _ _;rw[ib (h hd.s (by simp[bj,bm]))];split<;>exact⟨rfl,rfl⟩
 .exact⟨rfl,rfl⟩
 .exact⟨rfl,rfl⟩
 .rename_i hd _ _;rw[ib (h hd.s (by simp[bj,bm]))];split<;>exact⟨rfl,rfl⟩
 .split<;>exact⟨rfl,rfl⟩
 all_goals exact⟨rfl,rfl⟩
theorem Kq {e:Nat} {y:AV} {l hi:Option AV} (h:∀s∈bj y,ah s r'=ah s r):
  (jA T r' c e y l hi).sc=(jA T r c e y l hi).sc/\(jA T r' c e y l hi).x=(jA T r c e y l hi).x:=by
 unfold jA;split
 .split<;>exact⟨rfl,rfl⟩
 .rename_i hd lo n;rw[ib (h hd.s (by simp[bj,bm]))];split<;>exact⟨rfl,rfl⟩
 .rename_i hd lo n k;rw[ib (h hd.s (by simp[bj,bm]))];split<;>exact⟨rfl,rfl⟩
 .split<;>exact⟨rfl,rfl⟩
 .split<;>exact⟨rfl,rfl⟩
 .exact⟨rfl,rfl⟩
theorem Jm {e:Nat} {y:AV} {l hi m:Option AV} (h:∀s∈bj y,ah s r'=ah s r):
  (jw T r' c e y l hi m).sc=(jw T r c e y l hi m).sc/\(jw T r' c e y l hi m).x=(jw T r c e y l hi m).x:=by
 unfold jw;split
 .rename_i hd lo n k;rw[ib (h hd.s (by simp[bj,bm]))];split<;>exact⟨rfl,rfl⟩
 .exact⟨rfl,rfl⟩
theorem MJ {e:Option Nat} {y:AV} (h:∀s∈bj y,ah s r'=ah s r):(jT T r' e y).sc=(jT T r e y).sc/\(jT T r' e y).x=(jT T r e y).x:=by
 unfold jT;split
 .rename_i hd lo n k;rw[ib (h hd.s (by simp[bj,bm]))];split<;>exact⟨rfl,rfl⟩
 .exact⟨rfl,rfl⟩
theorem Cb {e:Option Nat} {y:AV} (hs:(jT T r e y).sc):(jT T r e y).r=r:=by
 unfold jT at*
 repeat' split at hs
 all_goals first|exact hs.elim|simp only[*]
theorem Jn {d:Nat} {y:AV}:bj (ld d y)=bj y:=by
 unfold ld;split
 .split<;>simp[bj,bm]
 .rfl
theorem MT {d:Nat} {y:AV} (h:∀s∈bj y,ah s r'=ah s r):lS r' d y=lS r d y:=by
 unfold lS;split
 .rename_i hd lo n k;rw[ib (h hd.s (by simp[bj,bm]))]
 .rfl
theorem zu {hd:Hd} {lo:Nat} {ds:List D} {r1:Rs} (h:Rl t r0 r0' r r') (hm:hd.s∈t) (hp:lz r hd lo ds=some r1):∃r1',lz r' hd lo ds=some r1'/\Rl t r0 r0' r1 r1':=by
 unfold lz at hp⊢;rw[h.get hm,h.1 _ hm];split at hp
 .rename_i res rs h1 h2
  try simp only[h1,h2]
  cases hp;exact⟨_,rfl,h.set hm⟩
 .cases hp
theorem Bo {y:AV} {hd:Hd} {lo n:Nat} (h:mh y=some (hd,lo,n)):hd.s∈bj y:=by
 unfold mh at h;split at h
 .cases h;simp[bj,bm]
 .cases h;simp[bj,bm]
 .cases h
theorem KR {ts:Array Nat} {x y:AV} (h:Rl t r0 r0' r r') (hx:∀s∈bj x,s∈t) (hy:∀s∈bj y,ah s r'=ah s r) (hs:(kf T r ts x y).sc):
  (kf T r' ts x y).sc/\(kf T r' ts x y).x=(kf T r ts x y).x/\Rl t r0 r0' (kf T r ts x y).r (kf T r' ts x y).r:=by
 unfold kf at hs⊢;rw[Ks hy];split at hs
 .rename_i e ei hd lo n m ds2 h1 h2 h3;have hm:hd.s∈t:=hx _ (Bo h2)
  try simp only[h1,h2,h3]
  rw[h.get hm];split at hs
  .rename_i res r1 h4 h5;obtain⟨r1',g1,g2⟩:=zu h hm h5;simp only[h4,h5,g1];exact⟨hs,by trivial,g2⟩
  .exact hs.elim
 .exact hs.elim
theorem KB {ts:Array Nat} {x:AV} (h:Rl t r0 r0' r r') (hx:∀s∈bj x,s∈t) (hs:(kb T r ts x).sc):
  (kb T r' ts x).sc/\(kb T r' ts x).x=(kb T r ts x).x/\Rl t r0 r0' (kb T r ts x).r (kb T r' ts x).r:=by
 unfold kb at hs⊢;split at hs
 .rename_i e ei hd lo n h1 h2;have hm:hd.s∈t:=hx _ (Bo h2)
  try simp only[h1,h2]
  rw[h.get hm];split at hs
  .rename_i res r1 h4 h5;obtain⟨r1',g1,g2⟩:=zu h hm h5;simp only[h4,h5,g1];exact⟨hs,by trivial,g2⟩
  .exact hs.elim
 .exact hs.elim
theorem MG {e:Option Nat} {y:AV} (h:∀s∈bj y,ah s r'=ah s r):(jM T r' e y).sc=(jM T r e y).sc/\(jM T r' e y).x=(jM T r e y).x:=by
 unfold jM;split
 .rename_i hd lo n;rw[ib (h hd.s (by simp[bj,bm]))];split<;>exact⟨rfl,rfl⟩
 .rename_i hd lo n k;rw[ib (h hd.s (by simp[bj,bm]))];split<;>exact⟨rfl,rfl⟩
 all_goals exact⟨rfl,rfl⟩
theorem KO {e e2:Nat} {y:AV} (h:∀s∈bj y,ah s r'=ah s r):(iL T r' e e2 y).sc=(iL T r e e2 y).sc/\(iL T r' e e2 y).x=(iL T r e e2 y).x:=by
 unfold iL;split
 .split
  .exact⟨rfl,rfl⟩
  .rename_i x hx;rw[oB (x:=x) λ s hs=>h s (by simpa[bj]using hs)];split
   .split<;>exact⟨rfl,rfl⟩
   .exact⟨rfl,rfl⟩
  .exact⟨rfl,rfl⟩
 .exact⟨rfl,rfl⟩
theorem Kl {e:Nat} {y:AV}:(iK T r' e y).sc=(iK T r e y).sc/\(iK T r' e y).x=(iK T r e y).x:=by
 unfold iK;split
 .split
  .split<;>exact⟨rfl,rfl⟩
  .exact⟨rfl,rfl⟩
  .exact⟨rfl,rfl⟩
 .exact⟨rfl,rfl⟩
theorem JP {e f:Nat} {y:AV}:(jy T r' e f y).sc=(jy T r e f y).sc/\(jy T r' e f y).x=(jy T r e f y).x:=by
 unfold jy;split
 .split
  .split<;>exact⟨rfl,rfl⟩
  .exact⟨rfl,rfl⟩
 .exact⟨rfl,rfl⟩
theorem BW {mx:Bool} {y:List AV}:(hX r' mx y).sc=(hX r mx y).sc/\(hX r' mx y).x=(hX r mx y).x:=by unfold hX;split<;>exact⟨rfl,rfl⟩
theorem BH {o:BinOp} {e:Nat} {x y:C} (h:∀s∈bm x,ah s r'=ah s r):kr T r' o e x y=kr T r o e x y:=by
 unfold kr;split
 .rfl
 .rfl
 .rfl
 .rfl
 .rename_i hd _ n;rw[ib (h hd.s (by simp[bm]))]
 .rfl
 .rename_i hd off;rw[ib (h hd.s (by simp[bm]))]
 all_goals rfl
theorem Mq {o:BinOp} {e:Nat} {x y:AV} (h:∀s∈bj x,ah s r'=ah s r):(jQ T r' o e x y).sc=(jQ T r o e x y).sc/\(jQ T r' o e x y).x=(jQ T r o e x y).x:=by
 unfold jQ;split
 .rename_i x y;split
  .exact⟨rfl,rfl⟩
  .have e1:=BH (T:=T) (r:=r) (r':=r') (o:=o) (e:=e) (x:= .d (.v x)) (y:= .d (.v y)) (by simp[bm]);simp only[e1];cases kr T r o e (.d (.v x)) (.d (.v y))with
   |none=>exact⟨rfl,rfl⟩
   |some p=>exact⟨rfl,rfl⟩
 .rename_i x y _;have e1:=BH (T:=T) (r:=r) (r':=r') (o:=o) (e:=e) (x:=x) (y:=y) (by simpa[bj]using h);simp only[e1];cases kr T r o e x y with
  |none=>exact⟨rfl,rfl⟩
  |some p=>exact⟨rfl,rfl⟩
 .split
  .split<;>exact⟨rfl,rfl⟩
  .exact⟨rfl,rfl⟩
 .exact⟨rfl,rfl⟩
theorem j5 {o o':Out} {p:Prop} (h:o'.sc=o.sc/\o'.x=o.x):(o'.with p).sc=(o.with p).sc/\(o'.with p).x=(o.with p).x:=by simp only[Out.with,h.1,h.2,and_self]
theorem KE {e:Nat} {av y:AV} (h:Rl t r0 r0' r r') (ha:∀s∈bj av,s∈t) (hy:∀s∈bj y,s∈t) (hs:(j6 T r e av y).sc):
  (j6 T r' e av y).sc/\(j6 T r' e av y).x=(j6 T r e av y).x/\Rl t r0 r0' (j6 T r e av y).r (j6 T r' e av y).r:=by
 unfold j6 at hs⊢;split at hs
 .rename_i ti hd off h1;have hm:hd.s∈t:=ha _ (by simp[bj,bm]);have hc:∀s∈bG (cellsOf y),s∈t:=λ s hs=>hy s (uj hs)
  try simp only[h1]
  rw[h.get hm,h.1 _ hm];split at hs
  .rename_i res h2
   try simp only[h2]
   split at hs
   .rename_i hv;simp only[hv,fB];split at hs
    .rename_i rs h3
     try simp only[h3]
     split at hs
     .rename_i hsm
      try simp only[hsm]
      exact⟨hs,by trivial,h.set hm⟩
     rename_i hsm
     try simp only[hsm]
     obtain⟨g1,g2,g3⟩:=uU (d:=hd.s) (e:=rs.next) (k:=off) h hc;rw[g1,g2];exact⟨hs,by trivial,g3.set hm⟩
    .exact hs.elim
   .rename_i hv;simp only[hv];split at hs
    .rename_i ds r1 h3;obtain⟨r1',g1,g2⟩:=uS h hc h3;simp only[h3,g1];rw[g2.get hm,g2.1 _ hm];split at hs
     .rename_i res' rs' h4 h5
      try simp only[h4,h5]
      exact⟨hs,by trivial,g2.set hm⟩
     .exact hs.elim
    .exact hs.elim
  .exact hs.elim
 .exact hs.elim
theorem MF {dst:Option Nat} {ts:Array Nat} {x y:AV} (h:Rl t r0 r0' r r') (hd:∀s∈dl dst,s∈t) (hx:∀s∈bj x,s∈t) (hy:∀s∈bj y,ah s r'=ah s r) (hs:(kq T r c dst ts x y).sc):
  (kq T r' c dst ts x y).sc/\(kq T r' c dst ts x y).x=(kq T r c dst ts x y).x/\Rl t r0 r0' (kq T r c dst ts x y).r (kq T r' c dst ts x y).r:=by
 unfold kq at hs⊢;rw[Lb hy];split at hs
 .rename_i e ei m ds2 hd' lo n h1 h2 h3;have hm:hd'.s∈t:=hx _ (by simp[bj,bm])
  try simp only[h1,h2,h3]
  rw[h.get hm,h.1 _ hm];split at hs
  .rename_i res rs h4 h5
   try simp only[h4,h5]
   split at hs
   .rename_i ds1 h6;simp only[h6];exact⟨hs,by trivial,h.set hm⟩
   .exact hs.elim
  .exact hs.elim
 .rename_i e ei m ds2 h1 h2 h3
  try simp only[h1,h2,h3]
  split at hs
  .rename_i d;have hm:d∈t:=hd d (by simp[dl]);simp only;rw[j9 (h.1 _ hm)];exact⟨hs,by trivial,h.set hm⟩
  .exact hs.elim
 .rename_i e ei m ds2 hd' lo n k h1 h2 h3;have hm:hd'.s∈t:=hx _ (by simp[bj,bm])
  try simp only[h1,h2,h3]
  unfold qX at hs⊢;rw[h.get hm,h.1 _ hm];split at hs
  .rename_i res rs h4 h5
   try simp only[h4,h5]
   split at hs
   .rename_i ds1 h6
    try simp only[h6]
    split at hs
    .rename_i hfit;rw[ay hfit];exact⟨hs,by rw[ay hfit],by rw[ay hfit];exact h.set hm⟩
    .rename_i hfit;rw[ar hfit];split at hs
     .rename_i d;have hm2:d∈t:=hd d (by simp[dl]);simp only;rw[j9 (h.1 _ hm2),ar hfit];exact⟨hs,by trivial,h.set hm2⟩
     .exact hs.elim
   .exact hs.elim
  .exact hs.elim
 .unfold q9 at hs⊢;split at hs
  .rename_i e ei kk l hd' lo n k h1 h2 y1 y2 y3;have hm:hd'.s∈t:=hx _ (by simp[bj,bm])
   try simp only[h1,h2]
   rw[h.get hm];split at hs
   .rename_i res d h4;have hm2:d∈t:=hd d (by simp[dl])
    try simp only[h4]
    rw[j9 (h.1 _ hm2)];split at hs
    .rename_i ds1 h6
     try simp only[h6]
     exact⟨hs,by trivial,h.set hm2⟩
    .exact hs.elim
   .exact hs.elim
  .exact hs.elim
theorem s8 {op:Op} {dst:Option Nat} (hr:∀s∈(ck v dst op).t,ah s r'=ah s r) (hs:(az T c v r dst op).sc):
  qS (ck v dst op).w r r' (az T c v r dst op) (az T c v r' dst op):=by
 have R:=Rl.start hr;cases op with
 |move x=>exact .calm rfl hs ⟨rfl,rfl⟩
 |assign x=>
  simp only[ck,FP.both]at R⊢;simp only[az]at hs⊢;cases dst with
  |none=>exact hs.elim
  |some d=>
   obtain⟨g1,g2⟩:=Ko (d:=d) (y:=ld d (ev v x)) R (by simp[dl]) (λ s hs=>by rw[Jn,fj]at hs;simp[hs]);refine .lD ⟨hs.1, ?_⟩ g1 g2;show lS r' d (ev v x);rw[MT (r:=r) λ s hs=>by rw[fj]at hs;exact R.1 s (by simp[hs])];exact hs.2
 |pick t x z=>
  refine .calm rfl hs ?_;simp only[az];split<;>exact⟨rfl,rfl⟩
 |alloc t=>
  simp only[ck,FP.both]at R⊢;simp only[az]at hs⊢;split at hs
  .rename_i ti d h1
   try simp only[h1]
   rw[j9 (R.1 d (by simp[dl]))];exact .lD trivial rfl (R.set (by simp[dl]))
  .exact hs.elim
 |makeSlice t x y=>
  simp only[ck,FP.both]at R⊢;simp only[az]at hs⊢;unfold nu at hs⊢;split at hs
  .rename_i e ei k n k2 m d h1 h2 h3
   try simp only[h1,h2,h3]
   rw[j9 (R.1 d (by simp[dl]))];exact .lD hs rfl (R.set (by simp[dl]))
  .exact hs.2.elim
 |box t x=>
  simp only[ck,FP.both]at R⊢;simp only[az]at hs⊢;split at hs
  .rename_i ti d h1
   try simp only[h1]
   have hd:d∈dM v x++dl (some d):=by simp[dl]
   rw[j9 (R.1 d hd)];obtain⟨g1,g2,g3⟩:=uU (xs:=cellsOf (ev v x)) (d:=d) (e:=aq r d+1) (k:=0) (R.set (y:={next:=aq r d,l:=[]}) hd)
    (λ s hs=>by have:=uj hs;rw[fj]at this;simp[this])
   rw[g1,g2];exact .lD hs rfl (g3.set hd)
  .exact hs.elim
 |build t ps=>
  refine .calm rfl hs ?_;simp only[az];split
  .split<;>exact⟨rfl,rfl⟩
  .exact⟨rfl,rfl⟩
 |buildSlice t n ps=>
  simp only[ck,FP.both]at R⊢;simp only[az]at hs⊢;split at hs
  .rename_i e ei d h1
   try simp only[h1]
   have hd:d∈eh v (ps.toList.map (·.2))++dl (some d):=by simp[dl]
   rw[j9 (R.1 d hd)];split at hs
   .rename_i ds r1 h2;obtain⟨r1',g1,g2⟩:=uS (R.set (y:={next:=aq r d,l:=[]}) hd) (λ s hs=>by have:=xM hs;rw[rS]at this;simp[this]) h2;simp only[h2,g1];exact .lD hs rfl (g2.set hd)
   .exact hs.elim
  .exact hs.elim
 |load t x=>
  refine .calm rfl hs ?_;simp only[az];split
  .rename_i hd off h1;rw[R.get (by simpa[ck]using vn h1)];split<;>exact⟨rfl,rfl⟩
  all_goals exact⟨rfl,rfl⟩
 |store t x y=>
  simp only[ck,FP.both]at R⊢;obtain⟨g1,g2,g3⟩:=KE (e:=t) (av:=ev v x) (y:=ev v y) R (λ s hs=>by rw[fj]at hs;simp[hs]) (λ s hs=>by rw[fj]at hs;simp[hs]) (gM hs);exact .lD ⟨hs.1,g1⟩ g2 g3
 |nilCheck x=>
  refine .calm rfl hs ?_;simp only[az];split
  .rename_i hd off h1;rw[R.get (by simpa[ck]using vn h1)];split<;>exact⟨rfl,rfl⟩
  all_goals exact⟨rfl,rfl⟩
 |binOp op t x y yt=>exact .calm rfl hs (j5 (Mq λ s hs=>R.1 s (by rw[fj]at hs;simp[ck,hs])))
 |unOp op t x=>
  cases op with
  |not=>
   refine .calm rfl hs ?_;simp only[az];split<;>exact⟨rfl,rfl⟩
  |_=>exact hs.elim
 |convert s t x=>exact .calm rfl hs (j5 (KO λ s hs=>R.1 s (by rw[fj]at hs;simpa[ck]using hs)))
 |makeInterface t x=>exact .calm rfl hs (j5 Kl)
 |field t x f=>exact .calm rfl hs (j5 JP)
 |makeFunc fn first caps=>
  cases fn with
  |func f=>
   obtain⟨first⟩:=first
   cases first with
   |nil=>
    refine .calm rfl hs ?_;simp only[az];split<;>exact⟨rfl,rfl⟩
   |cons _ _=>exact hs.elim
  |_=>exact hs.elim
 |slice t x lo hi mx=>
  cases mx with
  |none=>exact .calm rfl hs (j5 (Kq λ s hs=>by rw[fj]at hs;exact R.1 s (by simpa[ck]using hs)))
  |some m=>exact .calm rfl hs (j5 (Jm λ s hs=>by rw[fj]at hs;exact R.1 s (by simpa[ck]using hs)))
 |fieldAddr t x f=>
  refine .calm rfl hs ?_;simp only[az];split
  .rename_i o hd off h1 h2;rw[R.get (by simpa[ck]using vn h2)];split<;>exact⟨rfl,rfl⟩
  all_goals exact⟨rfl,rfl⟩
 |indexAddr t x i=>exact .calm rfl hs (j5 (MC λ s hs=>by rw[fj]at hs;exact R.1 s (by simpa[ck]using hs)))
 |index t x i=>
  refine .calm rfl hs ?_;simp only[az];split
  .exact⟨rfl,rfl⟩
  .split<;>exact⟨rfl,rfl⟩
  .exact⟨rfl,rfl⟩
 |extract x i=>
  refine .calm rfl hs ?_;simp only[az];split
  .split<;>exact⟨rfl,rfl⟩
  .exact⟨rfl,rfl⟩
 |call k=>
  obtain⟨callee,as,ts⟩:=k;cases callee with
  |builtin b=>
   cases b with
   |append=>
    simp only[ck]at R⊢;simp only[az]at hs⊢;split at hs
    .rename_i s x h0;simp only[h0,eh,jP,eU]at R⊢;obtain⟨g1,g2,g3⟩:=MF (dst:=dst) (ts:=ts) (x:=ev v s) (y:=ev v x) (c:=c) (t:=dM v s++dl dst)
      (Rl.start λ q hq=>R.1 q (by simp only[eE]at hq⊢;rcases hq with hq|hq<;>simp[hq])) (λ s hs=>by simp[hs]) (λ s hs=>by rw[fj]at hs;simp[hs])
      (λ q hq=>by rw[fj]at hq;exact R.1 q (by simp[hq])) (gM hs)
     exact .lD ⟨hs.1,g1⟩ g2 g3
    .exact hs.elim
   |len=>
    refine .calm rfl hs ?_;simp only[az];split
    .rename_i x h0;exact j5 (MG λ s hs=>by rw[fj]at hs;exact R.1 s (by simpa[ck,h0,eh]using hs))
    .exact⟨rfl,rfl⟩
   |cap=>
    simp only[ck]at R⊢;simp only[az]at hs⊢;split at hs
    .rename_i x h0;simp only[h0,eh,eU]at R⊢;obtain⟨g1,g2⟩:=j5 (p:=bf c v x) (MJ (T:=T) (r:=r) (r':=r') (e:=ts[0]?) (y:=ev v x) λ s hs=>by rw[fj]at hs;exact R.1 s (by simp[hs]));have hs':=hs;rw[←g1]at hs';exact⟨hs',g2,λ s hs=>by simp at hs,λ s _=>⟨by rw[BX,Cb (gM hs')],by rw[BX,Cb (gM hs)]⟩⟩
    .exact hs.elim
   |copy=>
    simp only[ck]at R⊢;simp only[az]at hs⊢;split at hs
    .rename_i s x h0;simp only[h0,eh,jP,eU]at R⊢;obtain⟨g1,g2,g3⟩:=KR (T:=T) (ts:=ts) (x:=ev v s) (y:=ev v x) (t:=dM v s)
      (Rl.start λ q hq=>R.1 q (by simp[hq])) (λ s hs=>by rw[fj]at hs;exact hs)
      (λ q hq=>by rw[fj]at hq;exact R.1 q (by simp[hq])) (gM hs)
     exact .lD ⟨hs.1,g1⟩ g2 g3
    .exact hs.elim
   |clear=>
    simp only[ck]at R⊢;simp only[az]at hs⊢;split at hs
    .rename_i s h0;simp only[h0,eh,jP,eU]at R⊢;obtain⟨g1,g2,g3⟩:=KB (T:=T) (ts:=ts) (x:=ev v s) (t:=dM v s)
      (Rl.start λ q hq=>R.1 q (by simp[hq])) (λ s hs=>by rw[fj]at hs;exact hs) (gM hs)
     exact .lD ⟨hs.1,g1⟩ g2 g3
    .exact hs.elim
   |max=>exact .calm rfl hs (j5 BW)
   |min=>exact .calm rfl hs (j5 BW)
   |_=>exact hs.elim
  |_=>exact hs.elim
 |_=>exact hs.elim
end
section
variable {v v':List AV} {r r' r0 r0':Rs} {T:Nat->Option TI} {c:Bool}
theorem yU {s:Nat} (h:ah s r'=ah s r):∀{xs:List C},ig r' s xs=ig r s xs
 |[]=>rfl
 |x::xs=>by
  have e:gV r' s x=gV r s x:=by
   unfold gV;split
   .rfl
   .rfl
   .split
    .rename_i hd lo n e;rw[oB (r:=r) (r':=r') (x:= .own hd lo n) (by simp[bm,e,h])]
    .rfl
   .rfl
  simp only[ig];rw[e,yU h]
mutual
theorem Ab:∀{x:C},(∀s∈bm x,ah s r'=ah s r)->bd r' x=bd r x
 | .d _,_=>by simp only[bd]
 | .aJ _ _,_=>by simp only[bd]
 | .dP _,_=>by simp only[bd]
 | .ab,_=>by simp only[bd]
 | .dead,_=>by simp only[bd]
 | .dZ cs,h=>by simp only[bd];rw[oq (by simpa[bm]using h)]
 | .cZ hd lo n k,h=>by simp only[bd];rw[oB h]
 | .lk _ _ _,_=>by simp only[bd]
 | .own hd lo n,h=>by simp only[bd];rw[oB h]
 | .ptr hd off,h=>by
  simp only[bd];rw[ib (h hd.s (by simp[bm]))];cases aK r hd with
  |none=>rfl
  |some res=>simp only;rw[yU (h hd.s (by simp[bm]))]
 | .eP f caps,h=>by simp only[bd];rw[oq (by simpa[bm]using h)]
theorem oq:∀{xs:List C},(∀s∈bG xs,ah s r'=ah s r)->bd.lendCs r' xs=bd.lendCs r xs
 |[],_=>by simp only[bd.lendCs]
 |x::xs,h=>by simp only[bd.lendCs];rw[Ab λ s hs=>h s (by simp[bG,hs]),oq λ s hs=>h s (by simp[bG,hs])]
end
theorem AL {x:AV} (h:∀s∈bj x,ah s r'=ah s r):kj r' x=kj r x:=by
 unfold kj;split
 .rw[Ab (by simpa[bj]using h)]
 .rw[oq (by simpa[bj]using h)]
 .rfl
theorem pR:∀{xs:List AV},(∀s∈eR xs,ah s r'=ah s r)->eT r' xs=eT r xs
 |[],_=>rfl
 |x::xs,h=>by simp only[eT];rw[AL λ s hs=>h s (by simp[eR,hs]),pR λ s hs=>h s (by simp[eR,hs])]
theorem pz:∀{xs:List C},eR (xs.map AV.one)=bG xs
 |[]=>rfl
 |x::xs=>by simp[eR,bG,bj,pz (xs:=xs)]
theorem BJ {f:Operand} {args:Array Operand} (h1:∀s∈dM v f,ah s r'=ah s r) (h2:∀s∈eh v args.toList,ah s r'=ah s r):
  cC v r' f args=cC v r f args:=by
 unfold cC;rw[pR (xs:=cO v args.toList) (by rw[rS];exact h2)];split
 .rename_i n caps as g1 g2;rw[pR (xs:=caps.map AV.one)];rw[pz];intro s hs;refine h1 s ?_;rw[←fj];unfold jb at g1;split at g1
  .cases g1;simp[bG]at hs
  .rename_i n' caps' h3;cases g1;rw[h3];simpa[bj,bm]using hs
  .cases g1
 .rfl
theorem yC {B:Bool} {dst:Option Nat} {rfs:List RF} (h:∀s∈dl dst,ah s r'=ah s r):
  (gb B r' dst rfs).1=(gb B r dst rfs).1/\(∀s∈dl dst,ah s (gb B r' dst rfs).2=ah s (gb B r dst rfs).2)/\
   ∀s,s ∉ dl dst->ah s (gb B r' dst rfs).2=ah s r'/\ah s (gb B r dst rfs).2=ah s r:=by
 unfold gb;simp only;split
 .exact⟨rfl,h,λ _ _=>⟨rfl,rfl⟩⟩
 .cases dst with
  |none=>exact⟨rfl,h,λ _ _=>⟨rfl,rfl⟩⟩
  |some d=>
   have hd:=j9 (h d (by simp[dl]));simp only;rw[hd];have R:=Rl.set (y:={next:=aq r d+1,l:=none::dy B (aq r d) (rfs.flatMap RF.cells)}) (Rl.start h) (s:=d) (by simp[dl]);exact⟨rfl,R.1,λ s hs=>⟨(R.2 s hs).2,(R.2 s hs).1⟩⟩
theorem zP {dst:Option Nat} {rfs:List RF} (h:∀s∈dl dst,ah s r'=ah s r):
  (dx r' dst rfs).1=(dx r dst rfs).1/\(∀s∈dl dst,ah s (dx r' dst rfs).2=ah s (dx r dst rfs).2)/\
   ∀s,s ∉ dl dst->ah s (dx r' dst rfs).2=ah s r'/\ah s (dx r dst rfs).2=ah s r:=yC h
variable {cx:Cx} {a:Act} {w:World} {β:Nat->Nat->Pl} {all:List Oper}
theorem pf (h:aH cx ⟨v,r⟩ a w β) {j:Nat} {want c' b:Bool} (hg:dN all v j=some (c',b)):(yielded all.toArray a.tmps j==some want)=(c'&&(b==want)):=by
 unfold dN at hg;split at hg
 .rename_i o ho;split at hg
  .rename_i d hd;have hy:yielded all.toArray a.tmps j=(match a.tmps[d]? with|some (.bool b)=>some b|_=>none):=by unfold yielded;simp only[mi,ho,Option.bind_some,hd];rfl
   rw[fC]at hg;cases hv:v[d]? with
   |none=>rw[hv]at hg;simp[lM]at hg
   |some y=>
    obtain⟨u,h1,h2⟩:=h.sl d y hv;rw[hv]at hg;simp only[Option.getD_some]at hg;rw[hy,h1];have hu:(c'=true->u= .bool b)/\(c'=false->u=undef):=by
     unfold lM at hg;split at hg
     .cases hg;exact⟨λ _=>(bI.1 h2).1,λ h=>by cases h⟩
     .cases hg;simp only[aA]at h2;exact⟨λ h=>(eH.1 (h2.1 h)).1,h2.2⟩
     .cases hg;simp only[aA]at h2;exact⟨λ h=>by(cases h),λ _=>h2.2 trivial⟩
     .cases hg
    cases c' with
    |true=>rw[hu.1 rfl];simp
    |false=>rw[hu.2 rfl];simp[undef]
  .cases hg
 .cases hg
theorem gO {dst:Option Nat} {op:Op}:∀s∈(ck v dst op).w,s∈(ck v dst op).t:=by
 intro s hs;have hh:∀{l:List Operand},s∈jP v l->s∈eh v l:=λ {l} h=>by
  cases l with
  |nil=>exact h
  |cons x xs=>simp only[jP,eh]at h⊢;simp[h]
 unfold ck at hs⊢;split at hs
 case h_15=>
  simp only[eE]at hs⊢;exact hs.imp hh id
 all_goals simp_all[FP.both]
theorem Nw {dst:Option Nat} {x:AV}:(⟨v,r⟩:G).put dst x=⟨bz v dst x,r⟩:=by cases dst<;>rfl
def wQ (cx:Cx) (v':List AV) (r':Rs) (dst:Option Nat) (x:AV) (W:List Nat) (r1:Rs) (a':Act) (w':World):Prop:=
 ∃r1',cP cx ⟨bz v' dst x,r1'⟩ a' w'/\(∀s∈W,ah s r1'=ah s r1)/\∀s,s ∉ W->ah s r1'=ah s r'
theorem CK {o:Oper} {Q:Exit->Act->World->Prop} {K:Act->World->Prop} {x:AV} {r1:Rs} (hd:cN cx v' a w (execOp a.eval o) x r1)
  (hK:∀u w' β',aH cx ⟨v',r1⟩ a w' β'->aA cx w' r1 β' x u->K (a.put o.dst u) w'):o.wp cx.P a w K Q:=by
 obtain⟨n,w',β',u,h1,h2,h3,h4⟩:=hd;unfold Oper.wp;rw[h1];rcases h2 with rfl|⟨rfl,rfl⟩
 .rw[Oper.upon_value];exact hK _ _ _ h3 h4
 .rw[Oper.upon_skip];exact hK _ _ _ h3 h4
theorem j4 {dst:Option Nat} {x:AV} {u:Value} {W:List Nat} {r1 r2:Rs} (h:aH cx ⟨v',r2⟩ a w β) (hx:aA cx w r2 β x u) (h1:∀s∈W,ah s r2=ah s r1) (h2:∀s,s ∉ W->ah s r2=ah s r'):
  wQ cx v' r' dst x W r1 (a.put dst u) w:=
 ⟨r2,⟨β,by rw[←Nw];exact h.put dst hx⟩,h1,h2⟩
theorem xO (hT:bF cx.P T) {o:Oper} (hs:(az T true v r o.dst o.op).sc) (hv:∀x∈o.op.operands.toList,bg v' x=bg v x)
  (hr:∀s∈(ck v o.dst o.op).t,ah s r'=ah s r) (h:aH cx ⟨v',r'⟩ a w β) {Q:Exit->Act->World->Prop}:
  o.wp cx.P a w (wQ cx v' r' o.dst (az T true v r o.dst o.op).x (ck v o.dst o.op).w (az T true v r o.dst o.op).r) Q:=by
 have hc:=s8 (r':=r') hr hs;have hd:=B2 (v:=v') (r:=r') (c:=true) hT h rfl (o:=o) (by rw[tD hv];exact hc.sc);rw[tD hv,hc.x]at hd;exact CK hd λ u w' β' g1 g2=>j4 g1 g2 hc.on λ s hs=>(hc.off s hs).1
end
section
variable {v v':List AV} {r r':Rs} {T:Nat->Option TI} {cx:Cx} {a:Act} {w w':World} {β:Nat->Nat->Pl} {mv:Mv}
theorem lB {hd:Hd} (h:ah hd.s r'=ah hd.s r):aK r' hd=aK r hd:=by unfold aK aB;rw[h]
theorem NV {s:Nat} (h:ah s r'=ah s r) {x:C} (hx:∀t∈bm x,t=s):jq r' x=jq r x:=by
 cases x with
 |own hd lo n=>
  have e:ah hd.s r'=ah hd.s r:=by rw[hx hd.s (by simp[bm])];exact h
  simp only[jq];rw[lB e]
 |_=>rfl
theorem B7 {s:Nat} (h:ah s r'=ah s r):∀{l:List C},(∀t∈bG l,t=s)->cM r' l=cM r l
 |[],_=>rfl
 |x::l,hx=>by simp only[cM];rw[NV h (λ t ht=>hx t (by simp[bG,ht])),B7 h (λ t ht=>hx t (by simp[bG,ht]))]
theorem BQ {s:Nat} (h:ah s r'=ah s r):∀{l:List C},(∀t∈bG l,t=s)->eL r' l=eL r l
 |[],_=>rfl
 |x::l,hx=>by
  simp only[eL];rw[BQ h (λ t ht=>hx t (by simp[bG,ht]))];congr 1;cases x with
  |own hd lo n=>
   have e:ah hd.s r'=ah hd.s r:=by rw[hx hd.s (by simp[bG,bm])];exact h
   simp only[lg];rw[lB e]
  |_=>rfl
theorem xz:∀{l m:List C},bG (l++m)=bG l++bG m
 |[],_=>rfl
 |x::l,m=>by simp[bG,xz (l:=l)]
theorem LJ {x:AV} (h:∀s∈bj x,ah s r'=ah s r):eO r' x=eO r x:=by
 cases x with
 |agg l=>
  simp only[eO];cases hsp:jt l with
  |none=>rfl
  |some q=>
   obtain⟨a0,⟨hd,lo,n⟩,b0⟩:=q;have hl:=um hsp;simp only;have hs:∀s,s∈bG a0∨s=hd.s∨s∈bG b0->ah s r'=ah s r:=λ s hs=>by refine h s ?_;rw[hl];simp only[bj,xz,bG,bm,eE,cL,kY,kS];exact hs
   rw[oq λ s hh=>hs s (.inl hh),oq λ s hh=>hs s (.inr (.inr hh)),lB (hs hd.s (.inr (.inl rfl)))]
 |one c=>
  cases c with
  |ptr hd off=>
   have h1:=h hd.s (by simp[bj,bm]);simp only[eO];rw[lB h1];cases aK r hd with
   |none=>rfl
   |some res=>
    simp only;by_cases hc:(bG res.cells).all (·==hd.s)=true
    .have hc':∀t∈bG res.cells,t=hd.s:=λ t ht=>by have:=iu.1 hc t ht;simpa using this
     rw[B7 h1 hc',BQ h1 hc']
    .have hc':(bG res.cells).all (·==hd.s)=false:=by simpa using hc
     rw[hc'];simp only[ko,np,and_false,eB];cases cM r' res.cells<;>cases cM r res.cells<;>rfl
  |own hd lo n=>
   have h1:=h hd.s (by simp[bj,bm]);simp only[eO];rw[lB h1]
  |_=>rfl
 |_=>rfl
theorem yN:∀{i:Nat} {xs:List AV},(∀s∈eR xs,ah s r'=ah s r)->gu r' i xs=gu r i xs
 |_,[],_=>by simp[gu]
 |0,x::xs,h=>by simp only[gu];rw[LJ λ s hs=>h s (by simp[eR,hs]),pR λ s hs=>h s (by simp[eR,hs])]
 |i+1,x::xs,h=>by simp only[gu];rw[AL λ s hs=>h s (by simp[eR,hs]),yN λ s hs=>h s (by simp[eR,hs])]
theorem MR {i:Nat} {f:Operand} {args:Array Operand} (h1:bg v' f=bg v f) (h2:∀x∈args.toList,bg v' x=bg v x):dL i v' r f args=dL i v r f args:=by unfold dL;rw[ja h1,ln h2]
theorem Ml {i:Nat} {f:Operand} {args:Array Operand} (h1:∀s∈dM v f,ah s r'=ah s r) (h2:∀s∈eh v args.toList,ah s r'=ah s r):
  dL i v r' f args=dL i v r f args:=by
 unfold dL;rw[yN (xs:=cO v args.toList) (by rw[rS];exact h2)];split
 .rename_i n caps as mv g1 g2;rw[pR (xs:=caps.map AV.one)];rw[pz];intro s hs;refine h1 s ?_;rw[←fj];unfold jb at g1;split at g1
  .cases g1;simp[bG]at hs
  .rename_i n' caps' h3;cases g1;rw[h3];simpa[bj,bm]using hs
  .cases g1
 .rfl
theorem NP {dst:Option Nat} {aJ:List Nat} {l':List RO} (h:ah mv.s r'=ah mv.s r):bA r' dst mv aJ l'=bA r dst mv aJ l':=by
 cases mv with
 |o hd=>simp only[bA];rw[lB (hd:=hd) (r:=r) (r':=r') h]
 |r hd n=>simp only[bA];rw[lB (hd:=hd) (r:=r) (r':=r') h]
theorem B8 (h:ah mv.s r'=ah mv.s r):jL r' mv=jL r mv:=by unfold jL;rw[h]
theorem Mm {l':List RO} (h:ah mv.s r'=ah mv.s r):ah mv.s (iB r' mv l')=ah mv.s (iB r mv l')/\
  ∀s,s≠mv.s->ah s (iB r' mv l')=ah s r'/\ah s (iB r mv l')=ah s r:=by
 cases mv with
 |o hd=>
  have h':ah hd.s r'=ah hd.s r:=h;simp only[iB];rw[lB (hd:=hd) h',B8 (mv:= .o hd) h];have hn:aq r' hd.s=aq r hd.s:=by unfold aq;rw[h']
  rw[hn];cases aK r hd with
  |none=>exact⟨h',λ s _=>⟨rfl,rfl⟩⟩
  |some res=>
   simp only[Mv.s];refine⟨by rw[cp,cp,ay rfl,ay rfl],λ s hs=>⟨by rw[cp,ar (dU hs)],by rw[cp,ar (dU hs)]⟩⟩
 |r hd n=>
  have h':ah hd.s r'=ah hd.s r:=h;simp only[iB];rw[lB (hd:=hd) h',h'];cases aK r hd with
  |none=>exact⟨h',λ s _=>⟨rfl,rfl⟩⟩
  |some res=>
   cases ah hd.s r with
   |none=>exact⟨h',λ s _=>⟨rfl,rfl⟩⟩
   |some rs=>
    simp only[Mv.s];split
    .refine⟨by rw[cp,cp,ay rfl,ay rfl],λ s hs=>⟨by rw[cp,ar (dU hs)],by rw[cp,ar (dU hs)]⟩⟩
    .refine⟨by rw[cp,cp,ay rfl,ay rfl],λ s hs=>⟨by rw[cp,ar (dU hs)],by rw[cp,ar (dU hs)]⟩⟩
theorem BP {dst:Option Nat} {rfs:List RF} {l':List RO} (h:∀s∈mv.s::dl dst,ah s r'=ah s r):
  (bindM r' dst mv rfs l').1=(bindM r dst mv rfs l').1/\(∀s∈mv.s::dl dst,ah s (bindM r' dst mv rfs l').2=ah s (bindM r dst mv rfs l').2)/\
   ∀s,s ∉ mv.s::dl dst->ah s (bindM r' dst mv rfs l').2=ah s r'/\ah s (bindM r dst mv rfs l').2=ah s r:=by
 have h0:ah mv.s r'=ah mv.s r:=h mv.s (by simp);unfold bindM;rw[B8 h0];obtain⟨b1,b2⟩:=Mm (l':=l') h0;have hall:∀s∈mv.s::dl dst,ah s (iB r' mv l')=ah s (iB r mv l'):=λ s hs=>by
  by_cases e:s=mv.s
  .subst e;exact b1
  .rw[(b2 s e).1,(b2 s e).2];exact h s hs
 obtain⟨g1,g2,g3⟩:=yC (B:=jL r mv) (dst:=dst) (rfs:=rfs) (λ s hs=>hall s (List.mem_cons_of_mem _ hs));refine⟨g1,λ s hs=> ?_,λ s hs=> ?_⟩
 .by_cases hd:s∈dl dst
  .exact g2 s hd
  .rw[(g3 s hd).1,(g3 s hd).2];exact hall s hs
 .simp only[cL,jh]at hs;rw[(g3 s hs.2).1,(g3 s hs.2).2,(b2 s hs.1).1,(b2 s hs.1).2];exact⟨rfl,rfl⟩
theorem Lz (h:aH cx ⟨v,r⟩ a w β) {f:Operand} {args:Array Operand} {ts:Array TypeId} {n:FuncId} {as:List Arg} {post:List RF->List (List RO)->Prop} {o:Oper} {i0:Nat} {dst:Option Nat} {aJ:List Nat} {l':List RO}
  (ho:o.op= .call ⟨.value f,args,ts⟩) (s1:bf true v f) (s2:cT true v args.toList) (hcall:dL i0 v r f args=some (n,as,mv,aJ)) (hsc:bA r dst mv aJ l') (hok:ae cx.P n as post):
  ∃(us:Array Value) (hold:cr) (u0:Value),(execOp a.eval o).run cx.P w= .ok (.enter n us) w/\
   (Calls cx.P n us w λ e w'=>∃rfs objs u,post rfs objs/\e= .returned u/\dc w (Av cx r β) (MB r β mv) w' [hold] rfs objs u)/\qW r β mv hold u0:=by
 have e1:=cd h (c:=true) rfl s1;have e2:=j8 h (c:=true) rfl s2;unfold dL at hcall;split at hcall
 .rename_i n' caps as' mv' g1 g2;split at hcall
  .rename_i cs g3;cases hcall;have hcap:∃cv:Array Value,a.eval f= .func (.func n) #[] cv/\aC cx w r β caps cv.toList:=by
    unfold jb at g1;split at g1
    .rename_i n' h1;cases g1;rw[h1]at e1;exact⟨#[],(bI.1 e1).1,by simp[aC]⟩
    .rename_i n' caps' h1;cases g1;rw[h1]at e1;simp only[aA,aw]at e1;obtain⟨us,k1,k2⟩:=e1;exact⟨us,k1,k2⟩
    .cases g1
   obtain⟨cv,k1,k2⟩:=hcap;have hlent:mv.s ∉ ic i0 (cO v args.toList)++bG caps:=by
    have:(dl dst++(ic i0 (cO v args.toList)++bG caps)).contains mv.s=false:=by
     cases mv with
     |o hd=>simp only[bA]at hsc;split at hsc;exact hsc.1;exact hsc.elim
     |r hd n=>simp only[bA]at hsc;split at hsc;exact hsc.1;exact hsc.elim
    simp only[qG,eE,iP,jh]at this⊢;exact this.2
   simp only[eE,jh]at hlent;obtain⟨x,y,u0,hold,q0,q1,q2,q3,q4,q5⟩:=uN h g2 hsc hlent.1 e2
   have hargs:=q1 cs cv.toList (λ k=>by have:=rG (mv:=mv) (γ:=γM r β mv) (k:=k) (bs:=[]) h g3 (by rw[pz];exact hlent.2) (oi k2) (zs:=[]) (vs:=[]) (by simp[aW]);simpa using this)
   have hobj:bn (as'++cs)=bn [y]:=by rw[ky,kA g3,q2,eU]
   refine⟨(args.toList.map a.eval++cv.toList).toArray,hold,u0, ?_, ?_,q5⟩
   .have:=hok.1 (args.toList.map a.eval++cv.toList).toArray w;have hm:(args.toList.map a.eval++cv.toList).toArray=args.map a.eval++cv:=by apply gk;simp
    rw[hm]at this⊢;simp[execOp,ho,resolve,k1,Deferred.ofValue,invoke,this]
   .refine hok.2 w (Av cx r β) (MB r β mv) (γM r β mv) [hold] _ (λ b hb=> ?_) (λ b hb=> .inr hb.ob) hargs (by rw[hobj];exact q3) ?_ (by rw[hobj];exact q4)
    .rcases hb with hb|⟨s,j,res,o,hl,_,hbs⟩
     .exact dI (h.a0 b hb) h.n0
     .exact(h.rs _ _ _ hl).1.lt hbs
    .cases hold<;>simp[b9]
  .cases hcall
 .cases hcall
end
section
variable {cx:Cx} {v:List AV} {r r':Rs} {a:Act} {w w':World} {β β':Nat->Nat->Pl} {T:Nat->Option TI} {c:Bool} {mv:Mv}
theorem LV (h:aH cx ⟨v,r⟩ a w β) {f:Operand} {args:Array Operand} {ts:Array TypeId} {n:FuncId} {as:List Arg} {x:Value} {o:Oper} (ho:o.op= .call ⟨.value f,args,ts⟩)
  (hc:c=true) (s1:bf c v f) (s2:cT c v args.toList) (hcall:cC v r f args=some (n,as)) (hok:ni cx.P n as x):
  ∃us:Array Value,(execOp a.eval o).run cx.P w= .ok (.enter n us) w/\
   Calls cx.P n us w λ e w'=>e= .panicked [{v:=x,recovered:=false}]/\mE w fI w':=by
 have e1:=cd h hc s1;have e2:=j8 h hc s2;unfold cC at hcall;split at hcall
 .rename_i n' caps as' g1 g2;split at hcall
  .rename_i cs g3;cases hcall
   -- whom it calls
   have hcap:∃cv:Array Value,a.eval f= .func (.func n) #[] cv/\aC cx w r β caps cv.toList:=by
    unfold jb at g1;split at g1
    .rename_i n' h1;cases g1;rw[h1]at e1;exact⟨#[],(bI.1 e1).1,by simp[aC]⟩
    .rename_i n' caps' h1;cases g1;rw[h1]at e1;simp only[aA,aw]at e1;obtain⟨us,k1,k2⟩:=e1;exact⟨us,k1,k2⟩
    .cases g1
   obtain⟨cv,k1,k2⟩:=hcap;have hargs:=mV h g2 e2 (mV h g3 (oi k2) (zs:=[]) (vs:=[]) (by simp[aW]));simp only[eU]at hargs;have hobj:bn (as'++cs)=[]:=by rw[ky,kA g2,kA g3];rfl
   refine⟨(args.toList.map a.eval++cv.toList).toArray, ?_, ?_⟩
   .have:=hok.1 (args.toList.map a.eval++cv.toList).toArray w;have hm:(args.toList.map a.eval++cv.toList).toArray=args.map a.eval++cv:=by apply gk;simp
    rw[hm]at this⊢;simp[execOp,ho,resolve,k1,Deferred.ofValue,invoke,this]
   .refine hok.2 w (Av cx r β) fI (λ _=>⟨none,0⟩) [] _ (λ b hb=> ?_) (λ b hb=>hb.elim) hargs (by rw[hobj];intro b hb;exact hb.elim) qF (by rw[hobj];intro i j b o o' sz n ds bo sz' n' ds' bo' h1;simp at h1);rcases hb with hb|⟨s,j,res,o,hl,_,hbs⟩
    .exact dI (h.a0 b hb) h.n0
    .exact(h.rs _ _ _ hl).1.lt hbs
  .cases hcall
 .cases hcall
theorem Ke (h:aH cx ⟨v,r⟩ a w β) {f:Operand} {args:Array Operand} {ts:Array TypeId} {n:FuncId} {as:List Arg} {x:Value} {o:Oper} {i0:Nat} {dst:Option Nat} {aJ:List Nat} {l':List RO}
  (ho:o.op= .call ⟨.value f,args,ts⟩) (s1:bf true v f) (s2:cT true v args.toList) (hcall:dL i0 v r f args=some (n,as,mv,aJ)) (hsc:bA r dst mv aJ l') (hok:ni cx.P n as x):
  ∃(us:Array Value) (hold:cr) (u0:Value),(execOp a.eval o).run cx.P w= .ok (.enter n us) w/\
   (Calls cx.P n us w λ e w'=>e= .panicked [{v:=x,recovered:=false}]/\mE w (MB r β mv) w')/\qW r β mv hold u0:=by
 have e1:=cd h (c:=true) rfl s1;have e2:=j8 h (c:=true) rfl s2;unfold dL at hcall;split at hcall
 .rename_i n' caps as' mv' g1 g2;split at hcall
  .rename_i cs g3;cases hcall;have hcap:∃cv:Array Value,a.eval f= .func (.func n) #[] cv/\aC cx w r β caps cv.toList:=by
    unfold jb at g1;split at g1
    .rename_i n' h1;cases g1;rw[h1]at e1;exact⟨#[],(bI.1 e1).1,by simp[aC]⟩
    .rename_i n' caps' h1;cases g1;rw[h1]at e1;simp only[aA,aw]at e1;obtain⟨us,k1,k2⟩:=e1;exact⟨us,k1,k2⟩
    .cases g1
   obtain⟨cv,k1,k2⟩:=hcap;have hlent:mv.s ∉ ic i0 (cO v args.toList)++bG caps:=by
    have:(dl dst++(ic i0 (cO v args.toList)++bG caps)).contains mv.s=false:=by
     cases mv with
     |o hd=>simp only[bA]at hsc;split at hsc;exact hsc.1;exact hsc.elim
     |r hd n=>simp only[bA]at hsc;split at hsc;exact hsc.1;exact hsc.elim
    simp only[qG,eE,iP,jh]at this⊢;exact this.2
   simp only[eE,jh]at hlent;obtain⟨x0,y,u0,hold,q0,q1,q2,q3,q4,q5⟩:=uN h g2 hsc hlent.1 e2
   have hargs:=q1 cs cv.toList (λ k=>by have:=rG (mv:=mv) (γ:=γM r β mv) (k:=k) (bs:=[]) h g3 (by rw[pz];exact hlent.2) (oi k2) (zs:=[]) (vs:=[]) (by simp[aW]);simpa using this)
   have hobj:bn (as'++cs)=bn [y]:=by rw[ky,kA g3,q2,eU]
   refine⟨(args.toList.map a.eval++cv.toList).toArray,hold,u0, ?_, ?_,q5⟩
   .have:=hok.1 (args.toList.map a.eval++cv.toList).toArray w;have hm:(args.toList.map a.eval++cv.toList).toArray=args.map a.eval++cv:=by apply gk;simp
    rw[hm]at this⊢;simp[execOp,ho,resolve,k1,Deferred.ofValue,invoke,this]
   .refine hok.2 w (Av cx r β) (MB r β mv) (γM r β mv) [hold] _ (λ b hb=> ?_) (λ b hb=> .inr hb.ob) hargs (by rw[hobj];exact q3) ?_ (by rw[hobj];exact q4)
    .rcases hb with hb|⟨s,j,res,o,hl,_,hbs⟩
     .exact dI (h.a0 b hb) h.n0
     .exact(h.rs _ _ _ hl).1.lt hbs
    .cases hold<;>simp[b9]
  .cases hcall
 .cases hcall
theorem yW (h:aH cx ⟨v,r⟩ a w β) (p:mE w fI w'):aH cx ⟨v,r⟩ a w' β:=by
 have x:Ext cx w r β w' r β:=⟨λ _=>Nat.le_refl _,λ hd res' _ hg=>⟨res',hg,rfl,rfl,rfl,Nat.le_refl _⟩,⟨λ b hb _=>p.ba b hb (λ h=>h),λ b _ h=>h⟩,
  λ b hb _=>p.ba b (dI hb h.n0) (λ h=>h),p.os,p.out⟩
 refine h.mk' x (λ s j res hl=> ?_) h.inj h.fr p.size;obtain⟨g1,g2⟩:=h.rs s j res hl;exact⟨g1.ext x (λ b o hb=>p.ba b (g1.lt hb) (λ h=>h)) (λ b o hb=>g1.lt hb),g2⟩
theorem yc {s:Nat}:ah s (lG r mv)=if s=mv.s then(ah s r).map (λ rs=>{rs with l:=[]})else ah s r:=by
 unfold lG;by_cases hs:s=mv.s
 .subst hs;rw[ay rfl];cases hf:ah mv.s r with
  |none=>simp[hf]
  |some rs=>simp only[cp,ay,fE]
 .rw[ar hs];cases hf:ah mv.s r with
  |none=>rfl
  |some rs=>simp only;rw[cp,ar (dU hs)]
theorem zj {s:Nat}:aq (lG r mv) s=aq r s:=by
 unfold aq;rw[yc];by_cases hs:s=mv.s
 .rw[ay hs];cases ah s r<;>rfl
 .rw[ar hs]
theorem n9 {s j:Nat} {res:aY} (hl:aB (lG r mv) s j=some res):s≠mv.s/\aB r s j=some res:=by
 unfold aB at hl⊢;rw[yc]at hl;by_cases hs:s=mv.s
 .rw[ay hs]at hl;cases hf:ah s r with
  |none=>rw[hf]at hl;simp at hl
  |some rs=>rw[hf]at hl;simp at hl
 .rw[ar hs]at hl;exact⟨hs,hl⟩
theorem Jo (h:aH cx ⟨v,r⟩ a w β) (p:mE w (MB r β mv) w'):aH cx ⟨v,lG r mv⟩ a w' β:=by
 have hav:∀b,Av cx (lG r mv) β b->Av cx r β b:=λ b hb=>by
  rcases hb with hb|⟨s,j,res,o,hl,hf,hbs⟩
  .exact .inl hb
  .exact .inr ⟨s,j,res,o,(n9 hl).2,hf,hbs⟩
 have hsame:∀s j res b o,s≠mv.s->aB r s j=some res->(β s j).base=some (b,o)->w'.heap[b]? =w.heap[b]? :=λ s j res b o hs hl hb=>by
  refine p.ba b ((h.rs _ _ _ hl).1.lt hb) λ hm=> ?_
  obtain⟨k,res',o',_,h2,h3,h4⟩:=hm;cases hf:res.fz with
  |false=>exact hs (h.inj _ _ _ _ _ _ _ _ _ hl hf h2 h3 hb h4).1
  |true=>
   have hok:=(h.rs _ _ _ hl).1;unfold bB at hok;rw[ar (by simp[h.vz _ _ _ hl hf])]at hok;obtain⟨_,_,_,g⟩:=hok;exact g hf b o hb (.inr ⟨_,k,res',o',h2,h3,h4⟩)
 have x:Ext cx w r β w' (lG r mv) β:=by
  refine⟨λ s=>by rw[zj];exact Nat.le_refl _,λ hd res' _ hg=> ?_,⟨λ b hb hn=>p.ba b hb (λ hm=>hn (.inr hm.ob)),λ b _ hb=>hav b hb⟩,λ b hb hn=> ?_,p.os,p.out⟩
  .obtain⟨hl,he⟩:=bq hg;exact⟨res',ed (n9 hl).2 he,rfl,rfl,rfl,Nat.le_refl _⟩
  .refine p.ba b (dI hb h.n0) λ hm=> ?_
   rcases hm.fr h with h1|h1
   .omega
   .exact hn h1
 refine h.mk' x (λ s j res hl=> ?_) (λ s j res s' j' res' b o o' hl hf hl' hf' hb hb'=>h.inj _ _ _ _ _ _ _ _ _ (n9 hl).2 hf (n9 hl').2 hf' hb hb')
  (λ s j res b o hl hf hb=>h.fr _ _ _ _ _ (n9 hl).2 hf hb) p.size
 obtain⟨hs,hl'⟩:=n9 hl;obtain⟨g1,g2⟩:=h.rs s j res hl';exact⟨g1.ext x (λ b o hb=>hsame s j res b o hs hl' hb) (λ b o hb=>g1.lt hb),by rw[zj];exact g2⟩
end
section
variable {v v':List AV} {r r':Rs} {T:Nat->Option TI} {c:Bool} {cx:Cx} {a:Act} {w:World} {β:Nat->Nat->Pl} {all:List Oper}
theorem zd {o:Oper} {f:Operand} {args:Array Operand} {ts:Array TypeId} {rfs:List RF} {n:FuncId} {as:List Arg} (ho:o.op= .call ⟨.value f,args,ts⟩) (hc:c=true)
  (s1:bf c v f) (s2:cT c v args.toList) (hcall:cC v r f args=some (n,as)) (hok:ae cx.P n as (λ r o=>r=rfs/\o=[]))
  (hv:∀x∈o.op.operands.toList,bg v' x=bg v x) (hr:∀s∈(ck v o.dst o.op).t,ah s r'=ah s r) (h:aH cx ⟨v',r'⟩ a w β)
  {Q:Exit->Act->World->Prop} {K:Act->World->Prop} (hK:∀u w',dc w (Av cx r' β) fI w' [] rfs [] u->K (a.put o.dst u) w'):o.wp cx.P a w K Q:=by
 rw[ho]at hv hr;simp only[ck]at hr;have h1:bg v' f=bg v f:=hv f (by simp[Op.operands,Call.operands]);have h2:∀x∈args.toList,bg v' x=bg v x:=λ x hx=>hv x (by simp[Op.operands,Call.operands,hx])
 have h3:cC v' r' f args=some (n,as):=by rw[Bb h1 h2,BJ (λ s hs=>hr s (by simp[hs])) (λ s hs=>hr s (by simp[hs])),hcall]
 obtain⟨us,g1,g2⟩:=M0 h ho hc (by rw[hY h1];exact s1) (by rw[kB h2];exact s2) h3 hok;unfold Oper.wp;rw[g1,qI];refine g2.mono λ e w' ⟨rfs',objs,u,⟨e1,e2⟩,e3,e4⟩=> ?_
 subst e1 e2 e3;exact hK u w' e4
def ik (cx:Cx) (all:List Oper) (o:Oper) (v:List AV) (r:Rs) (fp:FP) (x:AV) (r1:Rs):Prop:=
 (∀s,s ∉ fp.w->ah s r1=ah s r)/\
 ∀v' r',(∀x∈o.op.operands.toList,bg v' x=bg v x)->(∀j b,o.guard=some (j,b)->dN all v' j=dN all v j)->(∀s∈fp.t,ah s r'=ah s r)->
  ∀a w β,aH cx ⟨v',r'⟩ a w β->∀i Q,all.toArray[i]? =some o->wpOp cx.P all.toArray Q i (wQ cx v' r' o.dst x fp.w r1) a w
theorem jr {o:Oper} {i:Nat} {Q:Exit->Act->World->Prop} {K:Act->World->Prop} (hi:all.toArray[i]? =some o) (hw:Region.wanted o (yielded all.toArray a.tmps)=true)
  (h:o.wp cx.P a w K Q):wpOp cx.P all.toArray Q i K a w:=by
 unfold wpOp;simp only[hi,hw,fB];exact .inl h
theorem sq {o:Oper} {i:Nat} {Q:Exit->Act->World->Prop} {K:Act->World->Prop} (hi:all.toArray[i]? =some o) (hw:Region.wanted o (yielded all.toArray a.tmps)=false)
  (h:K (a.put o.dst undef) w):wpOp cx.P all.toArray Q i K a w:=by
 unfold wpOp;simp only[hi,hw,np,eB];exact h
theorem n7 {o:Oper} {y:Nat->Option Bool} (h:o.guard=none):Region.wanted o y=true:=by unfold Region.wanted;rw[h]
theorem nY {o:Oper} {y:Nat->Option Bool} {j:Nat} {b:Bool} (h:o.guard=some (j,b)):Region.wanted o y=(y j==some b):=by unfold Region.wanted;rw[h]
def Wd (cx:Cx) (all:List Oper) (o:Oper) (v:List AV):Prop:=∀(v':List AV) (r':Rs) (a:Act) (w:World) (β:Nat->Nat->Pl),(∀j b,o.guard=some (j,b)->dN all v' j=dN all v j)->aH cx ⟨v',r'⟩ a w β->
 Region.wanted o (yielded all.toArray a.tmps)=true
theorem Bu {o:Oper} (hg:o.guard=none):Wd cx all o v:=λ _ _ _ _ _ _ _=>n7 hg
theorem MM {o:Oper} {j:Nat} {want c' b:Bool} (hg:o.guard=some (j,want)) (hgd:dN all v j=some (c',b)) (hcc:(c'&&(b==want))=true):Wd cx all o v:=λ v' r' a w β hgv h=>by have hwant:=pf h (show dN all v' j=some (c',b) by rw[hgv j want hg];exact hgd) (want:=want);rw[←nY hg,hcc]at hwant;exact hwant
theorem JZ (hT:bF cx.P T) {o:Oper} (hg:o.guard=none) (hs:(az T true v r o.dst o.op).sc):ik cx all o v r (ck v o.dst o.op) (az T true v r o.dst o.op).x (az T true v r o.dst o.op).r:=
 ⟨λ s hs'=>((s8 (r':=r) (λ _ _=>rfl) hs).off s hs').2,λ v' r' hv _ hr a w β h i Q hi=>jr hi (n7 hg) (xO hT hs hv hr h)⟩
theorem xl {o:Oper} {f:Operand} {args:Array Operand} {ts:Array TypeId} {rfs:List RF} {n:FuncId} {as:List Arg} (ho:o.op= .call ⟨.value f,args,ts⟩) (hw:Wd cx all o v)
  (s1:bf true v f) (s2:cT true v args.toList) (hcall:cC v r f args=some (n,as)) (hok:ae cx.P n as (λ r o=>r=rfs/\o=[])):
  ik cx all o v r (ck v o.dst o.op) (dx r o.dst rfs).1 (dx r o.dst rfs).2:=by
 have hfw:(ck v o.dst o.op).w=dl o.dst:=by rw[ho];rfl
 refine⟨λ s hs=> ?_,λ v' r' hv hgv hr a w β h i Q hi=>jr hi (hw v' r' a w β hgv h) (zd ho rfl s1 s2 hcall hok hv hr h λ u w' hret=> ?_)⟩
 .rw[hfw]at hs;exact((zP (r':=r) (dst:=o.dst) (rfs:=rfs) λ _ _=>rfl).2.2 s hs).2
 .obtain⟨β',g1,g2⟩:=M9 h hret o.dst;obtain⟨e1,e2,e3⟩:=zP (r:=r) (r':=r') (dst:=o.dst) (rfs:=rfs) (λ s hs=>hr s (gO s (by rw[hfw];exact hs)));rw[e1]at g2;rw[hfw];exact j4 g1 g2 e2 λ s hs=>(e3 s hs).1
theorem Ll {o:Oper} {f:Operand} {args:Array Operand} {ts:Array TypeId} {d:Value} (ho:o.op= .call ⟨.value f,args,ts⟩) (hw:Wd cx all o v)
  (s1:bf true v f) (s2:cT true v args.toList) (he:qL cx.P v r f args d):ik cx all o v r (ck v o.dst o.op) (.one (.d (.v d))) r:=by
 refine⟨λ s _=>rfl,λ v' r' hv hgv hr a w β h i Q hi=>jr hi (hw v' r' a w β hgv h) ?_⟩;obtain⟨hd,n,hn,he⟩:=he;rw[ho]at hv hr;simp only[ck]at hr;have h1:bg v' f=bg v f:=hv f (by simp[Op.operands,Call.operands]);have h2:∀x∈args.toList,bg v' x=bg v x:=λ x hx=>hv x (by simp[Op.operands,Call.operands,hx])
 have e1:=cd h rfl (c:=true) (x:=f) (by rw[hY h1];exact s1);have e2:=j8 h rfl (c:=true) (xs:=args.toList) (by rw[kB h2];exact s2);rw[ja h1]at e1;rw[ln h2]at e2;have hfn:a.eval f= .func (.func n) #[] #[]:=by
  unfold jb at hn;split at hn
  .rename_i n' h3;cases hn;rw[h3]at e1;exact(bI.1 e1).1
  .rename_i n' caps' h3;cases hn;rw[h3]at e1;simp only[aA,aw,aC]at e1;obtain⟨us,k1,k2⟩:=e1;rw[k1];congr 1;apply gk;simpa using k2
  .cases hn
 have hrun:=he cx v' r' a w β rfl (λ s hs=>hr s (by simp[hs])) h _ e2;have hm:(args.toList.map a.eval).toArray=args.map a.eval:=by apply gk;simp
 rw[hm]at hrun;unfold Oper.wp;have hex:(execOp a.eval o).run cx.P w= .ok (.value d) w:=by simp[execOp,ho,resolve,hfn,Deferred.ofValue,invoke,hrun]
 rw[hex,Oper.upon_value]
 exact j4 h (bI.2 ⟨rfl,hd⟩) (λ s hs=>hr s (by
  have:(ck v o.dst o.op).w=dl o.dst:=by rw[ho];rfl
  rw[this]at hs;simp[hs])) λ s _=>rfl
theorem Mj (hT:bF cx.P T) {o:Oper} {j:Nat} {want c' b:Bool} (hg:o.guard=some (j,want)) (hgd:dN all v j=some (c',b)) (hable:sY o.op=true)
  (hs:(az T (c'&&(b==want)) v r o.dst o.op).sc):ik cx all o v r (ck v o.dst o.op) (.gd (c'&&(b==want)) (az T (c'&&(b==want)) v r o.dst o.op).x) r:=by
 have hw0:(ck v o.dst o.op).w=[]:=by
  cases ho:o.op with
  |call k=>
   obtain⟨callee,as,ts⟩:=k;cases callee with
   |builtin bb=>cases bb<;>first|rfl|(rw[ho]at hable;cases hable)
   |_=>rw[ho]at hable;cases hable
  |_=>first|rfl|(rw[ho]at hable;cases hable)
 refine⟨λ _ _=>rfl,λ v' r' hv hgv hr a w β h i Q hi=> ?_⟩;have hgd':dN all v' j=some (c',b):=by rw[hgv j want hg];exact hgd
 have hwant:=pf h hgd' (want:=want);rw[←nY hg]at hwant;cases hcc:(c'&&(b==want))with
 |true=>
  rw[hcc]at hwant hs;refine jr hi hwant ?_;have hc:=s8 (r':=r') hr hs;have hd:=B2 (v:=v') (r:=r') (c:=true) hT h rfl (o:=o) (by rw[tD hv];exact hc.sc);rw[tD hv,hc.x]at hd;rw[vf hable hc.sc]at hd;refine CK hd λ u w' β' g1 g2=> ?_
  rw[hw0];exact j4 g1 (by simp only[aA];exact⟨λ _=>g2,λ h=>by cases h⟩) (λ s hs=>by simp at hs) λ s _=>rfl
 |false=>
  rw[hcc]at hwant;refine sq hi hwant ?_;rw[hw0];exact j4 h (by simp only[aA];exact⟨λ h=>(by cases h),λ _=>by trivial⟩) (λ s hs=>by simp at hs) λ s _=>rfl
theorem I3 {o:Oper} {f:Operand} {args:Array Operand} {ts:Array TypeId} {rfs:List RF} {n:FuncId} {as:List Arg} {j:Nat} {want c' b:Bool} (ho:o.op= .call ⟨.value f,args,ts⟩) (hg:o.guard=some (j,want))
  (hgd:dN all v j=some (c',b)) (s1:bf (c'&&(b==want)) v f) (s2:cT (c'&&(b==want)) v args.toList) (hcall:cC v r f args=some (n,as))
  (hok:(c'&&(b==want))=true->ae cx.P n as (λ r o=>r=rfs/\o=[])) (hno:fR (rfs.flatMap RF.cells)=true):
  ik cx all o v r (ck v o.dst o.op) (.gd (c'&&(b==want)) (hP (fx 0 0 0 rfs))) r:=by
 refine⟨λ _ _=>rfl,λ v' r' hv hgv hr a w β h i Q hi=> ?_⟩;have hgd':dN all v' j=some (c',b):=by rw[hgv j want hg];exact hgd
 have hwant:=pf h hgd' (want:=want);rw[←nY hg]at hwant;cases hcc:(c'&&(b==want))with
 |true=>
  rw[hcc]at hwant;refine jr hi hwant (zd ho hcc s1 s2 hcall (hok hcc) hv hr h λ u w' hret=> ?_);obtain⟨g1,g2⟩:=yQ h hno hret;exact j4 g1 (by simp only[aA];exact⟨λ _=>g2,λ h=>by cases h⟩) (λ s hs=>hr s (gO s hs)) λ s _=>rfl
 |false=>
  rw[hcc]at hwant;refine sq hi hwant ?_;exact j4 h (by simp only[aA];exact⟨λ h=>(by cases h),λ _=>by trivial⟩) (λ s hs=>hr s (gO s hs)) λ s _=>rfl
theorem K1 (hT:bF cx.P T) {o:Oper} {j:Nat} {want c' b:Bool} (hg:o.guard=some (j,want)) (hgd:dN all v j=some (c',b)) (hcc:(c'&&(b==want))=true)
  (hs:(az T true v r o.dst o.op).sc):ik cx all o v r (ck v o.dst o.op) (az T true v r o.dst o.op).x (az T true v r o.dst o.op).r:=by
 refine⟨λ s hs'=>((s8 (r':=r) (λ _ _=>rfl) hs).off s hs').2,λ v' r' hv hgv hr a w β h i Q hi=> ?_⟩;have hwant:=pf h (show dN all v' j=some (c',b) by rw[hgv j want hg];exact hgd) (want:=want);rw[←nY hg,hcc]at hwant;exact jr hi hwant (xO hT hs hv hr h)
theorem sI {o:Oper} {j:Nat} {want c' b:Bool} (hg:o.guard=some (j,want)) (hgd:dN all v j=some (c',b)) (hcc:(c'&&(b==want))=false):ik cx all o v r (ck v o.dst o.op) kO r:=by refine⟨λ _ _=>rfl,λ v' r' hv hgv hr a w β h i Q hi=> ?_⟩;have hwant:=pf h (show dN all v' j=some (c',b) by rw[hgv j want hg];exact hgd) (want:=want);rw[←nY hg,hcc]at hwant;exact sq hi hwant (j4 h (by simp[aA,aw]) (λ s hs=>hr s (gO s hs)) λ s _=>rfl)
theorem K8 {o:Oper} {j:Nat} {want c' b:Bool} {x:AV} (hg:o.guard=some (j,want)) (hgd:dN all v j=some (c',b)) (hcc:(c'&&(b==want))=false):ik cx all o v r (ck v o.dst o.op) (.gd (c'&&(b==want)) x) r:=by refine⟨λ _ _=>rfl,λ v' r' hv hgv hr a w β h i Q hi=> ?_⟩;have hwant:=pf h (show dN all v' j=some (c',b) by rw[hgv j want hg];exact hgd) (want:=want);rw[←nY hg,hcc]at hwant;exact sq hi hwant (j4 h (by rw[hcc];simp[aA,aw]) (λ s hs=>hr s (gO s hs)) λ s _=>rfl)
theorem yF {o:Oper} {f:Operand} {args:Array Operand} {ts:Array TypeId} {rfs:List RF} {l':List RO} {n:FuncId} {as:List Arg} {mv:Mv} {aJ:List Nat} {i0:Nat} (ho:o.op= .call ⟨.value f,args,ts⟩) (hw:Wd cx all o v)
  (s1:bf true v f) (s2:cT true v args.toList) (hcall:dL i0 v r f args=some (n,as,mv,aJ)) (hok:ae cx.P n as (λ r o=>r=rfs/\o=[l'])) (hsc:bA r o.dst mv aJ l'):
  ik cx all o v r ⟨(ck v o.dst o.op).t++[mv.s],mv.s::dl o.dst⟩ (bindM r o.dst mv rfs l').1 (bindM r o.dst mv rfs l').2:=by
 refine⟨λ s hs=>(BP (r:=r) (r':=r) (λ _ _=>rfl)).2.2 s hs|>.2,λ v' r' hv hgv hr a w β h i Q hi=>jr hi (hw v' r' a w β hgv h) ?_⟩;rw[ho]at hv;have hft:∀s∈(dM v f++(eh v args.toList++dl o.dst)),ah s r'=ah s r:=λ s hs=>hr s (me _ (by rw[ho];exact hs))
 have hms:ah mv.s r'=ah mv.s r:=hr mv.s (nI _ (by simp));have h1:bg v' f=bg v f:=hv f (by simp[Op.operands,Call.operands]);have h2:∀x∈args.toList,bg v' x=bg v x:=λ x hx=>hv x (by simp[Op.operands,Call.operands,hx])
 have h3:dL i0 v' r' f args=some (n,as,mv,aJ):=by rw[MR h1 h2,Ml (λ s hs=>hft s (by simp[hs])) (λ s hs=>hft s (by simp[hs])),hcall]
 have hsc':bA r' o.dst mv aJ l':=by rw[NP hms];exact hsc
 obtain⟨us,hold,u0,g1,g2,g3⟩:=Lz h ho (by rw[hY h1];exact s1) (by rw[kB h2];exact s2) h3 hsc' hok;unfold Oper.wp;rw[g1,qI];refine g2.mono λ e w' ⟨rfs',objs,u,⟨e1,e2⟩,e3,e4⟩=> ?_
 subst e1 e2 e3;obtain⟨β',q1,q2⟩:=Me h g3 hsc' e4
 obtain⟨k1,k2,k3⟩:=BP (r:=r) (r':=r') (dst:=o.dst) (mv:=mv) (rfs:=rfs') (l':=l') (λ s hs=>by
  rcases cL.1 hs with rfl|hs
  .exact hms
  .exact hft s (by simp[hs]))
 rw[k1]at q2;exact j4 q1 q2 k2 λ s hs=>(k3 s hs).1
theorem Ar {d:Nat} {rfs:List RF} {l:List RO} (h:∀s∈(d+pK)::dl (some d),ah s r'=ah s r):
  (c7 r' d rfs l).1=(c7 r d rfs l).1/\(∀s∈(d+pK)::dl (some d),ah s (c7 r' d rfs l).2=ah s (c7 r d rfs l).2)/\
   ∀s,s ∉ (d+pK)::dl (some d)->ah s (c7 r' d rfs l).2=ah s r'/\ah s (c7 r d rfs l).2=ah s r:=by
 have h1:aq r' d=aq r d:=j9 (h d (by simp[dl]));have h2:aq r' (d+pK)=aq r (d+pK):=j9 (h (d+pK) (by simp));unfold c7;rw[h1,h2];split
 .refine⟨rfl,λ s hs=> ?_,λ s hs=> ?_⟩
  .rw[cp,cp,h s hs]
  .simp only[dl,cL,kY,kS,jh]at hs;rw[cp,cp,ar (dU hs.2),ar (dU hs.2)];exact⟨rfl,rfl⟩
 .refine⟨rfl,λ s hs=> ?_,λ s hs=> ?_⟩
  .rw[cp,cp,cp,cp,h s hs]
  .simp only[dl,cL,kY,kS,jh]at hs;rw[cp,cp,cp,cp,ar (dU hs.1),ar (dU hs.2),ar (dU hs.1),ar (dU hs.2)];exact⟨rfl,rfl⟩
theorem xQ {o:Oper} {f:Operand} {args:Array Operand} {ts:Array TypeId} {rfs:List RF} {l:List RO} {n:FuncId} {as:List Arg} {d:Nat} (ho:o.op= .call ⟨.value f,args,ts⟩) (hw:Wd cx all o v) (hd:o.dst=some d)
  (s1:bf true v f) (s2:cT true v args.toList) (hcall:cC v r f args=some (n,as)) (hok:gy cx.P n as rfs l):
  ik cx all o v r ⟨(ck v o.dst o.op).t++[d+pK],(d+pK)::dl o.dst⟩ (c7 r d rfs l).1 (c7 r d rfs l).2:=by
 refine⟨λ s hs=>(Ar (r:=r) (r':=r) (λ _ _=>rfl)).2.2 s (by rw[hd]at hs;exact hs)|>.2,λ v' r' hv hgv hr a w β h i Q hi=>jr hi (hw v' r' a w β hgv h) ?_⟩;rw[ho]at hv;have hft:∀s∈(dM v f++(eh v args.toList++dl o.dst)),ah s r'=ah s r:=λ s hs=>hr s (me _ (by rw[ho];exact hs))
 have h1:bg v' f=bg v f:=hv f (by simp[Op.operands,Call.operands]);have h2:∀x∈args.toList,bg v' x=bg v x:=λ x hx=>hv x (by simp[Op.operands,Call.operands,hx])
 have h3:cC v' r' f args=some (n,as):=by rw[Bb h1 h2,BJ (λ s hs=>hft s (by simp[hs])) (λ s hs=>hft s (by simp[hs])),hcall]
 obtain⟨us,g1,g2⟩:=KQ h ho rfl (by rw[hY h1];exact s1) (by rw[kB h2];exact s2) h3 hok;unfold Oper.wp;rw[g1,qI];refine g2.mono λ e w' ⟨bs,rfs',objs,u,⟨b,e1,e2,e3⟩,e4,e5,e6⟩=> ?_
 subst e1 e2 e3 e4;obtain⟨β',q1,q2⟩:=Mk (d:=d) h (e5 b (by simp[b9])) e6;have hag:∀s∈(d+pK)::dl (some d),ah s r'=ah s r:=λ s hs=>by
  rcases cL.1 hs with rfl|hs
  .exact hr _ (nI _ (by simp))
  .exact hft s (by rw[hd];simp[hs])
 obtain⟨k1,k2,k3⟩:=Ar (r:=r) (r':=r') (rfs:=rfs) (l:=l) hag;rw[k1]at q2;rw[hd];exact j4 q1 q2 k2 λ s hs=>(k3 s hs).1
theorem Bg {o:Oper} {f:Operand} {args:Array Operand} {ts:Array TypeId} {s0:Nat} (ho:o.op= .call ⟨.value f,args,ts⟩):∀s∈(s0::dl o.dst),s∈((ck v o.dst o.op).t++[s0]):=by
 intro s hs;rw[ho];simp only[ck,eE,cL,ji]at hs⊢;rcases hs with rfl|hs
 .exact .inr (.inl rfl)
 .exact .inl (.inr (.inr hs))
def tg (cx:Cx) (all:List Oper) (o:Oper) (v:List AV) (r:Rs) (K:Ex->G->Prop):Prop:=
 ∀(a:Act) (w:World) (β:Nat->Nat->Pl),aH cx ⟨v,r⟩ a w β->∀(k:Nat) (Q:Exit->Act->World->Prop) (R:Act->World->Prop),all.toArray[k]? =some o->
  (∀x g a w,cP cx g a w->K (.panic x) g->Q (nP (.panic x)) a w)->wpOp cx.P all.toArray Q k R a w
def Cs (T:Nat->Option TI) (cx:Cx) (all:List Oper) (o:Oper) (rest:List Oper) (v:List AV) (r:Rs) (K:Ex->G->Prop):Prop:=
 ∃v' r' fp x r1 off',(∀(cx:Cx) (a:Act) (w:World),cP cx ⟨v,r⟩ a w->cP cx ⟨v',r'⟩ a w)/\ik cx all o v' r' fp x r1/\aP T cx.P all ⟨none,off'⟩ rest (bz v' o.dst x) r1 K
theorem Km {all:List Oper} {v:List AV} {i j k lo n:Nat} {h:Hd} {ds:List D} (hi:v[i]? =some (.one (.own h lo n))):dN all (v.set i (.one (.d (.sl k ds)))) j=dN all v j:=by
 unfold dN;split
 .split
  .rename_i d _;by_cases hd:i=d
   .subst hd;have hlt:i<v.length:=(bJ.1 hi).1;rw[fC,fC,o7 hlt,hi];rfl
   .rw[fC,fC,il hd]
  .rfl
 .rfl
theorem K6 {o:Oper} {f:Operand} {args:Array Operand} {ts:Array TypeId} {m:M} {K:Ex->G->Prop} (ho:o.op= .call ⟨.value f,args,ts⟩) (hw:Wd cx all o v) (s1:bf true v f) (s2:cT true v args.toList)
  (s3:qO cx.P m v r f args (cC v r f args) K):m.fp=none/\tg cx all o v r K:=by
 obtain⟨h1,n,as,x,hok,s3⟩:=s3;refine⟨h1,λ a w β h k Q R hk hQ=>jr hk (hw v r a w β (λ _ _ _=>rfl) h) ?_⟩;rcases s3 with⟨hcall,hK⟩|⟨i,mv,aJ,l',hcall,hsc,hK⟩
 .obtain⟨us,g1,g2⟩:=LV h ho rfl s1 s2 hcall hok;unfold Oper.wp;rw[g1,qI];refine g2.mono λ e w' ⟨e1,e2⟩=> ?_
  subst e1;exact hQ x _ _ _ ⟨β,yW h e2⟩ hK
 .obtain⟨us,hold,u0,g1,g2,_⟩:=Ke h ho s1 s2 hcall hsc hok;unfold Oper.wp;rw[g1,qI];refine g2.mono λ e w' ⟨e1,e2⟩=> ?_
  subst e1;exact hQ x _ _ _ ⟨β,Jo h e2⟩ hK
theorem J4 {o:Oper} {y:Operand} {m:M} {K:Ex->G->Prop} (ho:o.op= .panic y) (hw:Wd cx all o v) (s1:bf true v y) (s3:qY m v r K (ev v y)):m.fp=none/\tg cx all o v r K:=by
 obtain⟨h1,s3⟩:=s3;refine⟨h1,λ a w β h k Q R hk hQ=>jr hk (hw v r a w β (λ _ _ _=>rfl) h) ?_⟩;have e1:=cd h (c:=true) rfl s1;split at s3
 .rename_i t z hy;rw[hy]at e1;have hv:=(bI.1 e1).1;unfold Oper.wp;have:(execOp a.eval o).run cx.P w= .halt (.panic (.iface t z)) w:=by simp only[execOp,ho,hv];rfl
  rw[this,Oper.upon_panic];exact hQ _ _ _ _ ⟨β,h⟩ s3
 .exact s3.elim
theorem yg {o:Oper} {f:Operand} {args:Array Operand} {ts:Array TypeId} {rest:List Oper} {m:M} {K:Ex->G->Prop} (ho:o.op= .call ⟨.value f,args,ts⟩) (hw:Wd cx all o v) (s1:bf true v f) (s2:cT true v args.toList)
  (s3:(hE cx.P true (cC v r f args) λ rfs=>aP T cx.P all (cq m v o.dst o.op) rest (bz v o.dst (dx r o.dst rfs).1) (dx r o.dst rfs).2 K)∨
   (∃i,kG cx.P r o.dst (dL i v r f args) λ mv rfs l'=>aP T cx.P all (fu o.dst mv.s (cq m v o.dst o.op)) rest (bz v o.dst (bindM r o.dst mv rfs l').1) (bindM r o.dst mv rfs l').2 K)∨
   (∃d,qL cx.P v r f args d/\aP T cx.P all (cq m v o.dst o.op) rest (bz v o.dst (.one (.d (.v d)))) r K)∨
   (∃d,o.dst=some d/\kF cx.P (cC v r f args) λ rfs l=>aP T cx.P all (fu o.dst (d+pK) (cq m v o.dst o.op)) rest (bz v o.dst (c7 r d rfs l).1) (c7 r d rfs l).2 K)∨
   qO cx.P (cq m v o.dst o.op) v r f args (cC v r f args) K∨
   tn (cq m v o.dst o.op) v r λ v' r'=>bf true v' f/\cT true v' args.toList/\
    ((hE cx.P true (cC v' r' f args) λ rfs=>aP T cx.P all (cq m v o.dst o.op) rest (bz v' o.dst (dx r' o.dst rfs).1) (dx r' o.dst rfs).2 K)∨
    (∃i,kG cx.P r' o.dst (dL i v' r' f args) λ mv rfs l'=>aP T cx.P all (fu o.dst mv.s (cq m v o.dst o.op)) rest (bz v' o.dst (bindM r' o.dst mv rfs l').1) (bindM r' o.dst mv rfs l').2 K)∨
    (∃d,o.dst=some d/\kF cx.P (cC v' r' f args) λ rfs l=>aP T cx.P all (fu o.dst (d+pK) (cq m v o.dst o.op)) rest (bz v' o.dst (c7 r' d rfs l).1) (c7 r' d rfs l).2 K))):
  (∃fp x r1,ik cx all o v r fp x r1/\(∀s∈fp.w,s∈fp.t)/\∃off',aP T cx.P all ⟨m.fp.map (fp::·),off'⟩ rest (bz v o.dst x) r1 K)∨(m.fp=none/\(tg cx all o v r K∨Cs T cx all o rest v r K)):=by
 have hadd:∀{op:Op},cq m v o.dst op=⟨m.fp.map (ck v o.dst op::·),m.off⟩:=λ {op}=>by obtain⟨fp,off⟩:=m;cases fp<;>rfl
 have hnone:∀{op:Op},(cq m v o.dst op).fp=none->m.fp=none:=λ {op} h=>by obtain⟨fp,off⟩:=m;cases fp with|none=>rfl|some l=>cases h
 rcases s3 with s3|⟨i0,s3⟩|⟨d,s3,s4⟩|⟨d,hd,s3⟩|s3|s3
 .unfold hE at s3;split at s3
  .rename_i n as hcall;obtain⟨rfs,g1,g2⟩:=s3;rw[hadd]at g2;exact .inl ⟨_,_,_,xl ho hw s1 s2 hcall (g1 rfl),gO,_,g2⟩
  .exact s3.elim
 .unfold kG at s3;split at s3
  .rename_i n as mv aJ hcall;obtain⟨rfs,l',g1,g2,g3⟩:=s3;refine .inl ⟨_,_,_,yF ho hw s1 s2 hcall g1 g2,Bg ho,m.off, ?_⟩;rw[hadd]at g3;obtain⟨fp,off⟩:=m;cases fp with
   |none=>exact g3
   |some l=>exact g3
  .exact s3.elim
 .rw[hadd]at s4;exact .inl ⟨_,_,_,Ll ho hw s1 s2 s3,gO,_,s4⟩
 .unfold kF at s3;split at s3
  .rename_i n as hcall;obtain⟨rfs,l,g1,g2⟩:=s3;refine .inl ⟨_,_,_,xQ ho hw hd s1 s2 hcall g1,Bg ho,m.off, ?_⟩;rw[hadd]at g2;obtain⟨fp,off⟩:=m;cases fp with
   |none=>exact g2
   |some l=>exact g2
  .exact s3.elim
 .obtain⟨q1,q2⟩:=K6 ho hw s1 s2 s3;exact .inr ⟨hnone q1, .inl q2⟩
 .obtain⟨q1,i,h,lo,n,k,ds,r',hi,himp,t1,t2,s3⟩:=s3;have q0:=hnone q1;have hw':Wd cx all o (v.set i (.one (.d (.sl k ds)))):=λ v' r' a w β hg hh=>hw v' r' a w β (λ j b e=>by rw[hg j b e,Km hi]) hh
  obtain⟨fp0,off0⟩:=m;simp only at q0;subst q0;refine .inr ⟨rfl, .inr ?_⟩;rcases s3 with s3|⟨i0,s3⟩|⟨d,hd,s3⟩
  .unfold hE at s3;split at s3
   .rename_i n as hcall;obtain⟨rfs,g1,g2⟩:=s3;exact⟨_,_,_,_,_,_,himp,xl ho hw' t1 t2 hcall (g1 rfl),g2⟩
   .exact s3.elim
  .unfold kG at s3;split at s3
   .rename_i n as mv aJ hcall;obtain⟨rfs,l',g1,g2,g3⟩:=s3;exact⟨_,_,_,_,_,off0,himp,yF ho hw' t1 t2 hcall g1 g2,g3⟩
   .exact s3.elim
  .unfold kF at s3;split at s3
   .rename_i n as hcall;obtain⟨rfs,l,g1,g2⟩:=s3;exact⟨_,_,_,_,_,off0,himp,xQ ho hw' hd t1 t2 hcall g1,g2⟩
   .exact s3.elim
theorem Bv (hT:bF cx.P T) {o:Oper} {rest:List Oper} {m:M} {K:Ex->G->Prop} (hk:aP T cx.P all m (o::rest) v r K):
  (∃fp x r1,ik cx all o v r fp x r1/\(∀s∈fp.w,s∈fp.t)/\∃off',aP T cx.P all ⟨m.fp.map (fp::·),off'⟩ rest (bz v o.dst x) r1 K)∨(m.fp=none/\(tg cx all o v r K∨Cs T cx all o rest v r K)):=by
 have hadd:∀{op:Op},cq m v o.dst op=⟨m.fp.map (ck v o.dst op::·),m.off⟩:=λ {op}=>by obtain⟨fp,off⟩:=m;cases fp<;>rfl
 unfold aP at hk;split at hk
 .rename_i hg;split at hk
  .rename_i f args ts ho;obtain⟨s1,s2,s3⟩:=hk;exact yg ho (Bu hg) s1 s2 s3
  .rename_i y ho;obtain⟨q1,q2⟩:=J4 ho (Bu hg) hk.1 hk.2;exact .inr ⟨(by obtain⟨fp,off⟩:=m;cases fp with|none=>rfl|some l=>cases q1), .inl q2⟩
  .obtain⟨g1,g2⟩:=hk;rw[hadd]at g2;exact .inl ⟨_,_,_,JZ hT hg g1,gO,_,g2⟩
 .rename_i j want hg;split at hk
  .obtain⟨g1,g2⟩:=hk;cases hgd:dN all v j with
   |none=>rw[hgd]at g1;exact g1.elim
   |some p=>
    obtain⟨c',b⟩:=p;rw[hgd]at g1;rw[hadd]at g2;exact .inl ⟨_,_,_,sI hg hgd g1,gO,_,g2⟩
  split at hk
  .rename_i c' b hgd;split at hk
   .rename_i f args ts ho;obtain⟨s1,s2,s3⟩:=hk;rcases s3 with s3|⟨hcc,g2⟩|⟨h1,h2⟩
    .unfold hE at s3;split at s3
     .rename_i n as hcall;obtain⟨rfs,g1,g2,g3⟩:=s3;rw[hadd]at g3;exact .inl ⟨_,_,_,I3 ho hg hgd s1 s2 hcall g1 g2,gO,_,g3⟩
     .exact s3.elim
    .rw[hadd]at g2;exact .inl ⟨_,_,_,sI hg hgd hcc,gO,_,g2⟩
    .cases hcc:(c'&&(b==want))with
     |true=>
      rw[hcc]at s1 s2;exact yg ho (MM hg hgd hcc) s1 s2 (h1 hcc)
     |false=>
      have g2:=h2 hcc;rw[hadd]at g2;exact .inl ⟨_,_,_,sI hg hgd hcc,gO,_,g2⟩
   .split at hk
    .rename_i hable;obtain⟨g1,g2⟩:=hk;rw[hadd]at g2;cases hcc:(c'&&(b==want))with
     |true=>exact .inl ⟨_,_,_,Mj hT hg hgd hable (g1 hcc),gO,_,g2⟩
     |false=>exact .inl ⟨_,_,_,K8 hg hgd hcc,gO,_,g2⟩
    .cases hcc:(c'&&(b==want))with
     |true=>
      obtain⟨g1,g2⟩:=hk.1 hcc;rw[hadd]at g2;exact .inl ⟨_,_,_,K1 hT hg hgd hcc g1,gO,_,g2⟩
     |false=>
      have g2:=hk.2 hcc;rw[hadd]at g2;exact .inl ⟨_,_,_,sI hg hgd hcc,gO,_,g2⟩
  .exact hk.elim
end
end Go.Pk
