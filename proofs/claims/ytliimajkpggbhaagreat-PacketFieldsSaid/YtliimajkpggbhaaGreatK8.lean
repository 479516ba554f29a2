import Derived.Test.YtliimajkpggbhaaGreatK7
import Derived.Laws.Externs
import Derived.Lib.Bytealg
import Derived.Recover
set_option linter.unusedVariables false
set_option linter.unusedSimpArgs false
set_option linter.unusedSectionVars false
namespace Go.Pk
def epZ (Z:List Nat) (s e:Nat):Nat:=if Z.contains s=true then e else 1
mutual
def zkw (Z:List Nat):C→C
 | .own h lo n=> .own ⟨h.s,h.j,epZ Z h.s h.e⟩ lo n
 | .ptr h off=> .ptr ⟨h.s,h.j,epZ Z h.s h.e⟩ off
 | .clos f caps=> .clos f (zjk Z caps)
 | .d x=> .d x
 | .lent n ds=> .lent n ds
 | .elt ds=> .elt ds
 | .ab=> .ab
 | .dead=> .dead
 | .eltR cs=> .eltR (zjk Z cs)
 | .gap _ _ _ _=> .dead
 | .lk h n x=> .lk ⟨h.s,h.j,epZ Z h.s h.e⟩ n x
def zjk (Z:List Nat):List C→List C
 |[]=>[]
 |c::cs=>zkw Z c::zjk Z cs
end
mutual
def zmO (Z:List Nat):AV→AV
 | .one x=> .one (zkw Z x)
 | .agg l=> .agg (zjk Z l)
 | .tup l=> .tup (zgM Z l)
 | .gd c x=> .gd c (zmO Z x)
def zgM (Z:List Nat):List AV→List AV
 |[]=>[]
 |c::cs=>zmO Z c::zgM Z cs
end
def zcO (Z:List Nat) (s:Nat) (res:Res):Res:=if res.var=true then {res with e:=epZ Z s res.e,cells:=zjk Z res.cells}else {res with e:=epZ Z s res.e}
def zu4 (Z:List Nat) (s:Nat) (rs:RS):RS:=⟨if Z.contains s=true then rs.next else 2,rs.l.map fun x=>x.map (zcO Z s)⟩
def zmP (Z:List Nat):Rs→Rs
 |[]=>[]
 |(s,rs)::l=>(s,zu4 Z s rs)::zmP Z l
def zu5 (Z:List Nat) (r:Rs) (h:Hd):Bool:=
 Z.contains h.s||match lookR r h.s h.j with
 |some res=>res.e==h.e
 |none=>true
mutual
def zps (Z:List Nat) (r:Rs):C→Bool
 | .own h _ _=>zu5 Z r h
 | .ptr h _=>zu5 Z r h
 | .clos _ caps=>zmQ Z r caps
 | .d _=>true
 | .lent _ _=>true
 | .elt _=>true
 | .ab=>true
 | .dead=>true
 | .eltR cs=>zmQ Z r cs
 | .gap _ _ _ _=>true
 | .lk h _ _=>zu5 Z r h
def zmQ (Z:List Nat) (r:Rs):List C→Bool
 |[]=>true
 |c::cs=>zps Z r c&&zmQ Z r cs
end
mutual
def zmR (Z:List Nat) (r:Rs):AV→Bool
 | .one x=>zps Z r x
 | .agg l=>zmQ Z r l
 | .tup l=>zkx Z r l
 | .gd _ x=>zmR Z r x
def zkx (Z:List Nat) (r:Rs):List AV→Bool
 |[]=>true
 |c::cs=>zmR Z r c&&zkx Z r cs
end
def zzH (Z:List Nat) (r:Rs):Option Res→Bool
 |some res=> !res.var||zmQ Z r res.cells
 |none=>true
def curL (Z:List Nat) (r:Rs):List (Option Res)→Bool
 |[]=>true
 |x::l=>zzH Z r x&&curL Z r l
def zzI (Z:List Nat) (r:Rs):Rs→Bool
 |[]=>true
 |(s,rs)::l=>curL Z r rs.l&&zzI Z r l
theorem zlL {Z:List Nat}:∀{r:Rs} {s:Nat},findR s (zmP Z r)=(findR s r).map (zu4 Z s)
 |[],s=>rfl
 |(t,rs)::l,s=>by
  simp only[zmP,findR]
  by_cases h:t=s
  ·subst h;rw[if_pos rfl,if_pos rfl];rfl
  ·rw[if_neg h,if_neg h,zlL]
theorem ziT {Z:List Nat} {r:Rs} {s j:Nat}:lookR (zmP Z r) s j=(lookR r s j).map (zcO Z s):=by
 unfold lookR
 rw[zlL]
 cases findR s r with
 |none=>rfl
 |some rs=>
  simp only[Option.map_some,zu4,List.getElem?_map]
  cases rs.l[j]? with
  |none=>rfl
  |some x=>cases x<;>rfl
theorem zor {Z:List Nat} {r:Rs} {s:Nat}:nxt (zmP Z r) s=if Z.contains s=true then nxt r s else(if(findR s r).isSome then 2 else 0):=by
 unfold nxt
 rw[zlL]
 cases findR s r with
 |none=>simp
 |some rs=>simp[zu4]
theorem zed {Z:List Nat} {s:Nat} {res:Res}:(zcO Z s res).fz=res.fz:=by unfold zcO;split<;>rfl
theorem zkP {Z:List Nat} {s:Nat} {res:Res}:(zcO Z s res).var=res.var:=by unfold zcO;split<;>rfl
theorem zmS {Z:List Nat} {s:Nat} {res:Res}:(zcO Z s res).sz=res.sz:=by unfold zcO;split<;>rfl
theorem zqQ {Z:List Nat} {s:Nat} {res:Res}:(zcO Z s res).bor=res.bor:=by unfold zcO;split<;>rfl
theorem ziU {Z:List Nat} {s:Nat} {res:Res}:(zcO Z s res).e=epZ Z s res.e:=by unfold zcO;split<;>rfl
theorem zmT {Z:List Nat}:∀{l:List C},(zjk Z l).length=l.length
 |[]=>rfl
 |x::l=>by simp only[zjk,List.length_cons,zmT]
theorem canRes_len {Z:List Nat} {s:Nat} {res:Res}:(zcO Z s res).cells.length=res.cells.length:=by unfold zcO;split<;>simp[zmT]
section
variable {cx:Cx} {w:World} {r:Rs} {β:Nat→Nat→Pl} {Z:List Nat}
theorem zzJ {b:Nat}:OB (zmP Z r) β b↔OB r β b:=by
 constructor
 ·rintro⟨s,j,res,o,h1,h2,h3⟩
  rw[ziT]at h1
  cases hl:lookR r s j with
  |none=>rw[hl]at h1;cases h1
  |some res0=>
   rw[hl]at h1
   simp only[Option.map_some,Option.some.injEq]at h1
   subst h1
   exact⟨s,j,res0,o,hl,by rwa[zed]at h2,h3⟩
 ·rintro⟨s,j,res,o,h1,h2,h3⟩
  exact⟨s,j,zcO Z s res,o,by rw[ziT,h1];rfl,by rw[zed];exact h2,h3⟩
theorem zkQ:Av cx (zmP Z r) β=Av cx r β:=by
 funext b
 simp only[Av,zzJ]
theorem zos {h:Hd} {res':Res} (hc:zu5 Z r h=true) (hg:getR (zmP Z r) ⟨h.s,h.j,epZ Z h.s h.e⟩=some res'):
  ∃res,getR r h=some res∧res'=zcO Z h.s res:=by
 obtain⟨h1,h2⟩:=zac hg
 rw[ziT]at h1
 simp only at h1 h2
 cases hl:lookR r h.s h.j with
 |none=>rw[hl]at h1;cases h1
 |some res=>
  rw[hl]at h1
  simp only[Option.map_some,Option.some.injEq]at h1
  subst h1
  refine⟨res,zaq hl ?_,rfl⟩
  unfold zu5 at hc
  rw[ziU]at h2
  by_cases hz:Z.contains h.s=true
  ·simp only[epZ,if_pos hz]at h2;exact h2
  ·rw[hl]at hc
   simp only[hz,Bool.false_or,beq_iff_eq]at hc
   exact hc
theorem zpt {h:Hd} (hlt:h.e<nxt r h.s):epZ Z h.s h.e<nxt (zmP Z r) h.s:=by
 rw[zor]
 unfold epZ
 split
 ·exact hlt
 ·have:(findR h.s r).isSome=true:=by
   unfold nxt at hlt
   cases hf:findR h.s r with
   |none=>rw[hf]at hlt;simp at hlt
   |some _=>rfl
  rw[if_pos this]
  decide
theorem zot {pl:Pl} {s:Nat} {res:Res} {lo n:Nat} {u:Value} (h:OwnV pl res lo n u):OwnV pl (zcO Z s res) lo n u:=
 h.same zkP zmS (Nat.le_of_eq canRes_len.symm)
mutual
theorem zr3:∀{c:C} {u:Value},zps Z r c=true→ReC cx w r β c u→ReC cx w (zmP Z r) β (zkw Z c) u
 | .d _,_,_,h=>by simp only[zkw,ReC,zkQ]at h⊢;exact h
 | .lent n ds,_,_,h=>by simp only[zkw,ReC,zkQ]at h⊢;exact h
 | .own hd lo n,u,hc,h=>by
  simp only[zkw,ReC,zps]at h hc⊢
  obtain⟨h1,h2,h3⟩:=h
  refine⟨h1,zpt h2,fun res' hr=> ?_⟩
  obtain⟨res,g1,rfl⟩:=zos hc hr
  exact zot (h3 res g1)
 | .ptr hd off,u,hc,h=>by
  simp only[zkw,ReC,zps]at h hc⊢
  obtain⟨h1,h2,h3⟩:=h
  refine⟨h1,zpt h2,fun res' hr=> ?_⟩
  obtain⟨res,g1,rfl⟩:=zos hc hr
  exact h3 res g1
 | .elt ds,_,_,h=>by simp only[zkw,ReC,zkQ]at h⊢;exact h
 | .clos f caps,_,hc,h=>by
  simp only[zkw,ReC,zps]at h hc⊢
  obtain⟨us,h1,h2⟩:=h
  exact⟨us,h1,zhd hc h2⟩
 | .ab,_,_,h=>by simpa only[zkw,ReC]using h
 | .dead,_,_,_=>by simp[zkw,ReC]
 | .eltR cs,_,hc,h=>by
  simp only[zkw,ReC]at h⊢
  obtain⟨b,o,us,h1,h2,h3,h4,h5⟩:=h
  exact⟨b,o,us,h1,h2,by rw[zkQ];exact h3,h4,zhd hc h5⟩
 | .gap _ _ _ _,_,_,_=>by simp[zkw,ReC]
 | .lk hd n x,u,hc,h=>by
  simp only[zkw,ReC,zps]at h hc⊢
  obtain⟨h1,h2,h3⟩:=h
  refine⟨h1,zpt h2,fun res' hr=> ?_⟩
  obtain⟨res,g1,rfl⟩:=zos hc hr
  exact zot (h3 res g1)
theorem zhd:∀{c:List C} {u:List Value},zmQ Z r c=true→ReCs cx w r β c u→ReCs cx w (zmP Z r) β (zjk Z c) u
 |[],_,_,h=>by simpa[zjk,ReCs]using h
 |c::cs,_,hc,h=>by
  simp only[zjk,ReCs,zmQ,Bool.and_eq_true]at h hc⊢
  obtain⟨u,us,h1,h2,h3⟩:=h
  exact⟨u,us,h1,zr3 hc.1 h2,zhd hc.2 h3⟩
end
mutual
theorem zou:∀{c:AV} {u:Value},zmR Z r c=true→ReA cx w r β c u→ReA cx w (zmP Z r) β (zmO Z c) u
 | .one _,_,hc,h=>by simp only[zmO,ReA,zmR]at h hc⊢;exact zr3 hc h
 | .agg l,_,hc,h=>by
  simp only[zmO,ReA,zmR]at h hc⊢
  obtain⟨us,h1,h2⟩:=h
  exact⟨us,h1,zhd hc h2⟩
 | .tup l,_,hc,h=>by
  simp only[zmO,ReA,zmR]at h hc⊢
  obtain⟨us,h1,h2⟩:=h
  exact⟨us,h1,zpu hc h2⟩
 | .gd c y,_,hc,h=>by
  simp only[zmO,ReA,zmR]at h hc⊢
  exact⟨fun he=>zou hc (h.1 he),h.2⟩
theorem zpu:∀{c:List AV} {u:List Value},zkx Z r c=true→ReAs cx w r β c u→ReAs cx w (zmP Z r) β (zgM Z c) u
 |[],_,_,h=>by simpa[zgM,ReAs]using h
 |c::cs,_,hc,h=>by
  simp only[zgM,ReAs,zkx,Bool.and_eq_true]at h hc⊢
  obtain⟨u,us,h1,h2,h3⟩:=h
  exact⟨u,us,h1,zou hc.1 h2,zpu hc.2 h3⟩
end
theorem zpv:∀{l:List (Option Res)} {j:Nat} {res:Res},curL Z r l=true→l[j]? =some (some res)→zzH Z r (some res)=true
 |[],_,_,_,h=>by simp at h
 |x::l,0,res,h,hj=>by
  simp only[List.getElem?_cons_zero,Option.some.injEq]at hj
  subst hj
  simp only[curL,Bool.and_eq_true]at h
  exact h.1
 |x::l,j+1,res,h,hj=>by
  simp only[curL,Bool.and_eq_true]at h
  exact zpv h.2 (by simpa using hj)
theorem zmU:∀{l:Rs} {s:Nat} {rs:RS},zzI Z r l=true→findR s l=some rs→curL Z r rs.l=true
 |[],_,_,_,h=>by simp[findR]at h
 |(t,rs')::l,s,rs,h,hf=>by
  simp only[zzI,Bool.and_eq_true]at h
  simp only[findR]at hf
  split at hf
  ·cases hf;exact h.1
  ·exact zmU h.2 hf
theorem zr4 {pl:Pl} {s:Nat} {res:Res} (hc:zzH Z r (some res)=true) (h:ResOK cx w r β pl res):ResOK cx w (zmP Z r) β pl (zcO Z s res):=by
 unfold ResOK at h⊢
 rw[zkP]
 by_cases hv:res.var=true
 ·rw[if_pos hv]at h⊢
  simp only[zzH,hv,Bool.not_true,Bool.false_or]at hc
  obtain⟨h0,b,c,e,h1,h2,h3,h4⟩:=h
  exact⟨by rw[zed];exact h0,b,c,e,h1,h2,by unfold zcO;rw[if_pos hv];exact zhd hc h3,h4⟩
 ·rw[if_neg hv]at h⊢
  obtain⟨ds,h1,h2,h3⟩:=h
  refine⟨ds,by unfold zcO;rw[if_neg hv];exact h1,by rw[zmS,zkQ];exact h2, ?_⟩
  rw[zed,zkQ]
  exact h3
end
theorem Gh.can (Z:List Nat) {v:List AV} {r:Rs} (hv:zkx Z r v=true) (hr:zzI Z r r=true):Gh ⟨v,r⟩ ⟨zgM Z v,zmP Z r⟩:=fun cx a w ⟨β,hh⟩=>by
 have hlk:∀{s j:Nat} {res:Res},lookR (zmP Z r) s j=some res→∃res0,lookR r s j=some res0∧res=zcO Z s res0:=fun {s j res} hl=>by
  rw[ziT]at hl
  cases h0:lookR r s j with
  |none=>rw[h0]at hl;cases hl
  |some res0=>rw[h0]at hl;simp only[Option.map_some,Option.some.injEq]at hl;exact⟨res0,rfl,hl.symm⟩
 have hO:∀{s j:Nat} {res:Res},lookR r s j=some res→zzH Z r (some res)=true:=fun {s j res} hl=>by
  unfold lookR at hl
  split at hl
  ·rename_i rs hf
   split at hl
   ·rename_i res' hj
    cases hl
    exact zpv (zmU hr hf) hj
   ·cases hl
  ·cases hl
 have hlen:∀(l:List AV),(zgM Z l).length=l.length:=fun l=>by induction l with
  |nil=>rfl
  |cons x l ih=>simp only[zgM,List.length_cons,ih]
 have hget:∀(l:List AV) (i:Nat) (y:AV),zkx Z r l=true→(zgM Z l)[i]? =some y→∃x,l[i]? =some x∧y=zmO Z x∧zmR Z r x=true:=fun l=>by
  induction l with
  |nil=>intro i y _ h;simp[zgM]at h
  |cons x l ih=>
   intro i y hc h
   simp only[zkx,Bool.and_eq_true]at hc
   cases i with
   |zero=>simp only[zgM,List.getElem?_cons_zero,Option.some.injEq]at h;exact⟨x,rfl,h.symm,hc.1⟩
   |succ i=>simpa using ih i y hc.2 (by simpa[zgM]using h)
 refine⟨β, ?_⟩
 refine {sz:=by rw[hh.sz];exact(hlen v).symm,df:=hh.df,sl:=fun i y hi=> ?_,rs:=fun s j res hl=> ?_,inj:=fun s j res s' j' res' b o o' h1 f1 h2 f2 hb1 hb2=> ?_,
          fr:=fun s j res b o hl hf hb=> ?_,n0:=hh.n0,old:=hh.old,a0:=hh.a0,bor:=hh.bor,ob:=fun p b hm=> ?_,rw:=fun p n u hm=> ?_,os:=hh.os,out:=hh.out}
 ·obtain⟨x,h1,rfl,h3⟩:=hget v i y hv hi
  obtain⟨u,g1,g2⟩:=hh.sl i x h1
  exact⟨u,g1,zou h3 g2⟩
 ·obtain⟨res0,h0,rfl⟩:=hlk hl
  obtain⟨g1,g2⟩:=hh.rs s j res0 h0
  refine⟨zr4 (hO h0) g1, ?_⟩
  rw[ziU]
  exact zpt (h:=⟨s,j,res0.e⟩) g2
 ·obtain⟨r1,e1,rfl⟩:=hlk h1
  obtain⟨r2,e2,rfl⟩:=hlk h2
  exact hh.inj _ _ _ _ _ _ _ _ _ e1 (by rwa[zed]at f1) e2 (by rwa[zed]at f2) hb1 hb2
 ·obtain⟨r1,e1,rfl⟩:=hlk hl
  rw[zed]at hf
  rw[zqQ]
  exact hh.fr _ _ _ _ _ e1 hf hb
 ·obtain⟨h1,h2⟩:=hh.ob p b hm
  refine⟨?_,fun res hg=> ?_⟩
  ·rw[zor]
   split
   ·exact h1
   ·have:(findR p r).isSome=true:=by
     unfold nxt at h1
     cases hf:findR p r with
     |none=>rw[hf]at h1;simp at h1
     |some _=>rfl
    rw[if_pos this]
    decide
  ·obtain⟨e1,e2⟩:=zac hg
   obtain⟨r1,e3,rfl⟩:=hlk e1
   rw[ziU]at e2
   simp only at e2
   unfold epZ at e2
   split at e2
   ·exact h2 r1 (zaq e3 e2)
   ·simp at e2
 ·have:=hh.rw p n u hm
  simp only[ReC]at this⊢
  obtain⟨h1,h2,h3⟩:=this
  refine⟨h1, ?_,fun res hg=> ?_⟩
  ·rw[zor]
   split
   ·exact h2
   ·have:(findR p r).isSome=true:=by
     unfold nxt at h2
     cases hf:findR p r with
     |none=>rw[hf]at h2;simp at h2
     |some _=>rfl
    rw[if_pos this]
    decide
  ·obtain⟨e1,e2⟩:=zac hg
   obtain⟨r1,e3,rfl⟩:=hlk e1
   rw[ziU]at e2
   simp only at e2
   unfold epZ at e2
   split at e2
   ·exact zot (h3 r1 (zaq e3 e2))
   ·simp at e2
def fgc (Z:List Nat) (r:Rs):List AV→List AV→Prop
 |[],[]=>True
 |x::xs,y::ys=>(y= .one .dead∨(zmR Z r x=true∧zmO Z x=y))∧fgc Z r xs ys
 |_,_=>False
theorem zjl {Z:List Nat} {r:Rs}:fgc Z r [] []=True:=rfl
theorem zhe {Z:List Nat} {r:Rs} {x:AV} {xs ys:List AV}:fgc Z r (x::xs) (.one .dead::ys)=fgc Z r xs ys:=by simp[fgc]
theorem zmV {Z:List Nat} {r:Rs} {x y:D} {xs ys:List AV}:fgc Z r (.one (.d x)::xs) (.one (.d y)::ys)=(x=y∧fgc Z r xs ys):=by simp[fgc,zmO,zkw,zmR,zps]
theorem zhf {Z:List Nat} {r:Rs} {n:Nat} {x:List D} {xs ys:List AV}:fgc Z r (.one (.lent n x)::xs) (.one (.lent n x)::ys)=fgc Z r xs ys:=by simp[fgc,zmO,zkw,zmR,zps]
theorem zjm {Z:List Nat} {r:Rs} {h h':Hd} {o:Nat} {xs ys:List AV}:fgc Z r (.one (.ptr h o)::xs) (.one (.ptr h' o)::ys)=((zu5 Z r h=true∧(⟨h.s,h.j,epZ Z h.s h.e⟩:Hd)=h')∧fgc Z r xs ys):=by simp[fgc,zmO,zkw,zmR,zps]
theorem zjn {Z:List Nat} {r:Rs} {h h':Hd} {o n m:Nat} {xs ys:List AV}:fgc Z r (.one (.own h o n)::xs) (.one (.own h' o m)::ys)=((zu5 Z r h=true∧(⟨h.s,h.j,epZ Z h.s h.e⟩:Hd)=h'∧n=m)∧fgc Z r xs ys):=by simp[fgc,zmO,zkw,zmR,zps]
theorem zwW {Z:List Nat} {r:Rs} {h h':Hd} {n m:Nat} {x y:Value} {xs ys:List AV}:fgc Z r (.one (.lk h n x)::xs) (.one (.lk h' m y)::ys)=((zu5 Z r h=true∧(⟨h.s,h.j,epZ Z h.s h.e⟩:Hd)=h'∧n=m∧x=y)∧fgc Z r xs ys):=by simp[fgc,zmO,zkw,zmR,zps]
theorem ziV {Z:List Nat} {r:Rs} {x y:AV} {xs ys:List AV} (h1:zmR Z r x=true) (h2:zmO Z x=y):fgc Z r (x::xs) (y::ys)=fgc Z r xs ys:=by
 simp[fgc,h1,h2]
theorem zr5 {Z:List Nat} {r:Rs}:∀{v v':List AV},fgc Z r v v'→∃v1,fgt v v1∧zkx Z r v1=true∧zgM Z v1=v'
 |[],[],_=>⟨[],trivial,rfl,rfl⟩
 |x::xs,y::ys,h=>by
  obtain⟨h1,h2⟩:=h
  obtain⟨v1,g1,g2,g3⟩:=zr5 h2
  rcases h1 with rfl|⟨h1,rfl⟩
  ·exact⟨.one .dead::v1,⟨.inl rfl,g1⟩,by simp[zkx,zmR,zps,g2],by simp[zgM,zmO,zkw,g3]⟩
  ·exact⟨x::v1,⟨.inr rfl,g1⟩,by simp[zkx,h1,g2],by simp[zgM,g3]⟩
 |[],_::_,h=>h.elim
 |_::_,[],h=>h.elim
theorem Gh.canon (keep adds Z:List Nat) {v v':List AV} {r r':Rs} (h:fgc Z (zc9 keep r++adds.map fun s=>(s,(⟨0,[]⟩:RS))) v v')
  (hc:zzI Z (zc9 keep r++adds.map fun s=>(s,(⟨0,[]⟩:RS))) (zc9 keep r++adds.map fun s=>(s,(⟨0,[]⟩:RS)))=true)
  (hr:zmP Z (zc9 keep r++adds.map fun s=>(s,(⟨0,[]⟩:RS)))=r'):Gh ⟨v,r⟩ ⟨v',r'⟩:=by
 obtain⟨v1,h1,h2,h3⟩:=zr5 h
 subst hr h3
 exact(Gh.keep keep adds h1 rfl).trans (Gh.can Z h2 hc)
def zzK (r:Rs) (s k sz:Nat):Rs:=
 match findR s r with
 |some rs=>(match rs.l[0]? with
  |some (some V)=>setR s ⟨rs.next+1,(rs.l.set (k+1) (some {e:=rs.next,var:=false,fz:=false,sz,cells:=[]})).set 0 (some {V with cells:=V.cells.set k (.own ⟨s,k+1,rs.next⟩ 0 0)})⟩ r
  |_=>r)
 |none=>r
def zr6:Option C→Bool
 |some (.d (.v (.slice none 0 0)))=>true
 |_=>false
def zwX (r:Rs) (s k:Nat):Bool:=
 match findR s r with
 |some rs=>(match rs.l[0]?,rs.l[k+1]? with
  |some (some V),some none=>V.var&&zr6 V.cells[k]?
  |_,_=>false)
 |none=>false
theorem zr7 {x:Option C} (h:zr6 x=true):x=some (.d (.v (.slice none 0 0))):=by
 unfold zr6 at h
 split at h
 ·rfl
 ·cases h
theorem Gh.nilF {v:List AV} {r:Rs} (s k sz:Nat) (hok:zwX r s k=true):Gh ⟨v,r⟩ ⟨v,zzK r s k sz⟩:=fun cx a w ⟨β,hh⟩=>by
 unfold zwX at hok
 unfold zzK
 cases hf:findR s r with
 |none=>rw[hf]at hok;cases hok
 |some rs=>
  rw[hf]at hok
  simp only at hok⊢
  split at hok
  case h_2=>cases hok
  case h_1 V h0 hk=>
   simp only[Bool.and_eq_true]at hok
   obtain⟨hv,hn⟩:=hok
   have hn:=zr7 hn
   simp only[h0]
   have hnx:nxt r s=rs.next:=by unfold nxt;rw[hf]
   have hklt:k+1<rs.l.length:=(List.getElem?_eq_some_iff.1 hk).1
   let row:Res:={e:=rs.next,var:=false,fz:=false,sz,cells:=[]}
   let r1:Rs:=setR s ⟨rs.next+1,rs.l.set (k+1) (some row)⟩ r
   let β':Nat→Nat→Pl:=fun s' j'=>if s'=s∧j'=k+1 then⟨none,0⟩else β s' j'
   have hβ0:β' s (k+1)=⟨none,0⟩:=by simp[β']
   have hβ1:∀s' j',¬(s'=s∧j'=k+1)→β' s' j'=β s' j':=fun s' j' hn=>by simp[β',hn]
   have hl:∀s' j' res,lookR r1 s' j'=some res→(s'=s∧j'=k+1∧res=row)∨(¬(s'=s∧j'=k+1)∧lookR r s' j'=some res):=fun s' j' res hl=>by
    simp only[r1]at hl
    rw[zaz]at hl
    by_cases hs:s=s'
    ·subst hs
     rw[if_pos rfl]at hl
     simp only[List.getElem?_set]at hl
     by_cases hj:k+1=j'
     ·subst hj
      rw[if_pos rfl,if_pos hklt]at hl
      simp only[Option.some.injEq]at hl
      exact .inl ⟨rfl,rfl,hl.symm⟩
     ·rw[if_neg hj]at hl
      refine .inr ⟨fun h=>hj h.2.symm, ?_⟩
      unfold lookR
      rw[hf]
      exact hl
    ·rw[if_neg hs]at hl
     exact .inr ⟨fun h=>hs h.1.symm,hl⟩
   have hx:Ext cx w r β w r1 β':=by
    refine⟨fun t=> ?_,fun hd res' hlt hg=> ?_,⟨fun _ _ _=>rfl,fun b _ hA=> ?_⟩,fun _ _ _=>rfl,rfl,rfl⟩
    ·simp only[r1]
     rw[zaM]
     split
     ·rename_i e;subst e;rw[hnx];exact Nat.le_succ _
     ·exact Nat.le_refl _
    ·obtain⟨e1,e2⟩:=zac hg
     rcases hl _ _ _ e1 with⟨q1,q2,q3⟩|⟨q1,q2⟩
     ·subst q3
      rw[q1,hnx]at hlt
      simp only[row]at e2
      omega
     ·exact⟨res',zaq q2 e2,hβ1 _ _ q1,rfl,rfl,Nat.le_refl _⟩
    ·rcases hA with hA|⟨t,j,res,o,e1,e2,e3⟩
     ·exact .inl hA
     ·rcases hl _ _ _ e1 with⟨q1,q2,q3⟩|⟨q1,q2⟩
      ·rw[q1,q2,hβ0]at e3;cases e3
      ·rw[hβ1 _ _ q1]at e3
       exact .inr ⟨t,j,res,o,q2,e2,e3⟩
   have h1:Holds cx ⟨v,r1⟩ a w β':=hh.mk' hx (fun t j res e1=>by
     rcases hl _ _ _ e1 with⟨q1,q2,q3⟩|⟨q1,q2⟩
     ·subst q1;subst q2;subst q3
      rw[hβ0]
      refine⟨zdf (ds:=[]) rfl rfl rfl (by simp[RowM]), ?_⟩
      simp only[r1]
      rw[zaM,if_pos rfl]
      exact Nat.lt_succ_self _
     ·obtain⟨g1,g2⟩:=hh.rs _ _ _ q2
      rw[hβ1 _ _ q1]
      exact⟨g1.ext hx (fun _ _ _=>rfl) (fun b o hb=>g1.lt hb),Nat.lt_of_lt_of_le g2 (hx.nx t)⟩)
    (fun t j res t' j' res' b o o' e1 f1 e2 f2 b1 b2=>by
     rcases hl _ _ _ e1 with⟨q1,q2,q3⟩|⟨q1,q2⟩
     ·rw[q1,q2,hβ0]at b1;cases b1
     ·rcases hl _ _ _ e2 with⟨p1,p2,p3⟩|⟨p1,p2⟩
      ·rw[p1,p2,hβ0]at b2;cases b2
      ·rw[hβ1 _ _ q1]at b1
       rw[hβ1 _ _ p1]at b2
       exact hh.inj _ _ _ _ _ _ _ _ _ q2 f1 p2 f2 b1 b2)
    (fun t j res b o e1 f1 b1=>by
     rcases hl _ _ _ e1 with⟨q1,q2,q3⟩|⟨q1,q2⟩
     ·rw[q1,q2,hβ0]at b1;cases b1
     ·rw[hβ1 _ _ q1]at b1
      exact hh.fr _ _ _ _ _ q2 f1 b1) (Nat.le_refl _)
   have hlk0:lookR r s 0=some V:=by unfold lookR;simp only[hf,h0]
   have hok0:=(hh.rs _ _ _ hlk0).1
   unfold ResOK at hok0
   rw[if_pos hv]at hok0
   obtain⟨p0,b,arr,e,p1,p2,p3,p4⟩:=hok0
   obtain⟨u,hu1,hu2⟩:=zbF p3 hn
   have hu:=(zbE.1 hu2).1
   subst hu
   have hfr:findR s r1=some ⟨rs.next+1,rs.l.set (k+1) (some row)⟩:=by simp only[r1];rw[zaf,if_pos rfl]
   obtain⟨β2,t1,t2,t3⟩:=h1.recell (next':=rs.next+1) (x:= .own ⟨s,k+1,rs.next⟩ 0 0) (V:=V) (k:=k) (b:=b) (cs:=arr) (e:=e) (u:= .slice none 0 0) hfr
    (by simp only[List.getElem?_set_ne (show k+1≠0 by omega),h0]) hv (by rw[hβ1 s 0 (by omega)];exact p1) p2 (by simpa using hu1) (by
     simp only[ReC]
     refine⟨rfl, ?_,fun res hr=> ?_⟩
     ·simp only[r1]
      rw[zaM,if_pos rfl]
      exact Nat.lt_succ_self _
     ·obtain⟨e1,e2⟩:=zac hr
      rcases hl _ _ _ e1 with⟨q1,q2,q3⟩|⟨q1,q2⟩
      ·subst q3
       rw[hβ0]
       exact⟨rfl,by simp,Nat.le_refl _,none,rfl, .inl rfl⟩
      ·exact absurd ⟨rfl,rfl⟩ q1) (Nat.le_refl _)
   refine⟨β2,t1.congr fun t=> ?_⟩
   simp only[r1]
   rw[zaf,zaf,zaf]
   split
   ·rfl
   ·rfl
def zpw (r:Rs) (s k:Nat) (x:C):Rs:=
 match sealC r x with
 |some (d,r')=>(match findR s r' with
  |some rs=>(match rs.l[0]? with
   |some (some V)=>setR s ⟨rs.next,rs.l.set 0 (some {V with cells:=V.cells.set k (.d d)})⟩ r'
   |_=>r)
  |none=>r)
 |none=>r
def zlM (r:Rs) (s k:Nat) (x:C):Prop:=
 match sealC r x with
 |some (_,r')=>(match findR s r' with
  |some rs=>(match rs.l[0]? with
   |some (some V)=>V.var=true∧V.cells[k]? =some x
   |_=>False)
  |none=>False)
 |none=>False
theorem Gh.sealF {v:List AV} {r:Rs} (s k:Nat) (x:C) (hok:zlM r s k x):Gh ⟨v,r⟩ ⟨v,zpw r s k x⟩:=fun cx a w ⟨β,hh⟩=>by
 unfold zlM at hok
 unfold zpw
 cases hs:sealC r x with
 |none=>rw[hs]at hok;exact hok.elim
 |some p=>
  obtain⟨d,r'⟩:=p
  rw[hs]at hok
  simp only at hok⊢
  cases hf:findR s r' with
  |none=>rw[hf]at hok;exact hok.elim
  |some rs=>
   rw[hf]at hok
   simp only at hok⊢
   split at hok
   case h_2=>exact hok.elim
   case h_1 V h0=>
    obtain⟨hv,hk⟩:=hok
    try simp only[h0]
    have hlk':lookR r' s 0=some V:=by unfold lookR;simp only[hf,h0]
    have hlk:∃V0,lookR r s 0=some V0∧V0.var=true∧V0.cells=V.cells∧V0.e=V.e:=by
     have hlk2:=hlk'
     unfold sealC at hs
     split at hs
     ·cases hs;exact⟨V,hlk',hv,rfl,rfl⟩
     ·rename_i hd lo n
      split at hs
      ·rename_i res rs0 g1 g2
       split at hs
       ·cases hs
       ·split at hs
        ·cases hs
         rw[zaz]at hlk2
         by_cases hss:hd.s=s
         ·rw[if_pos hss]at hlk2
          simp only[List.getElem?_set]at hlk2
          by_cases hj:hd.j=0
          ·rw[if_pos hj]at hlk2
           obtain⟨e1,e2⟩:=zac g1
           have e3:=zcz e1 g2
           have hlt:hd.j<rs0.l.length:=(List.getElem?_eq_some_iff.1 e3).1
           rw[if_pos (by omega)]at hlk2
           simp only[Option.some.injEq]at hlk2
           refine⟨res,by rw[←hss,←hj];exact e1,by rw[←hlk2]at hv;exact hv,by rw[←hlk2],by rw[←hlk2]⟩
          ·rw[if_neg hj]at hlk2
           refine⟨V, ?_,hv,rfl,rfl⟩
           unfold lookR
           rw[←hss,g2]
           exact hlk2
         ·rw[if_neg hss]at hlk2
          exact⟨V,hlk2,hv,rfl,rfl⟩
        ·cases hs
      ·cases hs
     ·cases hs
    obtain⟨V0,q1,q2,q3,q4⟩:=hlk
    obtain⟨hok0,hlt0⟩:=hh.rs _ _ _ q1
    unfold ResOK at hok0
    rw[if_pos q2]at hok0
    obtain⟨p0,b,arr,e,p1,p2,p3,p4⟩:=hok0
    rw[q3]at p3
    obtain⟨u,hu1,hu2⟩:=zbF p3 hk
    obtain⟨β1,h1,x1,hd1⟩:=zl8 hh hs hu2
    obtain⟨_,_,hβ,_⟩:=x1.old ⟨s,0,V.e⟩ V (by rw[←q4];exact hlt0) (zaq hlk' rfl)
    obtain⟨β2,t1,t2,t3⟩:=h1.recell (next':=rs.next) (x:= .d d) (V:=V) (k:=k) (b:=b) (cs:=arr) (e:=e) (u:=u) hf h0 hv (by
     rw[show β1 s 0=β s 0 from hβ];exact p1) p2 (by simpa using hu1) (by simp only[ReC];exact hd1) (Nat.le_refl _)
    exact⟨β2,t1⟩
abbrev iD (n:Int):D:= .v (.int .i64 n)
abbrev uD (n:Int):D:= .v (.int .u8 n)
abbrev bD (b:Bool):D:= .v (.bool b)
abbrev sD (s:ByteArray):D:= .v (.string s)
abbrev di (n:Int):C:= .d (.v (.int .i64 n))
abbrev db (n:Bool):C:= .d (.v (.bool n))
abbrev dS (s:ByteArray):C:= .d (.v (.string s))
abbrev ai (n:Int):AV:= .one (.d (.v (.int .i64 n)))
abbrev au (n:Int):AV:= .one (.d (.v (.int .u8 n)))
abbrev ast (s:ByteArray):AV:= .one (.d (.v (.string s)))
abbrev ab (b:Bool):AV:= .one (.d (.v (.bool b)))
abbrev rb (b:Bool):RF:= .one (.d (.v (.bool b)))
abbrev ri (n:Int):RF:= .one (.d (.v (.int .i64 n)))
abbrev dd:AV:= .one .dead
def dq2 (l:List AV):List AV:=dd::dd::l
def dq3 (l:List AV):List AV:=dd::dq2 l
def dq4 (l:List AV):List AV:=dd::dq3 l
def dq5 (l:List AV):List AV:=dd::dq4 l
def dq6 (l:List AV):List AV:=dd::dq5 l
def dq7 (l:List AV):List AV:=dd::dq6 l
def dq8 (l:List AV):List AV:=dd::dq7 l
def dq9 (l:List AV):List AV:=dd::dq8 l
def zr8 (l:List AV):List AV:=dd::dq9 l
def zzM (l:List AV):List AV:=dd::zr8 l
def zrP (l:List AV):List AV:=dd::zzM l
def zuO (l:List AV):List AV:=dd::zrP l
def zxT (l:List AV):List AV:=dd::zuO l
def zAE (l:List AV):List AV:=dd::zxT l
def zAF (l:List AV):List AV:=dd::zAE l
def zxU (l:List AV):List AV:=dd::zAF l
def zu6 (l:List AV):List AV:=dd::zxU l
def zzn (l:List AV):List AV:=dd::zu6 l
def zr9 (l:List AV):List AV:=dd::zzn l
def zov (l:List AV):List AV:=dd::zr9 l
def zxV (l:List AV):List AV:=dd::zov l
def zAU (l:List AV):List AV:=dd::zxV l
def zzN (l:List AV):List AV:=dd::zAU l
def zzO (l:List AV):List AV:=dd::zzN l
def zxW (l:List AV):List AV:=dd::zzO l
def zzP (l:List AV):List AV:=dd::zxW l
def zu7 (l:List AV):List AV:=dd::zzP l
def zzo (l:List AV):List AV:=dd::zu7 l
def zxX (l:List AV):List AV:=dd::zzo l
def zzQ (l:List AV):List AV:=dd::zxX l
def zwY (l:List AV):List AV:=dd::zzQ l
def zAG (l:List AV):List AV:=dd::zwY l
def zAH (l:List AV):List AV:=dd::zAG l
def zxY (l:List AV):List AV:=dd::zAH l
def zAV (l:List AV):List AV:=dd::zxY l
def zAI (l:List AV):List AV:=dd::zAV l
def zAW (l:List AV):List AV:=dd::zAI l
def zzp (l:List AV):List AV:=dd::zAW l
def zez (l:List AV):List AV:=dd::zzp l
def ptq (s:Nat):AV:= .one (.ptr ⟨s,0,1⟩ 0)
def obq (e:Nat) (cs:List C):Option Res:=some {e:=e,var:=true,fz:=false,sz:=0,cells:=cs}
def roq (e sz:Nat) (ds:List D):Option Res:=some {e:=e,var:=false,fz:=false,sz:=sz,cells:=ds.map C.d}
theorem ddE:(∀l,dq2 l=dd::dd::l)∧(∀l,dq3 l=dd::dq2 l)∧(∀l,dq4 l=dd::dq3 l)∧(∀l,dq5 l=dd::dq4 l)∧(∀l,dq6 l=dd::dq5 l)∧(∀l,dq7 l=dd::dq6 l)∧(∀l,dq8 l=dd::dq7 l)∧(∀l,dq9 l=dd::dq8 l)∧(∀l,zr8 l=dd::dq9 l)∧(∀l,zzM l=dd::zr8 l)∧(∀l,zrP l=dd::zzM l)∧(∀l,zuO l=dd::zrP l)∧(∀l,zxT l=dd::zuO l)∧(∀l,zAE l=dd::zxT l)∧(∀l,zAF l=dd::zAE l)∧(∀l,zxU l=dd::zAF l)∧(∀l,zu6 l=dd::zxU l)∧(∀l,zzn l=dd::zu6 l)∧(∀l,zr9 l=dd::zzn l)∧(∀l,zov l=dd::zr9 l)∧(∀l,zxV l=dd::zov l)∧(∀l,zAU l=dd::zxV l)∧(∀l,zzN l=dd::zAU l)∧(∀l,zzO l=dd::zzN l)∧(∀l,zxW l=dd::zzO l)∧(∀l,zzP l=dd::zxW l)∧(∀l,zu7 l=dd::zzP l)∧(∀l,zzo l=dd::zu7 l)∧(∀l,zxX l=dd::zzo l)∧(∀l,zzQ l=dd::zxX l)∧(∀l,zwY l=dd::zzQ l)∧(∀l,zAG l=dd::zwY l)∧(∀l,zAH l=dd::zAG l)∧(∀l,zxY l=dd::zAH l)∧(∀l,zAV l=dd::zxY l)∧(∀l,zAI l=dd::zAV l)∧(∀l,zAW l=dd::zAI l)∧(∀l,zzp l=dd::zAW l)∧(∀l,zez l=dd::zzp l)∧(∀s,ptq s= .one (.ptr ⟨s,0,1⟩ 0))∧(∀e cs,obq e cs=some {e:=e,var:=true,fz:=false,sz:=0,cells:=cs})∧(∀e sz ds,roq e sz ds=some {e:=e,var:=false,fz:=false,sz:=sz,cells:=ds.map C.d}):=
 ⟨fun _=>rfl,fun _=>rfl,fun _=>rfl,fun _=>rfl,fun _=>rfl,fun _=>rfl,fun _=>rfl,fun _=>rfl,fun _=>rfl,fun _=>rfl,fun _=>rfl,fun _=>rfl,fun _=>rfl,fun _=>rfl,fun _=>rfl,fun _=>rfl,fun _=>rfl,fun _=>rfl,fun _=>rfl,fun _=>rfl,fun _=>rfl,fun _=>rfl,fun _=>rfl,fun _=>rfl,fun _=>rfl,fun _=>rfl,fun _=>rfl,fun _=>rfl,fun _=>rfl,fun _=>rfl,fun _=>rfl,fun _=>rfl,fun _=>rfl,fun _=>rfl,fun _=>rfl,fun _=>rfl,fun _=>rfl,fun _=>rfl,fun _=>rfl,fun _=>rfl,fun _ _=>rfl,fun _ _ _=>rfl⟩
abbrev zEa:AV:= .one (.d (.v (.slice none 0 0)))
abbrev al (n:Nat) (ds:List D):AV:= .one (.lent n ds)
abbrev zbx:Int:=2305843009213693952
def i64 (n:Int):Prop:= -9223372036854775808≤n∧n<9223372036854775808
structure Req where
 client:Int
 seq:Int
 kind:Int
 session:Int
 name:ByteArray
abbrev Req.enc (r:Req):List D:=[iD r.client,iD r.seq,iD r.kind,iD r.session,sD r.name]
def Req.ok (r:Req):Prop:=i64 r.client∧i64 r.seq∧i64 r.kind∧i64 r.session∧r.name.size<2^62
structure Tip where
 view:Int
 slot:Int
 deriving DecidableEq
structure Batch where
 fill:Bool
 view:Int
 tip:Tip
 time:Int
 reqs:List Req
abbrev zbS (l:List Req):List D:=l.flatMap Req.enc
abbrev Batch.enc (b:Batch):List D:=[bD b.fill,iD b.view,iD b.tip.view,iD b.tip.slot,iD b.time, .sl b.reqs.length (zbS b.reqs)]
abbrev Batch.lent (b:Batch):List C:=[db b.fill,di b.view,di b.tip.view,di b.tip.slot,di b.time, .lent b.reqs.length (zbS b.reqs)]
def Batch.ok (b:Batch):Prop:=i64 b.view∧i64 b.tip.view∧i64 b.tip.slot∧i64 b.time∧b.reqs.length<2^42∧∀r∈b.reqs,r.ok
structure Vote where
 slot:Int
 ballot:Int
 batch:Batch
abbrev Vote.enc (v:Vote):List D:=iD v.slot::iD v.ballot::v.batch.enc
def Vote.ok (v:Vote):Prop:=i64 v.slot∧i64 v.ballot∧v.batch.ok
structure Prom where
 src:Int
 done:Int
 tip:Tip
 time:Int
 votes:List Vote
abbrev zbo (l:List Vote):List D:=l.flatMap Vote.enc
abbrev Prom.enc (p:Prom):List D:=[iD p.src,iD p.done,iD p.tip.view,iD p.tip.slot,iD p.time, .sl p.votes.length (zbo p.votes)]
abbrev Prom.lent (p:Prom):List C:=[di p.src,di p.done,di p.tip.view,di p.tip.slot,di p.time, .lent p.votes.length (zbo p.votes)]
def Prom.ok (p:Prom):Prop:=i64 p.src∧i64 p.done∧i64 p.tip.view∧i64 p.tip.slot∧i64 p.time∧p.votes.length<2^42∧∀v∈p.votes,v.ok
abbrev zmW (l:List Prom):List D:=l.flatMap Prom.enc
abbrev zpx (l:List Batch):List D:=l.flatMap Batch.enc
theorem zfC {l:List Req} {i:Nat} (hi:i<l.length):(zbS l).drop (i*5)=l[i].enc++(zbS (l.drop (i+1))):=zda _ 5 l i hi fun _=>rfl
theorem ziW {l:List Vote} {i:Nat} (hi:i<l.length):(zbo l).drop (i*8)=l[i].enc++(zbo (l.drop (i+1))):=zda _ 8 l i hi fun _=>rfl
theorem zaP {l:List Req}:(zbS l).length=l.length*5:=zcM _ 5 (fun _=>rfl) l
theorem zaN {l:List Vote}:(zbo l).length=l.length*8:=zcM _ 8 (fun _=>rfl) l
theorem zBi {n:Nat}:sub 0 0 n []=[]:=by simp[sub]
theorem zwZ {x0:C}:sub 0 1 1 [x0]=[x0]:=rfl
theorem zw0 {x0 x1:C}:sub 0 1 2 [x0,x1]=[x0,x1]:=rfl
theorem zw2 {x0 x1 x2:C}:sub 0 1 3 [x0,x1,x2]=[x0,x1,x2]:=rfl
theorem zw3 {x0 x1 x2 x3:C}:sub 0 1 4 [x0,x1,x2,x3]=[x0,x1,x2,x3]:=rfl
theorem zw4 {x0 x1 x2 x3 x4:C}:sub 0 1 5 [x0,x1,x2,x3,x4]=[x0,x1,x2,x3,x4]:=rfl
theorem zw5 {x0 x1 x2 x3 x4 x5:C}:sub 0 1 6 [x0,x1,x2,x3,x4,x5]=[x0,x1,x2,x3,x4,x5]:=rfl
theorem zw6 {x0 x1 x2 x3 x4 x5 x6:C}:sub 0 1 7 [x0,x1,x2,x3,x4,x5,x6]=[x0,x1,x2,x3,x4,x5,x6]:=rfl
theorem zw7 {x0 x1 x2 x3 x4 x5 x6 x7:C}:sub 0 1 8 [x0,x1,x2,x3,x4,x5,x6,x7]=[x0,x1,x2,x3,x4,x5,x6,x7]:=rfl
theorem reqsE_snoc {l:List Req} {r:Req}:zbS (l++[r])=zbS l++r.enc:=by simp[zbS]
theorem votesE_snoc {l:List Vote} {r:Vote}:zbo (l++[r])=zbo l++r.enc:=by simp[zbo]
theorem zcT {α β:Type} (enc:α→List β) (sz:Nat) (h:∀x,(enc x).length=sz) (l:List α):(l.flatMap enc).take (l.length*sz)=l.flatMap enc:=List.take_of_length_le (Nat.le_of_eq (zcM enc sz h l))
theorem reqs_take {l:List Req}:(zbS l).take (l.length*5)=zbS l:=zcT Req.enc 5 (fun _=>rfl) l
theorem votes_take {l:List Vote}:(zbo l).take (l.length*8)=zbo l:=zcT Vote.enc 8 (fun _=>rfl) l
theorem zhg {l:List Prom}:(zmW l).take (l.length*6)=zmW l:=zcT Prom.enc 6 (fun _=>rfl) l
theorem zit {l:List Batch}:(zpx l).take (l.length*6)=zpx l:=zcT Batch.enc 6 (fun _=>rfl) l
section
variable {T:Nat→Option TI} {P:Program}
theorem zcj {x y:Code} {g:G} {Q:Ex→G→Prop} (h:awp T P x g Q):ztg T P (.one (.d (.v (.bool true)))) True x y g Q:=⟨trivial,fun _=>h,fun h=>(by cases h)⟩
theorem zck {x y:Code} {g:G} {Q:Ex→G→Prop} (h:awp T P y g Q):ztg T P (.one (.d (.v (.bool false)))) True x y g Q:=⟨trivial,fun h=>(by cases h),fun _=>h⟩
end
theorem zw8:Go.Pk.bad.x= .one .dead:=rfl
theorem pkX:type_of% (I (I (I (I (@zBi) (I (Nat.sub_zero) (@reqs_take))) (I (@votes_take) (I (@zhg) (@zit)))) (I (I (Bool.true_beq) (I (Bool.false_beq) (@zbr))) (I (@zde) (I (Nat.zero_mul) (Nat.one_mul))))) (I (I (I (Nat.mul_one) (I (@List.drop_zero.{0}) (@List.length_map.{0,0}))) (I (@zwZ) (I (@zw0) (@zw2)))) (I (I (@zw3) (I (@zw4) (@zw5))) (I (I (@zw6) (@zw7)) (I (Int.toNat_zero) (Int.toNat_one)))))):=I (I (I (I (@zBi) (I (Nat.sub_zero) (@reqs_take))) (I (@votes_take) (I (@zhg) (@zit)))) (I (I (Bool.true_beq) (I (Bool.false_beq) (@zbr))) (I (@zde) (I (Nat.zero_mul) (Nat.one_mul))))) (I (I (I (Nat.mul_one) (I (@List.drop_zero.{0}) (@List.length_map.{0,0}))) (I (@zwZ) (I (@zw0) (@zw2)))) (I (I (@zw3) (I (@zw4) (@zw5))) (I (I (@zw6) (@zw7)) (I (Int.toNat_zero) (Int.toNat_one)))))
def Stop (p:Prop):Prop:=p
theorem zbh (n:Nat) {T:Nat→Option TI} {P:Program} {ops:Array Oper} {d:Bool} {y:Code} {Q:Ex→G→Prop} {g:G} (h:Stop (zh8 T P (.seq (.region n ops d) y) Q .normal g)):
  zh8 T P (.seq (.region n ops d) y) Q .normal g:=h
theorem zsa {T:Nat→Option TI} {P:Program} {y:Code} {Q:Ex→G→Prop} {g g':G} (h:Gh g g') (hk:awp T P y g' Q):Stop (zh8 T P y Q .normal g):= .inl ⟨g',h,hk⟩
def zgC (n:Nat):Code→Option Code
 | .seq (.region m ops d) y=>if m==n then some (.seq (.region m ops d) y)else zgC n y
 | .seq a y=>(zgC n a).or (zgC n y)
 | .cond _ a b=>(zgC n a).or (zgC n b)
 | .block _ b=>zgC n b
 | .loop b=>zgC n b
 | .scope b=>zgC n b
 |_=>none
theorem zbQ {s:Sh} {ss:List Sh} {dss:List (List D)} (h:znc (s::ss) dss):∃d ds,dss=d::ds∧ShD s d∧znc ss ds:=by
 cases dss with
 |nil=>exact h.elim
 |cons d ds=>exact⟨d,ds,rfl,h.1,h.2⟩
theorem zmX {dss:List (List D)} (h:znc [] dss):dss=[]:=by
 cases dss with
 |nil=>rfl
 |cons d ds=>exact h.elim
section
variable {T:Nat→Option TI}
end
theorem Rd.sub {w:World} {A A':Nat→Prop} (h:∀b,A' b→A b) {d:D} {u:Value} (hd:Rd w A d u):Rd w A' d u:=
 hd.stb (⟨fun _ _ _=>rfl,fun b _ hb=>h b hb⟩:Stb w A w A')
theorem RowM.take {w:World} {A A':Nat→Prop} (h:∀b,A' b→A b) {pl:Pl} {sz:Nat} {ds xs:List D} (hm:RowM w A pl sz (ds++xs)):RowM w A' pl sz ds:=by
 unfold RowM at*
 split at hm
 ·exact⟨(List.append_eq_nil_iff.1 hm.1).1,hm.2⟩
 ·obtain⟨c,e,h1,h2,h3,h4⟩:=hm
  refine⟨c,e,h1,h2,by rw[List.length_append]at h3;omega,fun k d hk=> ?_⟩
  obtain⟨u,g1,g2⟩:=h4 k d (by rw[List.getElem?_append_left (List.getElem?_eq_some_iff.1 hk).1];exact hk)
  exact⟨u,g1,g2.sub h⟩
theorem CallOK.wk {P:Program} {f:FuncId} {sz0 n0 sz n:Nat} {ds0 DS:List D} {rest:List Arg}
  (h:CallOK P f (.row sz0 n0 ds0::rest) (fun r o=>∃X bo,r=[.one (.own sz n (DS++X) bo)]∧(o=[[]]∨∃y,o=[[y]]))) (hl:n*sz≤DS.length):
  CallOK P f (.row sz0 n0 ds0::rest) (fun r o=>r=[.one (.own sz n DS true)]∧o=[[]]):=by
 refine⟨h.1,fun w A0 Bor γ bs us h1 h2 h3 h4 h5 h6=> ?_⟩
 have h3':=h3
 simp only[zas]at h3'
 obtain⟨u0,bs',us',_,hbs,_,_⟩:=h3'
 refine(h.2 w A0 Bor γ bs us h1 h2 h3 h4 h5 h6).mono fun e w' ⟨rfs,objs,u,⟨X,bo,hr,ho⟩,he,hret⟩=> ?_
 refine⟨_,_,u,⟨rfl,rfl⟩,he, ?_⟩
 obtain⟨⟨γ',vs,m1,m2,m3,m4,m5,m6⟩,s1,s2,s3,s4⟩:=hret
 subst hr
 have hnb:∀b,NB γ' 0 (zbm [.one (.own sz n DS true)] [[]]) b→NB γ' 0 (zbm [.one (.own sz n (DS++X) bo)] objs) b:=fun b hb=>by
  simp only[zbm,List.flatMap_cons,List.flatMap_nil,RF.cells,List.flatten_cons,List.flatten_nil,List.append_nil,NB]at hb
  rcases hb with hb|hb
  ·simp only[zbm,List.flatMap_cons,List.flatMap_nil,RF.cells,List.append_nil,List.cons_append,List.nil_append,NB]
   exact .inl hb
  ·exact hb.elim
 refine⟨⟨γ',vs,m1, ?_, ?_,fun b hb=>m4 b (hnb b hb),fun i sz' n' ds' b o hi=> ?_, ?_⟩,s1,s2,s3,s4⟩
 ·simp only[RFvs,RFv,RF.cells]at m2⊢
  obtain⟨x,xs,g1,g2,g3⟩:=m2
  refine⟨x,xs,g1, ?_,g3⟩
  simp only[ROc]at g2⊢
  obtain⟨k1,k2,k3,k4⟩:=g2
  exact⟨hl,k2,k3.take fun b hb=>hb.imp id (hnb b),k4⟩
 ·subst hbs
  rcases ho with rfl|⟨y,rfl⟩
  ·simp only[zbV]at m3⊢
   exact⟨.inl trivial,m3.2⟩
  ·simp only[zbV]at m3⊢
   exact⟨.inl trivial,m3.2⟩
 ·intro _
  simp only[zbm,List.flatMap_cons,List.flatMap_nil,RF.cells,List.flatten_cons,List.flatten_nil,List.append_nil]at hi
  cases i with
  |zero=>simp at hi
  |succ i=>simp at hi
 ·intro i j b o o' sz1 n1 d1 b1 sz2 n2 d2 b2 hi hj
  simp only[zbm,List.flatMap_cons,List.flatMap_nil,RF.cells,List.flatten_cons,List.flatten_nil,List.append_nil]at hi hj
  intro _ _
  cases i<;>cases j<;>simp at hi hj
  rfl
def zxZ (r:Rs) (y:AV) (ys:List AV) (post:List RF→List RO→Prop):Prop:=
 match y with
 | .one (.ptr hd 0)=>match getR r hd with
  |some res=>match roCs r res.cells,avRFs r ys with
   |some l,some rfs=>res.var=true∧ndB (ownHs r (avCellss ys++res.cells))=true∧post rfs l
   |_,_=>False
  |none=>False
 |_=>False
def zw9 (T:Nat→Option TI) (rvs:List ResultVar) (post:List RF→List RO→Prop) (g:G):Prop:=
 (resAs T g.v g.r rvs).1∧match (resAs T g.v g.r rvs).2 with
  |y::ys=>zxZ g.r y ys post
  |[]=>False
def zEb (T:Nat→Option TI) (rvs:List ResultVar) (post:List RF→List RO→Prop) (e:Ex) (g:G):Prop:=
 match e with
 | .normal=>zw9 T rvs post g
 | .ret=>zw9 T rvs post g
 | .exit _=>False
 | .panic _=>False
section
variable {P:Program} {cx:Cx} {T:Nat→Option TI} {v:List AV} {r:Rs} {a:Act} {w:World} {β:Nat→Nat→Pl}
theorem CallP.le {f:FuncId} {as as':List Arg} {rfs:List RF} {l:List RO} (h:CallP P f as' rfs l) (hl:zeB as as'):CallP P f as rfs l:=
 ⟨h.1,fun w A0 us h1 h3=>h.2 w A0 us h1 (zeO hl h3).1⟩
end
def roA (a b:RO):Prop:=
 match a,b with
 | .d x, .d y=>y=x
 | .d (.v (.slice none 0 0)), .own _ n ds _=>n=0∧ds=[]
 | .own sz n ds _, .own sz' n' ds' _=>sz'=sz∧n'=n∧ds'=ds
 |_,_=>False
def zxa:List RO→List RO→Prop
 |[],[]=>True
 |a::l,b::m=>roA a b∧zxa l m
 |_,_=>False
def roB (a b:RO):Prop:=
 b=a∨match a,b with
 | .d (.v (.slice none 0 0)), .own _ n ds _=>n=0∧ds=[]
 | .d (.v (.slice none 0 0)), .d (.sl n ds)=>n=0∧ds=[]
 | .own sz n ds _, .own sz' n' ds' bo'=>sz'=sz∧n'=n∧ds'=ds∧bo'=true
 |_,_=>False
def zpy:List RO→List RO→Prop
 |[],[]=>True
 |a::l,b::m=>roB a b∧zpy l m
 |_,_=>False
def rfB:RF→RF→Prop
 | .one a, .one b=>roB a b
 | .agg l, .agg m=>zpy l m
 |_,_=>False
def zx0:List RF→List RF→Prop
 |[],[]=>True
 |a::l,b::m=>rfB a b∧zx0 l m
 |_,_=>False
def zqR:List (List RO)→List (List RO)→Prop
 |[],[]=>True
 |a::l,b::m=>zpy a b∧zqR l m
 |_,_=>False
theorem zmY:∀{a:List RO},zpy a a
 |[]=>trivial
 |x::a=>⟨.inl rfl,zmY⟩
theorem zu8 {a:RF}:rfB a a:=by cases a;exact .inl rfl;exact zmY
theorem zfb:∀{a b c d:List RO},zpy a b→zpy c d→zpy (a++c) (b++d)
 |[],[],_,_,_,h=>h
 |x::a,y::b,_,_,h,h'=>⟨h.1,zfb h.2 h'⟩
 |[],_::_,_,_,h,_=>h.elim
 |_::_,[],_,_,h,_=>h.elim
theorem zh1:∀{a b:List RF},zx0 a b→zpy (a.flatMap RF.cells) (b.flatMap RF.cells)
 |[],[],_=>trivial
 |x::a,y::b,h=>by
  simp only[List.flatMap_cons]
  refine zfb ?_ (zh1 h.2)
  cases x with
  |one x=>cases y with
   |one y=>exact⟨h.1,trivial⟩
   |agg _=>exact h.1.elim
  |agg l=>cases y with
   |one y=>exact h.1.elim
   |agg m=>exact h.1
 |[],_::_,h=>h.elim
 |_::_,[],h=>h.elim
theorem zkR:∀{a b:List (List RO)},zqR a b→zpy a.flatten b.flatten
 |[],[],_=>trivial
 |x::a,y::b,h=>by simp only[List.flatten_cons];exact zfb h.1 (zkR h.2)
 |[],_::_,h=>h.elim
 |_::_,[],h=>h.elim
theorem zgc:∀{a b:List RO},zpy a b→b.length=a.length
 |[],[],_=>rfl
 |x::a,y::b,h=>by simp[zgc h.2]
 |[],_::_,h=>h.elim
 |_::_,[],h=>h.elim
theorem zpz:∀{a b:List RO} {i:Nat} {y:RO},zpy a b→b[i]? =some y→∃x,a[i]? =some x∧roB x y
 |[],[],_,_,_,h=>by simp at h
 |x::a,y::b,0,z,h,hi=>by simp only[List.getElem?_cons_zero,Option.some.injEq]at hi;subst hi;exact⟨x,rfl,h.1⟩
 |x::a,y::b,i+1,z,h,hi=>by simpa using zpz (i:=i) h.2 (by simpa using hi)
 |[],_::_,_,_,h,_=>h.elim
 |_::_,[],_,_,h,_=>h.elim
theorem zpA:∀{a b:List RO} {i:Nat} {y:RO},zxa a b→b[i]? =some y→∃x,a[i]? =some x∧roA x y
 |[],[],_,_,_,h=>by simp at h
 |x::a,y::b,0,z,h,hi=>by simp only[List.getElem?_cons_zero,Option.some.injEq]at hi;subst hi;exact⟨x,rfl,h.1⟩
 |x::a,y::b,i+1,z,h,hi=>by simpa using zpA (i:=i) h.2 (by simpa using hi)
 |[],_::_,_,_,h,_=>h.elim
 |_::_,[],_,_,h,_=>h.elim
section
variable {P:Program} {w:World} {A0 Bor:Nat→Prop} {γ:Nat→Pl} {A A':Nat→Prop} {L:List RO}
theorem zAX {x:RO} {sz n:Nat} {ds:List D} {bo:Bool} (h:roB x (.own sz n ds bo)):(∃bo',x= .own sz n ds bo'∧(bo=false→bo'=false))∨∃y,x= .d y:=by
 rcases h with h|h
 ·exact .inl ⟨bo,h.symm,id⟩
 ·split at h
  ·exact .inr ⟨_,rfl⟩
  ·rename_i q;cases q
  ·rename_i sz0 n0 ds0 bo0 sz1 n1 ds1 bo1 q
   cases q
   obtain⟨rfl,rfl,rfl,rfl⟩:=h
   exact .inl ⟨bo0,rfl,fun h=>by cases h⟩
  ·exact h.elim
theorem zzR (hA:∀b,A' b→A b) {a b:RO} {u:Value} {i:Nat} (hi:L[i]? =some a) (h:roB a b) (hu:ROc A w (γ i) a u):ROc A' w (γN γ L i) b u:=by
 rcases h with rfl|h
 ·exact zhk hA hi hu
 ·split at h
  ·obtain⟨rfl,rfl⟩:=h
   exact zlU hi hu
  ·obtain⟨rfl,rfl⟩:=h
   exact zpH hu
  ·obtain⟨rfl,rfl,rfl,rfl⟩:=h
   have:=zhk (L:=L) (γ:=γ) hA hi hu
   simp only[ROc]at this⊢
   exact this
  ·exact h.elim
theorem zAY {a b:RO} {u:Value} {i:Nat} (hi:L[i]? =some a) (h:roA a b) (hu:ROc A w (γ i) a u):ROc A w (γN γ L i) b u:=by
 unfold roA at h
 split at h
 ·subst h
  exact zhk (fun _ h=>h) hi hu
 ·obtain⟨rfl,rfl⟩:=h
  exact zlU hi hu
 ·obtain⟨rfl,rfl,rfl⟩:=h
  have:=zhk (L:=L) (γ:=γ) (A':=A) (fun _ h=>h) hi hu
  simp only[ROc]at this⊢
  exact this
 ·exact h.elim
theorem zpB (hA:∀b,A' b→A b):∀{a b:List RO} {k:Nat} {us:List Value},(∀i x,a[i]? =some x→L[k+i]? =some x)→zpy a b→ROcs A w γ k a us→ROcs A' w (γN γ L) k b us
 |[],[],k,us,_,_,h=>h
 |x::a,y::b,k,us,hL,hl,h=>by
  simp only[ROcs]at h⊢
  obtain⟨u,us',rfl,h1,h2⟩:=h
  refine⟨u,us',rfl,zzR hA (hL 0 x rfl) hl.1 h1,zpB hA (fun i x' hi=> ?_) hl.2 h2⟩
  have:=hL (i+1) x' (by simpa using hi)
  rwa[show k+(i+1)=k+1+i by omega]at this
 |[],_::_,_,_,_,h,_=>h.elim
 |_::_,[],_,_,_,h,_=>h.elim
theorem zxb:∀{a b:List RO} {k:Nat} {us:List Value},(∀i x,a[i]? =some x→L[k+i]? =some x)→zxa a b→ROcs A w γ k a us→ROcs A w (γN γ L) k b us
 |[],[],k,us,_,_,h=>h
 |x::a,y::b,k,us,hL,hl,h=>by
  simp only[ROcs]at h⊢
  obtain⟨u,us',rfl,h1,h2⟩:=h
  refine⟨u,us',rfl,zAY (hL 0 x rfl) hl.1 h1,zxb (fun i x' hi=> ?_) hl.2 h2⟩
  have:=hL (i+1) x' (by simpa using hi)
  rwa[show k+(i+1)=k+1+i by omega]at this
 |[],_::_,_,_,_,h,_=>h.elim
 |_::_,[],_,_,_,h,_=>h.elim
theorem zxc (hA:∀b,A' b→A b):∀{a b:List RF} {k:Nat} {us:List Value},(∀i x,(a.flatMap RF.cells)[i]? =some x→L[k+i]? =some x)→zx0 a b→RFvs A w γ k a us→RFvs A' w (γN γ L) k b us
 |[],[],k,us,_,_,h=>h
 |x::a,y::b,k,us,hL,hl,h=>by
  simp only[RFvs]at h⊢
  obtain⟨u,us',rfl,h1,h2⟩:=h
  have hlen:y.cells.length=x.cells.length:=by
   cases x with
   |one x=>cases y with
    |one y=>rfl
    |agg _=>exact hl.1.elim
   |agg l=>cases y with
    |one y=>exact hl.1.elim
    |agg m=>exact zgc hl.1
  refine⟨u,us',rfl, ?_, ?_⟩
  ·have hx:∀i z,x.cells[i]? =some z→L[k+i]? =some z:=fun i z hi=>hL i z (by rw[List.flatMap_cons,List.getElem?_append_left (List.getElem?_eq_some_iff.1 hi).1];exact hi)
   cases x with
   |one x=>cases y with
    |one y=>simp only[RFv]at h1⊢;exact zzR hA (hx 0 x rfl) hl.1 h1
    |agg _=>exact hl.1.elim
   |agg l=>cases y with
    |one y=>exact hl.1.elim
    |agg m=>
     simp only[RFv]at h1⊢
     obtain⟨vs,e1,e2⟩:=h1
     exact⟨vs,e1,zpB hA hx hl.1 e2⟩
  ·rw[hlen]
   refine zxc hA (fun i z hi=> ?_) hl.2 h2
   have:=hL (x.cells.length+i) z (by rw[List.flatMap_cons,List.getElem?_append_right (Nat.le_add_right _ _)];simpa using hi)
   rwa[Nat.add_assoc]
 |[],_::_,_,_,_,h,_=>h.elim
 |_::_,[],_,_,_,h,_=>h.elim
theorem zlN (hA:∀b,A' b→A b):∀{ls ms:List (List RO)} {k:Nat} {bs:List Hold},(∀i x,ls.flatten[i]? =some x→L[k+i]? =some x)→zqR ls ms→zbV A w γ k ls bs→zbV A' w (γN γ L) k ms bs
 |[],[],k,bs,_,_,h=>by simpa[zbV]using h
 |l::ls,m::ms,k,[],_,_,h=>by simp[zbV]at h
 |l::ls,m::ms,k, .blk b::bs,hL,hl,h=>by
  simp only[zbV]at h⊢
  obtain⟨⟨c,e,h1,h2,h3⟩,h4⟩:=h
  refine⟨⟨c,e,h1,zpB hA (fun i x hi=>hL i x (by rw[List.flatten_cons,List.getElem?_append_left (List.getElem?_eq_some_iff.1 hi).1];exact hi)) hl.1 h2,h3⟩, ?_⟩
  rw[zgc hl.1]
  refine zlN hA (fun i x hi=> ?_) hl.2 h4
  have:=hL (l.length+i) x (by rw[List.flatten_cons,List.getElem?_append_right (Nat.le_add_right _ _)];simpa using hi)
  rwa[Nat.add_assoc]
 |l::ls,m::ms,k, .val u::bs,hL,hl,h=>by
  simp only[zbV]at h⊢
  obtain⟨h1,h4⟩:=h
  refine⟨?_, ?_⟩
  ·rcases h1 with rfl|h1
   ·left
    have:=zgc hl.1
    exact List.eq_nil_of_length_eq_zero (by simpa using this)
   ·right
    exact zpB hA (fun i x hi=>hL i x (by rw[List.flatten_cons,List.getElem?_append_left (List.getElem?_eq_some_iff.1 hi).1];exact hi)) hl.1 h1
  rw[zgc hl.1]
  refine zlN hA (fun i x hi=> ?_) hl.2 h4
  have:=hL (l.length+i) x (by rw[List.flatten_cons,List.getElem?_append_right (Nat.le_add_right _ _)];simpa using hi)
  rwa[Nat.add_assoc]
 |[],_::_,_,_,_,h,_=>h.elim
 |_::_,[],_,_,_,h,_=>h.elim
theorem zx1 {rfs rfs':List RF} {objs objs':List (List RO)} (h:zx0 rfs rfs') (ho:zqR objs objs'):zpy (zbm rfs objs) (zbm rfs' objs'):=zfb (zh1 h) (zkR ho)
theorem Ret.le {w':World} {bs:List Hold} {rfs rfs':List RF} {objs objs':List (List RO)} {u:Value} (h:Ret w A0 Bor w' bs rfs objs u) (hl:zx0 rfs rfs') (ho:zqR objs objs'):Ret w A0 Bor w' bs rfs' objs' u:=by
 obtain⟨⟨γ,us,m1,m2,m3,m4,m5,m6⟩,h2,h3,h4,h5⟩:=h
 have hle:=zx1 hl ho
 have hown:∀{i sz n b o:Nat} {ds:List D} {bo:Bool},(zbm rfs' objs')[i]? =some (.own sz n ds bo)→(γN γ (zbm rfs objs) i).base=some (b,o)→∃bo',(zbm rfs objs)[i]? =some (.own sz n ds bo')∧(bo=false→bo'=false)∧(γ i).base=some (b,o):=fun {i sz n b o ds bo} hi hb=>by
  obtain⟨x,g1,g2⟩:=zpz hle hi
  rcases zAX g2 with⟨bo',rfl,hbo⟩|⟨y,rfl⟩
  ·refine⟨bo',g1,hbo, ?_⟩
   unfold γN at hb
   rw[g1]at hb
   exact hb
  ·unfold γN at hb
   rw[g1]at hb
   cases hb
 have hNB:∀b,NB (γN γ (zbm rfs objs)) 0 (zbm rfs' objs') b→NB γ 0 (zbm rfs objs) b:=fun b hb=>by
  obtain⟨i,sz,n,ds,bo,o,g1,g2⟩:=zgF hb
  rw[Nat.zero_add]at g2
  obtain⟨bo',g3,_,g4⟩:=hown g1 g2
  exact zfN (k:=0) g3 (by rw[Nat.zero_add];exact g4)
 have hlen:(rfs'.flatMap RF.cells).length=(rfs.flatMap RF.cells).length:=zgc (zh1 hl)
 refine⟨⟨γN γ (zbm rfs objs),us,m1, ?_, ?_,fun b hb=>m4 b (hNB b hb),fun i sz n ds b o hi hb=> ?_,fun i j b o o' sz n ds bo sz' n' ds' bo' hi hj hbi hbj=> ?_⟩,h2,h3,h4,h5⟩
 ·exact zxc (fun b hb=>hb.imp id (hNB b)) (fun i x hi=>by rw[Nat.zero_add];unfold zbm;rw[List.getElem?_append_left (List.getElem?_eq_some_iff.1 hi).1];exact hi) hl m2
 ·rw[hlen]
  exact zlN (fun b hb=>hb.imp id (hNB b)) (fun i x hi=>by unfold zbm;rw[List.getElem?_append_right (Nat.le_add_right _ _)];simpa using hi) ho m3
 ·obtain⟨bo',g1,g0,g2⟩:=hown hi hb
  rw[g0 rfl]at g1
  exact m5 i sz n ds b o g1 g2
 ·obtain⟨b1,g1,_,g2⟩:=hown hi hbi
  obtain⟨b2,g3,_,g4⟩:=hown hj hbj
  exact m6 i j b o o' sz n ds b1 sz' n' ds' b2 g1 g3 g2 g4
theorem CallOK.leR {f:FuncId} {as:List Arg} {rfs':List RF} {objs':List (List RO)} (h:CallOK P f as (fun r o=>zx0 r rfs'∧zqR o objs')):CallOK P f as (fun r o=>r=rfs'∧o=objs'):=
 ⟨h.1,fun w A0 Bor γ bs us h1 h2 h3 h4 h5 h6=>(h.2 w A0 Bor γ bs us h1 h2 h3 h4 h5 h6).mono fun e w' ⟨r,o,u,⟨g1,g2⟩,g3,g4⟩=>⟨rfs',objs',u,⟨rfl,rfl⟩,g3,g4.le g1 g2⟩⟩
theorem CallP.leR {f:FuncId} {as:List Arg} {rfs rfs':List RF} {l l':List RO} (h:CallP P f as rfs l) (hr:zx0 rfs rfs') (hl:zpy l l'):CallP P f as rfs' l':=
 ⟨h.1,fun w A0 us h1 h2=>(h.2 w A0 us h1 h2).mono fun e w' ⟨bs,r,o,u,⟨b,g1,g2,g3⟩,g4,g5,g6⟩=>by
  subst g1 g2 g3
  exact⟨_,_,_,u,⟨b,rfl,rfl,rfl⟩,g4,g5,g6.le ⟨zu8,hr⟩ ⟨hl,trivial⟩⟩⟩
theorem zpC {γ γ':Nat→Pl}:∀{as:List Arg} {k k':Nat} {bs:List Hold} {us:List Value},zao as=[]→(∀l,Arg.obj l ∉ as)→zas P w A0 Bor γ k as bs us→zas P w A0 Bor γ' k' as bs us
 |[],_,_,_,_,_,_,h=>h
 | .f x::as,k,k',bs,us,h0,h1,h=>by
  simp only[zas]at h⊢
  obtain⟨u,us',e1,e2,e3⟩:=h
  exact⟨u,us',e1,e2,zpC (by simpa[zao]using h0) (fun l hl=>h1 l (List.mem_cons_of_mem _ hl)) e3⟩
 | .obj l::as,_,_,_,_,_,h1,_=>absurd (List.mem_cons_self) (h1 l)
 | .row .. ::as,_,_,_,_,h0,_,_=>by simp[zao]at h0
def zlO:List Arg→Bool
 |[]=>true
 | .f _::as=>zlO as
 |_::_=>false
theorem zpD:∀{as:List Arg},zlO as=true→zao as=[]∧∀l,Arg.obj l ∉ as
 |[],_=>⟨rfl,fun l h=>by simp at h⟩
 | .f x::as,h=>by
  obtain⟨h1,h2⟩:=zpD (as:=as) (by simpa[zlO]using h)
  exact⟨by simpa[zao]using h1,fun l hl=>by
   rcases List.mem_cons.1 hl with hl|hl
   ·cases hl
   ·exact h2 l hl⟩
 | .obj _::_,h=>by simp[zlO]at h
 | .row .. ::_,h=>by simp[zlO]at h
theorem CallOK.leO {f:FuncId} {x y:List RO} {as:List Arg} {post:List RF→List (List RO)→Prop} (h:CallOK P f (.obj y::as) post) (hl:zxa x y) (hn:zlO as=true):CallOK P f (.obj x::as) post:=by
 obtain⟨hn1,hn2⟩:=zpD hn
 refine⟨h.1,fun w A0 Bor γ bs us h1 h2 h3 h4 h5 h6=> ?_⟩
 have hx:zao (.obj x::as)=x:=by simp[zao,hn1]
 have hy:zao (.obj y::as)=y:=by simp[zao,hn1]
 rw[hx]at h4 h6
 have hown:∀{i sz n b o:Nat} {ds:List D} {bo:Bool},y[i]? =some (.own sz n ds bo)→(γN γ x i).base=some (b,o)→∃sz' n' ds' bo',x[i]? =some (.own sz' n' ds' bo')∧(γ i).base=some (b,o):=fun {i sz n b o ds bo} hi hb=>by
  obtain⟨z,g1,g2⟩:=zpA hl hi
  cases z with
  |d z=>unfold γN at hb;rw[g1]at hb;cases hb
  |own sz' n' ds' bo'=>
   unfold γN at hb
   rw[g1]at hb
   exact⟨sz',n',ds',bo',g1,hb⟩
 refine h.2 w A0 Bor (γN γ x) bs us h1 h2 ?_ ?_ h5 ?_
 ·simp only[zas]at h3⊢
  obtain⟨b,bs',us',c,e,e1,e2,e3,e4,e5,e6,e7⟩:=h3
  exact⟨b,bs',us',c,e,e1,e2,e3,e4,zxb (L:=x) (fun i z hi=>by rw[Nat.zero_add];exact hi) hl e5,e6,zpC hn1 hn2 e7⟩
 ·rw[hy]
  intro b hb
  obtain⟨i,sz,n,ds,bo,o,g1,g2⟩:=zgF hb
  rw[Nat.zero_add]at g2
  obtain⟨sz',n',ds',bo',g3,g4⟩:=hown g1 g2
  exact h4 b (zfN (k:=0) g3 (by rw[Nat.zero_add];exact g4))
 ·rw[hy]
  intro i j b o o' sz n ds bo sz' n' ds' bo' hi hj hbi hbj
  obtain⟨s1,n1,d1,b1,g1,g2⟩:=hown hi hbi
  obtain⟨s2,n2,d2,b2,g3,g4⟩:=hown hj hbj
  exact h6 i j b o o' s1 n1 d1 b1 s2 n2 d2 b2 g1 g3 g2 g4
theorem CallOK.leM {f:FuncId} {x y:List RO} {as as':List Arg} {post:List RF→List (List RO)→Prop} (h:CallOK P f (.obj y::as') post) (hl:zxa x y) (hn:zlO as'=true) (ha:zeB as as'):CallOK P f (.obj x::as) post:=
 (h.leO hl hn).le ⟨rfl,ha⟩
end
section
variable {T:Nat→Option TI} {P:Program}
theorem zsb {all:List Oper} {m:M} {rest:List Oper} {dst:Option Nat} {v:List AV} {r:Rs} {K:Ex→G→Prop} {n:FuncId} {x y:List RO} {ass as':List Arg} {mv:Mv} {lent:List Nat} {rfs:List RF} {l':List RO}
  {f:Operand} {args:Array Operand} {a:Option (FuncId×List Arg)} (hc:callM 0 v r f args=some (n, .obj x::ass,mv,lent)) (h:CallOK P n (.obj y::as') (fun r o=>r=rfs∧o=[l'])) (hr:zxa x y) (hn:zlO as'=true) (ha:zeB ass as')
  (hs:scM r dst mv lent l') (hk:aops T P all (upM dst mv.s m) rest (putV v dst (bindM r dst mv rfs l').1) (bindM r dst mv rfs l').2 K):zjM T P all m rest dst v r K f args a:=
 zvk 0 hc (h.leM hr hn ha) hs hk
end
theorem zmZ {α β:Type} (enc:α→List β) (l:List α) (k:Nat):l.flatMap enc=(l.take k).flatMap enc++(l.drop k).flatMap enc:=by rw[←List.flatMap_append,List.take_append_drop]
theorem zsc {α β:Type} (enc:α→List β) (sz:Nat) (h:∀x,(enc x).length=sz) {l:List α} {k:Nat} (hk:k≤l.length):(l.flatMap enc).take (k*sz)=(l.take k).flatMap enc:=by
 rw[zmZ enc l k]
 exact List.take_left' (by rw[zcM enc sz h,List.length_take];congr 1;omega)
theorem zsd {α β:Type} (enc:α→List β) (sz:Nat) (h:∀x,(enc x).length=sz) {l:List α} {k:Nat} (hk:k≤l.length):(l.flatMap enc).drop (k*sz)=(l.drop k).flatMap enc:=by
 rw[zmZ enc l k]
 exact List.drop_left' (by rw[zcM enc sz h,List.length_take];congr 1;omega)
abbrev zaQ (l:List Int):List D:=l.flatMap fun n=>[iD n]
structure Sess where
 client:Int
 num:Int
 renewed:Int
abbrev Sess.enc (x:Sess):List D:=[iD x.client,iD x.num,iD x.renewed]
abbrev zbC (l:List Sess):List D:=l.flatMap Sess.enc
structure Lk where
 name:ByteArray
 holder:Int
 token:Int
 line:List Int
abbrev Lk.enc (k:Lk):List D:=[sD k.name,iD k.holder,iD k.token, .sl k.line.length (zaQ k.line)]
abbrev zam (l:List Lk):List D:=l.flatMap Lk.enc
structure Grant where
 name:ByteArray
 token:Int
abbrev Grant.enc (g:Grant):List D:=[sD g.name,iD g.token]
abbrev zaJ (l:List Grant):List D:=l.flatMap Grant.enc
structure Reply where
 code:Int
 session:Int
 ahead:Int
 held:List Grant
abbrev Reply.enc (r:Reply):List D:=[iD r.code,iD r.session,iD r.ahead, .sl r.held.length (zaJ r.held)]
abbrev Reply.lent (r:Reply):List C:=[di r.code,di r.session,di r.ahead, .lent r.held.length (zaJ r.held)]
structure Memo where
 client:Int
 seq:Int
 reply:Reply
abbrev Memo.enc (m:Memo):List D:=iD m.client::iD m.seq::m.reply.enc
abbrev Memo.lent (m:Memo):List C:=di m.client::di m.seq::m.reply.lent
abbrev zaZ (l:List Memo):List D:=l.flatMap Memo.enc
structure St where
 time:Int
 num:Int
 token:Int
 sess:List Sess
 locks:List Lk
 memos:List Memo
abbrev St.lent (s:St):List C:=[di s.time,di s.num,di s.token, .lent s.sess.length (zbC s.sess), .lent s.locks.length (zam s.locks), .lent s.memos.length (zaZ s.memos)]
abbrev St.rf (s:St):RF:= .agg [.d (iD s.time), .d (iD s.num), .d (iD s.token), .own 3 s.sess.length (zbC s.sess) false, .own 4 s.locks.length (zam s.locks) false, .own 6 s.memos.length (zaZ s.memos) false]
theorem ints_at {l:List Int} {i:Nat} (hi:i<l.length):(zaQ l).drop (i*1)=[iD l[i]]++(zaQ (l.drop (i+1))):=zda _ 1 l i hi fun _=>rfl
theorem zdA {l:List Int} {i:Nat} (hi:i<l.length):(zaQ l).drop i=[iD l[i]]++(zaQ (l.drop (i+1))):=by have:=ints_at hi;rwa[Nat.mul_one]at this
theorem zee {l:List Sess} {i:Nat} (hi:i<l.length):(zbC l).drop (i*3)=l[i].enc++(zbC (l.drop (i+1))):=zda _ 3 l i hi fun _=>rfl
theorem zbT {l:List Lk} {i:Nat} (hi:i<l.length):(zam l).drop (i*4)=l[i].enc++(zam (l.drop (i+1))):=zda _ 4 l i hi fun _=>rfl
theorem zcw {l:List Grant} {i:Nat} (hi:i<l.length):(zaJ l).drop (i*2)=l[i].enc++(zaJ (l.drop (i+1))):=zda _ 2 l i hi fun _=>rfl
theorem zfc {l:List Memo} {i:Nat} (hi:i<l.length):(zaZ l).drop (i*6)=l[i].enc++(zaZ (l.drop (i+1))):=zda _ 6 l i hi fun _=>rfl
theorem zpE {l:List Int}:(zaQ l).length=l.length*1:=zcM _ 1 (fun _=>rfl) l
theorem zaO {l:List Int}:(zaQ l).length=l.length:=by rw[zpE,Nat.mul_one]
theorem zaB {l:List Sess}:(zbC l).length=l.length*3:=zcM _ 3 (fun _=>rfl) l
theorem zah {l:List Lk}:(zam l).length=l.length*4:=zcM _ 4 (fun _=>rfl) l
theorem zar {l:List Grant}:(zaJ l).length=l.length*2:=zcM _ 2 (fun _=>rfl) l
theorem zaC {l:List Memo}:(zaZ l).length=l.length*6:=zcM _ 6 (fun _=>rfl) l
theorem zjo {l:List Int}:(zaQ l).take l.length=zaQ l:=List.take_of_length_le (Nat.le_of_eq zaO)
theorem zdG {l:List Sess}:(zbC l).take (l.length*3)=zbC l:=zcT Sess.enc 3 (fun _=>rfl) l
theorem zaF {l:List Lk}:(zam l).take (l.length*4)=zam l:=zcT Lk.enc 4 (fun _=>rfl) l
theorem grants_take {l:List Grant}:(zaJ l).take (l.length*2)=zaJ l:=zcT Grant.enc 2 (fun _=>rfl) l
theorem zcF {l:List Memo}:(zaZ l).take (l.length*6)=zaZ l:=zcT Memo.enc 6 (fun _=>rfl) l
theorem zh2 {l:List Int} {r:Int}:zaQ (l++[r])=zaQ l++[iD r]:=by simp[zaQ]
theorem zeN {l:List Sess} {r:Sess}:zbC (l++[r])=zbC l++r.enc:=by simp[zbC]
theorem zfD {l:List Grant} {r:Grant}:zaJ (l++[r])=zaJ l++r.enc:=by simp[zaJ]
theorem zef {l:List Memo} {r:Memo}:zaZ (l++[r])=zaZ l++r.enc:=by simp[zaZ]
theorem pkY:type_of% (I (I (I (pkX) (I (@zjo) (@zdG))) (I (@zaF) (I (@grants_take) (@zcF)))) (I (I (zw8) (I (@Option.map_some.{0,0}) (@Option.map_none.{0,0}))) (I (I (Bool.not_true) (Bool.not_false)) (I (@List.any_cons.{0}) (@List.any_nil.{0}))))):=I (I (I (pkX) (I (@zjo) (@zdG))) (I (@zaF) (I (@grants_take) (@zcF)))) (I (I (zw8) (I (@Option.map_some.{0,0}) (@Option.map_none.{0,0}))) (I (I (Bool.not_true) (Bool.not_false)) (I (@List.any_cons.{0}) (@List.any_nil.{0}))))
theorem Gh.sealV {v:List AV} {r r':Rs} (i:Nat) {x:C} {d:D} (hi:v[i]? =some (.one x)) (hs:sealC r x=some (d,r')):Gh ⟨v,r⟩ ⟨v.set i (.one (.d d)),r'⟩:=fun cx a w ⟨β,hh⟩=>by
 obtain⟨u,h1,h2⟩:=hh.sl i _ hi
 simp only[ReA]at h2
 obtain⟨β1,k1,x1,hd1⟩:=zl8 hh hs h2
 refine⟨β1,{k1 with sz:=by simpa using k1.sz,sl:=fun j y hj=> ?_}⟩
 simp only[List.getElem?_set]at hj
 by_cases hij:i=j
 ·subst hij
  rw[if_pos rfl]at hj
  split at hj
  ·cases hj
   exact⟨u,h1,by simp only[ReA,ReC];exact hd1⟩
  ·cases hj
 ·rw[if_neg hij]at hj
  exact k1.sl j y hj
theorem zbk {T:Nat→Option TI} {P:Program} {y:Code} {Q:Ex→G→Prop} {g g':G} (h:Gh g g') (hk:zh8 T P y Q .normal g'):zh8 T P y Q .normal g:=by
 rcases hk with⟨g1,h1,h2⟩|hk
 ·exact .inl ⟨g1,fun cx a w hh=>h1 cx a w (h cx a w hh),h2⟩
 ·exact .inr fun cx e R hR a w hh=>hk cx e R hR a w (h cx a w hh)
theorem zbl {p:Prop} (h:p):Stop p:=h
theorem zaU (n:Nat) {T:Nat→Option TI} {P:Program} {ops:Array Oper} {d:Bool} {Q:Ex→G→Prop} {g:G} (h:Stop (zh8 T P (.region n ops d) Q .normal g)):
  zh8 T P (.region n ops d) Q .normal g:=h
section
variable {T:Nat→Option TI} {P:Program}
theorem zaV (n:Nat) {ops:Array Oper} {d:Bool} {x y:Code} {Q:Ex→G→Prop} {g:G} (h:Stop (zh8 T P (.seq (.seq (.region n ops d) x) y) Q .normal g)):
  zh8 T P (.seq (.seq (.region n ops d) x) y) Q .normal g:=h
end
theorem zkS (b:ByteArray):∀(n i:Nat) (r:List UInt8),b.size - i=n→ByteArray.toList.loop b i r=r.reverse++b.data.toList.drop i
 |0,i,r,h=>by
  have hl:b.data.toList.length=b.size:=Array.length_toList
  rw[ByteArray.toList.loop.eq_1,if_neg (by omega),List.drop_of_length_le (by omega)];simp
 |n+1,i,r,h=>by
  have hi:i<b.size:=by omega
  rw[ByteArray.toList.loop.eq_1,if_pos hi,zkS b n (i+1) _ (by omega)]
  have hi':i<b.data.toList.length:=by
   have hl:b.data.toList.length=b.size:=Array.length_toList
   omega
  rw[List.drop_eq_getElem_cons hi']
  have:b.get! i=b.data.toList[i]:=by
   have h2:i<b.data.size:=hi
   show b.data[i]! =_
   rw[getElem!_pos b.data i h2,Array.getElem_toList]
  rw[this];simp
theorem zcx (b:ByteArray):b.toList=b.data.toList:=by
 unfold ByteArray.toList
 rw[zkS b b.size 0 [] (by omega)];simp
theorem Gh.nilG {v:List AV} {r:Rs} {i s sz:Nat} (hi:v[i]? =some (.one (.d (.v (.slice none 0 0))))):
  Gh ⟨v,r⟩ ⟨v.set i (.one (.gap ⟨s,1,nxt r s⟩ 0 0 0)),setR s ⟨nxt r s+1,[none,some {e:=nxt r s,var:=false,fz:=false,sz,cells:=[]}]⟩ r⟩:=fun cx a w ⟨β,hh⟩=>by
 obtain⟨β',q1,q2,q3⟩:=hh.fresh (w':=w) (d:=s) (j0:=1) (L:=[none,some {e:=nxt r s,var:=false,fz:=false,sz,cells:=[]}]) (pl0:=⟨none,0⟩) rfl
  (fun j res hj=>by
   match j with
   |0=>simp at hj
   |1=>rfl
   |j+2=>simp at hj) rfl rfl (fun b o hb=>by cases hb) (fun _ _=>rfl) (Nat.le_refl _)
  (fun β' hx hA=>zdf (ds:=[]) rfl rfl rfl (by simp[RowM]))
 obtain⟨u,g1,g2⟩:=hh.sl i _ hi
 have hu:=(zaw.1 g2).1
 subst hu
 refine⟨β',{q1 with sz:=by simpa using q1.sz,sl:=fun j x hj=> ?_}⟩
 rw[List.getElem?_set]at hj
 split at hj
 ·rename_i e
  subst e
  split at hj
  ·cases hj
   refine⟨_,g1, ?_⟩
   simp only[ReA,ReC]
   refine⟨rfl,by rw[zaM,if_pos rfl];exact Nat.lt_succ_self _,Nat.le_refl _,none,rfl,fun res hr=> ?_⟩
   obtain⟨hl,_⟩:=zac hr
   rw[zaz,if_pos rfl]at hl
   simp only[List.getElem?_cons_succ,List.getElem?_cons_zero,Option.some.injEq]at hl
   subst hl
   rw[q2]
   exact⟨rfl,rfl, .inl trivial⟩
  ·cases hj
 ·exact q1.sl j x hj
theorem zI {p:Prop} (h:p:=by
 ((try with_reducible refine zp8 ?_);first|(with_reducible rfl)|((with_reducible first|refine zxi ?_|refine ziX ?_|refine zsr ?_);kernel_rfl)|(intros;omega)|(intro q p;rw[q,p];rfl)|(intro q;rw[q];rfl)|(intro q;simp only[Bool.and_eq_true,decide_eq_true_eq,beq_iff_eq]at q;omega)|(intros;simp[List.range,List.range.loop];done)|(intros;simp_all[List.range,List.range.loop];done)|fail)):p:=h
theorem zJ {p:Prop} (h:p:=by
 ((try with_reducible refine zp8 ?_);first|(with_reducible rfl)|((with_reducible first|refine zxi ?_|refine ziX ?_|refine zsr ?_);kernel_rfl)|(intros;omega)|(intro q p;rw[q,p];rfl)|(intro q;rw[q];rfl)|(intro q;simp only[Bool.and_eq_true,decide_eq_true_eq,beq_iff_eq]at q;omega)|(intros;simp[List.range,List.range.loop];done)|fail)):p:=h
theorem zC {p:Prop} (h:p:=by first|(with_reducible exact True.intro)|(with_reducible refine zsr ?_;kernel_rfl)|fail):p:=h
theorem zK {p:Prop} (h:p:=by(simp only[ddE,zhe,zmV,zhf,zjl,zjm,zjn,List.set_cons_zero,List.set_cons_succ,and_true,true_and,Int.natCast_zero,Int.cast_ofNat_Int,D.v.injEq,Value.int.injEq];try(repeat'(first|rfl|omega|with_reducible apply And.intro)))):p:=h
theorem zM {p:Prop} (h:p:=by first|(simp[zeB,aLe,zve,cLe];done)|fail):p:=h
structure Wr (p:Prop):Prop where
 h:p
theorem zmd {α β:Type} {f:α→β} {l:List α} {i:Nat}:(l.map f).drop i=(l.drop i).map f:=List.map_drop.symm
theorem zD2 {α β:Type} {f:α→β} {l:List α} {i:Nat}:(l.map f).take i=(l.take i).map f:=List.map_take.symm
section
variable {T:Nat→Option TI} {P:Program} {all:List Oper} {m:M} {rest:List Oper} {dst:Option Nat} {v:List AV} {r:Rs} {K:Ex→G→Prop} {n:FuncId} {as as':List Arg} {rfs:List RF} {f:Operand} {args:Array Operand} {post:List RF→List (List RO)→Prop} {j:Nat} {want c:Bool}
theorem zc (z:CallOK P n as' post) (hk:aops T P all m rest (putV v dst (bindRet r dst rfs).1) (bindRet r dst rfs).2 K)
  (k:CallOK P n as' post→CallOK P n as (fun r o=>r=rfs∧o=[]):=by(intro z;first|exact z|(refine CallOK.le z ?_;exact zM)|fail)):zjM T P all m rest dst v r K f args (some (n,as)):=za9 (k z) hk
theorem zg (z:CallOK P n as' post) (hk:aops T P all m rest (putV v dst (.gd c (tupOf (bindFs 0 0 0 rfs)))) r K)
  (k:CallOK P n as' post→CallOK P n as (fun r o=>r=rfs∧o=[]):=by(intro z;first|exact z|(refine CallOK.le z ?_;exact zM)|fail)) (hn:noOwn (rfs.flatMap RF.cells)=true:=by rfl):znD T P all m rest c dst v r K f args j want (some (n,as)):=za7 (fun _=>k z) hn hk
end
theorem zx {P:Program} {n:FuncId} {as':List Arg} {post:List RF→List (List RO)→Prop} {p q:Prop} (z:CallOK P n as' post) (h:q)
  (k:CallOK P n as' post→Wr q→p:=by(intro z h;first|(refine zc z ?_;exact h.h)|(refine zg z ?_;exact h.h)|fail)):p:=k z ⟨h⟩
theorem zca:type_of% (I @List.cons_append.{0} @List.nil_append.{0}):=I @List.cons_append.{0} @List.nil_append.{0}
theorem zhh {P:Program} {ops:Array Oper} {Q:Exit→Act→List Frame→World→Prop} {cs:List Frame} (hno:∀a w,¬Q .outgrown a cs w):∀(l:List Nat) (a:Act) (w:World),wpOps P ops (fun e a w=>Q e a cs w) l a w→wpOpsS P ops Q l a cs w
 |[],a,w,h=>by simpa only[wpOps,wpOpsS]using h
 |i::rest,a,w,h=>by
  simp only[wpOps,wpOpsS]at h⊢
  cases ho:ops[i]? with
  |none=>rw[ho]at h;exact zhh hno rest a w h
  |some o=>
   rw[ho]at h
   simp only at h⊢
   split
   ·rename_i hw
    rw[if_pos hw]at h
    replace h:=h.resolve_right (fun h=>by obtain⟨_,a',w',hq⟩:=h;exact hno a' w' hq)
    unfold Oper.wp at h
    split
    ·rename_i w' hr
     rw[hr]at h
     exact h.elim
    ·exact Oper.wp_mono (P:=P) (o:=o) (a:=a) (w:=w) (fun a w h=>zhh hno rest a w h) h
   ·rename_i hw
    rw[if_neg hw]at h
    exact zhh hno rest _ w h
section
variable {P:Program} {T:Nat→Option TI}
def zAJ:FrameMode→Option (Value×FrameMode)
 | .panicking ({v,recovered:=false,goexit:=false}::older)=>some (v, .panicking ({v,recovered:=true}::older))
 |_=>none
def plainO (l:List Value):List RO:=l.map fun x=> .d (.v x)
theorem zkT {A:Nat→Prop} {w:World} {γ:Nat→Pl}:∀{l us:List Value} {k:Nat},ROcs A w γ k (plainO l) us→us=l
 |[],us,k,h=>by simpa[plainO,ROcs]using h
 |x::l,us,k,h=>by
  simp only[plainO,List.map_cons,ROcs,ROc,Rd]at h
  obtain⟨u,us',rfl,h1,h2⟩:=h
  rw[h1.1,zkT (l:=l) h2]
theorem zkU {A:Nat→Prop} {w:World} {γ:Nat→Pl}:∀{l:List Value} {k:Nat},(∀u∈l,flat u=true)→ROcs A w γ k (plainO l) l
 |[],k,h=>by simp[plainO,ROcs]
 |x::l,k,h=>by
  simp only[plainO,List.map_cons,ROcs,ROc,Rd]
  exact⟨x,l,rfl,⟨rfl,h x (by simp)⟩,zkU fun u hu=>h u (by simp[hu])⟩
theorem zse {l:List Value} {i sz n:Nat} {ds:List D} {bo:Bool}:(plainO l)[i]? ≠some (.own sz n ds bo):=by
 simp only[plainO,List.getElem?_map]
 cases l[i]? <;>simp
abbrev zby (ls:List (List Value)):List Arg:=ls.map fun l=> .obj (plainO l)
theorem zhi:∀{ls:List (List Value)},zao (zby ls)=plainO ls.flatten
 |[]=>rfl
 |l::ls=>by simp only[zby,List.map_cons,zao,List.flatten_cons,plainO,List.map_append];rw[←plainO,←plainO,←zhi];rfl
theorem zjq {w:World} {A0 Bor:Nat→Prop} {γ:Nat→Pl}:∀{ls:List (List Value)} {bs:List Nat} {k:Nat},ls.length=bs.length→(∀b∈bs,Bor b)→
  (∀(i:Nat) (l:List Value) (b:Nat),ls[i]? =some l→bs[i]? =some b→∃e,w.heap[b]? =some (.cells l.toArray e (0,0)))→(∀l∈ls,∀u∈l,flat u=true)→
  zas P w A0 Bor γ k (zby ls) (bs.map Hold.blk) (bs.map zh7)
 |[],[],k,_,_,_,_=>by simp[zby,zas]
 |[],_::_,k,h,_,_,_=>by simp at h
 |_::_,[],k,h,_,_,_=>by simp at h
 |l::ls,b::bs,k,h,h1,h2,h3=>by
  simp only[zby,List.map_cons,zas]
  obtain⟨e,he⟩:=h2 0 l b rfl rfl
  exact⟨b,_,_,_,e,rfl,rfl,h1 b (by simp),he,by simpa using zkU (h3 l (by simp)),by simpa using h3 l (by simp),
   zjq (by simpa using h) (fun b hb=>h1 b (by simp[hb])) (fun i l b hi hb=>h2 (i+1) l b (by simpa using hi) (by simpa using hb)) (fun l hl=>h3 l (by simp[hl]))⟩
theorem zx2 (hT:TOK P T) {fn:Func} {rvs:List ResultVar} {args:List Arg} {w:World} {A0 Bor:Nat→Prop} {γ:Nat→Pl} {bs:List Hold} {us:List Value} {post:List RF→List (List RO)→Prop} (hres:fn.results=rvs.toArray)
  (ha:zas P w A0 Bor γ 0 args bs us) {g:G} {a:Act} {w':World} (hh:HoldsE (cxO P w A0 Bor args bs) g a w') (hc:closeA T rvs (objPos 0 args) post g):
  a.defers=[]∧∃v,(results fn a.tmps).run P w'= .ok v w'∧∃rfs objs u,post rfs objs∧Ending.returned v= .returned u∧Ret w A0 Bor w' bs rfs objs u:=by
 obtain⟨v,r⟩:=g
 obtain⟨β,hh⟩:=hh
 obtain⟨g1,g2⟩:=hc
 obtain⟨vs,k1,k2⟩:=zhm (cx:=cxO P w A0 Bor args bs) hT hh g1
 refine⟨hh.df,zsR vs,zfe hres k1, ?_⟩
 unfold closeB at g2
 split at g2
 ·rename_i rfs cs q1 q2
  split at g2
  ·rename_i objs q3
   refine⟨rfs,objs,zsR vs,g2.2,rfl, ?_⟩
   have hpos:zb2 (cxO P w A0 Bor args bs) w' r β (objPos 0 args) bs:=zpP ha (fun _ _ _=>trivial) (fun q b hm res hg=>(hh.ob q b hm).2 res hg) (fun q n u hm=>hh.rw q n u hm)
   refine zpY (cx:=cxO P w A0 Bor args bs) hh (A1:=A0) (fun b hb=> .inl hb) k2 rfl q1 (zfO q2) q3 g2.1 hpos (fun s j res b o hl hfz hv hbase hmem=> ?_)
   obtain⟨p,res',e1,e2,hbase'⟩:=zfK (zfO q2) hpos hmem
   have hlk:=(zac e1).1
   have hf':res'.fz=false:=by
    cases hq:res'.fz with
    |false=>rfl
    |true=>have:=hh.vz _ _ _ hlk hq;rw[e2]at this;cases this
   obtain⟨p1,p2⟩:=hh.inj _ _ _ _ _ _ _ _ _ hl hfz hlk hf' hbase hbase'
   subst p1 p2
   rw[hl]at hlk
   cases hlk
   rw[hv]at e2
   cases e2
  ·exact g2.elim
 ·exact g2.elim
theorem zu9 {bs:List Nat}:zdo (bs.map Hold.blk)=bs:=by
 induction bs with
 |nil=>rfl
 |cons b bs ih=>simp[zdo,ih]
theorem ziu {A:Nat→Prop} {w:World} {γ:Nat→Pl}:∀{ls:List (List Value)} {bs:List Nat} {k:Nat},zbV A w γ k (ls.map plainO) (bs.map Hold.blk)→
  ∀(i:Nat) (l:List Value) (b:Nat),ls[i]? =some l→bs[i]? =some b→∃e,w.heap[b]? =some (.cells l.toArray e (0,0))∧∀u∈l,flat u=true
 |[],_,_,_,i,l,b,h,_=>by simp at h
 |l0::ls,[],_,h,i,l,b,_,hb=>by simp at hb
 |l0::ls,b0::bs,k,h,i,l,b,hl,hb=>by
  simp only[List.map_cons,zbV]at h
  obtain⟨⟨c,e,h1,h2,h3⟩,h4⟩:=h
  cases i with
  |zero=>
   simp only[List.getElem?_cons_zero,Option.some.injEq]at hl hb
   subst hl hb
   have:=zkT h2
   refine⟨e, ?_,fun u hu=>h3 u (by rw[this];exact hu)⟩
   rw[h1,←this]
  |succ i=>exact ziu h4 i l b (by simpa using hl) (by simpa using hb)
theorem zkV (hT:TOK P T) (hm:P.follows .mixedOrders=true) {fc:FuncId} {fn:Func} {j0 n t6 t7 tA tF:Nat} {ops0:List Oper} {rest:Code} {o0 o1:Oper} {tl:List Oper} {ts:Array TypeId}
  (hf:P.funcs[fc]? =some fn) (hb:fn.body=some (.seq (.region j0 ops0.toArray false) rest)) (hres:fn.results= #[]) (hn:fn.ntmps=n) (hops:ops0=o0::o1::tl)
  (h0:o0.op= .call ⟨.builtin .recover, #[],ts⟩) (h0d:o0.dst=some t6) (h0g:o0.guard=none) (h1:o1.op= .typeAssert (.tmp t6) tA tF true) (h1d:o1.dst=some t7) (h1g:o1.guard=none) (ht6:t6<n)
  {args:List Arg} {post:List RF→List (List RO)→Prop} {u u1:FrameMode} {x6 y7:Value} {V7:AV} (hrec:zAJ u=some (x6,u1)∨(zAJ u=none∧x6= .nilIface∧u1=u))
  (hta:∀w,(Instr.typeAssert x6 tA tF true).run P w= .ok y7 w) (hV:∀cx w r β,ReA cx w r β V7 y7) (hd6:(openG n args).v[t6]? =some (.one .dead))
  (h:aops T P ops0 ⟨none,[]⟩ tl ((openG n args).v.set t7 V7) (openG n args).r (zh8 T P rest (zpQ T [] (objPos 0 args) post)))
  {A0 Bor:Nat→Prop} {γ:Nat→Pl} {bs:List Hold} {us:List Value} {w:World} (hA:∀b,A0 b→b<w.heap.size) (hB:∀b,Bor b→A0 b) (ha:zas P w A0 Bor γ 0 args bs us)
  (hnb:∀b,NB γ 0 (zao args) b→Bor b∧b ∉ zdo bs) (hnd:(zdo bs).Nodup) (hap:Apart γ (zao args)) (hle:us.length≤n):
  CallsD P fc us.toArray u w fun e u' w'=>u'=u1∧∃rfs objs uu,post rfs objs∧e= .returned uu∧Ret w A0 Bor w' bs rfs objs uu:=by
 refine callsD_of_wpS hf hb fun c₀ cs hu=> ?_
 have hop:=zeT (n:=n) ha hA hB hnb hnd hap
 have hact:({tmps:=us.toArray++Array.replicate (fn.ntmps - us.toArray.size) undef,defers:=[]}:Act)={tmps:=us.toArray++Array.replicate (n - us.length) undef,defers:=[]}:=by rw[hn];simp
 rw[hact]
 generalize ha0:({tmps:=us.toArray++Array.replicate (n - us.length) undef,defers:=[]}:Act)=a0 at hop
 have hsz0:a0.tmps.size=n:=by
  rw[←ha0]
  simp
  omega
 apply wpS_seq
 apply wpS_region
 have hrg:List.range ops0.toArray.size=0::1::List.range' 2 tl.length:=by
  rw[hops]
  simp only[List.size_toArray,List.length_cons,List.range_eq_range']
  rfl
 rw[hrg]
 have hi0:ops0.toArray[0]? =some o0:=by rw[hops];rfl
 have hi1:ops0.toArray[1]? =some o1:=by rw[hops];rfl
 have hr0:∀(a:Act) (w:World),(execOp a.eval o0).run P w= .ok .recover w:=fun a w=>by simp[execOp,h0,resolve,invoke,builtin]
 have hr1:∀w,(execOp (a0.put (some t6) x6).eval o1).run P w= .ok (.value y7) w:=fun w=>by
  have:(a0.put (some t6) x6).eval (.tmp t6)=x6:=by simp[Act.eval,Act.put,hsz0,ht6]
  simp[execOp,h1,this,hta]
 have hw0:∀y,Region.wanted o0 y=true:=fun y=>zcy h0g
 have hw1:∀y,Region.wanted o1 y=true:=fun y=>zcy h1g
 -- what is asked to recover
 suffices hmain:wpOpsS P ops0.toArray (Exit.thenS (rest.wpS P (bodyPostS P fn c₀ cs fun e u' w'=>u'=u1∧∃rfs objs uu,post rfs objs∧e= .returned uu∧Ret w A0 Bor w' bs rfs objs uu)) (bodyPostS P fn c₀ cs fun e u' w'=>u'=u1∧∃rfs objs uu,post rfs objs∧e= .returned uu∧Ret w A0 Bor w' bs rfs objs uu)) (List.range' 2 tl.length) ((a0.put (some t6) x6).put (some t7) y7) ({c₀ with mode:=u1}::cs) w by
  have step1:∀cs',wpOpsS P ops0.toArray (Exit.thenS (rest.wpS P (bodyPostS P fn c₀ cs fun e u' w'=>u'=u1∧∃rfs objs uu,post rfs objs∧e= .returned uu∧Ret w A0 Bor w' bs rfs objs uu)) (bodyPostS P fn c₀ cs fun e u' w'=>u'=u1∧∃rfs objs uu,post rfs objs∧e= .returned uu∧Ret w A0 Bor w' bs rfs objs uu)) (List.range' 2 tl.length) ((a0.put (some t6) x6).put (some t7) y7) cs' w→
   wpOpsS P ops0.toArray (Exit.thenS (rest.wpS P (bodyPostS P fn c₀ cs fun e u' w'=>u'=u1∧∃rfs objs uu,post rfs objs∧e= .returned uu∧Ret w A0 Bor w' bs rfs objs uu)) (bodyPostS P fn c₀ cs fun e u' w'=>u'=u1∧∃rfs objs uu,post rfs objs∧e= .returned uu∧Ret w A0 Bor w' bs rfs objs uu)) (1::List.range' 2 tl.length) (a0.put (some t6) x6) cs' w:=fun cs' hh=>by
   rw[wpOpsS]
   simp only[hi1,hw1,if_true,hr1,Oper.upon_value,h1d]
   exact hh
  rw[wpOpsS]
  simp only[hi0,hw0,if_true,hr0]
  have hrec2:(recoverD (c₀::cs)=some (x6,{c₀ with mode:=u1}::cs))∨(recoverD (c₀::cs)=none∧x6= .nilIface∧u1=u):=by
   subst hu
   rcases hrec with hrec|⟨hrec,e1,e2⟩
   ·left
    unfold zAJ at hrec
    unfold recoverD
    simp only
    split at hrec
    ·rename_i v older hmode
     cases hrec
     simp only[hmode]
    ·cases hrec
   ·right
    refine⟨?_,e1,e2⟩
    unfold zAJ at hrec
    unfold recoverD
    simp only
    split at hrec
    ·cases hrec
    ·rename_i hno
     split
     ·rename_i v older hmode
      exact absurd hmode (hno v older)
     ·rfl
  rcases hrec2 with hr|⟨hr,e1,e2⟩
  ·rw[hr,h0d]
   exact step1 _ hmain
  ·rw[hr,h0d]
   have:({c₀ with mode:=u1}:Frame)=c₀:=by rw[e2,←hu]
   rw[this]at hmain
   subst e1
   exact step1 _ hmain
 -- the rest is code like any other
 have hold:HoldsE (cxO P w A0 Bor args bs) ⟨(openG n args).v.set t7 V7,(openG n args).r⟩ ((a0.put (some t6) x6).put (some t7) y7) w:=by
  have e6:=hop.put (some t6) (x:= .one .dead) (u:=x6) (by simp[ReA,ReC])
  have hv6:(openG n args).v.set t6 (.one .dead)=(openG n args).v:=by
   apply List.ext_getElem?
   intro i
   rw[List.getElem?_set]
   split
   ·rename_i hi
    subst hi
    rw[hd6,if_pos (List.getElem?_eq_some_iff.1 hd6).1]
   ·rfl
  have ev6:(openG n args).put (some t6) (.one .dead)=openG n args:=by
   unfold G.put
   simp only
   rw[hv6]
  rw[ev6]at e6
  exact⟨_,e6.put (some t7) (hV _ _ _ _)⟩
 refine zhh (fun a w hq=> ?_) _ _ _ ?_
 ·obtain⟨_,_,_,_,_,_,hq1,_⟩:=hq
  cases hq1
 refine zeP (cx:=cxO P w A0 Bor args bs) hT (fun e g a w' hh hq=> ?_) tl 2 _ _ _ _ _ (fun j=>by rw[hops,Nat.add_comm 2 j];rfl) h hold
 have hend:∀{e:Ex} {g:G} {a:Act} {w':World},HoldsE (cxO P w A0 Bor args bs) g a w'→
   zpQ T [] (objPos 0 args) post e g→
   bodyPostS P fn c₀ cs (fun e u' w'=>u'=u1∧∃rfs objs uu,post rfs objs∧e= .returned uu∧Ret w A0 Bor w' bs rfs objs uu) (ztf e) a ({c₀ with mode:=u1}::cs) w':=fun {e g a w'} hh hq=>by
  have fin:closeA T [] (objPos 0 args) post g→a.defers=[]∧∃u',({c₀ with mode:=u1}::cs:List Frame)={c₀ with mode:=u'}::cs∧∃v,(results fn a.tmps).run P w'= .ok v w'∧
    (u'=u1∧∃rfs objs uu,post rfs objs∧Ending.returned v= .returned uu∧Ret w A0 Bor w' bs rfs objs uu):=fun hc=>by
   obtain⟨q1,v,q2,q3⟩:=zx2 (rvs:=[]) hT (by rw[hres]) ha hh hc
   exact⟨q1,u1,rfl,v,q2,rfl,q3⟩
  cases e with
  |normal=>exact fin hq
  |ret=>exact fin hq
  |exit id=>exact hq.elim
  |panic x=>exact hq.elim
 cases e with
 |normal=>
  rcases hq with⟨g',hg,hk⟩|hq
  ·exact wpS_of_wp (ziv (cx:=cxO P w A0 Bor args bs) hT hm rest g' _ _ (fun e g a w' hh hq=>hend hh hq) hk _ _ (hg _ _ _ hh))
  ·exact wpS_of_wp (hq (cxO P w A0 Bor args bs) rfl _ (fun e g a w' hh hq=>hend hh hq) _ _ hh)
 |ret=>exact hend (e:= .ret) hh hq
 |exit id=>exact hq.elim
 |panic x=>exact hq.elim
theorem zpF {w:World} {A0 Bor:Nat→Prop} {w':World} {bs:List Hold} {objs:List (List RO)} {u:Value} (h:Ret w A0 Bor w' bs [] objs u):u= .tuple #[]∧PRet w Bor w':=by
 obtain⟨⟨γ,us,m1,m2,_⟩,p1,p2,p3,p4⟩:=h
 simp only[RFvs]at m2
 subst m2
 exact⟨m1,p1,p2,p3,p4⟩
theorem zm0 (hT:TOK P T) (hm:P.follows .mixedOrders=true) {fc:FuncId} {fn:Func} {j0 n t6 t7 tA tF:Nat} {ops0:List Oper} {rest:Code} {o0 o1:Oper} {tl:List Oper} {ts:Array TypeId}
  (hf:P.funcs[fc]? =some fn) (hb:fn.body=some (.seq (.region j0 ops0.toArray false) rest)) (hres:fn.results= #[]) (hn:fn.ntmps=n) (hops:ops0=o0::o1::tl)
  (h0:o0.op= .call ⟨.builtin .recover, #[],ts⟩) (h0d:o0.dst=some t6) (h0g:o0.guard=none) (h1:o1.op= .typeAssert (.tmp t6) tA tF true) (h1d:o1.dst=some t7) (h1g:o1.guard=none) (ht6:t6<n)
  {ls ls':List (List Value)} {x6 y7:Value} {V7:AV} (hta:∀w,(Instr.typeAssert x6 tA tF true).run P w= .ok y7 w) (hV:∀cx w r β,ReA cx w r β V7 y7) (hd6:(openG n (zby ls)).v[t6]? =some (.one .dead))
  (h:aops T P ops0 ⟨none,[]⟩ tl ((openG n (zby ls)).v.set t7 V7) (openG n (zby ls)).r (zh8 T P rest (zpQ T [] (objPos 0 (zby ls)) (fun r o=>r=[]∧o=ls'.map plainO))))
  {bs:List Nat} {w:World} (hle:ls.length≤n) (hlen:ls.length=bs.length) (hnd:bs.Nodup) (hblk:∀(i:Nat) (l:List Value) (b:Nat),ls[i]? =some l→bs[i]? =some b→∃e,w.heap[b]? =some (.cells l.toArray e (0,0)))
  (hfl:∀l∈ls,∀u∈l,flat u=true):
  CallsD P fc (bs.map zh7).toArray (.panicking [{v:=x6,recovered:=false}]) w fun e u' w'=>e= .returned (.tuple #[])∧u'= .panicking [{v:=x6,recovered:=true}]∧PRet w (fun b=>b∈bs) w'∧
   ∀(i:Nat) (l:List Value) (b:Nat),ls'[i]? =some l→bs[i]? =some b→∃e,w'.heap[b]? =some (.cells l.toArray e (0,0))∧∀u∈l,flat u=true:=by
 have ha:zas P w (fun b=>b∈bs) (fun b=>b∈bs) (fun _=>⟨none,0⟩) 0 (zby ls) (bs.map Hold.blk) (bs.map zh7):=zjq hlen (fun b h=>h) hblk hfl
 have hlt:∀b∈bs,b<w.heap.size:=fun b hb'=>by
  obtain⟨i,hi,rfl⟩:=List.getElem_of_mem hb'
  obtain⟨e,he⟩:=hblk i ls[i] bs[i] (List.getElem?_eq_getElem (by omega)) (List.getElem?_eq_getElem hi)
  exact(Array.getElem?_eq_some_iff.1 he).1
 have hnone:∀(i sz m:Nat) (ds:List D) (bo:Bool),(zao (zby ls))[i]? ≠some (.own sz m ds bo):=fun i sz m ds bo=>by rw[zhi];exact zse
 refine(zkV hT hm hf hb hres hn hops h0 h0d h0g h1 h1d h1g ht6 (u:= .panicking [{v:=x6,recovered:=false}]) (u1:= .panicking [{v:=x6,recovered:=true}]) (.inl rfl) hta hV hd6 h hlt (fun b h=>h) ha (fun b hN=>by
   exfalso
   obtain⟨i,sz,m,ds,bo,o,e1,_⟩:=zgF hN
   exact hnone _ _ _ _ _ e1) (by rw[zu9];exact hnd) (fun i j b o o' sz m ds bo sz' m' ds' bo' e1=>absurd e1 (hnone _ _ _ _ _)) (by simpa[←hlen]using hle)).mono ?_
 rintro e u' w' ⟨rfl,rfs,objs,uu,⟨rfl,rfl⟩,rfl,hr⟩
 obtain⟨e1,e2⟩:=zpF hr
 refine⟨by rw[e1],rfl,e2, ?_⟩
 obtain⟨⟨γ',us',m1,m2,m3,_⟩,_⟩:=hr
 exact ziu m3
theorem zm1 {w:World} {A0 Bor:Nat→Prop} {γ:Nat→Pl} {k:Nat}:∀{us:List Value},zas P w A0 Bor γ k (us.map fun _=>Arg.f (.one .dead)) [] us
 |[]=>by simp[zas]
 |u::us=>by simp only[List.map_cons,zas];exact⟨u,us,rfl,by simp[ReA,ReC],zm1⟩
theorem zgD {us:List Value}:zao (us.map fun _=>Arg.f (.one .dead))=[]:=by
 induction us with
 |nil=>rfl
 |cons u us ih=>simpa[zao]using ih
theorem zeg (hT:TOK P T) (hm:P.follows .mixedOrders=true) {fc:FuncId} {fn:Func} {j0 n t6 t7 tA tF:Nat} {ops0:List Oper} {rest:Code} {o0 o1:Oper} {tl:List Oper} {ts:Array TypeId}
  (hf:P.funcs[fc]? =some fn) (hb:fn.body=some (.seq (.region j0 ops0.toArray false) rest)) (hres:fn.results= #[]) (hn:fn.ntmps=n) (hops:ops0=o0::o1::tl)
  (h0:o0.op= .call ⟨.builtin .recover, #[],ts⟩) (h0d:o0.dst=some t6) (h0g:o0.guard=none) (h1:o1.op= .typeAssert (.tmp t6) tA tF true) (h1d:o1.dst=some t7) (h1g:o1.guard=none) (ht6:t6<n)
  {y7:Value} {V7:AV} (hta:∀w,(Instr.typeAssert .nilIface tA tF true).run P w= .ok y7 w) (hV:∀cx w r β,ReA cx w r β V7 y7) {k:Nat} (hle:k≤n)
  (hd6:(openG n (List.replicate k (.f (.one .dead)))).v[t6]? =some (.one .dead))
  (h:aops T P ops0 ⟨none,[]⟩ tl ((openG n (List.replicate k (.f (.one .dead)))).v.set t7 V7) (openG n (List.replicate k (.f (.one .dead)))).r (zh8 T P rest (zpQ T [] (objPos 0 (List.replicate k (.f (.one .dead)))) (fun r o=>r=[]∧o=[])))):
  zoz P fc k:=by
 intro us w hk
 have hr:List.replicate k (Arg.f (.one .dead))=us.toList.map fun _=>Arg.f (.one .dead):=by
  rw[List.map_const']
  simp[←hk]
 rw[hr]at hd6 h
 have ha:zas P w (fun _=>False) (fun _=>False) (fun _=>⟨none,0⟩) 0 (us.toList.map fun _=>Arg.f (.one .dead)) [] us.toList:=zm1
 have:=zkV hT hm hf hb hres hn hops h0 h0d h0g h1 h1d h1g ht6 (u:= .returning) (u1:= .returning) (.inr ⟨rfl,rfl,rfl⟩) hta hV hd6 h (w:=w) (fun b h=>h.elim) (fun b h=>h.elim) ha (by rw[zgD];intro b hb;exact hb.elim) List.nodup_nil
  (by rw[zgD];intro i j b o o' sz n ds bo sz' n' ds' bo' h1;simp at h1) (by simp[hk,hle])
 simp only[Array.toArray_toList]at this
 refine this.mono ?_
 rintro e u' w' ⟨rfl,rfs,objs,uu,⟨rfl,rfl⟩,rfl,hr⟩
 obtain⟨e1,e2⟩:=zpF hr
 exact⟨by rw[e1],rfl,e2⟩
theorem zfE (hT:TOK P T) (hm:P.follows .mixedOrders=true) {fc:FuncId} {fn:Func} {j0 n t6 t7 tA tF:Nat} {ops0:List Oper} {rest:Code} {o0 o1:Oper} {tl:List Oper} {ts:Array TypeId}
  (hf:P.funcs[fc]? =some fn) (hb:fn.body=some (.seq (.region j0 ops0.toArray false) rest)) (hres:fn.results= #[]) (hn:fn.ntmps=n) (hops:ops0=o0::o1::tl)
  (h0:o0.op= .call ⟨.builtin .recover, #[],ts⟩) (h0d:o0.dst=some t6) (h0g:o0.guard=none) (h1:o1.op= .typeAssert (.tmp t6) tA tF true) (h1d:o1.dst=some t7) (h1g:o1.guard=none) (ht6:t6<n)
  {ks:List Nat} {sz:Nat→Nat} {nw:Value→Nat→List Value} {Px:Value→Prop} (hnd:ks.Nodup) (hle:ks.length≤n)
  (hmain:∀x,Px x→∀ls:List (List Value),ls.length=ks.length→(∀(i k:Nat) (l:List Value),ks[i]? =some k→ls[i]? =some l→l.length=sz k)→∃y7 V7,(∀w,(Instr.typeAssert x tA tF true).run P w= .ok y7 w)∧
   (∀cx w r β,ReA cx w r β V7 y7)∧(openG n (zby ls)).v[t6]? =some (.one .dead)∧
   aops T P ops0 ⟨none,[]⟩ tl ((openG n (zby ls)).v.set t7 V7) (openG n (zby ls)).r (zh8 T P rest (zpQ T [] (objPos 0 (zby ls)) (fun r o=>r=[]∧o=(ks.map (nw x)).map plainO)))):
  zjx P fc ks sz nw Px:=by
 intro x bl w hx hblk hinj
 let ce:Nat→List Value:=fun k=>match w.heap[bl k]? with|some (.cells c _ _)=>c.toList|_=>[]
 have hce:∀k∈ks,(∃e,w.heap[bl k]? =some (.cells (ce k).toArray e (0,0)))∧(ce k).length=sz k∧∀u∈ce k,flat u=true:=fun k hk=>by
  obtain⟨c,e,q1,q2,q3⟩:=hblk k hk
  have:ce k=c.toList:=by simp only[ce];rw[q1]
  rw[this]
  exact⟨⟨e,by simpa using q1⟩,by simpa using q2,q3⟩
 obtain⟨y7,V7,g1,g2,g3,g4⟩:=hmain x hx (ks.map ce) (by simp) (fun i k l hk hl=>by
  rw[List.getElem?_map,hk]at hl
  cases hl
  exact(hce k (List.mem_of_getElem? hk)).2.1)
 have hbs:(ks.map bl).Nodup:=by
  rw[List.nodup_iff_pairwise_ne,List.pairwise_map]
  refine hnd.imp_of_mem ?_
  intro a b ha hb' hne he
  exact hne (hinj a ha b hb' he)
 have hk2:(ks.map fun k=>zh7 (bl k))=(ks.map bl).map zh7:=by rw[List.map_map];rfl
 rw[hk2]
 refine(zm0 hT hm hf hb hres hn hops h0 h0d h0g h1 h1d h1g ht6 (ls:=ks.map ce) (ls':=ks.map (nw x)) g1 g2 g3 g4 (by simpa using hle) (by simp) hbs (fun i l b hl hb=> ?_) (fun l hl u hu=> ?_)).mono ?_
 ·rw[List.getElem?_map]at hl hb
  cases hk:ks[i]? with
  |none=>rw[hk]at hl;cases hl
  |some k=>
   rw[hk]at hl hb
   cases hl
   cases hb
   exact(hce k (List.mem_of_getElem? hk)).1
 ·obtain⟨k,hk,rfl⟩:=List.mem_map.1 hl
  exact(hce k hk).2.2 u hu
 ·rintro e u' w' ⟨rfl,rfl,p,q⟩
  refine⟨rfl,rfl,p.size,fun b hb hn=>p.old b hb fun hm=> ?_,fun k hk=> ?_,p.os,p.out⟩
  ·obtain⟨k,hk,rfl⟩:=List.mem_map.1 hm
   exact hn k hk rfl
  ·obtain⟨i,hi,rfl⟩:=List.getElem_of_mem hk
   exact q i (nw x ks[i]) (bl ks[i]) (by rw[List.getElem?_map,List.getElem?_eq_getElem hi];rfl) (by rw[List.getElem?_map,List.getElem?_eq_getElem hi];rfl)
end
def zAZ (r:Rs) (s k lo n:Nat):Rs:=
 match findR s r with
 |some rs=>(match rs.l[0]?,rs.l[k+1]? with
  |some (some V),some (some R)=>setR s ⟨rs.next+1,(rs.l.set (k+1) (some {R with e:=rs.next,cells:=R.cells.drop (lo*R.sz)})).set 0 (some {V with cells:=V.cells.set k (.own ⟨s,k+1,rs.next⟩ 0 n)})⟩ r
  |_,_=>r)
 |none=>r
def zAK (r:Rs) (s k lo n:Nat):Prop:=
 match findR s r with
 |some rs=>(match rs.l[0]?,rs.l[k+1]? with
  |some (some V),some (some R)=>V.var=true∧R.var=false∧V.cells[k]? =some (.own ⟨s,k+1,R.e⟩ lo n)
  |_,_=>False)
 |none=>False
def zA0 (pl:Pl) (lo sz:Nat):Pl:=⟨pl.base.map fun q=>(q.1,q.2+lo*sz),pl.cap - lo⟩
section
variable {T:Nat→Option TI} {P:Program} {all:List Oper} {m:M} {rest:List Oper} {v:List AV} {r r':Rs} {K:Ex→G→Prop} {f:Operand} {args:Array Operand} {a:Option (FuncId×List Arg)}
end
section
variable {T:Nat→Option TI} {P:Program} {cx:Cx} {v:List AV} {r:Rs} {a:Act} {w:World} {β:Nat→Nat→Pl}
theorem zhj {all:List Oper} {Q:Exit→Act→World→Prop} {K:Ex→G→Prop} (hT:TOK cx.P T) (hp:∀x g a w,HoldsE cx g a w→K (.panic x) g→Q (ztf (.panic x)) a w) (l2:List Oper):
  ∀(l1:List Oper) (k:Nat) (m:M) (v:List AV) (r:Rs) (a:Act) (w:World),(∀j,(l1++l2)[j]? =all[k+j]?)→aops T cx.P all m l1 v r K→
   (∀g a w,HoldsE cx g a w→K .normal g→wpOps cx.P all.toArray Q (List.range' (k+l1.length) l2.length) a w)→HoldsE cx ⟨v,r⟩ a w→wpOps cx.P all.toArray Q (List.range' k (l1.length+l2.length)) a w
 |[],k,m,v,r,a,w,_,hk,hN,h=>by
  have:=hN ⟨v,r⟩ a w h hk.2
  simpa using this
 |o::rest,k,m,v,r,a,w,hall,hk,hN,h=>by
  have ho:all.toArray[k]? =some o:=by simpa using(hall 0).symm
  obtain⟨β,h⟩:=h
  have hN':∀g a w,HoldsE cx g a w→K .normal g→wpOps cx.P all.toArray Q (List.range' (k+1+rest.length) l2.length) a w:=fun g a w hh hq=>by
   have:=hN g a w hh hq
   rwa[List.length_cons,show k+(rest.length+1)=k+1+rest.length by omega]at this
  have hall':∀j,(rest++l2)[j]? =all[k+1+j]? :=fun j=>by
   have:=hall (j+1)
   simpa[Nat.add_assoc,Nat.add_comm 1 j]using this
  rw[List.length_cons,show rest.length+1+l2.length=(rest.length+l2.length)+1 by omega,List.range'_succ,wpOps_cons]
  rcases step_ok hT hk with⟨fp,x,r1,⟨h1,h2⟩,_,_,h3⟩|⟨_,hp'|⟨v',r',fp,x,r1,off',himp,⟨h1,h2⟩,h3⟩⟩
  case inr.inl=>exact hp' a w β h k Q _ ho (fun x g a w hg hk=>hp x g a w hg hk)
  case inr.inr=>
   obtain⟨β',h'⟩:=himp _ _ _ ⟨β,h⟩
   refine wpOp_mono (fun a' w' hd=> ?_) (h2 v' r' (fun _ _=>rfl) (fun _ _ _=>rfl) (fun _ _=>rfl) a w β' h' k Q ho)
   obtain⟨r1',g1,g2,g3⟩:=hd
   refine zhj hT hp l2 rest (k+1) _ _ _ a' w' hall' h3 hN' (g1.congr fun s=> ?_)
   by_cases hs:s∈fp.w
   ·exact g2 s hs
   ·rw[g3 s hs,h1 s hs]
  refine wpOp_mono (fun a' w' hd=> ?_) (h2 v r (fun _ _=>rfl) (fun _ _ _=>rfl) (fun _ _=>rfl) a w β h k Q ho)
  obtain⟨r1',g1,g2,g3⟩:=hd
  refine zhj hT hp l2 rest (k+1) _ _ _ a' w' hall' h3 hN' (g1.congr fun s=> ?_)
  by_cases hs:s∈fp.w
  ·exact g2 s hs
  ·rw[g3 s hs,h1 s hs]
theorem zsf (hT:TOK cx.P T) (hm:cx.P.follows .mixedOrders=true) {z:Code} {Q:Ex→G→Prop} {R:Exit→Act→World→Prop} (hR:∀e g a w,HoldsE cx g a w→Q e g→R (ztf e) a w) {e:Ex} {g:G}
  (h:HoldsE cx g a w) (hq:zh8 T cx.P z Q e g):Exit.then (z.wp cx.P R) R (ztf e) a w:=by
 cases e with
 |normal=>
  rcases hq with⟨g',h1,h2⟩|hq
  ·exact ziv hT hm z g' Q R hR h2 a w (h1 _ _ _ h)
  ·exact hq cx rfl R hR a w h
 |exit id=>exact hR (.exit id) g a w h hq
 |ret=>exact hR .ret g a w h hq
 |panic x=>exact hR (.panic x) g a w h hq
def Fam {τ:Type} (S:τ→G) (J:τ→Prop) (g:G):Prop:=∀(cx:Cx) (a:Act) (w:World),HoldsE cx g a w→∃t,J t∧HoldsE cx (S t) a w
theorem zzS (hT:TOK P T) (hm:P.follows .mixedOrders=true) {τ:Type} (S:τ→G) (J:τ→Prop) {y:Code} {g:G} {Q:Ex→G→Prop} (h1:Fam S J g) (h2:∀t,J t→awp T P y (S t) Q):zyD P y g Q:=
 fun cx hP R hR a w hh=>by
  subst hP
  obtain⟨t,hJ,ht⟩:=h1 cx a w hh
  exact ziv hT hm y _ Q R hR (h2 t hJ) a w ht
theorem zsg (hT:TOK P T) (hm:P.follows .mixedOrders=true) (k:Nat) {id d q nf sz N sz2 n2:Nat} {all:List Oper} {z:Code} {g:G} {Q:Ex→G→Prop} {o:Oper} {f:Operand} {args:Array Operand} {ts:Array TypeId}
  {v1:List AV} {r1:Rs} {as:List Arg} {J:Value→Prop} {cells:Value→List D} {ds2:List D}
  (ho:all[k]? =some o) (hop:o.op= .call ⟨.value f,args,ts⟩) (hg:o.guard=none) (hd:o.dst=some d)
  (h1:∀K:Ex→G→Prop,K .normal ⟨v1,r1⟩→aops T P all ⟨none,[]⟩ (all.take k) g.v g.r K)
  (s1:evS true v1 f) (s2:evsS true v1 args.toList) (hc:callA v1 r1 f args=some (nf,as))
  (hok:ztd P nf as (fun bs r o=>∃x,J x∧bs=[.val x]∧r=[.one (.own sz N (cells x) false)]∧o=[[.own sz2 n2 ds2 false]]))
  (hq:v1[q]? =some (.one .dead)) (hqd:q≠d)
  (h2:∀x,J x→aops T P all ⟨none,[]⟩ (all.drop (k+1)) ((v1.set d (.one (.own ⟨d,1,nxt r1 d⟩ 0 N))).set q (.one (.lk ⟨d,2,nxt r1 d⟩ n2 x)))
   (setR d {next:=nxt r1 d+1,l:=[none,some {e:=nxt r1 d,var:=false,fz:=false,sz:=sz,cells:=(cells x).map C.d},some {e:=nxt r1 d,var:=false,fz:=false,sz:=sz2,cells:=ds2.map C.d}]} r1) (zh8 T P z Q)):
  zyD P (.seq (.region id all.toArray false) z) g Q:=fun cx hP R hR a w hh=>by
 subst hP
 refine wp_seq (wp_region ?_)
 have hk:k<all.length:=(List.getElem?_eq_some_iff.1 ho).1
 have hlen:(all.take k).length+(all.drop k).length=all.length:=by rw[←List.length_append,List.take_append_drop]
 have:=zhj (cx:=cx) (all:=all) (Q:=Exit.then (z.wp cx.P R) R) (K:=fun e g'=>match e with| .normal=>g'=⟨v1,r1⟩|_=>False) hT (fun x g a w _ hq=>hq.elim) (all.drop k) (all.take k) 0 ⟨none,[]⟩ g.v g.r a w
  (fun j=>by rw[List.take_append_drop,Nat.zero_add]) (h1 _ rfl) (fun g' a' w' hh' hf=> ?_) hh
 ·rw[hlen]at this
  simpa[List.range_eq_range']using this
 ·have hf:g'=⟨v1,r1⟩:=hf
  subst hf
  obtain⟨β,hh'⟩:=hh'
  have hdl:(all.drop k).length=(all.drop (k+1)).length+1:=by rw[List.length_drop,List.length_drop];omega
  rw[Nat.zero_add,List.length_take,Nat.min_eq_left (Nat.le_of_lt hk),hdl,List.range'_succ,wpOps_cons]
  have hoa:all.toArray[k]? =some o:=by simpa using ho
  refine zbn hoa (zcy hg) ?_
  obtain⟨us,g1,g2⟩:=zpX (c:=true) hh' hop rfl s1 s2 hc hok
  unfold Oper.wp
  rw[g1,Oper.upon_enter]
  refine g2.mono fun e w2 ⟨bs,rfs,objs,u,⟨x,hJ,e1,e2,e3⟩,e4,_,e6⟩=> ?_
  subst e1 e2 e3 e4
  have hret:Ret w' (Av cx r1 β) noB w2 [] [.one (.own sz N (cells x) false), .one (.own sz2 n2 ds2 false)] [] (.tuple #[u,x]):=by
   obtain⟨⟨γ,us',m1,m2,m3,m4,m5,m6⟩,p1,p2,p3,p4⟩:=e6
   have hA:∀b,(Av cx r1 β b∨b∈zdo [.val x])↔Av cx r1 β b:=fun b=>by simp[zdo]
   have hA':(fun b=>Av cx r1 β b∨b∈zdo [.val x])=Av cx r1 β:=funext fun b=>propext (hA b)
   have hal:zbm [.one (.own sz N (cells x) false)] [[.own sz2 n2 ds2 false]]=zbm [.one (.own sz N (cells x) false), .one (.own sz2 n2 ds2 false)] []:=rfl
   rw[hal]at m2 m3 m4 m5 m6
   have hA2:(fun b=>(Av cx r1 β b∨b∈zdo [.val x])∨NB γ 0 (zbm [.one (.own sz N (cells x) false), .one (.own sz2 n2 ds2 false)] []) b)=(fun b=>Av cx r1 β b∨NB γ 0 (zbm [.one (.own sz N (cells x) false), .one (.own sz2 n2 ds2 false)] []) b):=funext fun b=>by rw[propext (hA b)]
   rw[hA2]at m2 m3
   simp only[RFvs,RFv,zbV,List.flatMap_cons,List.flatMap_nil,RF.cells,List.append_nil,List.length_cons,List.length_nil]at m2 m3
   obtain⟨u0,us0,rfl,t1,rfl⟩:=m2
   obtain⟨t2,_⟩:=m3
   rcases t2 with t2|t2
   ·cases t2
   ·simp only[ROcs]at t2
    obtain⟨x0,xs0,t3,t4,rfl⟩:=t2
    cases t3
    refine⟨⟨γ,[u0,x],by rw[m1], ?_,by simp[zbV],fun b hb=>⟨(m4 b hb).1,by simp[zdo]⟩,m5,m6⟩,p1,p2,p3,p4⟩
    simp only[RFvs,RFv,RF.cells,List.length_cons,List.length_nil]
    exact⟨u0,[x],rfl,t1,x,[],rfl,t4,rfl⟩
  obtain⟨β2,q1,q2⟩:=zxs hh' hret (some d)
  simp only[bindRet,bindRetB,List.flatMap_cons,List.flatMap_nil,RF.cells,List.append_nil,List.cons_append,List.nil_append,noOwn,Bool.false_eq_true,if_false,bindFs,bindF,bindCs,tupOf,bindRs,Bool.and_false,List.length_cons,List.length_nil,Nat.zero_add]at q1 q2
  simp only[ReA,ReAs]at q2
  obtain⟨us3,f1,u3,us4,f0,f2,u5,us6,f00,f3,f000⟩:=q2
  simp only[Value.tuple.injEq]at f1
  subst f1 f00 f000
  simp only[List.cons.injEq,and_true]at f0
  obtain⟨rfl,rfl⟩:=f0
  refine zeP (K:=zh8 T cx.P z Q) hT (fun e g a w hg hq=>zsf hT hm hR hg hq) (all.drop (k+1)) (k+1) ⟨none,[]⟩ _ _ _ w2 (fun j=>by rw[List.getElem?_drop]) (h2 x hJ) ?_
  rw[hd]
  refine⟨β2, ?_⟩
  have hp:=Holds.put q1 (some d) (x:= .one (.own ⟨d,1,nxt r1 d⟩ 0 N)) (u:=u) (by simpa only[ReA]using f2)
  simp only[G.put]at hp
  have hsz:=hp.sz
  refine {hp with sz:=by simpa using hsz,sl:=fun i y hi=> ?_}
  simp only[List.getElem?_set]at hi
  by_cases hqi:q=i
  ·subst hqi
   rw[if_pos rfl]at hi
   split at hi
   ·cases hi
    rename_i hlt
    have hlt':q<(a'.put (some d) u).tmps.size:=by rw[hsz];simpa using hlt
    refine⟨(a'.put (some d) u).tmps[q],Array.getElem?_eq_getElem hlt', ?_⟩
    simp only[ReA,ReC]at f3⊢
    exact f3
   ·cases hi
  ·rw[if_neg hqi]at hi
   exact hp.sl i y (by simpa[List.getElem?_set]using hi)
theorem zx3 {x y:Code} {id:Nat} {g:G} {Q:Ex→G→Prop} {τ:Type} (S:τ→G) (J:τ→Prop) (h1:∀t,J t→awp T P y (S t) Q)
  (h2:∀K:G→Prop,(∀g t,Gh g (S t)→J t→K g)→zrb T P x g (zyE id (zvX K Q))):zrb T P x g (zyE id (zh8 T P y Q)):=by
 have:=h2 (fun g=>zh8 T P y Q .normal g) fun g t h3 h4=> .inl ⟨_,h3,h1 t h4⟩
 have he:zvX (fun g=>zh8 T P y Q .normal g) Q=zh8 T P y Q:=by
  funext e g
  cases e<;>rfl
 rwa[he]at this
theorem zva {i j:Nat} {h:Hd} {n:Nat} {x:Value} (hi:v[i]? =some (.one (.d (.raw x)))) (hj:v[j]? =some (.one (.lk h n x))) (hh:HoldsE cx ⟨v,r⟩ a w):HoldsE cx ⟨v.set i (.one (.own h 0 n)),r⟩ a w:=by
 obtain⟨β,hh⟩:=hh
 obtain⟨u,g1,g2⟩:=hh.sl i _ hi
 obtain⟨u',_,g4⟩:=hh.sl j _ hj
 simp only[ReA,ReC,Rd]at g2 g4
 obtain⟨rfl,_⟩:=g2
 refine⟨β,{hh with sz:=by simpa using hh.sz,sl:=fun k y hk=> ?_}⟩
 simp only[List.getElem?_set]at hk
 by_cases hki:i=k
 ·subst hki
  rw[if_pos rfl]at hk
  split at hk
  ·cases hk
   exact⟨u,g1,by simp only[ReA,ReC];exact g4⟩
  ·cases hk
 ·rw[if_neg hki]at hk
  exact hh.sl k y hk
theorem zqS {s k k' e j q n:Nat} {rs:RS} {V res:Res} (h1:findR s r=some rs) (h2:rs.l[0]? =some (some V)) (hv:V.var=true) (h3:V.cells[k]? =some (.own ⟨s,k',e⟩ 0 n))
  (h4:getR r ⟨s,k',e⟩=some res) (h5:res.fz=false) (hk0:k'≠0) (h6:findR q r=none) (h7:v[j]? =some (.one .dead)):
  Fam (fun x:Option Addr×Nat=>⟨v.set j (.one (.lk ⟨q,1,0⟩ n (.slice x.1 n x.2))),setR q ⟨1,[none,some {res with e:=0}]⟩
   (setR s ⟨rs.next,(rs.l.set k' none).set 0 (some {V with cells:=V.cells.set k (.d (.raw (.slice x.1 n x.2)))})⟩ r)⟩) (fun _=>True) ⟨v,r⟩:=by
 rintro cx a w ⟨β,hh⟩
 have hsq:s≠q:=fun e=>by rw[e,h6]at h1;cases h1
 have hlkV:lookR r s 0=some V:=by unfold lookR;simp only[h1,h2]
 obtain⟨hok0,hlt0⟩:=hh.rs _ _ _ hlkV
 unfold ResOK at hok0
 rw[if_pos hv]at hok0
 obtain⟨p0,b,arr,ee,p1,p2,p3,p4⟩:=hok0
 obtain⟨u,hu1,hu2⟩:=zbF p3 h3
 have hu2':=hu2
 simp only[ReC]at hu2
 obtain⟨c1,c2,c3⟩:=hu2
 obtain⟨d1,d2,d3,ad,d4,d5⟩:=c3 res h4
 obtain⟨cap,hcap⟩:∃cap,cap=(β s k').cap - 0:=⟨_,rfl⟩
 rw[←hcap]at d4
 refine⟨(ad,cap),trivial, ?_⟩
 simp only
 rw[←d4]
 -- the cell
 obtain⟨β1,t1,t2,t3⟩:=hh.recell (next':=rs.next) (x:= .d (.raw u)) (V:=V) (k:=k) (b:=b) (cs:=arr) (e:=ee) (u:=u) h1 h2 hv p1 p2 (by simpa using hu1) (by simp only[ReC,Rd];exact⟨trivial,c1⟩) (Nat.le_refl _)
 have hu3:=hu2'.ext t3
 -- a home
 generalize hr1:setR s ⟨rs.next,rs.l.set 0 (some {V with cells:=V.cells.set k (.d (.raw u))})⟩ r=r1 at*
 have hq1:findR q r1=none:=by rw[←hr1,zaf,if_neg hsq];exact h6
 have hlk2:∀s' j',lookR (setR q ⟨0,[none,none]⟩ r1) s' j'=lookR r1 s' j':=fun s' j'=>by
  rw[zaz]
  split
  ·rename_i e1
   subst e1
   unfold lookR
   rw[hq1]
   simp only
   match j' with
   |0=>rfl
   |1=>rfl
   |(x+2)=>rfl
  ·rfl
 have hnx2:∀s',nxt (setR q ⟨0,[none,none]⟩ r1) s'=nxt r1 s':=fun s'=>by
  rw[zaM]
  split
  ·rename_i e1;subst e1;unfold nxt;rw[hq1]
  ·rfl
 obtain⟨g1,gx⟩:=t1.ghost (r':=setR q ⟨0,[none,none]⟩ r1) (β':=β1) (fun s'=>by rw[hnx2];exact Nat.le_refl _)
  (fun s' j' res' hl=>by rw[hlk2]at hl;exact⟨by rw[hnx2];exact(t1.rs _ _ _ hl).2,s',j',res',hl,rfl,rfl⟩)
  (fun s1 j1 res1 s2 j2 res2 s0 j0 q1 q2 q3 q4 q5=>by
   rw[hlk2]at q1 q2
   cases hbb:(β1 s0 j0).base with
   |none=>exact .inl rfl
   |some pp=>
    by_cases f1:res1.fz=true
    ·exact .inr (.inr (.inl f1))
    ·by_cases f2:res2.fz=true
     ·exact .inr (.inr (.inr f2))
     ·exact .inr (.inl (t1.inj s1 j1 res1 s2 j2 res2 pp.1 pp.2 pp.2 q1 (by simpa using f1) q2 (by simpa using f2) (by rw[q3,hbb]) (by rw[q4,hbb]))))
  (fun hd res' hlt hg=>by
   obtain⟨e1,e2⟩:=zac hg
   rw[hlk2]at e1
   exact⟨zaq e1 e2,rfl⟩)
 have hu4:=hu3.ext gx
 generalize hr2:setR q ⟨0,[none,none]⟩ r1=r2 at*
 have hs2:findR s r2=some ⟨rs.next,rs.l.set 0 (some {V with cells:=V.cells.set k (.d (.raw u))})⟩:=by
  rw[←hr2,zaf,if_neg (Ne.symm hsq),←hr1,zaf,if_pos rfl]
 have hg2:getR r2 ⟨s,k',e⟩=some res:=by
  obtain⟨e1,e2⟩:=zac h4
  refine zaq ?_ e2
  unfold lookR
  rw[hs2]
  simp only[List.getElem?_set_ne (Ne.symm hk0)]
  unfold lookR at e1
  rw[h1]at e1
  exact e1
 obtain⟨β3,m1,m2,m3⟩:=g1.move (d:=q) (j:=1) (rd:=⟨0,[none,none]⟩) hg2 h5 hsq hs2 (by rw[←hr2,zaf,if_pos rfl]) rfl
 have hu5:=m3 0 n u hu4
 refine⟨β3,{(m1.congr (r':=setR q ⟨1,[none,some {res with e:=0}]⟩ (setR s ⟨rs.next,(rs.l.set k' none).set 0 (some {V with cells:=V.cells.set k (.d (.raw u))})⟩ r)) fun s'=> ?_)with sz:=by have:=m1.sz;simpa using this,sl:=fun i y hi=> ?_}⟩
 ·simp only[zaf]
  by_cases e1:q=s'
  ·simp[e1]
  ·simp only[if_neg e1]
   by_cases e2:s=s'
   ·simp only[if_pos e2]
    congr 2
    rw[List.set_comm _ _ (Ne.symm hk0)]
   ·simp only[if_neg e2,←hr2,zaf,if_neg e1,←hr1]
 ·have hcg:∀s',findR s' (setR q ⟨0+1,[none,none].set 1 (some {res with e:=0})⟩ (setR s ⟨rs.next,(rs.l.set 0 (some {V with cells:=V.cells.set k (.d (.raw u))})).set k' none⟩ r2))=
    findR s' (setR q ⟨1,[none,some {res with e:=0}]⟩ (setR s ⟨rs.next,(rs.l.set k' none).set 0 (some {V with cells:=V.cells.set k (.d (.raw u))})⟩ r)):=fun s'=>by
   simp only[zaf]
   by_cases e1:q=s'
   ·simp[e1]
   ·simp only[if_neg e1]
    by_cases e2:s=s'
    ·simp only[if_pos e2]
     congr 2
     rw[List.set_comm _ _ (Ne.symm hk0)]
    ·simp only[if_neg e2,←hr2,zaf,if_neg e1,←hr1]
  have hm:=m1.congr hcg
  simp only[List.getElem?_set]at hi
  by_cases hji:j=i
  ·subst hji
   rw[if_pos rfl]at hi
   split at hi
   ·cases hi
    rename_i hlt
    obtain⟨u',w1,w2⟩:=hm.sl j _ h7
    refine⟨u',w1, ?_⟩
    have hm2:=hm.sl
    simp only[ReA,ReC]at hu5⊢
    refine⟨hu5.1, ?_,fun res' hr=> ?_⟩
    ·have:nxt (setR q ⟨0+1,[none,none].set 1 (some {res with e:=0})⟩ (setR s ⟨rs.next,(rs.l.set 0 (some {V with cells:=V.cells.set k (.d (.raw u))})).set k' none⟩ r2)) q=nxt (setR q ⟨1,[none,some {res with e:=0}]⟩ (setR s ⟨rs.next,(rs.l.set k' none).set 0 (some {V with cells:=V.cells.set k (.d (.raw u))})⟩ r)) q:=by unfold nxt;rw[hcg]
     rw[←this];exact hu5.2.1
    ·refine hu5.2.2 res' ?_
     unfold getR lookR at hr⊢
     rw[hcg];exact hr
   ·cases hi
  ·rw[if_neg hji]at hi
   exact hm.sl i y hi
theorem Gh.view {i j:Nat} {h:Hd} {n:Nat} {x:Value} (hi:v[i]? =some (.one (.d (.raw x)))) (hj:v[j]? =some (.one (.lk h n x))):Gh ⟨v,r⟩ ⟨v.set i (.one (.own h 0 n)),r⟩:=fun _ _ _ hh=>zva hi hj hh
theorem Gh.dropRow (s j:Nat) {rs:RS} (h1:findR s r=some rs):Gh ⟨v,r⟩ ⟨v,setR s {next:=rs.next,l:=rs.l.set j none} r⟩:=fun cx a w ⟨β,hh⟩=>by
 have hlk:∀s' j' res,lookR (setR s {next:=rs.next,l:=rs.l.set j none} r) s' j'=some res→lookR r s' j'=some res:=fun s' j' res hl=>by
  rw[zaz]at hl
  split at hl
  ·rename_i e
   subst e
   unfold lookR
   simp only[h1]
   simp only[List.getElem?_set]at hl
   by_cases hj:j=j'
   ·rw[if_pos hj]at hl
    split at hl
    ·rename_i he
     split at he
     ·cases he
     ·cases he
    ·cases hl
   ·rw[if_neg hj]at hl
    exact hl
  ·exact hl
 have hnx:∀s',nxt (setR s {next:=rs.next,l:=rs.l.set j none} r) s'=nxt r s':=fun s'=>by
  rw[zaM]
  split
  ·rename_i e;subst e;unfold nxt;rw[h1]
  ·rfl
 obtain⟨g1,_⟩:=hh.ghost (r':=setR s {next:=rs.next,l:=rs.l.set j none} r) (β':=β) (fun s'=>by rw[hnx];exact Nat.le_refl _)
  (fun s' j' res' hl=>⟨by rw[hnx];exact(hh.rs _ _ _ (hlk _ _ _ hl)).2,s',j',res',hlk _ _ _ hl,rfl,rfl⟩)
  (fun s1 j1 res1 s2 j2 res2 s0 j0 q1 q2 q3 q4 q5=>by
   have q1:=hlk _ _ _ q1
   have q2:=hlk _ _ _ q2
   cases hbb:(β s0 j0).base with
   |none=>exact .inl rfl
   |some pp=>
    by_cases f1:res1.fz=true
    ·exact .inr (.inr (.inl f1))
    ·by_cases f2:res2.fz=true
     ·exact .inr (.inr (.inr f2))
     ·exact .inr (.inl (hh.inj s1 j1 res1 s2 j2 res2 pp.1 pp.2 pp.2 q1 (by simpa using f1) q2 (by simpa using f2) (by rw[q3,hbb]) (by rw[q4,hbb]))))
  (fun hd res' hlt hg=>by
   obtain⟨e1,e2⟩:=zac hg
   exact⟨zaq (hlk _ _ _ e1) e2,rfl⟩)
 exact⟨β,g1⟩
def zD3 (T:Nat→Option TI) (P:Program) (all:List Oper) (k:Nat) (z:Code) (Q:Ex→G→Prop) (e:Ex) (g:G):Prop:=
 match e with
 | .normal=>∃g',Gh g g'∧aops T P all ⟨none,[]⟩ (all.drop k) g'.v g'.r (zh8 T P z Q)
 |_=>False
theorem zpG (hT:TOK P T) (hm:P.follows .mixedOrders=true) (k:Nat) {id:Nat} {all:List Oper} {z:Code} {g:G} {Q:Ex→G→Prop}
  (h:aops T P all ⟨none,[]⟩ (all.take k) g.v g.r (zD3 T P all k z Q)):zyD P (.seq (.region id all.toArray false) z) g Q:=fun cx hP R hR a w hh=>by
 subst hP
 refine wp_seq (wp_region ?_)
 have hlen:(all.take k).length+(all.drop k).length=all.length:=by rw[←List.length_append,List.take_append_drop]
 have:=zhj (cx:=cx) (all:=all) (Q:=Exit.then (z.wp cx.P R) R) hT (fun x g a w _ hq=>hq.elim) (all.drop k) (all.take k) 0 ⟨none,[]⟩ g.v g.r a w
  (fun j=>by rw[List.take_append_drop,Nat.zero_add]) h (fun g' a' w' hh' hf=> ?_) hh
 ·rw[hlen]at this
  simpa[List.range_eq_range']using this
 ·obtain⟨g2,hg,h2⟩:=hf
  refine zeP hT (fun e g a w hg hq=>zsf hT hm hR hg hq) (all.drop k) _ ⟨none,[]⟩ g2.v g2.r a' w' (fun j=> ?_) h2 (hg _ _ _ hh')
  rw[Nat.zero_add,List.getElem?_drop]
  rcases Nat.le_total k all.length with hk|hk
  ·rw[List.length_take,Nat.min_eq_left hk]
  ·rw[List.length_take,Nat.min_eq_right hk,List.getElem?_eq_none (by omega),List.getElem?_eq_none (by omega)]
def zBj (T:Nat→Option TI) (rvs:List ResultVar) (q n2:Nat) (J:Value→Prop) (R:Value→List RF) (L:List RO) (e:Ex) (g:G):Prop:=
 (e= .normal∨e= .ret)∧(resAs T g.v g.r rvs).1∧∃(j:Nat) (x:Value),g.v[j]? =some (AV.one (C.lk ⟨q,1,0⟩ n2 x))∧J x∧avRFs g.r (resAs T g.v g.r rvs).2=some (R x)∧roCs g.r [C.own ⟨q,1,0⟩ 0 n2]=some L∧
  ndB (ownHs g.r (avCellss (resAs T g.v g.r rvs).2++flatCs [[C.own ⟨q,1,0⟩ 0 n2]]))=true
theorem zvb (hT:TOK P T) (hm:P.follows .mixedOrders=true) {f:FuncId} {fn:Func} {c:Code} {rvs:List ResultVar} {n q n2:Nat} (hf:P.funcs[f]? =some fn) (hb:fn.body=some c)
  (hres:fn.results=rvs.toArray) (hn:fn.ntmps=n) (hcall:∀(us:Array Value) (w:World),(callFunc f us).run P w= .ok (.enter f us) w) {args:List Arg} {J:Value→Prop} {R:Value→List RF} {L:List RO}
  (h:awp T P c (openG n args) (zBj T rvs q n2 J R L)):ztd P f args (fun bs r o=>∃x,J x∧bs=[.val x]∧r=R x∧o=[L]):=by
 refine⟨hcall,fun w A0 us hA ha=> ?_⟩
 refine calls_of_wp hf hb ?_
 have hob:zao args=[]:=by
  clear h
  have:∀{args:List Arg} {k:Nat} {us:List Value},zas P w A0 (fun _=>False) (fun _=>⟨none,0⟩) k args [] us→zao args=[]:=by
   intro args
   induction args with
   |nil=>intros;rfl
   |cons x xs ih=>
    intro k us ha
    cases x with
    |f y=>simp only[zas]at ha;obtain⟨_,us',_,_,ha⟩:=ha;exact ih ha
    |obj _=>simp only[zas]at ha;obtain⟨_,_,_,_,_,_,e,_⟩:=ha;cases e
    |row _ _ _=>simp only[zas]at ha;obtain⟨_,_,_,_,e,_⟩:=ha;cases e
    |agr _ _ _ _ _=>simp only[zas]at ha;obtain⟨_,_,_,_,_,_,e,_⟩:=ha;cases e
  exact this ha
 have h0:=zeT (n:=n) ha hA (fun b hb=>hb.elim) (by rw[hob];intro b hb;exact hb.elim) List.nodup_nil (by rw[hob];intro i j b o o' sz n ds bo sz' n' ds' bo' h1;simp at h1)
 have hend:∀e g a w',HoldsE (cxO P w A0 (fun _=>False) args []) g a w'→zBj T rvs q n2 J R L e g→
   a.defers=[]∧∃v,(results fn a.tmps).run P w'= .ok v w'∧∃bs r objs u,(∃x,J x∧bs=[.val x]∧r=R x∧objs=[L])∧Ending.returned v= .returned u∧(∀b∈zdo bs,w.heap.size≤b)∧
    Ret w (fun b=>A0 b∨b∈zdo bs) (fun _=>False) w' bs r objs u:=by
  rintro e ⟨v,r⟩ a w' ⟨β,hh⟩ ⟨_,g1,j,x,g2,g3,g4,g5,g6⟩
  obtain⟨vs,k1,k2⟩:=zhm (cx:=cxO P w A0 (fun _=>False) args []) hT hh g1
  refine⟨hh.df,zsR vs,zfe hres k1,[.val x],R x,[L],zsR vs,⟨x,g3,rfl,rfl,rfl⟩,rfl,fun b hb=>by simp[zdo]at hb, ?_⟩
  obtain⟨u',_,w2⟩:=hh.sl j _ g2
  simp only[ReA,ReC]at w2
  exact zpY (cx:=cxO P w A0 (fun _=>False) args []) (A1:=fun b=>A0 b∨b∈zdo [.val x]) (ps:=[.r q n2]) (bs:=[.val x]) (cs:=[[C.own ⟨q,1,0⟩ 0 n2]]) hh (fun b hb=>hb.elim .inl fun hb=>by simp[zdo]at hb) k2 rfl g4
   (by simp only[zc3];exact⟨.inr trivial,trivial⟩) (by simp only[roCss];rw[g5]) g6 (by simp only[zb2,ReC];exact⟨w2,trivial⟩) (fun s j res b o _ _ _ _ hm=>by simp[zdo]at hm)
 have hact:({tmps:=us.toArray++Array.replicate (fn.ntmps - us.toArray.size) undef,defers:=[]}:Act)={tmps:=us.toArray++Array.replicate (n - us.length) undef,defers:=[]}:=by rw[hn];simp
 rw[hact]
 refine ziv (cx:=cxO P w A0 (fun _=>False) args []) hT hm c (openG n args) _ _ (fun e g a w' hh hq=> ?_) h _ _ ⟨_,h0⟩
 have hq':=hq
 obtain⟨he,_⟩:=hq'
 rcases he with rfl|rfl
 ·exact hend _ g a w' hh hq
 ·exact hend _ g a w' hh hq
end
def zjr:Op→Bool
 | .move _=>true
 | .binOp .. =>true
 | .convert .. =>true
 | .load .. =>true
 | .fieldAddr .. =>true
 | .indexAddr .. =>true
 | .index .. =>true
 | .field .. =>true
 | .slice .. =>true
 | .nilCheck _=>true
 | .extract .. =>true
 | .unOp .. =>true
 | .build .. =>true
 |_=>false
def zA1 (o:Oper):Oper:={o with dst:=none,op:= .move (.const (.bool false)),guard:=none}
def zfd (p:Nat) (all:List Oper):List Oper:=all.zipIdx.map fun y=>if(y.2==p||((zep all).getD y.2 0).testBit p)=true then zA1 y.1 else y.1
theorem zlP {p:Nat} {all:List Oper} {j:Nat}:(zfd p all)[j]? =(all[j]?).map fun o=>if(j==p||((zep all).getD j 0).testBit p)=true then zA1 o else o:=by
 unfold zfd
 rw[List.getElem?_map,List.getElem?_zipIdx]
 cases all[j]? <;>simp
theorem zsh {op:Op} (h:zjr op=true) {v:List AV} {dst:Option Nat}:(fpOf v dst op).w=[]:=by
 cases op<;>first|rfl|simp[zjr]at h
section
variable {T:Nat→Option TI} {P:Program} {cx:Cx} {K:Ex→G→Prop}
theorem zsi (hT:TOK cx.P T) {all:List Oper}:∀(rest:List Oper) (k:Nat) (m:M) (v:List AV) (r:Rs),(∀o∈rest,o.guard=none∧zjr o.op=true)→aops T cx.P all m rest v r K→
  ∃(St:Nat→G) (X:Nat→AV) (F:List FP),St k=⟨v,r⟩∧K .normal (St (k+rest.length))∧(∀f∈F,f.w=[])∧F.length=rest.length∧
   ∀j o,rest[j]? =some o→∃fp,zdW cx all o (St (k+j)).v (St (k+j)).r fp (X (k+j)) (St (k+j+1)).r∧(St (k+j+1)).v=putV (St (k+j)).v o.dst (X (k+j))∧
    F[j]? =some fp∧∀s∈fp.w,s∈fp.t
 |[],k,m,v,r,_,hk=>⟨fun _=>⟨v,r⟩,fun _=> .one .dead,[],rfl,hk.2,by simp,rfl,fun j o h=>by simp at h⟩
 |o::rest,k,m,v,r,hq,hk=>by
  obtain⟨q1,q2⟩:=hq o (by simp)
  have hk2:(aop T true v r o.dst o.op).sc∧aops T cx.P all (addFP m v o.dst o.op) rest (putV v o.dst (aop T true v r o.dst o.op).x) (aop T true v r o.dst o.op).r K:=by
   unfold aops at hk
   split at hk
   ·split at hk
    ·rename_i f args ts ho
     rw[ho]at q2
     simp[zjr]at q2
    ·rename_i y ho
     rw[ho]at q2
     simp[zjr]at q2
    ·exact hk
   ·rename_i hg
    rw[q1]at hg
    cases hg
  obtain⟨s1,s2⟩:=hk2
  obtain⟨St,X,F,g1,g2,g3,g4,g5⟩:=zsi hT rest (k+1) _ _ _ (fun o ho=>hq o (by simp[ho])) s2
  refine⟨fun i=>if i=k then⟨v,r⟩else St i,fun i=>if i=k then(aop T true v r o.dst o.op).x else X i,fpOf v o.dst o.op::F,by simp, ?_, ?_,by simp[g4],fun j o' hj=> ?_⟩
  ·simp only[List.length_cons]
   rw[if_neg (by omega),show k+(rest.length+1)=k+1+rest.length from by omega]
   exact g2
  ·intro f hf
   rcases List.mem_cons.1 hf with rfl|hf
   ·exact zsh q2
   ·exact g3 f hf
  ·cases j with
   |zero=>
    simp only[List.getElem?_cons_zero,Option.some.injEq]at hj
    subst hj
    simp only[Nat.add_zero,if_true]
    rw[if_neg (by omega),g1]
    exact⟨_,znk hT q1 s1,rfl,by simp,fun s hs=>by rw[zsh q2]at hs;cases hs⟩
   |succ j=>
    have:=g5 j o' (by simpa using hj)
    simp only[if_neg (show k+(j+1)≠k from by omega),if_neg (show k+(j+1)+1≠k from by omega)]
    rw[show k+(j+1)=k+1+j from by omega]
    simpa using this
theorem zsj {all:List Oper} {F:List FP} (h:∀f∈F,f.w=[]):zme all F=true:=by
 unfold zme
 refine List.all_eq_true.2 fun y hy=>List.all_eq_true.2 fun x hx=> ?_
 have h1:=h y.1 (List.fst_mem_of_mem_zipIdx hy)
 have h2:=h x.1 (List.fst_mem_of_mem_zipIdx hx)
 simp[FP.apart,dis,h1,h2]
theorem zeA {L α:Type} {b0:L→α} {Wr:Nat→L→Option α} {S:Nat→Bool} {l:L}:∀{n:Nat},(∀k,k<n→Wr k l≠none→S k=true)→zge b0 Wr S n l=zge b0 Wr (fun _=>true) n l
 |0,_=>rfl
 |n+1,h=>by
  simp only[zge,if_true]
  rw[zeA (n:=n) fun k hk=>h k (by omega)]
  cases hw:Wr n l with
  |none=>simp
  |some y=>rw[h n (by omega) (by rw[hw];simp)];simp
theorem zkW {all:List Oper} (ho:zzs all=true) {listed:Array Bool} (hr:Region.ready .any all.toArray listed=[]) (hsz:listed.size=all.length):∀n j,j<n→j<all.length→listed.getD j false=true
 |0,_,h,_=>absurd h (Nat.not_lt_zero _)
 |n+1,j,hj,hjl=>by
  obtain⟨_,o2,_⟩:=zeQ ho
  have ho':all[j]? =some all[j]:=List.getElem?_eq_getElem hjl
  cases hl:listed.getD j true with
  |true=>simpa[hsz,hjl]using hl
  |false=>
   have:j∈Region.ready .any all.toArray listed:=by
    rw[mem_ready]
    refine⟨hl,all[j],by simp,fun e he hb=> ?_⟩
    have hlt:=o2 j _ ho' e he hb
    exact zkW ho hr hsz n e.on (by omega) (by omega)
   rw[hr]at this
   cases this
theorem zsk {Q:Exit→Act→World→Prop} {all all':List Oper} {j:Nat} {o:Oper} {R:Act→World→Prop} {a:Act} {w:World} (h1:all[j]? =some o) (h2:all'[j]? =some o) (hg:o.guard=none)
  (h:wpOp P all'.toArray Q j R a w):wpOp P all.toArray Q j R a w:=by
 unfold wpOp at h⊢
 have e1:all.toArray[j]? =some o:=by simpa using h1
 have e2:all'.toArray[j]? =some o:=by simpa using h2
 simp only[e1,e2,zcy hg,if_true]at h⊢
 refine h.imp id fun h=> ?_
 exact h
def zAL (P:Program) (f:Operand) (args:Array Operand) (x:Value) (g:G):Prop:=
 evS true g.v f∧evsS true g.v args.toList∧∃n as,zbW P n as x∧(callA g.v g.r f args=some (n,as)∨∃i mv lent l',callM i g.v g.r f args=some (n,as,mv,lent)∧scM g.r none mv lent l')
theorem zqT (hT:TOK cx.P T) (hm:cx.P.follows .mixedOrders=true) {ops:List Oper} {p:Nat} {o:Oper} {f:Operand} {args:Array Operand} {ts:Array TypeId} {x:Value} {g:G} {Q:Exit→Act→World→Prop} {id:Nat}
  (hop:ops[p]? =some o) (ho:o.op= .call ⟨.value f,args,ts⟩) (hg:o.guard=none) (h1:znC ops) (h2:znC (zfd p ops)) (h3:((zfd p ops).all fun o=>o.guard.isNone&&zjr o.op)=true)
  (hQ:∀g a w,HoldsE cx g a w→Q (ztf (.panic x)) a w)
  (hw:aops T cx.P (zfd p ops) ⟨none,[]⟩ (zfd p ops) g.v g.r fun _ g'=>zAL cx.P f args x g') {a:Act} {w:World} (h:HoldsE cx g a w):(Code.region id ops.toArray true).wp cx.P Q a w:=by
 obtain⟨St,X,F,g1,g2,g3,g4,g5⟩:=zsi hT (zfd p ops) 0 _ _ _ (fun y hy=>by
  have:=List.all_eq_true.1 h3 y hy
  simp only[Bool.and_eq_true,Option.isNone_iff_eq_none]at this
  exact this) hw
 rw[Nat.zero_add]at g2
 have hf:Found cx (zfd p ops) St X F:=⟨g4,fun j o hj=>by simpa using g5 j o hj,h2,zsj g3⟩
 obtain⟨_,o2,o3⟩:=zeQ h1
 have hpl:p<ops.length:=(List.getElem?_eq_some_iff.1 hop).1
 have hrr:∀S n s,zge (fun s=>findR s (St 0).r) (WrR F St) S n s=findR s (St 0).r:=fun S n s=>by
  rw[zeA (S:=S) fun k _ hw=> ?_,←zeA (S:=fun _=>false) fun k _ hw=> ?_,zfH fun k _=>rfl]
  all_goals
   obtain⟨f',hf1,hf2⟩:=zpN hw
   rw[g3 f' (List.mem_of_getElem? hf1)]at hf2
   cases hf2
 have key:∀(fuel:Nat) (listed:Array Bool) (a:Act) (w:World),listed.size=ops.length→unl ops.length listed≤fuel→Closed ops (fun i=>listed.getD i false)→listed.getD p false=false→
   Inv cx (zfd p ops) St X F (fun i=>listed.getD i false) a w→wpAny cx.P .any ops.toArray Q fuel listed a w:=by
  intro fuel
  induction fuel with
  |zero=>
   intro listed a w hsz hu hc hp hI
   exfalso
   have:p∈(List.range ops.length).filter fun i=> !listed.getD i true:=by
    have:listed.getD p true=false:=by simp[hsz,hpl]at hp⊢;exact hp
    simp only[List.mem_filter,List.mem_range,hpl,this,Bool.not_false,and_self]
   have:=List.length_pos_of_mem this
   unfold unl at hu
   omega
  |succ fuel ih=>
   intro listed a w hsz hu hc hp hI
   refine⟨fun hr=> ?_,fun j hj=> ?_⟩
   ·have:=zkW h1 hr hsz (p+1) p (by omega) hpl
    rw[hp]at this
    cases this
   ·obtain⟨q1,oj,hoj,hall⟩:=mem_ready.1 hj
    have hoj':ops[j]? =some oj:=by simpa using hoj
    have hjl:j<ops.length:=(List.getElem?_eq_some_iff.1 hoj').1
    have hjf:listed.getD j false=false:=by simp[hsz,hjl]at q1⊢;exact q1
    by_cases hjp:j=p
    ·subst hjp
     rw[hop]at hoj'
     cases hoj'
     obtain⟨v,r,⟨β,hH⟩,hl,hv,hr⟩:=hI
     have hlook:∀d∈o.looksAt ops.toArray,v[d]? =(St (zfd j ops).length).v[d]? :=fun d hd=>by
      rw[hv d,←hf.lexV d _ (Nat.le_refl _)]
      refine zeA fun k hk hw=> ?_
      obtain⟨y,hy,hyd,_⟩:=zpM hw
      rw[zlP]at hy
      cases hok:ops[k]? with
      |none=>rw[hok]at hy;cases hy
      |some z=>
       rw[hok]at hy
       simp only[Option.map_some,Option.some.injEq]at hy
       split at hy
       ·subst hy;cases hyd
       ·rename_i hns
        subst hy
        simp only[Bool.or_eq_true,beq_iff_eq,not_or]at hns
        rcases Nat.lt_or_ge k j with hkj|hkj
        ·rcases o3 k j z o hok hop hkj with h|h
         ·exact hc.bef o2 (j+1) j (by omega) o hop hall k h
         ·exact absurd hd ((Oper.apart_spec h).1 d hyd)
        ·rcases o3 j k o z hop hok (by omega)with h|h
         ·exact absurd h (by simpa using hns.2)
         ·exact absurd hd ((Oper.apart_spec h).2.2 d hyd)
     have hrf:∀s,findR s r=findR s (St (zfd j ops).length).r:=fun s=>by
      rw[hr s,hrr,←hf.lexR s _ (Nat.le_refl _),hrr]
     obtain⟨β,hH⟩:=HoldsE.congr ⟨β,hH⟩ hrf
     have hge:∀y∈o.op.operands.toList,gev v y=gev (St (zfd j ops).length).v y:=fun y hy=>zxg fun t ht=>hlook t (by subst ht;exact List.mem_append_left _ (List.mem_filterMap.2 ⟨.tmp t,hy,rfl⟩))
     have hgf:gev v f=gev (St (zfd j ops).length).v f:=hge f (by rw[ho];simp[Op.operands,Call.operands])
     have hga:∀y∈args.toList,gev v y=gev (St (zfd j ops).length).v y:=fun y hy=>hge y (by rw[ho];simp[Op.operands,Call.operands];simp at hy;simp[hy])
     obtain⟨s1,s2,n,as,s3,s4⟩:=g2
     refine(zpV (cx:=cx) (all:=ops) (m:=⟨none,[]⟩) (K:=fun e _=>e= .panic x) ho (zoC hg) (by rw[zbD hgf];exact s1) (by rw[zb7 hga];exact s2) ⟨rfl,n,as,x,s3, ?_⟩).2 a w β hH j Q _ (by simpa using hop) fun x' g a w hg' hx=>by cases hx;exact hQ g a w hg'
     rcases s4 with s4|⟨i,mv,lent,l',s4,s5⟩
     ·exact .inl ⟨by rw[zoG hgf hga];exact s4,rfl⟩
     ·exact .inr ⟨i,mv,lent,l',by rw[zsJ hgf hga];exact s4,s5,rfl⟩
    ·have hnb:¬((zep ops).getD j 0).testBit p=true:=fun hb=>by
      have:=hc.bef o2 (j+1) j (by omega) oj hoj' hall p hb
      rw[hp]at this
      cases this
     have htj:(zfd p ops)[j]? =some oj:=by
      rw[zlP,hoj']
      simp only[Option.map_some]
      rw[if_neg (by simp[hjp];simpa using hnb)]
     have hset:(listed.setIfInBounds j true).getD j false=true:=by simp[hsz,hjl]
     have hset2:∀k,k≠j→(listed.setIfInBounds j true).getD k false=listed.getD k false:=fun k hk=>getD_set_ne false (Ne.symm hk)
     have hct:Closed (zfd p ops) fun i=>listed.getD i false:=fun k y hk hS e he hb=>by
      rw[zlP]at hk
      cases hok:ops[k]? with
      |none=>rw[hok]at hk;cases hk
      |some z=>
       rw[hok]at hk
       simp only[Option.map_some,Option.some.injEq]at hk
       refine hc k z hok hS e ?_ hb
       subst hk
       split at he
       ·exact he
       ·exact he
     have hgn:oj.guard=none:=by
      have:=List.all_eq_true.1 h3 oj (List.mem_of_getElem? htj)
      simp only[Bool.and_eq_true,Option.isNone_iff_eq_none]at this
      exact this.1
     refine zsk hoj' htj hgn (wpOp_mono (fun a' w' hI'=>ih (listed.setIfInBounds j true) a' w' (by simp[hsz]) ?_ ?_ ?_ hI') (hf.inv_step (S':=fun i=>(listed.setIfInBounds j true).getD i false) hI hct htj hjf hall hset hset2))
     ·have:unl ops.length (listed.setIfInBounds j true)<unl ops.length listed:=by
       unfold unl
       refine filter_lt (fun x hx hp=> ?_) ⟨j,by simp[hjl],by rw[q1];rfl,by simp[hsz,hjl]⟩
       by_cases hxj:x=j
       ·subst hxj;rw[q1];rfl
       ·rwa[getD_set_ne true (Ne.symm hxj)]at hp
      omega
     ·intro k ok hk hSk e he hb
      by_cases hkj:k=j
      ·subst hkj
       rw[hoj']at hk
       cases hk
       exact getD_set_true (hall e he hb)
      ·simp only[hset2 k hkj]at hSk
       exact getD_set_true (hc k ok hk hSk e he hb)
     ·rw[hset2 p (fun h=>hjp h.symm)];exact hp
 refine wp_region_any hm ?_
 have hz:∀i,(Array.replicate ops.length false).getD i false=false:=fun i=>by
  simp only[Array.getD_eq_getD_getElem?,Array.getElem?_replicate]
  split<;>rfl
 obtain⟨β,h⟩:=h
 have:=key ops.length (Array.replicate ops.length false) a {w with drawn:=w.drawn+1} (by simp)
  (by unfold unl;exact Nat.le_trans (List.length_filter_le _ _) (by simp)) (fun j o _ hS=>by have hS':=hz j;simp only at hS;rw[hS']at hS;cases hS) (hz p)
  ⟨g.v,g.r,⟨β,h.drew⟩,by rw[g1],fun d=>by rw[zfH (fun k _=>hz k),g1],fun s=>by rw[zfH (fun k _=>hz k),g1]⟩
 simpa using this
def zlQ:List Bool→List Oper→List Oper
 |b::m,o::l=>(if b=true then zA1 o else o)::zlQ m l
 |_,l=>l
theorem zow {m:List Bool} {o:Oper} {l:List Oper}:zlQ (false::m) (o::l)=o::zlQ m l:=rfl
theorem zox {m:List Bool} {d:Option Nat} {op:Op} {ty:Nat} {pos:String} {after:Array Edge} {g:Option (Nat×Bool)} {l:List Oper}:
  zlQ (true::m) (⟨d,op,ty,pos,after,g⟩::l)=⟨none, .move (.const (.bool false)),ty,pos,after,none⟩::zlQ m l:=rfl
theorem zjs {l:List Oper}:zlQ [] l=l:=by cases l<;>rfl
theorem zlR (hT:TOK P T) (hm:P.follows .mixedOrders=true) (p:Nat) (mask:List Bool) {b id:Nat} {ops:List Oper} {z:Code} {g:G} {Q:Ex→G→Prop} {o:Oper} {f:Operand} {args:Array Operand} {ts:Array TypeId} (x:Value)
  (hQ:∀g,Q (.panic x) g) (hw:aops T P (zlQ mask ops) ⟨none,[]⟩ (zlQ mask ops) g.v g.r fun _ g'=>zAL P f args x g')
  (hop:ops[p]? =some o:=by rfl) (ho:o.op= .call ⟨.value f,args,ts⟩:=by rfl) (hg:o.guard=none:=by rfl) (h1:znC ops:=by(refine ziX ?_;kernel_rfl)) (h2:znC (zfd p ops):=by(refine ziX ?_;kernel_rfl))
  (h3:((zfd p ops).all fun o=>o.guard.isNone&&zjr o.op)=true:=by kernel_rfl) (hmk:zfd p ops=zlQ mask ops:=by kernel_rfl):zyD P (.seq (.block b (.region id ops.toArray true)) z) g Q:=fun cx hP R hR a w hh=>by
 subst hP
 refine wp_seq (wp_block (zqT hT hm hop ho hg h1 h2 h3 (fun g a w hg'=> ?_) (by rw[hmk];exact hw) hh))
 exact hR (.panic x) g a w hg' (hQ g)
theorem zx4 (i:Nat) {f:Operand} {args:Array Operand} {x:Value} {v:List AV} {r:Rs} {n:FuncId} {as:List Arg} {mv:Mv} {lent:List Nat} (l':List RO) (hc:callM i v r f args=some (n,as,mv,lent)) (h:zbW P n as x)
  (hs:scM r none mv lent l') (s1:evS true v f) (s2:evsS true v args.toList):zAL P f args x ⟨v,r⟩:=⟨s1,s2,n,as,h, .inr ⟨i,mv,lent,l',hc,hs⟩⟩
def zAM (A B:Ex→G→Prop) (c:Bool):Ex→G→Prop:=match c with
 |true=>A
 |false=>B
theorem zdO {A B:Ex→G→Prop} {e:Ex} {g:G}:zAM A B true e g=A e g:=rfl
theorem zak {A B:Ex→G→Prop} {e:Ex} {g:G}:zAM A B false e g=B e g:=rfl
theorem zvc (hT:TOK P T) (hm:P.follows .mixedOrders=true) {f:FuncId} {fn:Func} {c:Code} {rvs:List ResultVar} {n:Nat} (hf:P.funcs[f]? =some fn) (hb:fn.body=some c)
  (hres:fn.results=rvs.toArray) (hn:fn.ntmps=n) (hcall:∀(us:Array Value) (w:World),(callFunc f us).run P w= .ok (.enter f us) w) {args:List Arg} {post:List RF→List (List RO)→Prop} {x:Value} {b:Bool}
  (h:awp T P c (openG n args) (zAM (zpQ T rvs (objPos 0 args) post) (zzV x) b)):(b=true→CallOK P f args post)∧(b=false→zbW P f args x):=
 ⟨fun hb'=>zm8 hT hm hf hb hres hn hcall (by subst hb';exact h),fun hb'=>zm9 hT hm hf hb hn hcall (by subst hb';exact h)⟩
def zmJ {α:Type} (b:Bool) (y:α) (e:Int) (r:Except Int α):Prop:=match b with
 |true=>r= .ok y
 |false=>r= .error e
theorem zay {α:Type} {b:Bool} {y:α} {e x:Int} (h:zmJ b y e (.error x)):b=false∧e=x:=by
 cases b with
 |true=>cases h
 |false=>cases h;exact⟨rfl,rfl⟩
theorem zdP {α:Type} {b:Bool} {y z:α} {e:Int} (h:zmJ b y e (.ok z)):b=true∧y=z:=by
 cases b with
 |true=>cases h;exact⟨rfl,rfl⟩
 |false=>cases h
end
end Go.Pk
