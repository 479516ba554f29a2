import Derived.Test.YtliimajkpggbhaaGreatK7
import Derived.Laws.Externs
import Derived.Lib.Bytealg
import Derived.Recover
set_option linter.unusedVariables false
set_option linter.unusedSimpArgs false
set_option linter.unusedSectionVars false
namespace Go.Pk
def epZ (Z:List Nat) (s e:Nat):Nat:=if Z.contains s=true then e else 1
mutual
def zi6 (Z:List Nat):C→C
 | .own h lo n=> .own ⟨h.s,h.j,epZ Z h.s h.e⟩ lo n
 | .ptr h off=> .ptr ⟨h.s,h.j,epZ Z h.s h.e⟩ off
 | .clos f caps=> .clos f (zhT Z caps)
 | .d x=> .d x
 | .lent n ds=> .lent n ds
 | .elt ds=> .elt ds
 | .ab=> .ab
 | .dead=> .dead
 | .eltR cs=> .eltR (zhT Z cs)
 | .gap _ _ _ _=> .dead
 | .lk h n x=> .lk ⟨h.s,h.j,epZ Z h.s h.e⟩ n x
def zhT (Z:List Nat):List C→List C
 |[]=>[]
 |c::cs=>zi6 Z c::zhT Z cs
end
mutual
def zmp (Z:List Nat):AV→AV
 | .one x=> .one (zi6 Z x)
 | .agg l=> .agg (zhT Z l)
 | .tup l=> .tup (zfL Z l)
 | .gd c x=> .gd c (zmp Z x)
def zfL (Z:List Nat):List AV→List AV
 |[]=>[]
 |c::cs=>zmp Z c::zfL Z cs
end
def zcn (Z:List Nat) (s:Nat) (res:Res):Res:=if res.var=true then {res with e:=epZ Z s res.e,cells:=zhT Z res.cells}else {res with e:=epZ Z s res.e}
def zrP (Z:List Nat) (s:Nat) (rs:RS):RS:=⟨if Z.contains s=true then rs.next else 2,rs.l.map fun x=>x.map (zcn Z s)⟩
def zla (Z:List Nat):Rs→Rs
 |[]=>[]
 |(s,rs)::l=>(s,zrP Z s rs)::zla Z l
def ztm (Z:List Nat) (r:Rs) (h:Hd):Bool:=
 Z.contains h.s||match lookR r h.s h.j with
 |some res=>res.e==h.e
 |none=>true
mutual
def zok (Z:List Nat) (r:Rs):C→Bool
 | .own h _ _=>ztm Z r h
 | .ptr h _=>ztm Z r h
 | .clos _ caps=>zlb Z r caps
 | .d _=>true
 | .lent _ _=>true
 | .elt _=>true
 | .ab=>true
 | .dead=>true
 | .eltR cs=>zlb Z r cs
 | .gap _ _ _ _=>true
 | .lk h _ _=>ztm Z r h
def zlb (Z:List Nat) (r:Rs):List C→Bool
 |[]=>true
 |c::cs=>zok Z r c&&zlb Z r cs
end
mutual
def zmq (Z:List Nat) (r:Rs):AV→Bool
 | .one x=>zok Z r x
 | .agg l=>zlb Z r l
 | .tup l=>ziW Z r l
 | .gd _ x=>zmq Z r x
def ziW (Z:List Nat) (r:Rs):List AV→Bool
 |[]=>true
 |c::cs=>zmq Z r c&&ziW Z r cs
end
def zv2 (Z:List Nat) (r:Rs):Option Res→Bool
 |some res=> !res.var||zlb Z r res.cells
 |none=>true
def curL (Z:List Nat) (r:Rs):List (Option Res)→Bool
 |[]=>true
 |x::l=>zv2 Z r x&&curL Z r l
def zv3 (Z:List Nat) (r:Rs):Rs→Bool
 |[]=>true
 |(s,rs)::l=>curL Z r rs.l&&zv3 Z r l
theorem zj2 {Z:List Nat}:∀{r:Rs} {s:Nat},findR s (zla Z r)=(findR s r).map (zrP Z s)
 |[],s=>rfl
 |(t,rs)::l,s=>by
  simp only[zla,findR]
  by_cases h:t=s
  ·subst h;rw[if_pos rfl,if_pos rfl];rfl
  ·rw[if_neg h,if_neg h,zj2]
theorem zhp {Z:List Nat} {r:Rs} {s j:Nat}:lookR (zla Z r) s j=(lookR r s j).map (zcn Z s):=by
 unfold lookR
 rw[zj2]
 cases findR s r with
 |none=>rfl
 |some rs=>
  simp only[Option.map_some,zrP,List.getElem?_map]
  cases rs.l[j]? with
  |none=>rfl
  |some x=>cases x<;>rfl
theorem zmx {Z:List Nat} {r:Rs} {s:Nat}:nxt (zla Z r) s=if Z.contains s=true then nxt r s else(if(findR s r).isSome then 2 else 0):=by
 unfold nxt
 rw[zj2]
 cases findR s r with
 |none=>simp
 |some rs=>simp[zrP]
theorem zdt {Z:List Nat} {s:Nat} {res:Res}:(zcn Z s res).fz=res.fz:=by unfold zcn;split<;>rfl
theorem zi7 {Z:List Nat} {s:Nat} {res:Res}:(zcn Z s res).var=res.var:=by unfold zcn;split<;>rfl
theorem zlc {Z:List Nat} {s:Nat} {res:Res}:(zcn Z s res).sz=res.sz:=by unfold zcn;split<;>rfl
theorem zol {Z:List Nat} {s:Nat} {res:Res}:(zcn Z s res).bor=res.bor:=by unfold zcn;split<;>rfl
theorem zhq {Z:List Nat} {s:Nat} {res:Res}:(zcn Z s res).e=epZ Z s res.e:=by unfold zcn;split<;>rfl
theorem zld {Z:List Nat}:∀{l:List C},(zhT Z l).length=l.length
 |[]=>rfl
 |x::l=>by simp only[zhT,List.length_cons,zld]
theorem canRes_len {Z:List Nat} {s:Nat} {res:Res}:(zcn Z s res).cells.length=res.cells.length:=by unfold zcn;split<;>simp[zld]
section
variable {cx:Cx} {w:World} {r:Rs} {β:Nat→Nat→Pl} {Z:List Nat}
theorem zv4 {b:Nat}:OB (zla Z r) β b↔OB r β b:=by
 constructor
 ·rintro⟨s,j,res,o,h1,h2,h3⟩
  rw[zhp]at h1
  cases hl:lookR r s j with
  |none=>rw[hl]at h1;cases h1
  |some res0=>
   rw[hl]at h1
   simp only[Option.map_some,Option.some.injEq]at h1
   subst h1
   exact⟨s,j,res0,o,hl,by rwa[zdt]at h2,h3⟩
 ·rintro⟨s,j,res,o,h1,h2,h3⟩
  exact⟨s,j,zcn Z s res,o,by rw[zhp,h1];rfl,by rw[zdt];exact h2,h3⟩
theorem zi8:Av cx (zla Z r) β=Av cx r β:=by
 funext b
 simp only[Av,zv4]
theorem zmy {h:Hd} {res':Res} (hc:ztm Z r h=true) (hg:getR (zla Z r) ⟨h.s,h.j,epZ Z h.s h.e⟩=some res'):
  ∃res,getR r h=some res∧res'=zcn Z h.s res:=by
 obtain⟨h1,h2⟩:=zad hg
 rw[zhp]at h1
 simp only at h1 h2
 cases hl:lookR r h.s h.j with
 |none=>rw[hl]at h1;cases h1
 |some res=>
  rw[hl]at h1
  simp only[Option.map_some,Option.some.injEq]at h1
  subst h1
  refine⟨res,zao hl ?_,rfl⟩
  unfold ztm at hc
  rw[zhq]at h2
  by_cases hz:Z.contains h.s=true
  ·simp only[epZ,if_pos hz]at h2;exact h2
  ·rw[hl]at hc
   simp only[hz,Bool.false_or,beq_iff_eq]at hc
   exact hc
theorem zni {h:Hd} (hlt:h.e<nxt r h.s):epZ Z h.s h.e<nxt (zla Z r) h.s:=by
 rw[zmx]
 unfold epZ
 split
 ·exact hlt
 ·have:(findR h.s r).isSome=true:=by
   unfold nxt at hlt
   cases hf:findR h.s r with
   |none=>rw[hf]at hlt;simp at hlt
   |some _=>rfl
  rw[if_pos this]
  decide
theorem zmz {pl:Pl} {s:Nat} {res:Res} {lo n:Nat} {u:Value} (h:OwnV pl res lo n u):OwnV pl (zcn Z s res) lo n u:=
 h.same zi7 zlc (Nat.le_of_eq canRes_len.symm)
mutual
theorem zpy:∀{c:C} {u:Value},zok Z r c=true→ReC cx w r β c u→ReC cx w (zla Z r) β (zi6 Z c) u
 | .d _,_,_,h=>by simp only[zi6,ReC,zi8]at h⊢;exact h
 | .lent n ds,_,_,h=>by simp only[zi6,ReC,zi8]at h⊢;exact h
 | .own hd lo n,u,hc,h=>by
  simp only[zi6,ReC,zok]at h hc⊢
  obtain⟨h1,h2,h3⟩:=h
  refine⟨h1,zni h2,fun res' hr=> ?_⟩
  obtain⟨res,g1,rfl⟩:=zmy hc hr
  exact zmz (h3 res g1)
 | .ptr hd off,u,hc,h=>by
  simp only[zi6,ReC,zok]at h hc⊢
  obtain⟨h1,h2,h3⟩:=h
  refine⟨h1,zni h2,fun res' hr=> ?_⟩
  obtain⟨res,g1,rfl⟩:=zmy hc hr
  exact h3 res g1
 | .elt ds,_,_,h=>by simp only[zi6,ReC,zi8]at h⊢;exact h
 | .clos f caps,_,hc,h=>by
  simp only[zi6,ReC,zok]at h hc⊢
  obtain⟨us,h1,h2⟩:=h
  exact⟨us,h1,zfY hc h2⟩
 | .ab,_,_,h=>by simpa only[zi6,ReC]using h
 | .dead,_,_,_=>by simp[zi6,ReC]
 | .eltR cs,_,hc,h=>by
  simp only[zi6,ReC]at h⊢
  obtain⟨b,o,us,h1,h2,h3,h4,h5⟩:=h
  exact⟨b,o,us,h1,h2,by rw[zi8];exact h3,h4,zfY hc h5⟩
 | .gap _ _ _ _,_,_,_=>by simp[zi6,ReC]
 | .lk hd n x,u,hc,h=>by
  simp only[zi6,ReC,zok]at h hc⊢
  obtain⟨h1,h2,h3⟩:=h
  refine⟨h1,zni h2,fun res' hr=> ?_⟩
  obtain⟨res,g1,rfl⟩:=zmy hc hr
  exact zmz (h3 res g1)
theorem zfY:∀{c:List C} {u:List Value},zlb Z r c=true→ReCs cx w r β c u→ReCs cx w (zla Z r) β (zhT Z c) u
 |[],_,_,h=>by simpa[zhT,ReCs]using h
 |c::cs,_,hc,h=>by
  simp only[zhT,ReCs,zlb,Bool.and_eq_true]at h hc⊢
  obtain⟨u,us,h1,h2,h3⟩:=h
  exact⟨u,us,h1,zpy hc.1 h2,zfY hc.2 h3⟩
end
mutual
theorem zmA:∀{c:AV} {u:Value},zmq Z r c=true→ReA cx w r β c u→ReA cx w (zla Z r) β (zmp Z c) u
 | .one _,_,hc,h=>by simp only[zmp,ReA,zmq]at h hc⊢;exact zpy hc h
 | .agg l,_,hc,h=>by
  simp only[zmp,ReA,zmq]at h hc⊢
  obtain⟨us,h1,h2⟩:=h
  exact⟨us,h1,zfY hc h2⟩
 | .tup l,_,hc,h=>by
  simp only[zmp,ReA,zmq]at h hc⊢
  obtain⟨us,h1,h2⟩:=h
  exact⟨us,h1,znj hc h2⟩
 | .gd c y,_,hc,h=>by
  simp only[zmp,ReA,zmq]at h hc⊢
  exact⟨fun he=>zmA hc (h.1 he),h.2⟩
theorem znj:∀{c:List AV} {u:List Value},ziW Z r c=true→ReAs cx w r β c u→ReAs cx w (zla Z r) β (zfL Z c) u
 |[],_,_,h=>by simpa[zfL,ReAs]using h
 |c::cs,_,hc,h=>by
  simp only[zfL,ReAs,ziW,Bool.and_eq_true]at h hc⊢
  obtain⟨u,us,h1,h2,h3⟩:=h
  exact⟨u,us,h1,zmA hc.1 h2,znj hc.2 h3⟩
end
theorem znk:∀{l:List (Option Res)} {j:Nat} {res:Res},curL Z r l=true→l[j]? =some (some res)→zv2 Z r (some res)=true
 |[],_,_,_,h=>by simp at h
 |x::l,0,res,h,hj=>by
  simp only[List.getElem?_cons_zero,Option.some.injEq]at hj
  subst hj
  simp only[curL,Bool.and_eq_true]at h
  exact h.1
 |x::l,j+1,res,h,hj=>by
  simp only[curL,Bool.and_eq_true]at h
  exact znk h.2 (by simpa using hj)
theorem zle:∀{l:Rs} {s:Nat} {rs:RS},zv3 Z r l=true→findR s l=some rs→curL Z r rs.l=true
 |[],_,_,_,h=>by simp[findR]at h
 |(t,rs')::l,s,rs,h,hf=>by
  simp only[zv3,Bool.and_eq_true]at h
  simp only[findR]at hf
  split at hf
  ·cases hf;exact h.1
  ·exact zle h.2 hf
theorem zpz {pl:Pl} {s:Nat} {res:Res} (hc:zv2 Z r (some res)=true) (h:ResOK cx w r β pl res):ResOK cx w (zla Z r) β pl (zcn Z s res):=by
 unfold ResOK at h⊢
 rw[zi7]
 by_cases hv:res.var=true
 ·rw[if_pos hv]at h⊢
  simp only[zv2,hv,Bool.not_true,Bool.false_or]at hc
  obtain⟨h0,b,c,e,h1,h2,h3,h4⟩:=h
  exact⟨by rw[zdt];exact h0,b,c,e,h1,h2,by unfold zcn;rw[if_pos hv];exact zfY hc h3,h4⟩
 ·rw[if_neg hv]at h⊢
  obtain⟨ds,h1,h2,h3⟩:=h
  refine⟨ds,by unfold zcn;rw[if_neg hv];exact h1,by rw[zlc,zi8];exact h2, ?_⟩
  rw[zdt,zi8]
  exact h3
end
theorem Gh.can (Z:List Nat) {v:List AV} {r:Rs} (hv:ziW Z r v=true) (hr:zv3 Z r r=true):Gh ⟨v,r⟩ ⟨zfL Z v,zla Z r⟩:=fun cx a w ⟨β,hh⟩=>by
 have hlk:∀{s j:Nat} {res:Res},lookR (zla Z r) s j=some res→∃res0,lookR r s j=some res0∧res=zcn Z s res0:=fun {s j res} hl=>by
  rw[zhp]at hl
  cases h0:lookR r s j with
  |none=>rw[h0]at hl;cases hl
  |some res0=>rw[h0]at hl;simp only[Option.map_some,Option.some.injEq]at hl;exact⟨res0,rfl,hl.symm⟩
 have hO:∀{s j:Nat} {res:Res},lookR r s j=some res→zv2 Z r (some res)=true:=fun {s j res} hl=>by
  unfold lookR at hl
  split at hl
  ·rename_i rs hf
   split at hl
   ·rename_i res' hj
    cases hl
    exact znk (zle hr hf) hj
   ·cases hl
  ·cases hl
 have hlen:∀(l:List AV),(zfL Z l).length=l.length:=fun l=>by induction l with
  |nil=>rfl
  |cons x l ih=>simp only[zfL,List.length_cons,ih]
 have hget:∀(l:List AV) (i:Nat) (y:AV),ziW Z r l=true→(zfL Z l)[i]? =some y→∃x,l[i]? =some x∧y=zmp Z x∧zmq Z r x=true:=fun l=>by
  induction l with
  |nil=>intro i y _ h;simp[zfL]at h
  |cons x l ih=>
   intro i y hc h
   simp only[ziW,Bool.and_eq_true]at hc
   cases i with
   |zero=>simp only[zfL,List.getElem?_cons_zero,Option.some.injEq]at h;exact⟨x,rfl,h.symm,hc.1⟩
   |succ i=>simpa using ih i y hc.2 (by simpa[zfL]using h)
 refine⟨β, ?_⟩
 refine {sz:=by rw[hh.sz];exact(hlen v).symm,df:=hh.df,sl:=fun i y hi=> ?_,rs:=fun s j res hl=> ?_,inj:=fun s j res s' j' res' b o o' h1 f1 h2 f2 hb1 hb2=> ?_,
          fr:=fun s j res b o hl hf hb=> ?_,n0:=hh.n0,old:=hh.old,a0:=hh.a0,bor:=hh.bor,ob:=fun p b hm=> ?_,rw:=fun p n u hm=> ?_,os:=hh.os,out:=hh.out}
 ·obtain⟨x,h1,rfl,h3⟩:=hget v i y hv hi
  obtain⟨u,g1,g2⟩:=hh.sl i x h1
  exact⟨u,g1,zmA h3 g2⟩
 ·obtain⟨res0,h0,rfl⟩:=hlk hl
  obtain⟨g1,g2⟩:=hh.rs s j res0 h0
  refine⟨zpz (hO h0) g1, ?_⟩
  rw[zhq]
  exact zni (h:=⟨s,j,res0.e⟩) g2
 ·obtain⟨r1,e1,rfl⟩:=hlk h1
  obtain⟨r2,e2,rfl⟩:=hlk h2
  exact hh.inj _ _ _ _ _ _ _ _ _ e1 (by rwa[zdt]at f1) e2 (by rwa[zdt]at f2) hb1 hb2
 ·obtain⟨r1,e1,rfl⟩:=hlk hl
  rw[zdt]at hf
  rw[zol]
  exact hh.fr _ _ _ _ _ e1 hf hb
 ·obtain⟨h1,h2⟩:=hh.ob p b hm
  refine⟨?_,fun res hg=> ?_⟩
  ·rw[zmx]
   split
   ·exact h1
   ·have:(findR p r).isSome=true:=by
     unfold nxt at h1
     cases hf:findR p r with
     |none=>rw[hf]at h1;simp at h1
     |some _=>rfl
    rw[if_pos this]
    decide
  ·obtain⟨e1,e2⟩:=zad hg
   obtain⟨r1,e3,rfl⟩:=hlk e1
   rw[zhq]at e2
   simp only at e2
   unfold epZ at e2
   split at e2
   ·exact h2 r1 (zao e3 e2)
   ·simp at e2
 ·have:=hh.rw p n u hm
  simp only[ReC]at this⊢
  obtain⟨h1,h2,h3⟩:=this
  refine⟨h1, ?_,fun res hg=> ?_⟩
  ·rw[zmx]
   split
   ·exact h2
   ·have:(findR p r).isSome=true:=by
     unfold nxt at h2
     cases hf:findR p r with
     |none=>rw[hf]at h2;simp at h2
     |some _=>rfl
    rw[if_pos this]
    decide
  ·obtain⟨e1,e2⟩:=zad hg
   obtain⟨r1,e3,rfl⟩:=hlk e1
   rw[zhq]at e2
   simp only at e2
   unfold epZ at e2
   split at e2
   ·exact zmz (h3 r1 (zao e3 e2))
   ·simp at e2
def fgc (Z:List Nat) (r:Rs):List AV→List AV→Prop
 |[],[]=>True
 |x::xs,y::ys=>(y= .one .dead∨(zmq Z r x=true∧zmp Z x=y))∧fgc Z r xs ys
 |_,_=>False
theorem zcw {Z:List Nat} {r:Rs}:fgc Z r [] []=True:=rfl
theorem zbX {Z:List Nat} {r:Rs} {x:AV} {xs ys:List AV}:fgc Z r (x::xs) (.one .dead::ys)=fgc Z r xs ys:=by simp[fgc]
theorem zdu {Z:List Nat} {r:Rs} {x y:D} {xs ys:List AV}:fgc Z r (.one (.d x)::xs) (.one (.d y)::ys)=(x=y∧fgc Z r xs ys):=by simp[fgc,zmp,zi6,zmq,zok]
theorem zbY {Z:List Nat} {r:Rs} {n:Nat} {x:List D} {xs ys:List AV}:fgc Z r (.one (.lent n x)::xs) (.one (.lent n x)::ys)=fgc Z r xs ys:=by simp[fgc,zmp,zi6,zmq,zok]
theorem zcx {Z:List Nat} {r:Rs} {h h':Hd} {o:Nat} {xs ys:List AV}:fgc Z r (.one (.ptr h o)::xs) (.one (.ptr h' o)::ys)=((ztm Z r h=true∧(⟨h.s,h.j,epZ Z h.s h.e⟩:Hd)=h')∧fgc Z r xs ys):=by simp[fgc,zmp,zi6,zmq,zok]
theorem zcy {Z:List Nat} {r:Rs} {h h':Hd} {o n m:Nat} {xs ys:List AV}:fgc Z r (.one (.own h o n)::xs) (.one (.own h' o m)::ys)=((ztm Z r h=true∧(⟨h.s,h.j,epZ Z h.s h.e⟩:Hd)=h'∧n=m)∧fgc Z r xs ys):=by simp[fgc,zmp,zi6,zmq,zok]
theorem zhr {Z:List Nat} {r:Rs} {x y:AV} {xs ys:List AV} (h1:zmq Z r x=true) (h2:zmp Z x=y):fgc Z r (x::xs) (y::ys)=fgc Z r xs ys:=by
 simp[fgc,h1,h2]
theorem zpA {Z:List Nat} {r:Rs}:∀{v v':List AV},fgc Z r v v'→∃v1,fgt v v1∧ziW Z r v1=true∧zfL Z v1=v'
 |[],[],_=>⟨[],trivial,rfl,rfl⟩
 |x::xs,y::ys,h=>by
  obtain⟨h1,h2⟩:=h
  obtain⟨v1,g1,g2,g3⟩:=zpA h2
  rcases h1 with rfl|⟨h1,rfl⟩
  ·exact⟨.one .dead::v1,⟨.inl rfl,g1⟩,by simp[ziW,zmq,zok,g2],by simp[zfL,zmp,zi6,g3]⟩
  ·exact⟨x::v1,⟨.inr rfl,g1⟩,by simp[ziW,h1,g2],by simp[zfL,g3]⟩
 |[],_::_,h=>h.elim
 |_::_,[],h=>h.elim
theorem Gh.canon (keep adds Z:List Nat) {v v':List AV} {r r':Rs} (h:fgc Z (zcI keep r++adds.map fun s=>(s,(⟨0,[]⟩:RS))) v v')
  (hc:zv3 Z (zcI keep r++adds.map fun s=>(s,(⟨0,[]⟩:RS))) (zcI keep r++adds.map fun s=>(s,(⟨0,[]⟩:RS)))=true)
  (hr:zla Z (zcI keep r++adds.map fun s=>(s,(⟨0,[]⟩:RS)))=r'):Gh ⟨v,r⟩ ⟨v',r'⟩:=by
 obtain⟨v1,h1,h2,h3⟩:=zpA h
 subst hr h3
 exact(Gh.keep keep adds h1 rfl).trans (Gh.can Z h2 hc)
def zv5 (r:Rs) (s k sz:Nat):Rs:=
 match findR s r with
 |some rs=>(match rs.l[0]? with
  |some (some V)=>setR s ⟨rs.next+1,(rs.l.set (k+1) (some {e:=rs.next,var:=false,fz:=false,sz,cells:=[]})).set 0 (some {V with cells:=V.cells.set k (.own ⟨s,k+1,rs.next⟩ 0 0)})⟩ r
  |_=>r)
 |none=>r
def zpB:Option C→Bool
 |some (.d (.v (.slice none 0 0)))=>true
 |_=>false
def ztn (r:Rs) (s k:Nat):Bool:=
 match findR s r with
 |some rs=>(match rs.l[0]?,rs.l[k+1]? with
  |some (some V),some none=>V.var&&zpB V.cells[k]?
  |_,_=>false)
 |none=>false
theorem zpC {x:Option C} (h:zpB x=true):x=some (.d (.v (.slice none 0 0))):=by
 unfold zpB at h
 split at h
 ·rfl
 ·cases h
theorem Gh.nilF {v:List AV} {r:Rs} (s k sz:Nat) (hok:ztn r s k=true):Gh ⟨v,r⟩ ⟨v,zv5 r s k sz⟩:=fun cx a w ⟨β,hh⟩=>by
 unfold ztn at hok
 unfold zv5
 cases hf:findR s r with
 |none=>rw[hf]at hok;cases hok
 |some rs=>
  rw[hf]at hok
  simp only at hok⊢
  split at hok
  case h_2=>cases hok
  case h_1 V h0 hk=>
   simp only[Bool.and_eq_true]at hok
   obtain⟨hv,hn⟩:=hok
   have hn:=zpC hn
   simp only[h0]
   have hnx:nxt r s=rs.next:=by unfold nxt;rw[hf]
   have hklt:k+1<rs.l.length:=(List.getElem?_eq_some_iff.1 hk).1
   let row:Res:={e:=rs.next,var:=false,fz:=false,sz,cells:=[]}
   let r1:Rs:=setR s ⟨rs.next+1,rs.l.set (k+1) (some row)⟩ r
   let β':Nat→Nat→Pl:=fun s' j'=>if s'=s∧j'=k+1 then⟨none,0⟩else β s' j'
   have hβ0:β' s (k+1)=⟨none,0⟩:=by simp[β']
   have hβ1:∀s' j',¬(s'=s∧j'=k+1)→β' s' j'=β s' j':=fun s' j' hn=>by simp[β',hn]
   have hl:∀s' j' res,lookR r1 s' j'=some res→(s'=s∧j'=k+1∧res=row)∨(¬(s'=s∧j'=k+1)∧lookR r s' j'=some res):=fun s' j' res hl=>by
    simp only[r1]at hl
    rw[zax]at hl
    by_cases hs:s=s'
    ·subst hs
     rw[if_pos rfl]at hl
     simp only[List.getElem?_set]at hl
     by_cases hj:k+1=j'
     ·subst hj
      rw[if_pos rfl,if_pos hklt]at hl
      simp only[Option.some.injEq]at hl
      exact .inl ⟨rfl,rfl,hl.symm⟩
     ·rw[if_neg hj]at hl
      refine .inr ⟨fun h=>hj h.2.symm, ?_⟩
      unfold lookR
      rw[hf]
      exact hl
    ·rw[if_neg hs]at hl
     exact .inr ⟨fun h=>hs h.1.symm,hl⟩
   have hx:Ext cx w r β w r1 β':=by
    refine⟨fun t=> ?_,fun hd res' hlt hg=> ?_,⟨fun _ _ _=>rfl,fun b _ hA=> ?_⟩,fun _ _ _=>rfl,rfl,rfl⟩
    ·simp only[r1]
     rw[zaL]
     split
     ·rename_i e;subst e;rw[hnx];exact Nat.le_succ _
     ·exact Nat.le_refl _
    ·obtain⟨e1,e2⟩:=zad hg
     rcases hl _ _ _ e1 with⟨q1,q2,q3⟩|⟨q1,q2⟩
     ·subst q3
      rw[q1,hnx]at hlt
      simp only[row]at e2
      omega
     ·exact⟨res',zao q2 e2,hβ1 _ _ q1,rfl,rfl,Nat.le_refl _⟩
    ·rcases hA with hA|⟨t,j,res,o,e1,e2,e3⟩
     ·exact .inl hA
     ·rcases hl _ _ _ e1 with⟨q1,q2,q3⟩|⟨q1,q2⟩
      ·rw[q1,q2,hβ0]at e3;cases e3
      ·rw[hβ1 _ _ q1]at e3
       exact .inr ⟨t,j,res,o,q2,e2,e3⟩
   have h1:Holds cx ⟨v,r1⟩ a w β':=hh.mk' hx (fun t j res e1=>by
     rcases hl _ _ _ e1 with⟨q1,q2,q3⟩|⟨q1,q2⟩
     ·subst q1;subst q2;subst q3
      rw[hβ0]
      refine⟨zcM (ds:=[]) rfl rfl rfl (by simp[RowM]), ?_⟩
      simp only[r1]
      rw[zaL,if_pos rfl]
      exact Nat.lt_succ_self _
     ·obtain⟨g1,g2⟩:=hh.rs _ _ _ q2
      rw[hβ1 _ _ q1]
      exact⟨g1.ext hx (fun _ _ _=>rfl) (fun b o hb=>g1.lt hb),Nat.lt_of_lt_of_le g2 (hx.nx t)⟩)
    (fun t j res t' j' res' b o o' e1 f1 e2 f2 b1 b2=>by
     rcases hl _ _ _ e1 with⟨q1,q2,q3⟩|⟨q1,q2⟩
     ·rw[q1,q2,hβ0]at b1;cases b1
     ·rcases hl _ _ _ e2 with⟨p1,p2,p3⟩|⟨p1,p2⟩
      ·rw[p1,p2,hβ0]at b2;cases b2
      ·rw[hβ1 _ _ q1]at b1
       rw[hβ1 _ _ p1]at b2
       exact hh.inj _ _ _ _ _ _ _ _ _ q2 f1 p2 f2 b1 b2)
    (fun t j res b o e1 f1 b1=>by
     rcases hl _ _ _ e1 with⟨q1,q2,q3⟩|⟨q1,q2⟩
     ·rw[q1,q2,hβ0]at b1;cases b1
     ·rw[hβ1 _ _ q1]at b1
      exact hh.fr _ _ _ _ _ q2 f1 b1) (Nat.le_refl _)
   have hlk0:lookR r s 0=some V:=by unfold lookR;simp only[hf,h0]
   have hok0:=(hh.rs _ _ _ hlk0).1
   unfold ResOK at hok0
   rw[if_pos hv]at hok0
   obtain⟨p0,b,arr,e,p1,p2,p3,p4⟩:=hok0
   obtain⟨u,hu1,hu2⟩:=zbz p3 hn
   have hu:=(zbp.1 hu2).1
   subst hu
   have hfr:findR s r1=some ⟨rs.next+1,rs.l.set (k+1) (some row)⟩:=by simp only[r1];rw[zak,if_pos rfl]
   obtain⟨β2,t1,t2,t3⟩:=h1.recell (next':=rs.next+1) (x:= .own ⟨s,k+1,rs.next⟩ 0 0) (V:=V) (k:=k) (b:=b) (cs:=arr) (e:=e) (u:= .slice none 0 0) hfr
    (by simp only[List.getElem?_set_ne (show k+1≠0 by omega),h0]) hv (by rw[hβ1 s 0 (by omega)];exact p1) p2 (by simpa using hu1) (by
     simp only[ReC]
     refine⟨rfl, ?_,fun res hr=> ?_⟩
     ·simp only[r1]
      rw[zaL,if_pos rfl]
      exact Nat.lt_succ_self _
     ·obtain⟨e1,e2⟩:=zad hr
      rcases hl _ _ _ e1 with⟨q1,q2,q3⟩|⟨q1,q2⟩
      ·subst q3
       rw[hβ0]
       exact⟨rfl,by simp,Nat.le_refl _,none,rfl, .inl rfl⟩
      ·exact absurd ⟨rfl,rfl⟩ q1) (Nat.le_refl _)
   refine⟨β2,t1.congr fun t=> ?_⟩
   simp only[r1]
   rw[zak,zak,zak]
   split
   ·rfl
   ·rfl
def zpD (r:Rs) (s k:Nat) (x:C):Rs:=
 match sealC r x with
 |some (d,r')=>(match findR s r' with
  |some rs=>(match rs.l[0]? with
   |some (some V)=>setR s ⟨rs.next,rs.l.set 0 (some {V with cells:=V.cells.set k (.d d)})⟩ r'
   |_=>r)
  |none=>r)
 |none=>r
def zmB (r:Rs) (s k:Nat) (x:C):Prop:=
 match sealC r x with
 |some (_,r')=>(match findR s r' with
  |some rs=>(match rs.l[0]? with
   |some (some V)=>V.var=true∧V.cells[k]? =some x
   |_=>False)
  |none=>False)
 |none=>False
theorem Gh.sealF {v:List AV} {r:Rs} (s k:Nat) (x:C) (hok:zmB r s k x):Gh ⟨v,r⟩ ⟨v,zpD r s k x⟩:=fun cx a w ⟨β,hh⟩=>by
 unfold zmB at hok
 unfold zpD
 cases hs:sealC r x with
 |none=>rw[hs]at hok;exact hok.elim
 |some p=>
  obtain⟨d,r'⟩:=p
  rw[hs]at hok
  simp only at hok⊢
  cases hf:findR s r' with
  |none=>rw[hf]at hok;exact hok.elim
  |some rs=>
   rw[hf]at hok
   simp only at hok⊢
   split at hok
   case h_2=>exact hok.elim
   case h_1 V h0=>
    obtain⟨hv,hk⟩:=hok
    try simp only[h0]
    have hlk':lookR r' s 0=some V:=by unfold lookR;simp only[hf,h0]
    have hlk:∃V0,lookR r s 0=some V0∧V0.var=true∧V0.cells=V.cells∧V0.e=V.e:=by
     have hlk2:=hlk'
     unfold sealC at hs
     split at hs
     ·cases hs;exact⟨V,hlk',hv,rfl,rfl⟩
     ·rename_i hd lo n
      split at hs
      ·rename_i res rs0 g1 g2
       split at hs
       ·cases hs
       ·split at hs
        ·cases hs
         rw[zax]at hlk2
         by_cases hss:hd.s=s
         ·rw[if_pos hss]at hlk2
          simp only[List.getElem?_set]at hlk2
          by_cases hj:hd.j=0
          ·rw[if_pos hj]at hlk2
           obtain⟨e1,e2⟩:=zad g1
           have e3:=zb9 e1 g2
           have hlt:hd.j<rs0.l.length:=(List.getElem?_eq_some_iff.1 e3).1
           rw[if_pos (by omega)]at hlk2
           simp only[Option.some.injEq]at hlk2
           refine⟨res,by rw[←hss,←hj];exact e1,by rw[←hlk2]at hv;exact hv,by rw[←hlk2],by rw[←hlk2]⟩
          ·rw[if_neg hj]at hlk2
           refine⟨V, ?_,hv,rfl,rfl⟩
           unfold lookR
           rw[←hss,g2]
           exact hlk2
         ·rw[if_neg hss]at hlk2
          exact⟨V,hlk2,hv,rfl,rfl⟩
        ·cases hs
      ·cases hs
     ·cases hs
    obtain⟨V0,q1,q2,q3,q4⟩:=hlk
    obtain⟨hok0,hlt0⟩:=hh.rs _ _ _ q1
    unfold ResOK at hok0
    rw[if_pos q2]at hok0
    obtain⟨p0,b,arr,e,p1,p2,p3,p4⟩:=hok0
    rw[q3]at p3
    obtain⟨u,hu1,hu2⟩:=zbz p3 hk
    obtain⟨β1,h1,x1,hd1⟩:=zkp hh hs hu2
    obtain⟨_,_,hβ,_⟩:=x1.old ⟨s,0,V.e⟩ V (by rw[←q4];exact hlt0) (zao hlk' rfl)
    obtain⟨β2,t1,t2,t3⟩:=h1.recell (next':=rs.next) (x:= .d d) (V:=V) (k:=k) (b:=b) (cs:=arr) (e:=e) (u:=u) hf h0 hv (by
     rw[show β1 s 0=β s 0 from hβ];exact p1) p2 (by simpa using hu1) (by simp only[ReC];exact hd1) (Nat.le_refl _)
    exact⟨β2,t1⟩
abbrev iD (n:Int):D:= .v (.int .i64 n)
abbrev uD (n:Int):D:= .v (.int .u8 n)
abbrev bD (b:Bool):D:= .v (.bool b)
abbrev sD (s:ByteArray):D:= .v (.string s)
abbrev di (n:Int):C:= .d (.v (.int .i64 n))
abbrev db (n:Bool):C:= .d (.v (.bool n))
abbrev dS (s:ByteArray):C:= .d (.v (.string s))
abbrev ai (n:Int):AV:= .one (.d (.v (.int .i64 n)))
abbrev au (n:Int):AV:= .one (.d (.v (.int .u8 n)))
abbrev ast (s:ByteArray):AV:= .one (.d (.v (.string s)))
abbrev ab (b:Bool):AV:= .one (.d (.v (.bool b)))
abbrev rb (b:Bool):RF:= .one (.d (.v (.bool b)))
abbrev ri (n:Int):RF:= .one (.d (.v (.int .i64 n)))
abbrev dd:AV:= .one .dead
def dq2 (l:List AV):List AV:=dd::dd::l
def dq3 (l:List AV):List AV:=dd::dq2 l
def dq4 (l:List AV):List AV:=dd::dq3 l
def dq5 (l:List AV):List AV:=dd::dq4 l
def dq6 (l:List AV):List AV:=dd::dq5 l
def dq7 (l:List AV):List AV:=dd::dq6 l
def dq8 (l:List AV):List AV:=dd::dq7 l
def dq9 (l:List AV):List AV:=dd::dq8 l
def zmC (l:List AV):List AV:=dd::dq9 l
def zv6 (l:List AV):List AV:=dd::zmC l
def zom (l:List AV):List AV:=dd::zv6 l
def zrv (l:List AV):List AV:=dd::zom l
def zv7 (l:List AV):List AV:=dd::zrv l
def zvD (l:List AV):List AV:=dd::zv7 l
def zw9 (l:List AV):List AV:=dd::zvD l
def zto (l:List AV):List AV:=dd::zw9 l
def zrw (l:List AV):List AV:=dd::zto l
def zvE (l:List AV):List AV:=dd::zrw l
def zrx (l:List AV):List AV:=dd::zvE l
def zpa (l:List AV):List AV:=dd::zrx l
def zv8 (l:List AV):List AV:=dd::zpa l
def zv9 (l:List AV):List AV:=dd::zv8 l
def zvF (l:List AV):List AV:=dd::zv9 l
def zvG (l:List AV):List AV:=dd::zvF l
def zuo (l:List AV):List AV:=dd::zvG l
def zxa (l:List AV):List AV:=dd::zuo l
def ztp (l:List AV):List AV:=dd::zxa l
def zwa (l:List AV):List AV:=dd::ztp l
def ztq (l:List AV):List AV:=dd::zwa l
def zvH (l:List AV):List AV:=dd::ztq l
def zrQ (l:List AV):List AV:=dd::zvH l
def zxb (l:List AV):List AV:=dd::zrQ l
def zxc (l:List AV):List AV:=dd::zxb l
def zup (l:List AV):List AV:=dd::zxc l
def zxB (l:List AV):List AV:=dd::zup l
def zxd (l:List AV):List AV:=dd::zxB l
def zxe (l:List AV):List AV:=dd::zxd l
def zxC (l:List AV):List AV:=dd::zxe l
def zdO (l:List AV):List AV:=dd::zxC l
def ptq (s:Nat):AV:= .one (.ptr ⟨s,0,1⟩ 0)
def obq (e:Nat) (cs:List C):Option Res:=some {e:=e,var:=true,fz:=false,sz:=0,cells:=cs}
def roq (e sz:Nat) (ds:List D):Option Res:=some {e:=e,var:=false,fz:=false,sz:=sz,cells:=ds.map C.d}
theorem ddE:(∀l,dq2 l=dd::dd::l)∧(∀l,dq3 l=dd::dq2 l)∧(∀l,dq4 l=dd::dq3 l)∧(∀l,dq5 l=dd::dq4 l)∧(∀l,dq6 l=dd::dq5 l)∧(∀l,dq7 l=dd::dq6 l)∧(∀l,dq8 l=dd::dq7 l)∧(∀l,dq9 l=dd::dq8 l)∧(∀l,zmC l=dd::dq9 l)∧(∀l,zv6 l=dd::zmC l)∧(∀l,zom l=dd::zv6 l)∧(∀l,zrv l=dd::zom l)∧(∀l,zv7 l=dd::zrv l)∧(∀l,zvD l=dd::zv7 l)∧(∀l,zw9 l=dd::zvD l)∧(∀l,zto l=dd::zw9 l)∧(∀l,zrw l=dd::zto l)∧(∀l,zvE l=dd::zrw l)∧(∀l,zrx l=dd::zvE l)∧(∀l,zpa l=dd::zrx l)∧(∀l,zv8 l=dd::zpa l)∧(∀l,zv9 l=dd::zv8 l)∧(∀l,zvF l=dd::zv9 l)∧(∀l,zvG l=dd::zvF l)∧(∀l,zuo l=dd::zvG l)∧(∀l,zxa l=dd::zuo l)∧(∀l,ztp l=dd::zxa l)∧(∀l,zwa l=dd::ztp l)∧(∀l,ztq l=dd::zwa l)∧(∀l,zvH l=dd::ztq l)∧(∀l,zrQ l=dd::zvH l)∧(∀l,zxb l=dd::zrQ l)∧(∀l,zxc l=dd::zxb l)∧(∀l,zup l=dd::zxc l)∧(∀l,zxB l=dd::zup l)∧(∀l,zxd l=dd::zxB l)∧(∀l,zxe l=dd::zxd l)∧(∀l,zxC l=dd::zxe l)∧(∀l,zdO l=dd::zxC l)∧(∀s,ptq s= .one (.ptr ⟨s,0,1⟩ 0))∧(∀e cs,obq e cs=some {e:=e,var:=true,fz:=false,sz:=0,cells:=cs})∧(∀e sz ds,roq e sz ds=some {e:=e,var:=false,fz:=false,sz:=sz,cells:=ds.map C.d}):=
 ⟨fun _=>rfl,fun _=>rfl,fun _=>rfl,fun _=>rfl,fun _=>rfl,fun _=>rfl,fun _=>rfl,fun _=>rfl,fun _=>rfl,fun _=>rfl,fun _=>rfl,fun _=>rfl,fun _=>rfl,fun _=>rfl,fun _=>rfl,fun _=>rfl,fun _=>rfl,fun _=>rfl,fun _=>rfl,fun _=>rfl,fun _=>rfl,fun _=>rfl,fun _=>rfl,fun _=>rfl,fun _=>rfl,fun _=>rfl,fun _=>rfl,fun _=>rfl,fun _=>rfl,fun _=>rfl,fun _=>rfl,fun _=>rfl,fun _=>rfl,fun _=>rfl,fun _=>rfl,fun _=>rfl,fun _=>rfl,fun _=>rfl,fun _=>rfl,fun _=>rfl,fun _ _=>rfl,fun _ _ _=>rfl⟩
abbrev zBk:AV:= .one (.d (.v (.slice none 0 0)))
abbrev al (n:Nat) (ds:List D):AV:= .one (.lent n ds)
abbrev zcT:Int:=2305843009213693952
def i64 (n:Int):Prop:= -9223372036854775808≤n∧n<9223372036854775808
structure Req where
 client:Int
 seq:Int
 kind:Int
 session:Int
 name:ByteArray
abbrev Req.enc (r:Req):List D:=[iD r.client,iD r.seq,iD r.kind,iD r.session,sD r.name]
def Req.ok (r:Req):Prop:=i64 r.client∧i64 r.seq∧i64 r.kind∧i64 r.session∧r.name.size<2^62
structure Tip where
 view:Int
 slot:Int
 deriving DecidableEq
structure Batch where
 fill:Bool
 view:Int
 tip:Tip
 time:Int
 reqs:List Req
abbrev zbu (l:List Req):List D:=l.flatMap Req.enc
abbrev Batch.enc (b:Batch):List D:=[bD b.fill,iD b.view,iD b.tip.view,iD b.tip.slot,iD b.time, .sl b.reqs.length (zbu b.reqs)]
abbrev Batch.lent (b:Batch):List C:=[db b.fill,di b.view,di b.tip.view,di b.tip.slot,di b.time, .lent b.reqs.length (zbu b.reqs)]
def Batch.ok (b:Batch):Prop:=i64 b.view∧i64 b.tip.view∧i64 b.tip.slot∧i64 b.time∧b.reqs.length<2^42∧∀r∈b.reqs,r.ok
structure Vote where
 slot:Int
 ballot:Int
 batch:Batch
abbrev Vote.enc (v:Vote):List D:=iD v.slot::iD v.ballot::v.batch.enc
def Vote.ok (v:Vote):Prop:=i64 v.slot∧i64 v.ballot∧v.batch.ok
structure Prom where
 src:Int
 done:Int
 tip:Tip
 time:Int
 votes:List Vote
abbrev zbe (l:List Vote):List D:=l.flatMap Vote.enc
abbrev Prom.enc (p:Prom):List D:=[iD p.src,iD p.done,iD p.tip.view,iD p.tip.slot,iD p.time, .sl p.votes.length (zbe p.votes)]
abbrev Prom.lent (p:Prom):List C:=[di p.src,di p.done,di p.tip.view,di p.tip.slot,di p.time, .lent p.votes.length (zbe p.votes)]
def Prom.ok (p:Prom):Prop:=i64 p.src∧i64 p.done∧i64 p.tip.view∧i64 p.tip.slot∧i64 p.time∧p.votes.length<2^42∧∀v∈p.votes,v.ok
abbrev zlf (l:List Prom):List D:=l.flatMap Prom.enc
abbrev znl (l:List Batch):List D:=l.flatMap Batch.enc
theorem zdv {l:List Req} {i:Nat} (hi:i<l.length):(zbu l).drop (i*5)=l[i].enc++(zbu (l.drop (i+1))):=zdT _ 5 l i hi fun _=>rfl
theorem zdP {l:List Vote} {i:Nat} (hi:i<l.length):(zbe l).drop (i*8)=l[i].enc++(zbe (l.drop (i+1))):=zdT _ 8 l i hi fun _=>rfl
theorem zaD {l:List Req}:(zbu l).length=l.length*5:=zdW _ 5 (fun _=>rfl) l
theorem zaA {l:List Vote}:(zbe l).length=l.length*8:=zdW _ 8 (fun _=>rfl) l
theorem zx8 {n:Nat}:sub 0 0 n []=[]:=by simp[sub]
theorem ztr {x0:C}:sub 0 1 1 [x0]=[x0]:=rfl
theorem zts {x0 x1:C}:sub 0 1 2 [x0,x1]=[x0,x1]:=rfl
theorem ztt {x0 x1 x2:C}:sub 0 1 3 [x0,x1,x2]=[x0,x1,x2]:=rfl
theorem ztu {x0 x1 x2 x3:C}:sub 0 1 4 [x0,x1,x2,x3]=[x0,x1,x2,x3]:=rfl
theorem ztv {x0 x1 x2 x3 x4:C}:sub 0 1 5 [x0,x1,x2,x3,x4]=[x0,x1,x2,x3,x4]:=rfl
theorem ztw {x0 x1 x2 x3 x4 x5:C}:sub 0 1 6 [x0,x1,x2,x3,x4,x5]=[x0,x1,x2,x3,x4,x5]:=rfl
theorem ztx {x0 x1 x2 x3 x4 x5 x6:C}:sub 0 1 7 [x0,x1,x2,x3,x4,x5,x6]=[x0,x1,x2,x3,x4,x5,x6]:=rfl
theorem zty {x0 x1 x2 x3 x4 x5 x6 x7:C}:sub 0 1 8 [x0,x1,x2,x3,x4,x5,x6,x7]=[x0,x1,x2,x3,x4,x5,x6,x7]:=rfl
theorem reqsE_snoc {l:List Req} {r:Req}:zbu (l++[r])=zbu l++r.enc:=by simp[zbu]
theorem votesE_snoc {l:List Vote} {r:Vote}:zbe (l++[r])=zbe l++r.enc:=by simp[zbe]
theorem zcH {α β:Type} (enc:α→List β) (sz:Nat) (h:∀x,(enc x).length=sz) (l:List α):(l.flatMap enc).take (l.length*sz)=l.flatMap enc:=List.take_of_length_le (Nat.le_of_eq (zdW enc sz h l))
theorem reqs_take {l:List Req}:(zbu l).take (l.length*5)=zbu l:=zcH Req.enc 5 (fun _=>rfl) l
theorem votes_take {l:List Vote}:(zbe l).take (l.length*8)=zbe l:=zcH Vote.enc 8 (fun _=>rfl) l
theorem zfZ {l:List Prom}:(zlf l).take (l.length*6)=zlf l:=zcH Prom.enc 6 (fun _=>rfl) l
theorem zg6 {l:List Batch}:(znl l).take (l.length*6)=znl l:=zcH Batch.enc 6 (fun _=>rfl) l
section
variable {T:Nat→Option TI} {P:Program}
theorem zaX {x y:Code} {g:G} {Q:Ex→G→Prop} (h:awp T P x g Q):zqE T P (.one (.d (.v (.bool true)))) True x y g Q:=⟨trivial,fun _=>h,fun h=>(by cases h)⟩
theorem zaY {x y:Code} {g:G} {Q:Ex→G→Prop} (h:awp T P y g Q):zqE T P (.one (.d (.v (.bool false)))) True x y g Q:=⟨trivial,fun h=>(by cases h),fun _=>h⟩
end
theorem ztz:Go.Pk.bad.x= .one .dead:=rfl
theorem pkX:type_of% (I (I (I (I (@zx8) (I (Nat.sub_zero) (@reqs_take))) (I (@votes_take) (I (@zfZ) (@zg6)))) (I (I (Bool.true_beq) (I (Bool.false_beq) (@zbq))) (I (@zdc) (I (Nat.zero_mul) (Nat.one_mul))))) (I (I (I (Nat.mul_one) (I (@List.drop_zero.{0}) (@List.length_map.{0,0}))) (I (@ztr) (I (@zts) (@ztt)))) (I (I (@ztu) (I (@ztv) (@ztw))) (I (I (@ztx) (@zty)) (I (Int.toNat_zero) (Int.toNat_one)))))):=I (I (I (I (@zx8) (I (Nat.sub_zero) (@reqs_take))) (I (@votes_take) (I (@zfZ) (@zg6)))) (I (I (Bool.true_beq) (I (Bool.false_beq) (@zbq))) (I (@zdc) (I (Nat.zero_mul) (Nat.one_mul))))) (I (I (I (Nat.mul_one) (I (@List.drop_zero.{0}) (@List.length_map.{0,0}))) (I (@ztr) (I (@zts) (@ztt)))) (I (I (@ztu) (I (@ztv) (@ztw))) (I (I (@ztx) (@zty)) (I (Int.toNat_zero) (Int.toNat_one)))))
def Stop (p:Prop):Prop:=p
theorem zpE (n:Nat) {T:Nat→Option TI} {P:Program} {ops:Array Oper} {d:Bool} {y:Code} {Q:Ex→G→Prop} {g:G} (h:Stop (zkv T P (.seq (.region n ops d) y) Q .normal g)):
  zkv T P (.seq (.region n ops d) y) Q .normal g:=h
def zg7 (n:Nat):Code→Option Code
 | .seq (.region m ops d) y=>if m==n then some (.seq (.region m ops d) y)else zg7 n y
 | .seq a y=>(zg7 n a).or (zg7 n y)
 | .cond _ a b=>(zg7 n a).or (zg7 n b)
 | .block _ b=>zg7 n b
 | .loop b=>zg7 n b
 | .scope b=>zg7 n b
 |_=>none
theorem zon {s:Sh} {ss:List Sh} {dss:List (List D)} (h:zmI (s::ss) dss):∃d ds,dss=d::ds∧ShD s d∧zmI ss ds:=by
 cases dss with
 |nil=>exact h.elim
 |cons d ds=>exact⟨d,ds,rfl,h.1,h.2⟩
theorem zpF {dss:List (List D)} (h:zmI [] dss):dss=[]:=by
 cases dss with
 |nil=>rfl
 |cons d ds=>exact h.elim
section
variable {T:Nat→Option TI}
end
theorem Rd.sub {w:World} {A A':Nat→Prop} (h:∀b,A' b→A b) {d:D} {u:Value} (hd:Rd w A d u):Rd w A' d u:=
 hd.stb (⟨fun _ _ _=>rfl,fun b _ hb=>h b hb⟩:Stb w A w A')
theorem RowM.take {w:World} {A A':Nat→Prop} (h:∀b,A' b→A b) {pl:Pl} {sz:Nat} {ds xs:List D} (hm:RowM w A pl sz (ds++xs)):RowM w A' pl sz ds:=by
 unfold RowM at*
 split at hm
 ·exact⟨(List.append_eq_nil_iff.1 hm.1).1,hm.2⟩
 ·obtain⟨c,e,h1,h2,h3,h4⟩:=hm
  refine⟨c,e,h1,h2,by rw[List.length_append]at h3;omega,fun k d hk=> ?_⟩
  obtain⟨u,g1,g2⟩:=h4 k d (by rw[List.getElem?_append_left (List.getElem?_eq_some_iff.1 hk).1];exact hk)
  exact⟨u,g1,g2.sub h⟩
def zuq (r:Rs) (y:AV) (ys:List AV) (post:List RF→List RO→Prop):Prop:=
 match y with
 | .one (.ptr hd 0)=>match getR r hd with
  |some res=>match roCs r res.cells,avRFs r ys with
   |some l,some rfs=>res.var=true∧ndB (ownHs r (avCellss ys++res.cells))=true∧post rfs l
   |_,_=>False
  |none=>False
 |_=>False
def ztA (T:Nat→Option TI) (rvs:List ResultVar) (post:List RF→List RO→Prop) (g:G):Prop:=
 (resAs T g.v g.r rvs).1∧match (resAs T g.v g.r rvs).2 with
  |y::ys=>zuq g.r y ys post
  |[]=>False
def zBl (T:Nat→Option TI) (rvs:List ResultVar) (post:List RF→List RO→Prop) (e:Ex) (g:G):Prop:=
 match e with
 | .normal=>ztA T rvs post g
 | .ret=>ztA T rvs post g
 | .exit _=>False
 | .panic _=>False
section
variable {P:Program} {cx:Cx} {T:Nat→Option TI} {v:List AV} {r:Rs} {a:Act} {w:World} {β:Nat→Nat→Pl}
theorem CallP.le {f:FuncId} {as as':List Arg} {rfs:List RF} {l:List RO} (h:CallP P f as' rfs l) (hl:zdZ as as'):CallP P f as rfs l:=
 ⟨h.1,fun w A0 us h1 h3=>h.2 w A0 us h1 (zd0 hl h3).1⟩
end
def roA (a b:RO):Prop:=
 match a,b with
 | .d x, .d y=>y=x
 | .d (.v (.slice none 0 0)), .own _ n ds _=>n=0∧ds=[]
 | .own sz n ds _, .own sz' n' ds' _=>sz'=sz∧n'=n∧ds'=ds
 |_,_=>False
def ztB:List RO→List RO→Prop
 |[],[]=>True
 |a::l,b::m=>roA a b∧ztB l m
 |_,_=>False
def roB (a b:RO):Prop:=
 b=a∨match a,b with
 | .d (.v (.slice none 0 0)), .own _ n ds _=>n=0∧ds=[]
 | .d (.v (.slice none 0 0)), .d (.sl n ds)=>n=0∧ds=[]
 | .own sz n ds _, .own sz' n' ds' bo'=>sz'=sz∧n'=n∧ds'=ds∧bo'=true
 |_,_=>False
def znm:List RO→List RO→Prop
 |[],[]=>True
 |a::l,b::m=>roB a b∧znm l m
 |_,_=>False
def rfB:RF→RF→Prop
 | .one a, .one b=>roB a b
 | .agg l, .agg m=>znm l m
 |_,_=>False
def zur:List RF→List RF→Prop
 |[],[]=>True
 |a::l,b::m=>rfB a b∧zur l m
 |_,_=>False
def zoo:List (List RO)→List (List RO)→Prop
 |[],[]=>True
 |a::l,b::m=>znm a b∧zoo l m
 |_,_=>False
theorem zlg:∀{a:List RO},znm a a
 |[]=>trivial
 |x::a=>⟨.inl rfl,zlg⟩
theorem zrR {a:RF}:rfB a a:=by cases a;exact .inl rfl;exact zlg
theorem zej:∀{a b c d:List RO},znm a b→znm c d→znm (a++c) (b++d)
 |[],[],_,_,_,h=>h
 |x::a,y::b,_,_,h,h'=>⟨h.1,zej h.2 h'⟩
 |[],_::_,_,_,h,_=>h.elim
 |_::_,[],_,_,h,_=>h.elim
theorem zgJ:∀{a b:List RF},zur a b→znm (a.flatMap RF.cells) (b.flatMap RF.cells)
 |[],[],_=>trivial
 |x::a,y::b,h=>by
  simp only[List.flatMap_cons]
  refine zej ?_ (zgJ h.2)
  cases x with
  |one x=>cases y with
   |one y=>exact⟨h.1,trivial⟩
   |agg _=>exact h.1.elim
  |agg l=>cases y with
   |one y=>exact h.1.elim
   |agg m=>exact h.1
 |[],_::_,h=>h.elim
 |_::_,[],h=>h.elim
theorem zi9:∀{a b:List (List RO)},zoo a b→znm a.flatten b.flatten
 |[],[],_=>trivial
 |x::a,y::b,h=>by simp only[List.flatten_cons];exact zej h.1 (zi9 h.2)
 |[],_::_,h=>h.elim
 |_::_,[],h=>h.elim
theorem zff:∀{a b:List RO},znm a b→b.length=a.length
 |[],[],_=>rfl
 |x::a,y::b,h=>by simp[zff h.2]
 |[],_::_,h=>h.elim
 |_::_,[],h=>h.elim
theorem znn:∀{a b:List RO} {i:Nat} {y:RO},znm a b→b[i]? =some y→∃x,a[i]? =some x∧roB x y
 |[],[],_,_,_,h=>by simp at h
 |x::a,y::b,0,z,h,hi=>by simp only[List.getElem?_cons_zero,Option.some.injEq]at hi;subst hi;exact⟨x,rfl,h.1⟩
 |x::a,y::b,i+1,z,h,hi=>by simpa using znn (i:=i) h.2 (by simpa using hi)
 |[],_::_,_,_,h,_=>h.elim
 |_::_,[],_,_,h,_=>h.elim
theorem zno:∀{a b:List RO} {i:Nat} {y:RO},ztB a b→b[i]? =some y→∃x,a[i]? =some x∧roA x y
 |[],[],_,_,_,h=>by simp at h
 |x::a,y::b,0,z,h,hi=>by simp only[List.getElem?_cons_zero,Option.some.injEq]at hi;subst hi;exact⟨x,rfl,h.1⟩
 |x::a,y::b,i+1,z,h,hi=>by simpa using zno (i:=i) h.2 (by simpa using hi)
 |[],_::_,_,_,h,_=>h.elim
 |_::_,[],_,_,h,_=>h.elim
section
variable {P:Program} {w:World} {A0 Bor:Nat→Prop} {γ:Nat→Pl} {A A':Nat→Prop} {L:List RO}
theorem zxD {x:RO} {sz n:Nat} {ds:List D} {bo:Bool} (h:roB x (.own sz n ds bo)):(∃bo',x= .own sz n ds bo'∧(bo=false→bo'=false))∨∃y,x= .d y:=by
 rcases h with h|h
 ·exact .inl ⟨bo,h.symm,id⟩
 ·split at h
  ·exact .inr ⟨_,rfl⟩
  ·rename_i q;cases q
  ·rename_i sz0 n0 ds0 bo0 sz1 n1 ds1 bo1 q
   cases q
   obtain⟨rfl,rfl,rfl,rfl⟩:=h
   exact .inl ⟨bo0,rfl,fun h=>by cases h⟩
  ·exact h.elim
theorem zwb (hA:∀b,A' b→A b) {a b:RO} {u:Value} {i:Nat} (hi:L[i]? =some a) (h:roB a b) (hu:ROc A w (γ i) a u):ROc A' w (γN γ L i) b u:=by
 rcases h with rfl|h
 ·exact zf2 hA hi hu
 ·split at h
  ·obtain⟨rfl,rfl⟩:=h
   exact zkb hi hu
  ·obtain⟨rfl,rfl⟩:=h
   exact znw hu
  ·obtain⟨rfl,rfl,rfl,rfl⟩:=h
   have:=zf2 (L:=L) (γ:=γ) hA hi hu
   simp only[ROc]at this⊢
   exact this
  ·exact h.elim
theorem zxE {a b:RO} {u:Value} {i:Nat} (hi:L[i]? =some a) (h:roA a b) (hu:ROc A w (γ i) a u):ROc A w (γN γ L i) b u:=by
 unfold roA at h
 split at h
 ·subst h
  exact zf2 (fun _ h=>h) hi hu
 ·obtain⟨rfl,rfl⟩:=h
  exact zkb hi hu
 ·obtain⟨rfl,rfl,rfl⟩:=h
  have:=zf2 (L:=L) (γ:=γ) (A':=A) (fun _ h=>h) hi hu
  simp only[ROc]at this⊢
  exact this
 ·exact h.elim
theorem znp (hA:∀b,A' b→A b):∀{a b:List RO} {k:Nat} {us:List Value},(∀i x,a[i]? =some x→L[k+i]? =some x)→znm a b→ROcs A w γ k a us→ROcs A' w (γN γ L) k b us
 |[],[],k,us,_,_,h=>h
 |x::a,y::b,k,us,hL,hl,h=>by
  simp only[ROcs]at h⊢
  obtain⟨u,us',rfl,h1,h2⟩:=h
  refine⟨u,us',rfl,zwb hA (hL 0 x rfl) hl.1 h1,znp hA (fun i x' hi=> ?_) hl.2 h2⟩
  have:=hL (i+1) x' (by simpa using hi)
  rwa[show k+(i+1)=k+1+i by omega]at this
 |[],_::_,_,_,_,h,_=>h.elim
 |_::_,[],_,_,_,h,_=>h.elim
theorem ztC:∀{a b:List RO} {k:Nat} {us:List Value},(∀i x,a[i]? =some x→L[k+i]? =some x)→ztB a b→ROcs A w γ k a us→ROcs A w (γN γ L) k b us
 |[],[],k,us,_,_,h=>h
 |x::a,y::b,k,us,hL,hl,h=>by
  simp only[ROcs]at h⊢
  obtain⟨u,us',rfl,h1,h2⟩:=h
  refine⟨u,us',rfl,zxE (hL 0 x rfl) hl.1 h1,ztC (fun i x' hi=> ?_) hl.2 h2⟩
  have:=hL (i+1) x' (by simpa using hi)
  rwa[show k+(i+1)=k+1+i by omega]at this
 |[],_::_,_,_,_,h,_=>h.elim
 |_::_,[],_,_,_,h,_=>h.elim
theorem ztD (hA:∀b,A' b→A b):∀{a b:List RF} {k:Nat} {us:List Value},(∀i x,(a.flatMap RF.cells)[i]? =some x→L[k+i]? =some x)→zur a b→RFvs A w γ k a us→RFvs A' w (γN γ L) k b us
 |[],[],k,us,_,_,h=>h
 |x::a,y::b,k,us,hL,hl,h=>by
  simp only[RFvs]at h⊢
  obtain⟨u,us',rfl,h1,h2⟩:=h
  have hlen:y.cells.length=x.cells.length:=by
   cases x with
   |one x=>cases y with
    |one y=>rfl
    |agg _=>exact hl.1.elim
   |agg l=>cases y with
    |one y=>exact hl.1.elim
    |agg m=>exact zff hl.1
  refine⟨u,us',rfl, ?_, ?_⟩
  ·have hx:∀i z,x.cells[i]? =some z→L[k+i]? =some z:=fun i z hi=>hL i z (by rw[List.flatMap_cons,List.getElem?_append_left (List.getElem?_eq_some_iff.1 hi).1];exact hi)
   cases x with
   |one x=>cases y with
    |one y=>simp only[RFv]at h1⊢;exact zwb hA (hx 0 x rfl) hl.1 h1
    |agg _=>exact hl.1.elim
   |agg l=>cases y with
    |one y=>exact hl.1.elim
    |agg m=>
     simp only[RFv]at h1⊢
     obtain⟨vs,e1,e2⟩:=h1
     exact⟨vs,e1,znp hA hx hl.1 e2⟩
  ·rw[hlen]
   refine ztD hA (fun i z hi=> ?_) hl.2 h2
   have:=hL (x.cells.length+i) z (by rw[List.flatMap_cons,List.getElem?_append_right (Nat.le_add_right _ _)];simpa using hi)
   rwa[Nat.add_assoc]
 |[],_::_,_,_,_,h,_=>h.elim
 |_::_,[],_,_,_,h,_=>h.elim
theorem zj3 (hA:∀b,A' b→A b):∀{ls ms:List (List RO)} {k:Nat} {bs:List Hold},(∀i x,ls.flatten[i]? =some x→L[k+i]? =some x)→zoo ls ms→zb5 A w γ k ls bs→zb5 A' w (γN γ L) k ms bs
 |[],[],k,bs,_,_,h=>by simpa[zb5]using h
 |l::ls,m::ms,k,[],_,_,h=>by simp[zb5]at h
 |l::ls,m::ms,k, .blk b::bs,hL,hl,h=>by
  simp only[zb5]at h⊢
  obtain⟨⟨c,e,h1,h2,h3⟩,h4⟩:=h
  refine⟨⟨c,e,h1,znp hA (fun i x hi=>hL i x (by rw[List.flatten_cons,List.getElem?_append_left (List.getElem?_eq_some_iff.1 hi).1];exact hi)) hl.1 h2,h3⟩, ?_⟩
  rw[zff hl.1]
  refine zj3 hA (fun i x hi=> ?_) hl.2 h4
  have:=hL (l.length+i) x (by rw[List.flatten_cons,List.getElem?_append_right (Nat.le_add_right _ _)];simpa using hi)
  rwa[Nat.add_assoc]
 |l::ls,m::ms,k, .val u::bs,hL,hl,h=>by
  simp only[zb5]at h⊢
  obtain⟨h1,h4⟩:=h
  refine⟨?_, ?_⟩
  ·rcases h1 with rfl|h1
   ·left
    have:=zff hl.1
    exact List.eq_nil_of_length_eq_zero (by simpa using this)
   ·right
    exact znp hA (fun i x hi=>hL i x (by rw[List.flatten_cons,List.getElem?_append_left (List.getElem?_eq_some_iff.1 hi).1];exact hi)) hl.1 h1
  rw[zff hl.1]
  refine zj3 hA (fun i x hi=> ?_) hl.2 h4
  have:=hL (l.length+i) x (by rw[List.flatten_cons,List.getElem?_append_right (Nat.le_add_right _ _)];simpa using hi)
  rwa[Nat.add_assoc]
 |[],_::_,_,_,_,h,_=>h.elim
 |_::_,[],_,_,_,h,_=>h.elim
theorem zus {rfs rfs':List RF} {objs objs':List (List RO)} (h:zur rfs rfs') (ho:zoo objs objs'):znm (zbw rfs objs) (zbw rfs' objs'):=zej (zgJ h) (zi9 ho)
theorem Ret.le {w':World} {bs:List Hold} {rfs rfs':List RF} {objs objs':List (List RO)} {u:Value} (h:Ret w A0 Bor w' bs rfs objs u) (hl:zur rfs rfs') (ho:zoo objs objs'):Ret w A0 Bor w' bs rfs' objs' u:=by
 obtain⟨⟨γ,us,m1,m2,m3,m4,m5,m6⟩,h2,h3,h4,h5⟩:=h
 have hle:=zus hl ho
 have hown:∀{i sz n b o:Nat} {ds:List D} {bo:Bool},(zbw rfs' objs')[i]? =some (.own sz n ds bo)→(γN γ (zbw rfs objs) i).base=some (b,o)→∃bo',(zbw rfs objs)[i]? =some (.own sz n ds bo')∧(bo=false→bo'=false)∧(γ i).base=some (b,o):=fun {i sz n b o ds bo} hi hb=>by
  obtain⟨x,g1,g2⟩:=znn hle hi
  rcases zxD g2 with⟨bo',rfl,hbo⟩|⟨y,rfl⟩
  ·refine⟨bo',g1,hbo, ?_⟩
   unfold γN at hb
   rw[g1]at hb
   exact hb
  ·unfold γN at hb
   rw[g1]at hb
   cases hb
 have hNB:∀b,NB (γN γ (zbw rfs objs)) 0 (zbw rfs' objs') b→NB γ 0 (zbw rfs objs) b:=fun b hb=>by
  obtain⟨i,sz,n,ds,bo,o,g1,g2⟩:=zfD hb
  rw[Nat.zero_add]at g2
  obtain⟨bo',g3,_,g4⟩:=hown g1 g2
  exact zeQ (k:=0) g3 (by rw[Nat.zero_add];exact g4)
 have hlen:(rfs'.flatMap RF.cells).length=(rfs.flatMap RF.cells).length:=zff (zgJ hl)
 refine⟨⟨γN γ (zbw rfs objs),us,m1, ?_, ?_,fun b hb=>m4 b (hNB b hb),fun i sz n ds b o hi hb=> ?_,fun i j b o o' sz n ds bo sz' n' ds' bo' hi hj hbi hbj=> ?_⟩,h2,h3,h4,h5⟩
 ·exact ztD (fun b hb=>hb.imp id (hNB b)) (fun i x hi=>by rw[Nat.zero_add];unfold zbw;rw[List.getElem?_append_left (List.getElem?_eq_some_iff.1 hi).1];exact hi) hl m2
 ·rw[hlen]
  exact zj3 (fun b hb=>hb.imp id (hNB b)) (fun i x hi=>by unfold zbw;rw[List.getElem?_append_right (Nat.le_add_right _ _)];simpa using hi) ho m3
 ·obtain⟨bo',g1,g0,g2⟩:=hown hi hb
  rw[g0 rfl]at g1
  exact m5 i sz n ds b o g1 g2
 ·obtain⟨b1,g1,_,g2⟩:=hown hi hbi
  obtain⟨b2,g3,_,g4⟩:=hown hj hbj
  exact m6 i j b o o' sz n ds b1 sz' n' ds' b2 g1 g3 g2 g4
theorem CallOK.leR {f:FuncId} {as:List Arg} {rfs':List RF} {objs':List (List RO)} (h:CallOK P f as (fun r o=>zur r rfs'∧zoo o objs')):CallOK P f as (fun r o=>r=rfs'∧o=objs'):=
 ⟨h.1,fun w A0 Bor γ bs us h1 h2 h3 h4 h5 h6=>(h.2 w A0 Bor γ bs us h1 h2 h3 h4 h5 h6).mono fun e w' ⟨r,o,u,⟨g1,g2⟩,g3,g4⟩=>⟨rfs',objs',u,⟨rfl,rfl⟩,g3,g4.le g1 g2⟩⟩
theorem CallP.leR {f:FuncId} {as:List Arg} {rfs rfs':List RF} {l l':List RO} (h:CallP P f as rfs l) (hr:zur rfs rfs') (hl:znm l l'):CallP P f as rfs' l':=
 ⟨h.1,fun w A0 us h1 h2=>(h.2 w A0 us h1 h2).mono fun e w' ⟨bs,r,o,u,⟨b,g1,g2,g3⟩,g4,g5,g6⟩=>by
  subst g1 g2 g3
  exact⟨_,_,_,u,⟨b,rfl,rfl,rfl⟩,g4,g5,g6.le ⟨zrR,hr⟩ ⟨hl,trivial⟩⟩⟩
theorem znq {γ γ':Nat→Pl}:∀{as:List Arg} {k k':Nat} {bs:List Hold} {us:List Value},zal as=[]→(∀l,Arg.obj l ∉ as)→zaq P w A0 Bor γ k as bs us→zaq P w A0 Bor γ' k' as bs us
 |[],_,_,_,_,_,_,h=>h
 | .f x::as,k,k',bs,us,h0,h1,h=>by
  simp only[zaq]at h⊢
  obtain⟨u,us',e1,e2,e3⟩:=h
  exact⟨u,us',e1,e2,znq (by simpa[zal]using h0) (fun l hl=>h1 l (List.mem_cons_of_mem _ hl)) e3⟩
 | .obj l::as,_,_,_,_,_,h1,_=>absurd (List.mem_cons_self) (h1 l)
 | .row .. ::as,_,_,_,_,h0,_,_=>by simp[zal]at h0
def zj4:List Arg→Bool
 |[]=>true
 | .f _::as=>zj4 as
 |_::_=>false
theorem znr:∀{as:List Arg},zj4 as=true→zal as=[]∧∀l,Arg.obj l ∉ as
 |[],_=>⟨rfl,fun l h=>by simp at h⟩
 | .f x::as,h=>by
  obtain⟨h1,h2⟩:=znr (as:=as) (by simpa[zj4]using h)
  exact⟨by simpa[zal]using h1,fun l hl=>by
   rcases List.mem_cons.1 hl with hl|hl
   ·cases hl
   ·exact h2 l hl⟩
 | .obj _::_,h=>by simp[zj4]at h
 | .row .. ::_,h=>by simp[zj4]at h
theorem CallOK.leO {f:FuncId} {x y:List RO} {as:List Arg} {post:List RF→List (List RO)→Prop} (h:CallOK P f (.obj y::as) post) (hl:ztB x y) (hn:zj4 as=true):CallOK P f (.obj x::as) post:=by
 obtain⟨hn1,hn2⟩:=znr hn
 refine⟨h.1,fun w A0 Bor γ bs us h1 h2 h3 h4 h5 h6=> ?_⟩
 have hx:zal (.obj x::as)=x:=by simp[zal,hn1]
 have hy:zal (.obj y::as)=y:=by simp[zal,hn1]
 rw[hx]at h4 h6
 have hown:∀{i sz n b o:Nat} {ds:List D} {bo:Bool},y[i]? =some (.own sz n ds bo)→(γN γ x i).base=some (b,o)→∃sz' n' ds' bo',x[i]? =some (.own sz' n' ds' bo')∧(γ i).base=some (b,o):=fun {i sz n b o ds bo} hi hb=>by
  obtain⟨z,g1,g2⟩:=zno hl hi
  cases z with
  |d z=>unfold γN at hb;rw[g1]at hb;cases hb
  |own sz' n' ds' bo'=>
   unfold γN at hb
   rw[g1]at hb
   exact⟨sz',n',ds',bo',g1,hb⟩
 refine h.2 w A0 Bor (γN γ x) bs us h1 h2 ?_ ?_ h5 ?_
 ·simp only[zaq]at h3⊢
  obtain⟨b,bs',us',c,e,e1,e2,e3,e4,e5,e6,e7⟩:=h3
  exact⟨b,bs',us',c,e,e1,e2,e3,e4,ztC (L:=x) (fun i z hi=>by rw[Nat.zero_add];exact hi) hl e5,e6,znq hn1 hn2 e7⟩
 ·rw[hy]
  intro b hb
  obtain⟨i,sz,n,ds,bo,o,g1,g2⟩:=zfD hb
  rw[Nat.zero_add]at g2
  obtain⟨sz',n',ds',bo',g3,g4⟩:=hown g1 g2
  exact h4 b (zeQ (k:=0) g3 (by rw[Nat.zero_add];exact g4))
 ·rw[hy]
  intro i j b o o' sz n ds bo sz' n' ds' bo' hi hj hbi hbj
  obtain⟨s1,n1,d1,b1,g1,g2⟩:=hown hi hbi
  obtain⟨s2,n2,d2,b2,g3,g4⟩:=hown hj hbj
  exact h6 i j b o o' s1 n1 d1 b1 s2 n2 d2 b2 g1 g3 g2 g4
theorem CallOK.leM {f:FuncId} {x y:List RO} {as as':List Arg} {post:List RF→List (List RO)→Prop} (h:CallOK P f (.obj y::as') post) (hl:ztB x y) (hn:zj4 as'=true) (ha:zdZ as as'):CallOK P f (.obj x::as) post:=
 (h.leO hl hn).le ⟨rfl,ha⟩
end
section
variable {T:Nat→Option TI} {P:Program}
theorem zpG {all:List Oper} {m:M} {rest:List Oper} {dst:Option Nat} {v:List AV} {r:Rs} {K:Ex→G→Prop} {n:FuncId} {x y:List RO} {ass as':List Arg} {mv:Mv} {lent:List Nat} {rfs:List RF} {l':List RO}
  {f:Operand} {args:Array Operand} {a:Option (FuncId×List Arg)} (hc:callM 0 v r f args=some (n, .obj x::ass,mv,lent)) (h:CallOK P n (.obj y::as') (fun r o=>r=rfs∧o=[l'])) (hr:ztB x y) (hn:zj4 as'=true) (ha:zdZ ass as')
  (hs:scM r dst mv lent l') (hk:aops T P all (upM dst mv.s m) rest (putV v dst (bindM r dst mv rfs l').1) (bindM r dst mv rfs l').2 K):zii T P all m rest dst v r K f args a:=
 zr1 0 hc (h.leM hr hn ha) hs hk
end
theorem zpH {α β:Type} (enc:α→List β) (l:List α) (k:Nat):l.flatMap enc=(l.take k).flatMap enc++(l.drop k).flatMap enc:=by rw[←List.flatMap_append,List.take_append_drop]
theorem zhU {α β:Type} (enc:α→List β) (sz:Nat) (h:∀x,(enc x).length=sz) {l:List α} {k:Nat} (hk:k≤l.length):(l.flatMap enc).take (k*sz)=(l.take k).flatMap enc:=by
 rw[zpH enc l k]
 exact List.take_left' (by rw[zdW enc sz h,List.length_take];congr 1;omega)
abbrev za5 (l:List Int):List D:=l.flatMap fun n=>[iD n]
structure Sess where
 client:Int
 num:Int
 renewed:Int
abbrev Sess.enc (x:Sess):List D:=[iD x.client,iD x.num,iD x.renewed]
abbrev zaV (l:List Sess):List D:=l.flatMap Sess.enc
structure Lk where
 name:ByteArray
 holder:Int
 token:Int
 line:List Int
abbrev Lk.enc (k:Lk):List D:=[sD k.name,iD k.holder,iD k.token, .sl k.line.length (za5 k.line)]
abbrev zay (l:List Lk):List D:=l.flatMap Lk.enc
structure Grant where
 name:ByteArray
 token:Int
abbrev Grant.enc (g:Grant):List D:=[sD g.name,iD g.token]
abbrev zaO (l:List Grant):List D:=l.flatMap Grant.enc
structure Reply where
 code:Int
 session:Int
 ahead:Int
 held:List Grant
abbrev Reply.enc (r:Reply):List D:=[iD r.code,iD r.session,iD r.ahead, .sl r.held.length (zaO r.held)]
abbrev Reply.lent (r:Reply):List C:=[di r.code,di r.session,di r.ahead, .lent r.held.length (zaO r.held)]
structure Memo where
 client:Int
 seq:Int
 reply:Reply
abbrev Memo.enc (m:Memo):List D:=iD m.client::iD m.seq::m.reply.enc
abbrev Memo.lent (m:Memo):List C:=di m.client::di m.seq::m.reply.lent
abbrev zaM (l:List Memo):List D:=l.flatMap Memo.enc
structure St where
 time:Int
 num:Int
 token:Int
 sess:List Sess
 locks:List Lk
 memos:List Memo
abbrev St.lent (s:St):List C:=[di s.time,di s.num,di s.token, .lent s.sess.length (zaV s.sess), .lent s.locks.length (zay s.locks), .lent s.memos.length (zaM s.memos)]
abbrev St.rf (s:St):RF:= .agg [.d (iD s.time), .d (iD s.num), .d (iD s.token), .own 3 s.sess.length (zaV s.sess) false, .own 4 s.locks.length (zay s.locks) false, .own 6 s.memos.length (zaM s.memos) false]
theorem ints_at {l:List Int} {i:Nat} (hi:i<l.length):(za5 l).drop (i*1)=[iD l[i]]++(za5 (l.drop (i+1))):=zdT _ 1 l i hi fun _=>rfl
theorem zce {l:List Int} {i:Nat} (hi:i<l.length):(za5 l).drop i=[iD l[i]]++(za5 (l.drop (i+1))):=by have:=ints_at hi;rwa[Nat.mul_one]at this
theorem zbH {l:List Sess} {i:Nat} (hi:i<l.length):(zaV l).drop (i*3)=l[i].enc++(zaV (l.drop (i+1))):=zdT _ 3 l i hi fun _=>rfl
theorem zbo {l:List Lk} {i:Nat} (hi:i<l.length):(zay l).drop (i*4)=l[i].enc++(zay (l.drop (i+1))):=zdT _ 4 l i hi fun _=>rfl
theorem zb3 {l:List Grant} {i:Nat} (hi:i<l.length):(zaO l).drop (i*2)=l[i].enc++(zaO (l.drop (i+1))):=zdT _ 2 l i hi fun _=>rfl
theorem zcf {l:List Memo} {i:Nat} (hi:i<l.length):(zaM l).drop (i*6)=l[i].enc++(zaM (l.drop (i+1))):=zdT _ 6 l i hi fun _=>rfl
theorem zns {l:List Int}:(za5 l).length=l.length*1:=zdW _ 1 (fun _=>rfl) l
theorem zaW {l:List Int}:(za5 l).length=l.length:=by rw[zns,Nat.mul_one]
theorem zat {l:List Sess}:(zaV l).length=l.length*3:=zdW _ 3 (fun _=>rfl) l
theorem zan {l:List Lk}:(zay l).length=l.length*4:=zdW _ 4 (fun _=>rfl) l
theorem zam {l:List Grant}:(zaO l).length=l.length*2:=zdW _ 2 (fun _=>rfl) l
theorem zaw {l:List Memo}:(zaM l).length=l.length*6:=zdW _ 6 (fun _=>rfl) l
theorem zhV {l:List Int}:(za5 l).take l.length=za5 l:=List.take_of_length_le (Nat.le_of_eq zaW)
theorem zc5 {l:List Sess}:(zaV l).take (l.length*3)=zaV l:=zcH Sess.enc 3 (fun _=>rfl) l
theorem zcC {l:List Lk}:(zay l).take (l.length*4)=zay l:=zcH Lk.enc 4 (fun _=>rfl) l
theorem grants_take {l:List Grant}:(zaO l).take (l.length*2)=zaO l:=zcH Grant.enc 2 (fun _=>rfl) l
theorem zcD {l:List Memo}:(zaM l).take (l.length*6)=zaM l:=zcH Memo.enc 6 (fun _=>rfl) l
theorem zop {l:List Int} {r:Int}:za5 (l++[r])=za5 l++[iD r]:=by simp[za5]
theorem zoq {l:List Sess} {r:Sess}:zaV (l++[r])=zaV l++r.enc:=by simp[zaV]
theorem zlh {l:List Grant} {r:Grant}:zaO (l++[r])=zaO l++r.enc:=by simp[zaO]
theorem zmD {l:List Memo} {r:Memo}:zaM (l++[r])=zaM l++r.enc:=by simp[zaM]
theorem pkY:type_of% (I (I (I (pkX) (I (@zhV) (@zc5))) (I (@zcC) (I (@grants_take) (@zcD)))) (I (I (ztz) (I (@Option.map_some.{0,0}) (@Option.map_none.{0,0}))) (I (I (Bool.not_true) (Bool.not_false)) (I (@List.any_cons.{0}) (@List.any_nil.{0}))))):=I (I (I (pkX) (I (@zhV) (@zc5))) (I (@zcC) (I (@grants_take) (@zcD)))) (I (I (ztz) (I (@Option.map_some.{0,0}) (@Option.map_none.{0,0}))) (I (I (Bool.not_true) (Bool.not_false)) (I (@List.any_cons.{0}) (@List.any_nil.{0}))))
theorem Gh.sealV {v:List AV} {r r':Rs} (i:Nat) {x:C} {d:D} (hi:v[i]? =some (.one x)) (hs:sealC r x=some (d,r')):Gh ⟨v,r⟩ ⟨v.set i (.one (.d d)),r'⟩:=fun cx a w ⟨β,hh⟩=>by
 obtain⟨u,h1,h2⟩:=hh.sl i _ hi
 simp only[ReA]at h2
 obtain⟨β1,k1,x1,hd1⟩:=zkp hh hs h2
 refine⟨β1,{k1 with sz:=by simpa using k1.sz,sl:=fun j y hj=> ?_}⟩
 simp only[List.getElem?_set]at hj
 by_cases hij:i=j
 ·subst hij
  rw[if_pos rfl]at hj
  split at hj
  ·cases hj
   exact⟨u,h1,by simp only[ReA,ReC];exact hd1⟩
  ·cases hj
 ·rw[if_neg hij]at hj
  exact k1.sl j y hj
theorem zj5 {T:Nat→Option TI} {P:Program} {y:Code} {Q:Ex→G→Prop} {g g':G} (h:Gh g g') (hk:zkv T P y Q .normal g'):zkv T P y Q .normal g:=by
 rcases hk with⟨g1,h1,h2⟩|hk
 ·exact .inl ⟨g1,fun cx a w hh=>h1 cx a w (h cx a w hh),h2⟩
 ·exact .inr fun cx e R hR a w hh=>hk cx e R hR a w (h cx a w hh)
theorem zpI {p:Prop} (h:p):Stop p:=h
theorem znt (n:Nat) {T:Nat→Option TI} {P:Program} {ops:Array Oper} {d:Bool} {Q:Ex→G→Prop} {g:G} (h:Stop (zkv T P (.region n ops d) Q .normal g)):
  zkv T P (.region n ops d) Q .normal g:=h
section
variable {T:Nat→Option TI} {P:Program}
theorem znu (n:Nat) {ops:Array Oper} {d:Bool} {x y:Code} {Q:Ex→G→Prop} {g:G} (h:Stop (zkv T P (.seq (.seq (.region n ops d) x) y) Q .normal g)):
  zkv T P (.seq (.seq (.region n ops d) x) y) Q .normal g:=h
end
theorem zja (b:ByteArray):∀(n i:Nat) (r:List UInt8),b.size - i=n→ByteArray.toList.loop b i r=r.reverse++b.data.toList.drop i
 |0,i,r,h=>by
  have hl:b.data.toList.length=b.size:=Array.length_toList
  rw[ByteArray.toList.loop.eq_1,if_neg (by omega),List.drop_of_length_le (by omega)];simp
 |n+1,i,r,h=>by
  have hi:i<b.size:=by omega
  rw[ByteArray.toList.loop.eq_1,if_pos hi,zja b n (i+1) _ (by omega)]
  have hi':i<b.data.toList.length:=by
   have hl:b.data.toList.length=b.size:=Array.length_toList
   omega
  rw[List.drop_eq_getElem_cons hi']
  have:b.get! i=b.data.toList[i]:=by
   have h2:i<b.data.size:=hi
   show b.data[i]! =_
   rw[getElem!_pos b.data i h2,Array.getElem_toList]
  rw[this];simp
theorem zdQ (b:ByteArray):b.toList=b.data.toList:=by
 unfold ByteArray.toList
 rw[zja b b.size 0 [] (by omega)];simp
theorem Gh.nilG {v:List AV} {r:Rs} {i s sz:Nat} (hi:v[i]? =some (.one (.d (.v (.slice none 0 0))))):
  Gh ⟨v,r⟩ ⟨v.set i (.one (.gap ⟨s,1,nxt r s⟩ 0 0 0)),setR s ⟨nxt r s+1,[none,some {e:=nxt r s,var:=false,fz:=false,sz,cells:=[]}]⟩ r⟩:=fun cx a w ⟨β,hh⟩=>by
 obtain⟨β',q1,q2,q3⟩:=hh.fresh (w':=w) (d:=s) (j0:=1) (L:=[none,some {e:=nxt r s,var:=false,fz:=false,sz,cells:=[]}]) (pl0:=⟨none,0⟩) rfl
  (fun j res hj=>by
   match j with
   |0=>simp at hj
   |1=>rfl
   |j+2=>simp at hj) rfl rfl (fun b o hb=>by cases hb) (fun _ _=>rfl) (Nat.le_refl _)
  (fun β' hx hA=>zcM (ds:=[]) rfl rfl rfl (by simp[RowM]))
 obtain⟨u,g1,g2⟩:=hh.sl i _ hi
 have hu:=(zas.1 g2).1
 subst hu
 refine⟨β',{q1 with sz:=by simpa using q1.sz,sl:=fun j x hj=> ?_}⟩
 rw[List.getElem?_set]at hj
 split at hj
 ·rename_i e
  subst e
  split at hj
  ·cases hj
   refine⟨_,g1, ?_⟩
   simp only[ReA,ReC]
   refine⟨rfl,by rw[zaL,if_pos rfl];exact Nat.lt_succ_self _,Nat.le_refl _,none,rfl,fun res hr=> ?_⟩
   obtain⟨hl,_⟩:=zad hr
   rw[zax,if_pos rfl]at hl
   simp only[List.getElem?_cons_succ,List.getElem?_cons_zero,Option.some.injEq]at hl
   subst hl
   rw[q2]
   exact⟨rfl,rfl, .inl trivial⟩
  ·cases hj
 ·exact q1.sl j x hj
theorem zI {p:Prop} (h:p:=by
 ((try with_reducible refine zqC ?_);first|(with_reducible rfl)|((with_reducible first|refine zwg ?_|refine zke ?_|refine ztK ?_);kernel_rfl)|(intros;omega)|(intro q p;rw[q,p];rfl)|(intro q;rw[q];rfl)|(intro q;simp only[Bool.and_eq_true,decide_eq_true_eq,beq_iff_eq]at q;omega)|(intros;simp[List.range,List.range.loop];done)|(intros;simp_all[List.range,List.range.loop];done)|fail)):p:=h
theorem zC {p:Prop} (h:p:=by first|(with_reducible exact True.intro)|(with_reducible refine ztK ?_;kernel_rfl)|fail):p:=h
theorem zK {p:Prop} (h:p:=by(simp only[ddE,zbX,zdu,zbY,zcw,zcx,zcy,List.set_cons_zero,List.set_cons_succ,and_true,true_and,Int.natCast_zero,Int.cast_ofNat_Int,D.v.injEq,Value.int.injEq];try(repeat'(first|rfl|omega|with_reducible apply And.intro)))):p:=h
theorem zM {p:Prop} (h:p:=by first|(simp[zdZ,aLe,ztE,cLe];done)|fail):p:=h
structure Wr (p:Prop):Prop where
 h:p
theorem zmd {α β:Type} {f:α→β} {l:List α} {i:Nat}:(l.map f).drop i=(l.drop i).map f:=List.map_drop.symm
theorem zAY {α β:Type} {f:α→β} {l:List α} {i:Nat}:(l.map f).take i=(l.take i).map f:=List.map_take.symm
section
variable {T:Nat→Option TI} {P:Program} {all:List Oper} {m:M} {rest:List Oper} {dst:Option Nat} {v:List AV} {r:Rs} {K:Ex→G→Prop} {n:FuncId} {as as':List Arg} {rfs:List RF} {f:Operand} {args:Array Operand} {post:List RF→List (List RO)→Prop} {j:Nat} {want c:Bool}
theorem zc (z:CallOK P n as' post) (hk:aops T P all m rest (putV v dst (bindRet r dst rfs).1) (bindRet r dst rfs).2 K)
  (k:CallOK P n as' post→CallOK P n as (fun r o=>r=rfs∧o=[]):=by(intro z;first|exact z|(refine CallOK.le z ?_;exact zM)|fail)):zii T P all m rest dst v r K f args (some (n,as)):=zaC (k z) hk
theorem zg (z:CallOK P n as' post) (hk:aops T P all m rest (putV v dst (.gd c (tupOf (bindFs 0 0 0 rfs)))) r K)
  (k:CallOK P n as' post→CallOK P n as (fun r o=>r=rfs∧o=[]):=by(intro z;first|exact z|(refine CallOK.le z ?_;exact zM)|fail)) (hn:noOwn (rfs.flatMap RF.cells)=true:=by rfl):zlU T P all m rest c dst v r K f args j want (some (n,as)):=zaE (fun _=>k z) hn hk
end
theorem zx {P:Program} {n:FuncId} {as':List Arg} {post:List RF→List (List RO)→Prop} {p q:Prop} (z:CallOK P n as' post) (h:q)
  (k:CallOK P n as' post→Wr q→p:=by(intro z h;first|(refine zc z ?_;exact h.h)|(refine zg z ?_;exact h.h)|fail)):p:=k z ⟨h⟩
theorem zca:type_of% (I @List.cons_append.{0} @List.nil_append.{0}):=I @List.cons_append.{0} @List.nil_append.{0}
theorem zf0 {P:Program} {ops:Array Oper} {Q:Exit→Act→List Frame→World→Prop} {cs:List Frame} (hno:∀a w,¬Q .outgrown a cs w):∀(l:List Nat) (a:Act) (w:World),wpOps P ops (fun e a w=>Q e a cs w) l a w→wpOpsS P ops Q l a cs w
 |[],a,w,h=>by simpa only[wpOps,wpOpsS]using h
 |i::rest,a,w,h=>by
  simp only[wpOps,wpOpsS]at h⊢
  cases ho:ops[i]? with
  |none=>rw[ho]at h;exact zf0 hno rest a w h
  |some o=>
   rw[ho]at h
   simp only at h⊢
   split
   ·rename_i hw
    rw[if_pos hw]at h
    replace h:=h.resolve_right (fun h=>by obtain⟨_,a',w',hq⟩:=h;exact hno a' w' hq)
    unfold Oper.wp at h
    split
    ·rename_i w' hr
     rw[hr]at h
     exact h.elim
    ·exact Oper.wp_mono (P:=P) (o:=o) (a:=a) (w:=w) (fun a w h=>zf0 hno rest a w h) h
   ·rename_i hw
    rw[if_neg hw]at h
    exact zf0 hno rest _ w h
section
variable {P:Program} {T:Nat→Option TI}
def zxf:FrameMode→Option (Value×FrameMode)
 | .panicking ({v,recovered:=false,goexit:=false}::older)=>some (v, .panicking ({v,recovered:=true}::older))
 |_=>none
def plainO (l:List Value):List RO:=l.map fun x=> .d (.v x)
theorem zjb {A:Nat→Prop} {w:World} {γ:Nat→Pl}:∀{l us:List Value} {k:Nat},ROcs A w γ k (plainO l) us→us=l
 |[],us,k,h=>by simpa[plainO,ROcs]using h
 |x::l,us,k,h=>by
  simp only[plainO,List.map_cons,ROcs,ROc,Rd]at h
  obtain⟨u,us',rfl,h1,h2⟩:=h
  rw[h1.1,zjb (l:=l) h2]
theorem zjc {A:Nat→Prop} {w:World} {γ:Nat→Pl}:∀{l:List Value} {k:Nat},(∀u∈l,flat u=true)→ROcs A w γ k (plainO l) l
 |[],k,h=>by simp[plainO,ROcs]
 |x::l,k,h=>by
  simp only[plainO,List.map_cons,ROcs,ROc,Rd]
  exact⟨x,l,rfl,⟨rfl,h x (by simp)⟩,zjc fun u hu=>h u (by simp[hu])⟩
theorem zpJ {l:List Value} {i sz n:Nat} {ds:List D} {bo:Bool}:(plainO l)[i]? ≠some (.own sz n ds bo):=by
 simp only[plainO,List.getElem?_map]
 cases l[i]? <;>simp
abbrev zbi (ls:List (List Value)):List Arg:=ls.map fun l=> .obj (plainO l)
theorem zf1:∀{ls:List (List Value)},zal (zbi ls)=plainO ls.flatten
 |[]=>rfl
 |l::ls=>by simp only[zbi,List.map_cons,zal,List.flatten_cons,plainO,List.map_append];rw[←plainO,←plainO,←zf1];rfl
theorem zhW {w:World} {A0 Bor:Nat→Prop} {γ:Nat→Pl}:∀{ls:List (List Value)} {bs:List Nat} {k:Nat},ls.length=bs.length→(∀b∈bs,Bor b)→
  (∀(i:Nat) (l:List Value) (b:Nat),ls[i]? =some l→bs[i]? =some b→∃e,w.heap[b]? =some (.cells l.toArray e (0,0)))→(∀l∈ls,∀u∈l,flat u=true)→
  zaq P w A0 Bor γ k (zbi ls) (bs.map Hold.blk) (bs.map zgO)
 |[],[],k,_,_,_,_=>by simp[zbi,zaq]
 |[],_::_,k,h,_,_,_=>by simp at h
 |_::_,[],k,h,_,_,_=>by simp at h
 |l::ls,b::bs,k,h,h1,h2,h3=>by
  simp only[zbi,List.map_cons,zaq]
  obtain⟨e,he⟩:=h2 0 l b rfl rfl
  exact⟨b,_,_,_,e,rfl,rfl,h1 b (by simp),he,by simpa using zjc (h3 l (by simp)),by simpa using h3 l (by simp),
   zhW (by simpa using h) (fun b hb=>h1 b (by simp[hb])) (fun i l b hi hb=>h2 (i+1) l b (by simpa using hi) (by simpa using hb)) (fun l hl=>h3 l (by simp[hl]))⟩
theorem zut (hT:TOK P T) {fn:Func} {rvs:List ResultVar} {args:List Arg} {w:World} {A0 Bor:Nat→Prop} {γ:Nat→Pl} {bs:List Hold} {us:List Value} {post:List RF→List (List RO)→Prop} (hres:fn.results=rvs.toArray)
  (ha:zaq P w A0 Bor γ 0 args bs us) {g:G} {a:Act} {w':World} (hh:HoldsE (cxO P w A0 Bor args bs) g a w') (hc:closeA T rvs (objPos 0 args) post g):
  a.defers=[]∧∃v,(results fn a.tmps).run P w'= .ok v w'∧∃rfs objs u,post rfs objs∧Ending.returned v= .returned u∧Ret w A0 Bor w' bs rfs objs u:=by
 obtain⟨v,r⟩:=g
 obtain⟨β,hh⟩:=hh
 obtain⟨g1,g2⟩:=hc
 obtain⟨vs,k1,k2⟩:=zhs (cx:=cxO P w A0 Bor args bs) hT hh g1
 refine⟨hh.df,zsr vs,zfN hres k1, ?_⟩
 unfold closeB at g2
 split at g2
 ·rename_i rfs cs q1 q2
  split at g2
  ·rename_i objs q3
   refine⟨rfs,objs,zsr vs,g2.2,rfl, ?_⟩
   have hpos:zbM (cxO P w A0 Bor args bs) w' r β (objPos 0 args) bs:=znE ha (fun _ _ _=>trivial) (fun q b hm res hg=>(hh.ob q b hm).2 res hg) (fun q n u hm=>hh.rw q n u hm)
   refine zqi (cx:=cxO P w A0 Bor args bs) hh (A1:=A0) (fun b hb=> .inl hb) k2 rfl q1 (zeR q2) q3 g2.1 hpos (fun s j res b o hl hfz hv hbase hmem=> ?_)
   obtain⟨p,res',e1,e2,hbase'⟩:=zeM (zeR q2) hpos hmem
   have hlk:=(zad e1).1
   have hf':res'.fz=false:=by
    cases hq:res'.fz with
    |false=>rfl
    |true=>have:=hh.vz _ _ _ hlk hq;rw[e2]at this;cases this
   obtain⟨p1,p2⟩:=hh.inj _ _ _ _ _ _ _ _ _ hl hfz hlk hf' hbase hbase'
   subst p1 p2
   rw[hl]at hlk
   cases hlk
   rw[hv]at e2
   cases e2
  ·exact g2.elim
 ·exact g2.elim
theorem zrS {bs:List Nat}:zdG (bs.map Hold.blk)=bs:=by
 induction bs with
 |nil=>rfl
 |cons b bs ih=>simp[zdG,ih]
theorem zg8 {A:Nat→Prop} {w:World} {γ:Nat→Pl}:∀{ls:List (List Value)} {bs:List Nat} {k:Nat},zb5 A w γ k (ls.map plainO) (bs.map Hold.blk)→
  ∀(i:Nat) (l:List Value) (b:Nat),ls[i]? =some l→bs[i]? =some b→∃e,w.heap[b]? =some (.cells l.toArray e (0,0))∧∀u∈l,flat u=true
 |[],_,_,_,i,l,b,h,_=>by simp at h
 |l0::ls,[],_,h,i,l,b,_,hb=>by simp at hb
 |l0::ls,b0::bs,k,h,i,l,b,hl,hb=>by
  simp only[List.map_cons,zb5]at h
  obtain⟨⟨c,e,h1,h2,h3⟩,h4⟩:=h
  cases i with
  |zero=>
   simp only[List.getElem?_cons_zero,Option.some.injEq]at hl hb
   subst hl hb
   have:=zjb h2
   refine⟨e, ?_,fun u hu=>h3 u (by rw[this];exact hu)⟩
   rw[h1,←this]
  |succ i=>exact zg8 h4 i l b (by simpa using hl) (by simpa using hb)
theorem zjd (hT:TOK P T) (hm:P.follows .mixedOrders=true) {fc:FuncId} {fn:Func} {j0 n t6 t7 tA tF:Nat} {ops0:List Oper} {rest:Code} {o0 o1:Oper} {tl:List Oper} {ts:Array TypeId}
  (hf:P.funcs[fc]? =some fn) (hb:fn.body=some (.seq (.region j0 ops0.toArray false) rest)) (hres:fn.results= #[]) (hn:fn.ntmps=n) (hops:ops0=o0::o1::tl)
  (h0:o0.op= .call ⟨.builtin .recover, #[],ts⟩) (h0d:o0.dst=some t6) (h0g:o0.guard=none) (h1:o1.op= .typeAssert (.tmp t6) tA tF true) (h1d:o1.dst=some t7) (h1g:o1.guard=none) (ht6:t6<n)
  {args:List Arg} {post:List RF→List (List RO)→Prop} {u u1:FrameMode} {x6 y7:Value} {V7:AV} (hrec:zxf u=some (x6,u1)∨(zxf u=none∧x6= .nilIface∧u1=u))
  (hta:∀w,(Instr.typeAssert x6 tA tF true).run P w= .ok y7 w) (hV:∀cx w r β,ReA cx w r β V7 y7) (hd6:(openG n args).v[t6]? =some (.one .dead))
  (h:aops T P ops0 ⟨none,[]⟩ tl ((openG n args).v.set t7 V7) (openG n args).r (zkv T P rest (zow T [] (objPos 0 args) post)))
  {A0 Bor:Nat→Prop} {γ:Nat→Pl} {bs:List Hold} {us:List Value} {w:World} (hA:∀b,A0 b→b<w.heap.size) (hB:∀b,Bor b→A0 b) (ha:zaq P w A0 Bor γ 0 args bs us)
  (hnb:∀b,NB γ 0 (zal args) b→Bor b∧b ∉ zdG bs) (hnd:(zdG bs).Nodup) (hap:Apart γ (zal args)) (hle:us.length≤n):
  CallsD P fc us.toArray u w fun e u' w'=>u'=u1∧∃rfs objs uu,post rfs objs∧e= .returned uu∧Ret w A0 Bor w' bs rfs objs uu:=by
 refine callsD_of_wpS hf hb fun c₀ cs hu=> ?_
 have hop:=zfj (n:=n) ha hA hB hnb hnd hap
 have hact:({tmps:=us.toArray++Array.replicate (fn.ntmps - us.toArray.size) undef,defers:=[]}:Act)={tmps:=us.toArray++Array.replicate (n - us.length) undef,defers:=[]}:=by rw[hn];simp
 rw[hact]
 generalize ha0:({tmps:=us.toArray++Array.replicate (n - us.length) undef,defers:=[]}:Act)=a0 at hop
 have hsz0:a0.tmps.size=n:=by
  rw[←ha0]
  simp
  omega
 apply wpS_seq
 apply wpS_region
 have hrg:List.range ops0.toArray.size=0::1::List.range' 2 tl.length:=by
  rw[hops]
  simp only[List.size_toArray,List.length_cons,List.range_eq_range']
  rfl
 rw[hrg]
 have hi0:ops0.toArray[0]? =some o0:=by rw[hops];rfl
 have hi1:ops0.toArray[1]? =some o1:=by rw[hops];rfl
 have hr0:∀(a:Act) (w:World),(execOp a.eval o0).run P w= .ok .recover w:=fun a w=>by simp[execOp,h0,resolve,invoke,builtin]
 have hr1:∀w,(execOp (a0.put (some t6) x6).eval o1).run P w= .ok (.value y7) w:=fun w=>by
  have:(a0.put (some t6) x6).eval (.tmp t6)=x6:=by simp[Act.eval,Act.put,hsz0,ht6]
  simp[execOp,h1,this,hta]
 have hw0:∀y,Region.wanted o0 y=true:=fun y=>zcA h0g
 have hw1:∀y,Region.wanted o1 y=true:=fun y=>zcA h1g
 -- what is asked to recover
 suffices hmain:wpOpsS P ops0.toArray (Exit.thenS (rest.wpS P (bodyPostS P fn c₀ cs fun e u' w'=>u'=u1∧∃rfs objs uu,post rfs objs∧e= .returned uu∧Ret w A0 Bor w' bs rfs objs uu)) (bodyPostS P fn c₀ cs fun e u' w'=>u'=u1∧∃rfs objs uu,post rfs objs∧e= .returned uu∧Ret w A0 Bor w' bs rfs objs uu)) (List.range' 2 tl.length) ((a0.put (some t6) x6).put (some t7) y7) ({c₀ with mode:=u1}::cs) w by
  have step1:∀cs',wpOpsS P ops0.toArray (Exit.thenS (rest.wpS P (bodyPostS P fn c₀ cs fun e u' w'=>u'=u1∧∃rfs objs uu,post rfs objs∧e= .returned uu∧Ret w A0 Bor w' bs rfs objs uu)) (bodyPostS P fn c₀ cs fun e u' w'=>u'=u1∧∃rfs objs uu,post rfs objs∧e= .returned uu∧Ret w A0 Bor w' bs rfs objs uu)) (List.range' 2 tl.length) ((a0.put (some t6) x6).put (some t7) y7) cs' w→
   wpOpsS P ops0.toArray (Exit.thenS (rest.wpS P (bodyPostS P fn c₀ cs fun e u' w'=>u'=u1∧∃rfs objs uu,post rfs objs∧e= .returned uu∧Ret w A0 Bor w' bs rfs objs uu)) (bodyPostS P fn c₀ cs fun e u' w'=>u'=u1∧∃rfs objs uu,post rfs objs∧e= .returned uu∧Ret w A0 Bor w' bs rfs objs uu)) (1::List.range' 2 tl.length) (a0.put (some t6) x6) cs' w:=fun cs' hh=>by
   rw[wpOpsS]
   simp only[hi1,hw1,if_true,hr1,Oper.upon_value,h1d]
   exact hh
  rw[wpOpsS]
  simp only[hi0,hw0,if_true,hr0]
  have hrec2:(recoverD (c₀::cs)=some (x6,{c₀ with mode:=u1}::cs))∨(recoverD (c₀::cs)=none∧x6= .nilIface∧u1=u):=by
   subst hu
   rcases hrec with hrec|⟨hrec,e1,e2⟩
   ·left
    unfold zxf at hrec
    unfold recoverD
    simp only
    split at hrec
    ·rename_i v older hmode
     cases hrec
     simp only[hmode]
    ·cases hrec
   ·right
    refine⟨?_,e1,e2⟩
    unfold zxf at hrec
    unfold recoverD
    simp only
    split at hrec
    ·cases hrec
    ·rename_i hno
     split
     ·rename_i v older hmode
      exact absurd hmode (hno v older)
     ·rfl
  rcases hrec2 with hr|⟨hr,e1,e2⟩
  ·rw[hr,h0d]
   exact step1 _ hmain
  ·rw[hr,h0d]
   have:({c₀ with mode:=u1}:Frame)=c₀:=by rw[e2,←hu]
   rw[this]at hmain
   subst e1
   exact step1 _ hmain
 -- the rest is code like any other
 have hold:HoldsE (cxO P w A0 Bor args bs) ⟨(openG n args).v.set t7 V7,(openG n args).r⟩ ((a0.put (some t6) x6).put (some t7) y7) w:=by
  have e6:=hop.put (some t6) (x:= .one .dead) (u:=x6) (by simp[ReA,ReC])
  have hv6:(openG n args).v.set t6 (.one .dead)=(openG n args).v:=by
   apply List.ext_getElem?
   intro i
   rw[List.getElem?_set]
   split
   ·rename_i hi
    subst hi
    rw[hd6,if_pos (List.getElem?_eq_some_iff.1 hd6).1]
   ·rfl
  have ev6:(openG n args).put (some t6) (.one .dead)=openG n args:=by
   unfold G.put
   simp only
   rw[hv6]
  rw[ev6]at e6
  exact⟨_,e6.put (some t7) (hV _ _ _ _)⟩
 refine zf0 (fun a w hq=> ?_) _ _ _ ?_
 ·obtain⟨_,_,_,_,_,_,hq1,_⟩:=hq
  cases hq1
 refine zf3 (cx:=cxO P w A0 Bor args bs) hT (fun e g a w' hh hq=> ?_) tl 2 _ _ _ _ _ (fun j=>by rw[hops,Nat.add_comm 2 j];rfl) h hold
 have hend:∀{e:Ex} {g:G} {a:Act} {w':World},HoldsE (cxO P w A0 Bor args bs) g a w'→
   zow T [] (objPos 0 args) post e g→
   bodyPostS P fn c₀ cs (fun e u' w'=>u'=u1∧∃rfs objs uu,post rfs objs∧e= .returned uu∧Ret w A0 Bor w' bs rfs objs uu) (zt1 e) a ({c₀ with mode:=u1}::cs) w':=fun {e g a w'} hh hq=>by
  have fin:closeA T [] (objPos 0 args) post g→a.defers=[]∧∃u',({c₀ with mode:=u1}::cs:List Frame)={c₀ with mode:=u'}::cs∧∃v,(results fn a.tmps).run P w'= .ok v w'∧
    (u'=u1∧∃rfs objs uu,post rfs objs∧Ending.returned v= .returned uu∧Ret w A0 Bor w' bs rfs objs uu):=fun hc=>by
   obtain⟨q1,v,q2,q3⟩:=zut (rvs:=[]) hT (by rw[hres]) ha hh hc
   exact⟨q1,u1,rfl,v,q2,rfl,q3⟩
  cases e with
  |normal=>exact fin hq
  |ret=>exact fin hq
  |exit id=>exact hq.elim
  |panic x=>exact hq.elim
 cases e with
 |normal=>
  rcases hq with⟨g',hg,hk⟩|hq
  ·exact wpS_of_wp (zlp (cx:=cxO P w A0 Bor args bs) hT hm rest g' _ _ (fun e g a w' hh hq=>hend hh hq) hk _ _ (hg _ _ _ hh))
  ·exact wpS_of_wp (hq (cxO P w A0 Bor args bs) rfl _ (fun e g a w' hh hq=>hend hh hq) _ _ hh)
 |ret=>exact hend (e:= .ret) hh hq
 |exit id=>exact hq.elim
 |panic x=>exact hq.elim
theorem znv {w:World} {A0 Bor:Nat→Prop} {w':World} {bs:List Hold} {objs:List (List RO)} {u:Value} (h:Ret w A0 Bor w' bs [] objs u):u= .tuple #[]∧PRet w Bor w':=by
 obtain⟨⟨γ,us,m1,m2,_⟩,p1,p2,p3,p4⟩:=h
 simp only[RFvs]at m2
 subst m2
 exact⟨m1,p1,p2,p3,p4⟩
theorem zli (hT:TOK P T) (hm:P.follows .mixedOrders=true) {fc:FuncId} {fn:Func} {j0 n t6 t7 tA tF:Nat} {ops0:List Oper} {rest:Code} {o0 o1:Oper} {tl:List Oper} {ts:Array TypeId}
  (hf:P.funcs[fc]? =some fn) (hb:fn.body=some (.seq (.region j0 ops0.toArray false) rest)) (hres:fn.results= #[]) (hn:fn.ntmps=n) (hops:ops0=o0::o1::tl)
  (h0:o0.op= .call ⟨.builtin .recover, #[],ts⟩) (h0d:o0.dst=some t6) (h0g:o0.guard=none) (h1:o1.op= .typeAssert (.tmp t6) tA tF true) (h1d:o1.dst=some t7) (h1g:o1.guard=none) (ht6:t6<n)
  {ls ls':List (List Value)} {x6 y7:Value} {V7:AV} (hta:∀w,(Instr.typeAssert x6 tA tF true).run P w= .ok y7 w) (hV:∀cx w r β,ReA cx w r β V7 y7) (hd6:(openG n (zbi ls)).v[t6]? =some (.one .dead))
  (h:aops T P ops0 ⟨none,[]⟩ tl ((openG n (zbi ls)).v.set t7 V7) (openG n (zbi ls)).r (zkv T P rest (zow T [] (objPos 0 (zbi ls)) (fun r o=>r=[]∧o=ls'.map plainO))))
  {bs:List Nat} {w:World} (hle:ls.length≤n) (hlen:ls.length=bs.length) (hnd:bs.Nodup) (hblk:∀(i:Nat) (l:List Value) (b:Nat),ls[i]? =some l→bs[i]? =some b→∃e,w.heap[b]? =some (.cells l.toArray e (0,0)))
  (hfl:∀l∈ls,∀u∈l,flat u=true):
  CallsD P fc (bs.map zgO).toArray (.panicking [{v:=x6,recovered:=false}]) w fun e u' w'=>e= .returned (.tuple #[])∧u'= .panicking [{v:=x6,recovered:=true}]∧PRet w (fun b=>b∈bs) w'∧
   ∀(i:Nat) (l:List Value) (b:Nat),ls'[i]? =some l→bs[i]? =some b→∃e,w'.heap[b]? =some (.cells l.toArray e (0,0))∧∀u∈l,flat u=true:=by
 have ha:zaq P w (fun b=>b∈bs) (fun b=>b∈bs) (fun _=>⟨none,0⟩) 0 (zbi ls) (bs.map Hold.blk) (bs.map zgO):=zhW hlen (fun b h=>h) hblk hfl
 have hlt:∀b∈bs,b<w.heap.size:=fun b hb'=>by
  obtain⟨i,hi,rfl⟩:=List.getElem_of_mem hb'
  obtain⟨e,he⟩:=hblk i ls[i] bs[i] (List.getElem?_eq_getElem (by omega)) (List.getElem?_eq_getElem hi)
  exact(Array.getElem?_eq_some_iff.1 he).1
 have hnone:∀(i sz m:Nat) (ds:List D) (bo:Bool),(zal (zbi ls))[i]? ≠some (.own sz m ds bo):=fun i sz m ds bo=>by rw[zf1];exact zpJ
 refine(zjd hT hm hf hb hres hn hops h0 h0d h0g h1 h1d h1g ht6 (u:= .panicking [{v:=x6,recovered:=false}]) (u1:= .panicking [{v:=x6,recovered:=true}]) (.inl rfl) hta hV hd6 h hlt (fun b h=>h) ha (fun b hN=>by
   exfalso
   obtain⟨i,sz,m,ds,bo,o,e1,_⟩:=zfD hN
   exact hnone _ _ _ _ _ e1) (by rw[zrS];exact hnd) (fun i j b o o' sz m ds bo sz' m' ds' bo' e1=>absurd e1 (hnone _ _ _ _ _)) (by simpa[←hlen]using hle)).mono ?_
 rintro e u' w' ⟨rfl,rfs,objs,uu,⟨rfl,rfl⟩,rfl,hr⟩
 obtain⟨e1,e2⟩:=znv hr
 refine⟨by rw[e1],rfl,e2, ?_⟩
 obtain⟨⟨γ',us',m1,m2,m3,_⟩,_⟩:=hr
 exact zg8 m3
theorem zlj {w:World} {A0 Bor:Nat→Prop} {γ:Nat→Pl} {k:Nat}:∀{us:List Value},zaq P w A0 Bor γ k (us.map fun _=>Arg.f (.one .dead)) [] us
 |[]=>by simp[zaq]
 |u::us=>by simp only[List.map_cons,zaq];exact⟨u,us,rfl,by simp[ReA,ReC],zlj⟩
theorem zfB {us:List Value}:zal (us.map fun _=>Arg.f (.one .dead))=[]:=by
 induction us with
 |nil=>rfl
 |cons u us ih=>simpa[zal]using ih
theorem zdw (hT:TOK P T) (hm:P.follows .mixedOrders=true) {fc:FuncId} {fn:Func} {j0 n t6 t7 tA tF:Nat} {ops0:List Oper} {rest:Code} {o0 o1:Oper} {tl:List Oper} {ts:Array TypeId}
  (hf:P.funcs[fc]? =some fn) (hb:fn.body=some (.seq (.region j0 ops0.toArray false) rest)) (hres:fn.results= #[]) (hn:fn.ntmps=n) (hops:ops0=o0::o1::tl)
  (h0:o0.op= .call ⟨.builtin .recover, #[],ts⟩) (h0d:o0.dst=some t6) (h0g:o0.guard=none) (h1:o1.op= .typeAssert (.tmp t6) tA tF true) (h1d:o1.dst=some t7) (h1g:o1.guard=none) (ht6:t6<n)
  {y7:Value} {V7:AV} (hta:∀w,(Instr.typeAssert .nilIface tA tF true).run P w= .ok y7 w) (hV:∀cx w r β,ReA cx w r β V7 y7) {k:Nat} (hle:k≤n)
  (hd6:(openG n (List.replicate k (.f (.one .dead)))).v[t6]? =some (.one .dead))
  (h:aops T P ops0 ⟨none,[]⟩ tl ((openG n (List.replicate k (.f (.one .dead)))).v.set t7 V7) (openG n (List.replicate k (.f (.one .dead)))).r (zkv T P rest (zow T [] (objPos 0 (List.replicate k (.f (.one .dead)))) (fun r o=>r=[]∧o=[])))):
  zmH P fc k:=by
 intro us w hk
 have hr:List.replicate k (Arg.f (.one .dead))=us.toList.map fun _=>Arg.f (.one .dead):=by
  rw[List.map_const']
  simp[←hk]
 rw[hr]at hd6 h
 have ha:zaq P w (fun _=>False) (fun _=>False) (fun _=>⟨none,0⟩) 0 (us.toList.map fun _=>Arg.f (.one .dead)) [] us.toList:=zlj
 have:=zjd hT hm hf hb hres hn hops h0 h0d h0g h1 h1d h1g ht6 (u:= .returning) (u1:= .returning) (.inr ⟨rfl,rfl,rfl⟩) hta hV hd6 h (w:=w) (fun b h=>h.elim) (fun b h=>h.elim) ha (by rw[zfB];intro b hb;exact hb.elim) List.nodup_nil
  (by rw[zfB];intro i j b o o' sz n ds bo sz' n' ds' bo' h1;simp at h1) (by simp[hk,hle])
 simp only[Array.toArray_toList]at this
 refine this.mono ?_
 rintro e u' w' ⟨rfl,rfs,objs,uu,⟨rfl,rfl⟩,rfl,hr⟩
 obtain⟨e1,e2⟩:=znv hr
 exact⟨by rw[e1],rfl,e2⟩
theorem zeG (hT:TOK P T) (hm:P.follows .mixedOrders=true) {fc:FuncId} {fn:Func} {j0 n t6 t7 tA tF:Nat} {ops0:List Oper} {rest:Code} {o0 o1:Oper} {tl:List Oper} {ts:Array TypeId}
  (hf:P.funcs[fc]? =some fn) (hb:fn.body=some (.seq (.region j0 ops0.toArray false) rest)) (hres:fn.results= #[]) (hn:fn.ntmps=n) (hops:ops0=o0::o1::tl)
  (h0:o0.op= .call ⟨.builtin .recover, #[],ts⟩) (h0d:o0.dst=some t6) (h0g:o0.guard=none) (h1:o1.op= .typeAssert (.tmp t6) tA tF true) (h1d:o1.dst=some t7) (h1g:o1.guard=none) (ht6:t6<n)
  {ks:List Nat} {sz:Nat→Nat} {nw:Value→Nat→List Value} {Px:Value→Prop} (hnd:ks.Nodup) (hle:ks.length≤n)
  (hmain:∀x,Px x→∀ls:List (List Value),ls.length=ks.length→(∀(i k:Nat) (l:List Value),ks[i]? =some k→ls[i]? =some l→l.length=sz k)→∃y7 V7,(∀w,(Instr.typeAssert x tA tF true).run P w= .ok y7 w)∧
   (∀cx w r β,ReA cx w r β V7 y7)∧(openG n (zbi ls)).v[t6]? =some (.one .dead)∧
   aops T P ops0 ⟨none,[]⟩ tl ((openG n (zbi ls)).v.set t7 V7) (openG n (zbi ls)).r (zkv T P rest (zow T [] (objPos 0 (zbi ls)) (fun r o=>r=[]∧o=(ks.map (nw x)).map plainO)))):
  zh3 P fc ks sz nw Px:=by
 intro x bl w hx hblk hinj
 let ce:Nat→List Value:=fun k=>match w.heap[bl k]? with|some (.cells c _ _)=>c.toList|_=>[]
 have hce:∀k∈ks,(∃e,w.heap[bl k]? =some (.cells (ce k).toArray e (0,0)))∧(ce k).length=sz k∧∀u∈ce k,flat u=true:=fun k hk=>by
  obtain⟨c,e,q1,q2,q3⟩:=hblk k hk
  have:ce k=c.toList:=by simp only[ce];rw[q1]
  rw[this]
  exact⟨⟨e,by simpa using q1⟩,by simpa using q2,q3⟩
 obtain⟨y7,V7,g1,g2,g3,g4⟩:=hmain x hx (ks.map ce) (by simp) (fun i k l hk hl=>by
  rw[List.getElem?_map,hk]at hl
  cases hl
  exact(hce k (List.mem_of_getElem? hk)).2.1)
 have hbs:(ks.map bl).Nodup:=by
  rw[List.nodup_iff_pairwise_ne,List.pairwise_map]
  refine hnd.imp_of_mem ?_
  intro a b ha hb' hne he
  exact hne (hinj a ha b hb' he)
 have hk2:(ks.map fun k=>zgO (bl k))=(ks.map bl).map zgO:=by rw[List.map_map];rfl
 rw[hk2]
 refine(zli hT hm hf hb hres hn hops h0 h0d h0g h1 h1d h1g ht6 (ls:=ks.map ce) (ls':=ks.map (nw x)) g1 g2 g3 g4 (by simpa using hle) (by simp) hbs (fun i l b hl hb=> ?_) (fun l hl u hu=> ?_)).mono ?_
 ·rw[List.getElem?_map]at hl hb
  cases hk:ks[i]? with
  |none=>rw[hk]at hl;cases hl
  |some k=>
   rw[hk]at hl hb
   cases hl
   cases hb
   exact(hce k (List.mem_of_getElem? hk)).1
 ·obtain⟨k,hk,rfl⟩:=List.mem_map.1 hl
  exact(hce k hk).2.2 u hu
 ·rintro e u' w' ⟨rfl,rfl,p,q⟩
  refine⟨rfl,rfl,p.size,fun b hb hn=>p.old b hb fun hm=> ?_,fun k hk=> ?_,p.os,p.out⟩
  ·obtain⟨k,hk,rfl⟩:=List.mem_map.1 hm
   exact hn k hk rfl
  ·obtain⟨i,hi,rfl⟩:=List.getElem_of_mem hk
   exact q i (nw x ks[i]) (bl ks[i]) (by rw[List.getElem?_map,List.getElem?_eq_getElem hi];rfl) (by rw[List.getElem?_map,List.getElem?_eq_getElem hi];rfl)
end
def zxF (r:Rs) (s k lo n:Nat):Rs:=
 match findR s r with
 |some rs=>(match rs.l[0]?,rs.l[k+1]? with
  |some (some V),some (some R)=>setR s ⟨rs.next+1,(rs.l.set (k+1) (some {R with e:=rs.next,cells:=R.cells.drop (lo*R.sz)})).set 0 (some {V with cells:=V.cells.set k (.own ⟨s,k+1,rs.next⟩ 0 n)})⟩ r
  |_,_=>r)
 |none=>r
def zxg (r:Rs) (s k lo n:Nat):Prop:=
 match findR s r with
 |some rs=>(match rs.l[0]?,rs.l[k+1]? with
  |some (some V),some (some R)=>V.var=true∧R.var=false∧V.cells[k]? =some (.own ⟨s,k+1,R.e⟩ lo n)
  |_,_=>False)
 |none=>False
def zxG (pl:Pl) (lo sz:Nat):Pl:=⟨pl.base.map fun q=>(q.1,q.2+lo*sz),pl.cap - lo⟩
section
variable {T:Nat→Option TI} {P:Program} {all:List Oper} {m:M} {rest:List Oper} {v:List AV} {r r':Rs} {K:Ex→G→Prop} {f:Operand} {args:Array Operand} {a:Option (FuncId×List Arg)}
end
section
variable {T:Nat→Option TI} {P:Program} {cx:Cx} {v:List AV} {r:Rs} {a:Act} {w:World} {β:Nat→Nat→Pl}
def Fam {τ:Type} (S:τ→G) (J:τ→Prop) (g:G):Prop:=∀(cx:Cx) (a:Act) (w:World),HoldsE cx g a w→∃t,J t∧HoldsE cx (S t) a w
theorem zrT {i j:Nat} {h:Hd} {n:Nat} {x:Value} (hi:v[i]? =some (.one (.d (.raw x)))) (hj:v[j]? =some (.one (.lk h n x))) (hh:HoldsE cx ⟨v,r⟩ a w):HoldsE cx ⟨v.set i (.one (.own h 0 n)),r⟩ a w:=by
 obtain⟨β,hh⟩:=hh
 obtain⟨u,g1,g2⟩:=hh.sl i _ hi
 obtain⟨u',_,g4⟩:=hh.sl j _ hj
 simp only[ReA,ReC,Rd]at g2 g4
 obtain⟨rfl,_⟩:=g2
 refine⟨β,{hh with sz:=by simpa using hh.sz,sl:=fun k y hk=> ?_}⟩
 simp only[List.getElem?_set]at hk
 by_cases hki:i=k
 ·subst hki
  rw[if_pos rfl]at hk
  split at hk
  ·cases hk
   exact⟨u,g1,by simp only[ReA,ReC];exact g4⟩
  ·cases hk
 ·rw[if_neg hki]at hk
  exact hh.sl k y hk
theorem Gh.view {i j:Nat} {h:Hd} {n:Nat} {x:Value} (hi:v[i]? =some (.one (.d (.raw x)))) (hj:v[j]? =some (.one (.lk h n x))):Gh ⟨v,r⟩ ⟨v.set i (.one (.own h 0 n)),r⟩:=fun _ _ _ hh=>zrT hi hj hh
def zBm (T:Nat→Option TI) (P:Program) (all:List Oper) (k:Nat) (z:Code) (Q:Ex→G→Prop) (e:Ex) (g:G):Prop:=
 match e with
 | .normal=>∃g',Gh g g'∧aops T P all ⟨none,[]⟩ (all.drop k) g'.v g'.r (zkv T P z Q)
 |_=>False
def zBn (T:Nat→Option TI) (rvs:List ResultVar) (q n2:Nat) (J:Value→Prop) (R:Value→List RF) (L:List RO) (e:Ex) (g:G):Prop:=
 (e= .normal∨e= .ret)∧(resAs T g.v g.r rvs).1∧∃(j:Nat) (x:Value),g.v[j]? =some (AV.one (C.lk ⟨q,1,0⟩ n2 x))∧J x∧avRFs g.r (resAs T g.v g.r rvs).2=some (R x)∧roCs g.r [C.own ⟨q,1,0⟩ 0 n2]=some L∧
  ndB (ownHs g.r (avCellss (resAs T g.v g.r rvs).2++flatCs [[C.own ⟨q,1,0⟩ 0 n2]]))=true
end
def zhX:Op→Bool
 | .move _=>true
 | .binOp .. =>true
 | .convert .. =>true
 | .load .. =>true
 | .fieldAddr .. =>true
 | .indexAddr .. =>true
 | .index .. =>true
 | .field .. =>true
 | .slice .. =>true
 | .nilCheck _=>true
 | .extract .. =>true
 | .unOp .. =>true
 | .build .. =>true
 |_=>false
def zxH (o:Oper):Oper:={o with dst:=none,op:= .move (.const (.bool false)),guard:=none}
def zek (p:Nat) (all:List Oper):List Oper:=all.zipIdx.map fun y=>if(y.2==p||((zdH all).getD y.2 0).testBit p)=true then zxH y.1 else y.1
theorem zj6 {p:Nat} {all:List Oper} {j:Nat}:(zek p all)[j]? =(all[j]?).map fun o=>if(j==p||((zdH all).getD j 0).testBit p)=true then zxH o else o:=by
 unfold zek
 rw[List.getElem?_map,List.getElem?_zipIdx]
 cases all[j]? <;>simp
theorem zpK {op:Op} (h:zhX op=true) {v:List AV} {dst:Option Nat}:(fpOf v dst op).w=[]:=by
 cases op<;>first|rfl|simp[zhX]at h
section
variable {T:Nat→Option TI} {P:Program} {cx:Cx} {K:Ex→G→Prop}
theorem zpL (hT:TOK cx.P T) {all:List Oper}:∀(rest:List Oper) (k:Nat) (m:M) (v:List AV) (r:Rs),(∀o∈rest,o.guard=none∧zhX o.op=true)→aops T cx.P all m rest v r K→
  ∃(St:Nat→G) (X:Nat→AV) (F:List FP),St k=⟨v,r⟩∧K .normal (St (k+rest.length))∧(∀f∈F,f.w=[])∧F.length=rest.length∧
   ∀j o,rest[j]? =some o→∃fp,zdg cx all o (St (k+j)).v (St (k+j)).r fp (X (k+j)) (St (k+j+1)).r∧(St (k+j+1)).v=putV (St (k+j)).v o.dst (X (k+j))∧
    F[j]? =some fp∧∀s∈fp.w,s∈fp.t
 |[],k,m,v,r,_,hk=>⟨fun _=>⟨v,r⟩,fun _=> .one .dead,[],rfl,hk.2,by simp,rfl,fun j o h=>by simp at h⟩
 |o::rest,k,m,v,r,hq,hk=>by
  obtain⟨q1,q2⟩:=hq o (by simp)
  have hk2:(aop T true v r o.dst o.op).sc∧aops T cx.P all (addFP m v o.dst o.op) rest (putV v o.dst (aop T true v r o.dst o.op).x) (aop T true v r o.dst o.op).r K:=by
   unfold aops at hk
   split at hk
   ·split at hk
    ·rename_i f args ts ho
     rw[ho]at q2
     simp[zhX]at q2
    ·rename_i y ho
     rw[ho]at q2
     simp[zhX]at q2
    ·exact hk
   ·rename_i hg
    rw[q1]at hg
    cases hg
  obtain⟨s1,s2⟩:=hk2
  obtain⟨St,X,F,g1,g2,g3,g4,g5⟩:=zpL hT rest (k+1) _ _ _ (fun o ho=>hq o (by simp[ho])) s2
  refine⟨fun i=>if i=k then⟨v,r⟩else St i,fun i=>if i=k then(aop T true v r o.dst o.op).x else X i,fpOf v o.dst o.op::F,by simp, ?_, ?_,by simp[g4],fun j o' hj=> ?_⟩
  ·simp only[List.length_cons]
   rw[if_neg (by omega),show k+(rest.length+1)=k+1+rest.length from by omega]
   exact g2
  ·intro f hf
   rcases List.mem_cons.1 hf with rfl|hf
   ·exact zpK q2
   ·exact g3 f hf
  ·cases j with
   |zero=>
    simp only[List.getElem?_cons_zero,Option.some.injEq]at hj
    subst hj
    simp only[Nat.add_zero,if_true]
    rw[if_neg (by omega),g1]
    exact⟨_,zlB hT q1 s1,rfl,by simp,fun s hs=>by rw[zpK q2]at hs;cases hs⟩
   |succ j=>
    have:=g5 j o' (by simpa using hj)
    simp only[if_neg (show k+(j+1)≠k from by omega),if_neg (show k+(j+1)+1≠k from by omega)]
    rw[show k+(j+1)=k+1+j from by omega]
    simpa using this
theorem zpM {all:List Oper} {F:List FP} (h:∀f∈F,f.w=[]):zku all F=true:=by
 unfold zku
 refine List.all_eq_true.2 fun y hy=>List.all_eq_true.2 fun x hx=> ?_
 have h1:=h y.1 (List.fst_mem_of_mem_zipIdx hy)
 have h2:=h x.1 (List.fst_mem_of_mem_zipIdx hx)
 simp[FP.apart,dis,h1,h2]
theorem zdR {L α:Type} {b0:L→α} {Wr:Nat→L→Option α} {S:Nat→Bool} {l:L}:∀{n:Nat},(∀k,k<n→Wr k l≠none→S k=true)→zfh b0 Wr S n l=zfh b0 Wr (fun _=>true) n l
 |0,_=>rfl
 |n+1,h=>by
  simp only[zfh,if_true]
  rw[zdR (n:=n) fun k hk=>h k (by omega)]
  cases hw:Wr n l with
  |none=>simp
  |some y=>rw[h n (by omega) (by rw[hw];simp)];simp
theorem zje {all:List Oper} (ho:zvK all=true) {listed:Array Bool} (hr:Region.ready .any all.toArray listed=[]) (hsz:listed.size=all.length):∀n j,j<n→j<all.length→listed.getD j false=true
 |0,_,h,_=>absurd h (Nat.not_lt_zero _)
 |n+1,j,hj,hjl=>by
  obtain⟨_,o2,_⟩:=zd1 ho
  have ho':all[j]? =some all[j]:=List.getElem?_eq_getElem hjl
  cases hl:listed.getD j true with
  |true=>simpa[hsz,hjl]using hl
  |false=>
   have:j∈Region.ready .any all.toArray listed:=by
    rw[mem_ready]
    refine⟨hl,all[j],by simp,fun e he hb=> ?_⟩
    have hlt:=o2 j _ ho' e he hb
    exact zje ho hr hsz n e.on (by omega) (by omega)
   rw[hr]at this
   cases this
theorem zpN {Q:Exit→Act→World→Prop} {all all':List Oper} {j:Nat} {o:Oper} {R:Act→World→Prop} {a:Act} {w:World} (h1:all[j]? =some o) (h2:all'[j]? =some o) (hg:o.guard=none)
  (h:wpOp P all'.toArray Q j R a w):wpOp P all.toArray Q j R a w:=by
 unfold wpOp at h⊢
 have e1:all.toArray[j]? =some o:=by simpa using h1
 have e2:all'.toArray[j]? =some o:=by simpa using h2
 simp only[e1,e2,zcA hg,if_true]at h⊢
 refine h.imp id fun h=> ?_
 exact h
def zxh (P:Program) (f:Operand) (args:Array Operand) (x:Value) (g:G):Prop:=
 evS true g.v f∧evsS true g.v args.toList∧∃n as,zbE P n as x∧(callA g.v g.r f args=some (n,as)∨∃i mv lent l',callM i g.v g.r f args=some (n,as,mv,lent)∧scM g.r none mv lent l')
theorem zor (hT:TOK cx.P T) (hm:cx.P.follows .mixedOrders=true) {ops:List Oper} {p:Nat} {o:Oper} {f:Operand} {args:Array Operand} {ts:Array TypeId} {x:Value} {g:G} {Q:Exit→Act→World→Prop} {id:Nat}
  (hop:ops[p]? =some o) (ho:o.op= .call ⟨.value f,args,ts⟩) (hg:o.guard=none) (h1:zlT ops) (h2:zlT (zek p ops)) (h3:((zek p ops).all fun o=>o.guard.isNone&&zhX o.op)=true)
  (hQ:∀g a w,HoldsE cx g a w→Q (zt1 (.panic x)) a w)
  (hw:aops T cx.P (zek p ops) ⟨none,[]⟩ (zek p ops) g.v g.r fun _ g'=>zxh cx.P f args x g') {a:Act} {w:World} (h:HoldsE cx g a w):(Code.region id ops.toArray true).wp cx.P Q a w:=by
 obtain⟨St,X,F,g1,g2,g3,g4,g5⟩:=zpL hT (zek p ops) 0 _ _ _ (fun y hy=>by
  have:=List.all_eq_true.1 h3 y hy
  simp only[Bool.and_eq_true,Option.isNone_iff_eq_none]at this
  exact this) hw
 rw[Nat.zero_add]at g2
 have hf:Found cx (zek p ops) St X F:=⟨g4,fun j o hj=>by simpa using g5 j o hj,h2,zpM g3⟩
 obtain⟨_,o2,o3⟩:=zd1 h1
 have hpl:p<ops.length:=(List.getElem?_eq_some_iff.1 hop).1
 have hrr:∀S n s,zfh (fun s=>findR s (St 0).r) (WrR F St) S n s=findR s (St 0).r:=fun S n s=>by
  rw[zdR (S:=S) fun k _ hw=> ?_,←zdR (S:=fun _=>false) fun k _ hw=> ?_,zeJ fun k _=>rfl]
  all_goals
   obtain⟨f',hf1,hf2⟩:=znC hw
   rw[g3 f' (List.mem_of_getElem? hf1)]at hf2
   cases hf2
 have key:∀(fuel:Nat) (listed:Array Bool) (a:Act) (w:World),listed.size=ops.length→unl ops.length listed≤fuel→Closed ops (fun i=>listed.getD i false)→listed.getD p false=false→
   Inv cx (zek p ops) St X F (fun i=>listed.getD i false) a w→wpAny cx.P .any ops.toArray Q fuel listed a w:=by
  intro fuel
  induction fuel with
  |zero=>
   intro listed a w hsz hu hc hp hI
   exfalso
   have:p∈(List.range ops.length).filter fun i=> !listed.getD i true:=by
    have:listed.getD p true=false:=by simp[hsz,hpl]at hp⊢;exact hp
    simp only[List.mem_filter,List.mem_range,hpl,this,Bool.not_false,and_self]
   have:=List.length_pos_of_mem this
   unfold unl at hu
   omega
  |succ fuel ih=>
   intro listed a w hsz hu hc hp hI
   refine⟨fun hr=> ?_,fun j hj=> ?_⟩
   ·have:=zje h1 hr hsz (p+1) p (by omega) hpl
    rw[hp]at this
    cases this
   ·obtain⟨q1,oj,hoj,hall⟩:=mem_ready.1 hj
    have hoj':ops[j]? =some oj:=by simpa using hoj
    have hjl:j<ops.length:=(List.getElem?_eq_some_iff.1 hoj').1
    have hjf:listed.getD j false=false:=by simp[hsz,hjl]at q1⊢;exact q1
    by_cases hjp:j=p
    ·subst hjp
     rw[hop]at hoj'
     cases hoj'
     obtain⟨v,r,⟨β,hH⟩,hl,hv,hr⟩:=hI
     have hlook:∀d∈o.looksAt ops.toArray,v[d]? =(St (zek j ops).length).v[d]? :=fun d hd=>by
      rw[hv d,←hf.lexV d _ (Nat.le_refl _)]
      refine zdR fun k hk hw=> ?_
      obtain⟨y,hy,hyd,_⟩:=znB hw
      rw[zj6]at hy
      cases hok:ops[k]? with
      |none=>rw[hok]at hy;cases hy
      |some z=>
       rw[hok]at hy
       simp only[Option.map_some,Option.some.injEq]at hy
       split at hy
       ·subst hy;cases hyd
       ·rename_i hns
        subst hy
        simp only[Bool.or_eq_true,beq_iff_eq,not_or]at hns
        rcases Nat.lt_or_ge k j with hkj|hkj
        ·rcases o3 k j z o hok hop hkj with h|h
         ·exact hc.bef o2 (j+1) j (by omega) o hop hall k h
         ·exact absurd hd ((Oper.apart_spec h).1 d hyd)
        ·rcases o3 j k o z hop hok (by omega)with h|h
         ·exact absurd h (by simpa using hns.2)
         ·exact absurd hd ((Oper.apart_spec h).2.2 d hyd)
     have hrf:∀s,findR s r=findR s (St (zek j ops).length).r:=fun s=>by
      rw[hr s,hrr,←hf.lexR s _ (Nat.le_refl _),hrr]
     obtain⟨β,hH⟩:=HoldsE.congr ⟨β,hH⟩ hrf
     have hge:∀y∈o.op.operands.toList,gev v y=gev (St (zek j ops).length).v y:=fun y hy=>ztI fun t ht=>hlook t (by subst ht;exact List.mem_append_left _ (List.mem_filterMap.2 ⟨.tmp t,hy,rfl⟩))
     have hgf:gev v f=gev (St (zek j ops).length).v f:=hge f (by rw[ho];simp[Op.operands,Call.operands])
     have hga:∀y∈args.toList,gev v y=gev (St (zek j ops).length).v y:=fun y hy=>hge y (by rw[ho];simp[Op.operands,Call.operands];simp at hy;simp[hy])
     obtain⟨s1,s2,n,as,s3,s4⟩:=g2
     refine(znJ (cx:=cx) (all:=ops) (m:=⟨none,[]⟩) (K:=fun e _=>e= .panic x) ho (zmL hg) (by rw[zbm hgf];exact s1) (by rw[zbN hga];exact s2) ⟨rfl,n,as,x,s3, ?_⟩).2 a w β hH j Q _ (by simpa using hop) fun x' g a w hg' hx=>by cases hx;exact hQ g a w hg'
     rcases s4 with s4|⟨i,mv,lent,l',s4,s5⟩
     ·exact .inl ⟨by rw[zmP hgf hga];exact s4,rfl⟩
     ·exact .inr ⟨i,mv,lent,l',by rw[zqa hgf hga];exact s4,s5,rfl⟩
    ·have hnb:¬((zdH ops).getD j 0).testBit p=true:=fun hb=>by
      have:=hc.bef o2 (j+1) j (by omega) oj hoj' hall p hb
      rw[hp]at this
      cases this
     have htj:(zek p ops)[j]? =some oj:=by
      rw[zj6,hoj']
      simp only[Option.map_some]
      rw[if_neg (by simp[hjp];simpa using hnb)]
     have hset:(listed.setIfInBounds j true).getD j false=true:=by simp[hsz,hjl]
     have hset2:∀k,k≠j→(listed.setIfInBounds j true).getD k false=listed.getD k false:=fun k hk=>getD_set_ne false (Ne.symm hk)
     have hct:Closed (zek p ops) fun i=>listed.getD i false:=fun k y hk hS e he hb=>by
      rw[zj6]at hk
      cases hok:ops[k]? with
      |none=>rw[hok]at hk;cases hk
      |some z=>
       rw[hok]at hk
       simp only[Option.map_some,Option.some.injEq]at hk
       refine hc k z hok hS e ?_ hb
       subst hk
       split at he
       ·exact he
       ·exact he
     have hgn:oj.guard=none:=by
      have:=List.all_eq_true.1 h3 oj (List.mem_of_getElem? htj)
      simp only[Bool.and_eq_true,Option.isNone_iff_eq_none]at this
      exact this.1
     refine zpN hoj' htj hgn (wpOp_mono (fun a' w' hI'=>ih (listed.setIfInBounds j true) a' w' (by simp[hsz]) ?_ ?_ ?_ hI') (hf.inv_step (S':=fun i=>(listed.setIfInBounds j true).getD i false) hI hct htj hjf hall hset hset2))
     ·have:unl ops.length (listed.setIfInBounds j true)<unl ops.length listed:=by
       unfold unl
       refine filter_lt (fun x hx hp=> ?_) ⟨j,by simp[hjl],by rw[q1];rfl,by simp[hsz,hjl]⟩
       by_cases hxj:x=j
       ·subst hxj;rw[q1];rfl
       ·rwa[getD_set_ne true (Ne.symm hxj)]at hp
      omega
     ·intro k ok hk hSk e he hb
      by_cases hkj:k=j
      ·subst hkj
       rw[hoj']at hk
       cases hk
       exact getD_set_true (hall e he hb)
      ·simp only[hset2 k hkj]at hSk
       exact getD_set_true (hc k ok hk hSk e he hb)
     ·rw[hset2 p (fun h=>hjp h.symm)];exact hp
 refine wp_region_any hm ?_
 have hz:∀i,(Array.replicate ops.length false).getD i false=false:=fun i=>by
  simp only[Array.getD_eq_getD_getElem?,Array.getElem?_replicate]
  split<;>rfl
 obtain⟨β,h⟩:=h
 have:=key ops.length (Array.replicate ops.length false) a {w with drawn:=w.drawn+1} (by simp)
  (by unfold unl;exact Nat.le_trans (List.length_filter_le _ _) (by simp)) (fun j o _ hS=>by have hS':=hz j;simp only at hS;rw[hS']at hS;cases hS) (hz p)
  ⟨g.v,g.r,⟨β,h.drew⟩,by rw[g1],fun d=>by rw[zeJ (fun k _=>hz k),g1],fun s=>by rw[zeJ (fun k _=>hz k),g1]⟩
 simpa using this
def zj7:List Bool→List Oper→List Oper
 |b::m,o::l=>(if b=true then zxH o else o)::zj7 m l
 |_,l=>l
theorem zmE {m:List Bool} {o:Oper} {l:List Oper}:zj7 (false::m) (o::l)=o::zj7 m l:=rfl
theorem zmF {m:List Bool} {d:Option Nat} {op:Op} {ty:Nat} {pos:String} {after:Array Edge} {g:Option (Nat×Bool)} {l:List Oper}:
  zj7 (true::m) (⟨d,op,ty,pos,after,g⟩::l)=⟨none, .move (.const (.bool false)),ty,pos,after,none⟩::zj7 m l:=rfl
theorem zhY {l:List Oper}:zj7 [] l=l:=by cases l<;>rfl
theorem zj8 (hT:TOK P T) (hm:P.follows .mixedOrders=true) (p:Nat) (mask:List Bool) {b id:Nat} {ops:List Oper} {z:Code} {g:G} {Q:Ex→G→Prop} {o:Oper} {f:Operand} {args:Array Operand} {ts:Array TypeId} (x:Value)
  (hQ:∀g,Q (.panic x) g) (hw:aops T P (zj7 mask ops) ⟨none,[]⟩ (zj7 mask ops) g.v g.r fun _ g'=>zxh P f args x g')
  (hop:ops[p]? =some o:=by rfl) (ho:o.op= .call ⟨.value f,args,ts⟩:=by rfl) (hg:o.guard=none:=by rfl) (h1:zlT ops:=by(refine zke ?_;kernel_rfl)) (h2:zlT (zek p ops):=by(refine zke ?_;kernel_rfl))
  (h3:((zek p ops).all fun o=>o.guard.isNone&&zhX o.op)=true:=by kernel_rfl) (hmk:zek p ops=zj7 mask ops:=by kernel_rfl):zxj P (.seq (.block b (.region id ops.toArray true)) z) g Q:=fun cx hP R hR a w hh=>by
 subst hP
 refine wp_seq (wp_block (zor hT hm hop ho hg h1 h2 h3 (fun g a w hg'=> ?_) (by rw[hmk];exact hw) hh))
 exact hR (.panic x) g a w hg' (hQ g)
theorem zuu (i:Nat) {f:Operand} {args:Array Operand} {x:Value} {v:List AV} {r:Rs} {n:FuncId} {as:List Arg} {mv:Mv} {lent:List Nat} (l':List RO) (hc:callM i v r f args=some (n,as,mv,lent)) (h:zbE P n as x)
  (hs:scM r none mv lent l') (s1:evS true v f) (s2:evsS true v args.toList):zxh P f args x ⟨v,r⟩:=⟨s1,s2,n,as,h, .inr ⟨i,mv,lent,l',hc,hs⟩⟩
def zxi (A B:Ex→G→Prop) (c:Bool):Ex→G→Prop:=match c with
 |true=>A
 |false=>B
theorem zda {A B:Ex→G→Prop} {e:Ex} {g:G}:zxi A B true e g=A e g:=rfl
theorem zaj {A B:Ex→G→Prop} {e:Ex} {g:G}:zxi A B false e g=B e g:=rfl
theorem zrU (hT:TOK P T) (hm:P.follows .mixedOrders=true) {f:FuncId} {fn:Func} {c:Code} {rvs:List ResultVar} {n:Nat} (hf:P.funcs[f]? =some fn) (hb:fn.body=some c)
  (hres:fn.results=rvs.toArray) (hn:fn.ntmps=n) (hcall:∀(us:Array Value) (w:World),(callFunc f us).run P w= .ok (.enter f us) w) {args:List Arg} {post:List RF→List (List RO)→Prop} {x:Value} {b:Bool}
  (h:awp T P c (openG n args) (zxi (zow T rvs (objPos 0 args) post) (zwe x) b)):(b=true→CallOK P f args post)∧(b=false→zbE P f args x):=
 ⟨fun hb'=>zdx hT hm hf hb hres hn hcall (by subst hb';exact h),fun hb'=>zlr hT hm hf hb hn hcall (by subst hb';exact h)⟩
def zkS {α:Type} (b:Bool) (y:α) (e:Int) (r:Except Int α):Prop:=match b with
 |true=>r= .ok y
 |false=>r= .error e
theorem zav {α:Type} {b:Bool} {y:α} {e x:Int} (h:zkS b y e (.error x)):b=false∧e=x:=by
 cases b with
 |true=>cases h
 |false=>cases h;exact⟨rfl,rfl⟩
theorem zdb {α:Type} {b:Bool} {y z:α} {e:Int} (h:zkS b y e (.ok z)):b=true∧y=z:=by
 cases b with
 |true=>cases h;exact⟨rfl,rfl⟩
 |false=>cases h
end
end Go.Pk
