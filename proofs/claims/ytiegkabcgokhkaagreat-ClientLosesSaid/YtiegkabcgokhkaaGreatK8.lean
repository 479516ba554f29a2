import Derived.Test.YtiegkabcgokhkaaGreatK7
import Derived.Laws.Externs
import Derived.Lib.Bytealg
import Derived.Recover
set_option linter.unusedVariables false
set_option linter.unusedSimpArgs false
set_option linter.unusedSectionVars false
namespace Go.Pk
set_option linter.unusedSimpArgs false
set_option linter.unusedVariables false
def epZ (Z:List Nat) (s e:Nat):Nat:=if Z.contains s=true then e else 1
mutual
def canC (Z:List Nat):C→C
 | .own h lo n=> .own ⟨h.s,h.j,epZ Z h.s h.e⟩ lo n
 | .ptr h off=> .ptr ⟨h.s,h.j,epZ Z h.s h.e⟩ off
 | .clos f caps=> .clos f (canCs Z caps)
 | .d x=> .d x
 | .lent n ds=> .lent n ds
 | .elt ds=> .elt ds
 | .ab=> .ab
 | .dead=> .dead
 | .eltR cs=> .eltR (canCs Z cs)
 | .gap _ _ _ _=> .dead
def canCs (Z:List Nat):List C→List C
 |[]=>[]
 |c::cs=>canC Z c::canCs Z cs
end
mutual
def canA (Z:List Nat):AV→AV
 | .one x=> .one (canC Z x)
 | .agg l=> .agg (canCs Z l)
 | .tup l=> .tup (canAs Z l)
 | .gd c x=> .gd c (canA Z x)
def canAs (Z:List Nat):List AV→List AV
 |[]=>[]
 |c::cs=>canA Z c::canAs Z cs
end
def canRes (Z:List Nat) (s:Nat) (res:Res):Res:=if res.var=true then {res with e:=epZ Z s res.e,cells:=canCs Z res.cells}else {res with e:=epZ Z s res.e}
def canRS (Z:List Nat) (s:Nat) (rs:RS):RS:=⟨if Z.contains s=true then rs.next else 2,rs.l.map fun x=>x.map (canRes Z s)⟩
def canR (Z:List Nat):Rs→Rs
 |[]=>[]
 |(s,rs)::l=>(s,canRS Z s rs)::canR Z l
def curH (Z:List Nat) (r:Rs) (h:Hd):Bool:=
 Z.contains h.s||match lookR r h.s h.j with
 |some res=>res.e==h.e
 |none=>true
mutual
def curC (Z:List Nat) (r:Rs):C→Bool
 | .own h _ _=>curH Z r h
 | .ptr h _=>curH Z r h
 | .clos _ caps=>curCs Z r caps
 | .d _=>true
 | .lent _ _=>true
 | .elt _=>true
 | .ab=>true
 | .dead=>true
 | .eltR cs=>curCs Z r cs
 | .gap _ _ _ _=>true
def curCs (Z:List Nat) (r:Rs):List C→Bool
 |[]=>true
 |c::cs=>curC Z r c&&curCs Z r cs
end
mutual
def curA (Z:List Nat) (r:Rs):AV→Bool
 | .one x=>curC Z r x
 | .agg l=>curCs Z r l
 | .tup l=>curAs Z r l
 | .gd _ x=>curA Z r x
def curAs (Z:List Nat) (r:Rs):List AV→Bool
 |[]=>true
 |c::cs=>curA Z r c&&curAs Z r cs
end
def curO (Z:List Nat) (r:Rs):Option Res→Bool
 |some res=> !res.var||curCs Z r res.cells
 |none=>true
def curL (Z:List Nat) (r:Rs):List (Option Res)→Bool
 |[]=>true
 |x::l=>curO Z r x&&curL Z r l
def curR (Z:List Nat) (r:Rs):Rs→Bool
 |[]=>true
 |(s,rs)::l=>curL Z r rs.l&&curR Z r l
theorem zfN {Z:List Nat}:∀{r:Rs} {s:Nat},findR s (canR Z r)=(findR s r).map (canRS Z s)
 |[],s=>rfl
 |(t,rs)::l,s=>by
  simp only[canR,findR]
  by_cases h:t=s
  ·subst h;rw[if_pos rfl,if_pos rfl];rfl
  ·rw[if_neg h,if_neg h,zfN]
theorem zef {Z:List Nat} {r:Rs} {s j:Nat}:lookR (canR Z r) s j=(lookR r s j).map (canRes Z s):=by
 unfold lookR
 rw[zfN]
 cases findR s r with
 |none=>rfl
 |some rs=>
  simp only[Option.map_some,canRS,List.getElem?_map]
  cases rs.l[j]? with
  |none=>rfl
  |some x=>cases x<;>rfl
theorem zhe {Z:List Nat} {r:Rs} {s:Nat}:nxt (canR Z r) s=if Z.contains s=true then nxt r s else(if(findR s r).isSome then 2 else 0):=by
 unfold nxt
 rw[zfN]
 cases findR s r with
 |none=>simp
 |some rs=>simp[canRS]
theorem zbE {Z:List Nat} {s:Nat} {res:Res}:(canRes Z s res).fz=res.fz:=by unfold canRes;split<;>rfl
theorem zeX {Z:List Nat} {s:Nat} {res:Res}:(canRes Z s res).var=res.var:=by unfold canRes;split<;>rfl
theorem zgn {Z:List Nat} {s:Nat} {res:Res}:(canRes Z s res).sz=res.sz:=by unfold canRes;split<;>rfl
theorem ziw {Z:List Nat} {s:Nat} {res:Res}:(canRes Z s res).bor=res.bor:=by unfold canRes;split<;>rfl
theorem zeg {Z:List Nat} {s:Nat} {res:Res}:(canRes Z s res).e=epZ Z s res.e:=by unfold canRes;split<;>rfl
theorem zgo {Z:List Nat}:∀{l:List C},(canCs Z l).length=l.length
 |[]=>rfl
 |x::l=>by simp only[canCs,List.length_cons,zgo]
theorem canRes_len {Z:List Nat} {s:Nat} {res:Res}:(canRes Z s res).cells.length=res.cells.length:=by unfold canRes;split<;>simp[zgo]
section
variable {cx:Cx} {w:World} {r:Rs} {β:Nat→Nat→Pl} {Z:List Nat}
theorem znn {b:Nat}:OB (canR Z r) β b↔OB r β b:=by
 constructor
 ·rintro⟨s,j,res,o,h1,h2,h3⟩
  rw[zef]at h1
  cases hl:lookR r s j with
  |none=>rw[hl]at h1;cases h1
  |some res0=>
   rw[hl]at h1
   simp only[Option.map_some,Option.some.injEq]at h1
   subst h1
   exact⟨s,j,res0,o,hl,by rwa[zbE]at h2,h3⟩
 ·rintro⟨s,j,res,o,h1,h2,h3⟩
  exact⟨s,j,canRes Z s res,o,by rw[zef,h1];rfl,by rw[zbE];exact h2,h3⟩
theorem zeY:Av cx (canR Z r) β=Av cx r β:=by
 funext b
 simp only[Av,znn]
theorem zi4 {h:Hd} {res':Res} (hc:curH Z r h=true) (hg:getR (canR Z r) ⟨h.s,h.j,epZ Z h.s h.e⟩=some res'):
  ∃res,getR r h=some res∧res'=canRes Z h.s res:=by
 obtain⟨h1,h2⟩:=zaj hg
 rw[zef]at h1
 simp only at h1 h2
 cases hl:lookR r h.s h.j with
 |none=>rw[hl]at h1;cases h1
 |some res=>
  rw[hl]at h1
  simp only[Option.map_some,Option.some.injEq]at h1
  subst h1
  refine⟨res,zao hl ?_,rfl⟩
  unfold curH at hc
  rw[zeg]at h2
  by_cases hz:Z.contains h.s=true
  ·simp only[epZ,if_pos hz]at h2;exact h2
  ·rw[hl]at hc
   simp only[hz,Bool.false_or,beq_iff_eq]at hc
   exact hc
theorem zi5 {h:Hd} (hlt:h.e<nxt r h.s):epZ Z h.s h.e<nxt (canR Z r) h.s:=by
 rw[zhe]
 unfold epZ
 split
 ·exact hlt
 ·have:(findR h.s r).isSome=true:=by
   unfold nxt at hlt
   cases hf:findR h.s r with
   |none=>rw[hf]at hlt;simp at hlt
   |some _=>rfl
  rw[if_pos this]
  decide
theorem zi6 {pl:Pl} {s:Nat} {res:Res} {lo n:Nat} {u:Value} (h:OwnV pl res lo n u):OwnV pl (canRes Z s res) lo n u:=
 h.same zeX zgn (Nat.le_of_eq canRes_len.symm)
mutual
theorem zi7:∀{c:C} {u:Value},curC Z r c=true→ReC cx w r β c u→ReC cx w (canR Z r) β (canC Z c) u
 | .d _,_,_,h=>by simp only[canC,ReC,zeY]at h⊢;exact h
 | .lent n ds,_,_,h=>by simp only[canC,ReC,zeY]at h⊢;exact h
 | .own hd lo n,u,hc,h=>by
  simp only[canC,ReC,curC]at h hc⊢
  obtain⟨h1,h2,h3⟩:=h
  refine⟨h1,zi5 h2,fun res' hr=> ?_⟩
  obtain⟨res,g1,rfl⟩:=zi4 hc hr
  exact zi6 (h3 res g1)
 | .ptr hd off,u,hc,h=>by
  simp only[canC,ReC,curC]at h hc⊢
  obtain⟨h1,h2,h3⟩:=h
  refine⟨h1,zi5 h2,fun res' hr=> ?_⟩
  obtain⟨res,g1,rfl⟩:=zi4 hc hr
  exact h3 res g1
 | .elt ds,_,_,h=>by simp only[canC,ReC,zeY]at h⊢;exact h
 | .clos f caps,_,hc,h=>by
  simp only[canC,ReC,curC]at h hc⊢
  obtain⟨us,h1,h2⟩:=h
  exact⟨us,h1,zdg hc h2⟩
 | .ab,_,_,h=>by simpa only[canC,ReC]using h
 | .dead,_,_,_=>by simp[canC,ReC]
 | .eltR cs,_,hc,h=>by
  simp only[canC,ReC]at h⊢
  obtain⟨b,o,us,h1,h2,h3,h4,h5⟩:=h
  exact⟨b,o,us,h1,h2,by rw[zeY];exact h3,h4,zdg hc h5⟩
 | .gap _ _ _ _,_,_,_=>by simp[canC,ReC]
theorem zdg:∀{c:List C} {u:List Value},curCs Z r c=true→ReCs cx w r β c u→ReCs cx w (canR Z r) β (canCs Z c) u
 |[],_,_,h=>by simpa[canCs,ReCs]using h
 |c::cs,_,hc,h=>by
  simp only[canCs,ReCs,curCs,Bool.and_eq_true]at h hc⊢
  obtain⟨u,us,h1,h2,h3⟩:=h
  exact⟨u,us,h1,zi7 hc.1 h2,zdg hc.2 h3⟩
end
mutual
theorem zhf:∀{c:AV} {u:Value},curA Z r c=true→ReA cx w r β c u→ReA cx w (canR Z r) β (canA Z c) u
 | .one _,_,hc,h=>by simp only[canA,ReA,curA]at h hc⊢;exact zi7 hc h
 | .agg l,_,hc,h=>by
  simp only[canA,ReA,curA]at h hc⊢
  obtain⟨us,h1,h2⟩:=h
  exact⟨us,h1,zdg hc h2⟩
 | .tup l,_,hc,h=>by
  simp only[canA,ReA,curA]at h hc⊢
  obtain⟨us,h1,h2⟩:=h
  exact⟨us,h1,zhH hc h2⟩
 | .gd c y,_,hc,h=>by
  simp only[canA,ReA,curA]at h hc⊢
  exact⟨fun he=>zhf hc (h.1 he),h.2⟩
theorem zhH:∀{c:List AV} {u:List Value},curAs Z r c=true→ReAs cx w r β c u→ReAs cx w (canR Z r) β (canAs Z c) u
 |[],_,_,h=>by simpa[canAs,ReAs]using h
 |c::cs,_,hc,h=>by
  simp only[canAs,ReAs,curAs,Bool.and_eq_true]at h hc⊢
  obtain⟨u,us,h1,h2,h3⟩:=h
  exact⟨u,us,h1,zhf hc.1 h2,zhH hc.2 h3⟩
end
theorem zhI:∀{l:List (Option Res)} {j:Nat} {res:Res},curL Z r l=true→l[j]? =some (some res)→curO Z r (some res)=true
 |[],_,_,_,h=>by simp at h
 |x::l,0,res,h,hj=>by
  simp only[List.getElem?_cons_zero,Option.some.injEq]at hj
  subst hj
  simp only[curL,Bool.and_eq_true]at h
  exact h.1
 |x::l,j+1,res,h,hj=>by
  simp only[curL,Bool.and_eq_true]at h
  exact zhI h.2 (by simpa using hj)
theorem zgp:∀{l:Rs} {s:Nat} {rs:RS},curR Z r l=true→findR s l=some rs→curL Z r rs.l=true
 |[],_,_,_,h=>by simp[findR]at h
 |(t,rs')::l,s,rs,h,hf=>by
  simp only[curR,Bool.and_eq_true]at h
  simp only[findR]at hf
  split at hf
  ·cases hf;exact h.1
  ·exact zgp h.2 hf
theorem zi8 {pl:Pl} {s:Nat} {res:Res} (hc:curO Z r (some res)=true) (h:ResOK cx w r β pl res):ResOK cx w (canR Z r) β pl (canRes Z s res):=by
 unfold ResOK at h⊢
 rw[zeX]
 by_cases hv:res.var=true
 ·rw[if_pos hv]at h⊢
  simp only[curO,hv,Bool.not_true,Bool.false_or]at hc
  obtain⟨h0,b,c,e,h1,h2,h3,h4⟩:=h
  exact⟨by rw[zbE];exact h0,b,c,e,h1,h2,by unfold canRes;rw[if_pos hv];exact zdg hc h3,h4⟩
 ·rw[if_neg hv]at h⊢
  obtain⟨ds,h1,h2,h3⟩:=h
  refine⟨ds,by unfold canRes;rw[if_neg hv];exact h1,by rw[zgn,zeY];exact h2, ?_⟩
  rw[zbE,zeY]
  exact h3
end
theorem Gh.can (Z:List Nat) {v:List AV} {r:Rs} (hv:curAs Z r v=true) (hr:curR Z r r=true):Gh ⟨v,r⟩ ⟨canAs Z v,canR Z r⟩:=fun cx a w ⟨β,hh⟩=>by
 have hlk:∀{s j:Nat} {res:Res},lookR (canR Z r) s j=some res→∃res0,lookR r s j=some res0∧res=canRes Z s res0:=fun {s j res} hl=>by
  rw[zef]at hl
  cases h0:lookR r s j with
  |none=>rw[h0]at hl;cases hl
  |some res0=>rw[h0]at hl;simp only[Option.map_some,Option.some.injEq]at hl;exact⟨res0,rfl,hl.symm⟩
 have hO:∀{s j:Nat} {res:Res},lookR r s j=some res→curO Z r (some res)=true:=fun {s j res} hl=>by
  unfold lookR at hl
  split at hl
  ·rename_i rs hf
   split at hl
   ·rename_i res' hj
    cases hl
    exact zhI (zgp hr hf) hj
   ·cases hl
  ·cases hl
 have hlen:∀(l:List AV),(canAs Z l).length=l.length:=fun l=>by induction l with
  |nil=>rfl
  |cons x l ih=>simp only[canAs,List.length_cons,ih]
 have hget:∀(l:List AV) (i:Nat) (y:AV),curAs Z r l=true→(canAs Z l)[i]? =some y→∃x,l[i]? =some x∧y=canA Z x∧curA Z r x=true:=fun l=>by
  induction l with
  |nil=>intro i y _ h;simp[canAs]at h
  |cons x l ih=>
   intro i y hc h
   simp only[curAs,Bool.and_eq_true]at hc
   cases i with
   |zero=>simp only[canAs,List.getElem?_cons_zero,Option.some.injEq]at h;exact⟨x,rfl,h.symm,hc.1⟩
   |succ i=>simpa using ih i y hc.2 (by simpa[canAs]using h)
 refine⟨β, ?_⟩
 refine {sz:=by rw[hh.sz];exact(hlen v).symm,df:=hh.df,sl:=fun i y hi=> ?_,rs:=fun s j res hl=> ?_,inj:=fun s j res s' j' res' b o o' h1 f1 h2 f2 hb1 hb2=> ?_,
          fr:=fun s j res b o hl hf hb=> ?_,n0:=hh.n0,old:=hh.old,a0:=hh.a0,bor:=hh.bor,ob:=fun p b hm=> ?_,rw:=fun p n u hm=> ?_,os:=hh.os,out:=hh.out}
 ·obtain⟨x,h1,rfl,h3⟩:=hget v i y hv hi
  obtain⟨u,g1,g2⟩:=hh.sl i x h1
  exact⟨u,g1,zhf h3 g2⟩
 ·obtain⟨res0,h0,rfl⟩:=hlk hl
  obtain⟨g1,g2⟩:=hh.rs s j res0 h0
  refine⟨zi8 (hO h0) g1, ?_⟩
  rw[zeg]
  exact zi5 (h:=⟨s,j,res0.e⟩) g2
 ·obtain⟨r1,e1,rfl⟩:=hlk h1
  obtain⟨r2,e2,rfl⟩:=hlk h2
  exact hh.inj _ _ _ _ _ _ _ _ _ e1 (by rwa[zbE]at f1) e2 (by rwa[zbE]at f2) hb1 hb2
 ·obtain⟨r1,e1,rfl⟩:=hlk hl
  rw[zbE]at hf
  rw[ziw]
  exact hh.fr _ _ _ _ _ e1 hf hb
 ·obtain⟨h1,h2⟩:=hh.ob p b hm
  refine⟨?_,fun res hg=> ?_⟩
  ·rw[zhe]
   split
   ·exact h1
   ·have:(findR p r).isSome=true:=by
     unfold nxt at h1
     cases hf:findR p r with
     |none=>rw[hf]at h1;simp at h1
     |some _=>rfl
    rw[if_pos this]
    decide
  ·obtain⟨e1,e2⟩:=zaj hg
   obtain⟨r1,e3,rfl⟩:=hlk e1
   rw[zeg]at e2
   simp only at e2
   unfold epZ at e2
   split at e2
   ·exact h2 r1 (zao e3 e2)
   ·simp at e2
 ·have:=hh.rw p n u hm
  simp only[ReC]at this⊢
  obtain⟨h1,h2,h3⟩:=this
  refine⟨h1, ?_,fun res hg=> ?_⟩
  ·rw[zhe]
   split
   ·exact h2
   ·have:(findR p r).isSome=true:=by
     unfold nxt at h2
     cases hf:findR p r with
     |none=>rw[hf]at h2;simp at h2
     |some _=>rfl
    rw[if_pos this]
    decide
  ·obtain⟨e1,e2⟩:=zaj hg
   obtain⟨r1,e3,rfl⟩:=hlk e1
   rw[zeg]at e2
   simp only at e2
   unfold epZ at e2
   split at e2
   ·exact zi6 (h3 r1 (zao e3 e2))
   ·simp at e2
def fgc (Z:List Nat) (r:Rs):List AV→List AV→Prop
 |[],[]=>True
 |x::xs,y::ys=>(y= .one .dead∨(curA Z r x=true∧canA Z x=y))∧fgc Z r xs ys
 |_,_=>False
theorem zaw {Z:List Nat} {r:Rs}:fgc Z r [] []=True:=rfl
theorem zaq {Z:List Nat} {r:Rs} {x:AV} {xs ys:List AV}:fgc Z r (x::xs) (.one .dead::ys)=fgc Z r xs ys:=by simp[fgc]
theorem zaE {Z:List Nat} {r:Rs} {x y:D} {xs ys:List AV}:fgc Z r (.one (.d x)::xs) (.one (.d y)::ys)=(x=y∧fgc Z r xs ys):=by simp[fgc,canA,canC,curA,curC]
theorem zar {Z:List Nat} {r:Rs} {n:Nat} {x:List D} {xs ys:List AV}:fgc Z r (.one (.lent n x)::xs) (.one (.lent n x)::ys)=fgc Z r xs ys:=by simp[fgc,canA,canC,curA,curC]
theorem zax {Z:List Nat} {r:Rs} {h h':Hd} {o:Nat} {xs ys:List AV}:fgc Z r (.one (.ptr h o)::xs) (.one (.ptr h' o)::ys)=((curH Z r h=true∧(⟨h.s,h.j,epZ Z h.s h.e⟩:Hd)=h')∧fgc Z r xs ys):=by simp[fgc,canA,canC,curA,curC]
theorem zay {Z:List Nat} {r:Rs} {h h':Hd} {o n m:Nat} {xs ys:List AV}:fgc Z r (.one (.own h o n)::xs) (.one (.own h' o m)::ys)=((curH Z r h=true∧(⟨h.s,h.j,epZ Z h.s h.e⟩:Hd)=h'∧n=m)∧fgc Z r xs ys):=by simp[fgc,canA,canC,curA,curC]
theorem zfO {Z:List Nat} {r:Rs} {x y:AV} {xs ys:List AV} (h1:curA Z r x=true) (h2:canA Z x=y):fgc Z r (x::xs) (y::ys)=fgc Z r xs ys:=by
 simp[fgc,h1,h2]
theorem zi9 {Z:List Nat} {r:Rs}:∀{v v':List AV},fgc Z r v v'→∃v1,fgt v v1∧curAs Z r v1=true∧canAs Z v1=v'
 |[],[],_=>⟨[],trivial,rfl,rfl⟩
 |x::xs,y::ys,h=>by
  obtain⟨h1,h2⟩:=h
  obtain⟨v1,g1,g2,g3⟩:=zi9 h2
  rcases h1 with rfl|⟨h1,rfl⟩
  ·exact⟨.one .dead::v1,⟨.inl rfl,g1⟩,by simp[curAs,curA,curC,g2],by simp[canAs,canA,canC,g3]⟩
  ·exact⟨x::v1,⟨.inr rfl,g1⟩,by simp[curAs,h1,g2],by simp[canAs,g3]⟩
 |[],_::_,h=>h.elim
 |_::_,[],h=>h.elim
theorem Gh.canon (keep adds Z:List Nat) {v v':List AV} {r r':Rs} (h:fgc Z (dropAll keep r++adds.map fun s=>(s,(⟨0,[]⟩:RS))) v v')
  (hc:curR Z (dropAll keep r++adds.map fun s=>(s,(⟨0,[]⟩:RS))) (dropAll keep r++adds.map fun s=>(s,(⟨0,[]⟩:RS)))=true)
  (hr:canR Z (dropAll keep r++adds.map fun s=>(s,(⟨0,[]⟩:RS)))=r'):Gh ⟨v,r⟩ ⟨v',r'⟩:=by
 obtain⟨v1,h1,h2,h3⟩:=zi9 h
 subst hr h3
 exact(Gh.keep keep adds h1 rfl).trans (Gh.can Z h2 hc)
end Go.Pk
namespace Go.Pk
set_option linter.unusedSimpArgs false
set_option linter.unusedVariables false
def nilFR (r:Rs) (s k sz:Nat):Rs:=
 match findR s r with
 |some rs=>(match rs.l[0]? with
  |some (some V)=>setR s ⟨rs.next+1,(rs.l.set (k+1) (some {e:=rs.next,var:=false,fz:=false,sz,cells:=[]})).set 0 (some {V with cells:=V.cells.set k (.own ⟨s,k+1,rs.next⟩ 0 0)})⟩ r
  |_=>r)
 |none=>r
def isNilC:Option C→Bool
 |some (.d (.v (.slice none 0 0)))=>true
 |_=>false
def nilFOK (r:Rs) (s k:Nat):Bool:=
 match findR s r with
 |some rs=>(match rs.l[0]?,rs.l[k+1]? with
  |some (some V),some none=>V.var&&isNilC V.cells[k]?
  |_,_=>false)
 |none=>false
end Go.Pk
namespace Go.Pk
set_option linter.unusedSimpArgs false
set_option linter.unusedVariables false
def sealFR (r:Rs) (s k:Nat) (x:C):Rs:=
 match sealC r x with
 |some (d,r')=>(match findR s r' with
  |some rs=>(match rs.l[0]? with
   |some (some V)=>setR s ⟨rs.next,rs.l.set 0 (some {V with cells:=V.cells.set k (.d d)})⟩ r'
   |_=>r)
  |none=>r)
 |none=>r
def sealFOK (r:Rs) (s k:Nat) (x:C):Prop:=
 match sealC r x with
 |some (_,r')=>(match findR s r' with
  |some rs=>(match rs.l[0]? with
   |some (some V)=>V.var=true∧V.cells[k]? =some x
   |_=>False)
  |none=>False)
 |none=>False
end Go.Pk
namespace Go.Pk
abbrev iD (n:Int):D:= .v (.int .i64 n)
abbrev uD (n:Int):D:= .v (.int .u8 n)
abbrev bD (b:Bool):D:= .v (.bool b)
abbrev sD (s:ByteArray):D:= .v (.string s)
abbrev di (n:Int):C:= .d (.v (.int .i64 n))
abbrev db (n:Bool):C:= .d (.v (.bool n))
abbrev dS (s:ByteArray):C:= .d (.v (.string s))
abbrev ai (n:Int):AV:= .one (.d (.v (.int .i64 n)))
abbrev au (n:Int):AV:= .one (.d (.v (.int .u8 n)))
abbrev ast (s:ByteArray):AV:= .one (.d (.v (.string s)))
abbrev ab (b:Bool):AV:= .one (.d (.v (.bool b)))
abbrev rb (b:Bool):RF:= .one (.d (.v (.bool b)))
abbrev ri (n:Int):RF:= .one (.d (.v (.int .i64 n)))
abbrev dd:AV:= .one .dead
abbrev anil:AV:= .one (.d (.v (.slice none 0 0)))
abbrev al (n:Nat) (ds:List D):AV:= .one (.lent n ds)
abbrev High:Int:=2305843009213693952
def i64 (n:Int):Prop:= -9223372036854775808≤n∧n<9223372036854775808
structure Req where
 client:Int
 seq:Int
 kind:Int
 session:Int
 name:ByteArray
abbrev Req.enc (r:Req):List D:=[iD r.client,iD r.seq,iD r.kind,iD r.session,sD r.name]
def Req.ok (r:Req):Prop:=i64 r.client∧i64 r.seq∧i64 r.kind∧i64 r.session∧r.name.size<2^62
structure Tip where
 view:Int
 slot:Int
 deriving DecidableEq
structure Batch where
 fill:Bool
 view:Int
 tip:Tip
 time:Int
 reqs:List Req
abbrev reqsE (l:List Req):List D:=l.flatMap Req.enc
abbrev Batch.enc (b:Batch):List D:=[bD b.fill,iD b.view,iD b.tip.view,iD b.tip.slot,iD b.time, .sl b.reqs.length (reqsE b.reqs)]
abbrev Batch.lent (b:Batch):List C:=[db b.fill,di b.view,di b.tip.view,di b.tip.slot,di b.time, .lent b.reqs.length (reqsE b.reqs)]
def Batch.ok (b:Batch):Prop:=i64 b.view∧i64 b.tip.view∧i64 b.tip.slot∧i64 b.time∧b.reqs.length<2^42∧∀r∈b.reqs,r.ok
structure Vote where
 slot:Int
 ballot:Int
 batch:Batch
abbrev Vote.enc (v:Vote):List D:=iD v.slot::iD v.ballot::v.batch.enc
def Vote.ok (v:Vote):Prop:=i64 v.slot∧i64 v.ballot∧v.batch.ok
structure Prom where
 src:Int
 done:Int
 tip:Tip
 time:Int
 votes:List Vote
abbrev votesE (l:List Vote):List D:=l.flatMap Vote.enc
abbrev Prom.enc (p:Prom):List D:=[iD p.src,iD p.done,iD p.tip.view,iD p.tip.slot,iD p.time, .sl p.votes.length (votesE p.votes)]
abbrev Prom.lent (p:Prom):List C:=[di p.src,di p.done,di p.tip.view,di p.tip.slot,di p.time, .lent p.votes.length (votesE p.votes)]
def Prom.ok (p:Prom):Prop:=i64 p.src∧i64 p.done∧i64 p.tip.view∧i64 p.tip.slot∧i64 p.time∧p.votes.length<2^42∧∀v∈p.votes,v.ok
abbrev promisesE (l:List Prom):List D:=l.flatMap Prom.enc
abbrev batchesE (l:List Batch):List D:=l.flatMap Batch.enc
end Go.Pk
namespace Go.Pk
theorem sub0 {n:Nat}:sub 0 0 n []=[]:=by simp[sub]
theorem zlK {x0:C}:sub 0 1 1 [x0]=[x0]:=rfl
theorem zlL {x0 x1:C}:sub 0 1 2 [x0,x1]=[x0,x1]:=rfl
theorem zlM {x0 x1 x2:C}:sub 0 1 3 [x0,x1,x2]=[x0,x1,x2]:=rfl
theorem zlN {x0 x1 x2 x3:C}:sub 0 1 4 [x0,x1,x2,x3]=[x0,x1,x2,x3]:=rfl
theorem zlO {x0 x1 x2 x3 x4:C}:sub 0 1 5 [x0,x1,x2,x3,x4]=[x0,x1,x2,x3,x4]:=rfl
theorem zlP {x0 x1 x2 x3 x4 x5:C}:sub 0 1 6 [x0,x1,x2,x3,x4,x5]=[x0,x1,x2,x3,x4,x5]:=rfl
theorem zlQ {x0 x1 x2 x3 x4 x5 x6:C}:sub 0 1 7 [x0,x1,x2,x3,x4,x5,x6]=[x0,x1,x2,x3,x4,x5,x6]:=rfl
theorem zlR {x0 x1 x2 x3 x4 x5 x6 x7:C}:sub 0 1 8 [x0,x1,x2,x3,x4,x5,x6,x7]=[x0,x1,x2,x3,x4,x5,x6,x7]:=rfl
theorem zbO {α β:Type} (enc:α→List β) (sz:Nat) (h:∀x,(enc x).length=sz) (l:List α):(l.flatMap enc).take (l.length*sz)=l.flatMap enc:=List.take_of_length_le (Nat.le_of_eq (zez enc sz h l))
theorem zgq {l:List Req}:(reqsE l).take (l.length*5)=reqsE l:=zbO Req.enc 5 (fun _=>rfl) l
theorem zeZ {l:List Vote}:(votesE l).take (l.length*8)=votesE l:=zbO Vote.enc 8 (fun _=>rfl) l
theorem zdh {l:List Prom}:(promisesE l).take (l.length*6)=promisesE l:=zbO Prom.enc 6 (fun _=>rfl) l
theorem zd0 {l:List Batch}:(batchesE l).take (l.length*6)=batchesE l:=zbO Batch.enc 6 (fun _=>rfl) l
section
variable {T:Nat→Option TI} {P:Program}
theorem zad {x y:Code} {g:G} {Q:Ex→G→Prop} (h:awp T P x g Q):CondR T P (.one (.d (.v (.bool true)))) True x y g Q:=⟨trivial,fun _=>h,fun h=>(by cases h)⟩
theorem zae {x y:Code} {g:G} {Q:Ex→G→Prop} (h:awp T P y g Q):CondR T P (.one (.d (.v (.bool false)))) True x y g Q:=⟨trivial,fun h=>(by cases h),fun _=>h⟩
end
theorem zlS:Go.Pk.bad.x= .one .dead:=rfl
theorem pkX:type_of% (And.intro (And.intro (And.intro (And.intro (@sub0) (And.intro (Nat.sub_zero) (@zgq))) (And.intro (@zeZ) (And.intro (@zdh) (@zd0)))) (And.intro (And.intro (Bool.true_beq) (And.intro (Bool.false_beq) (@zaC))) (And.intro (@zbw) (And.intro (Nat.zero_mul) (Nat.one_mul))))) (And.intro (And.intro (And.intro (Nat.mul_one) (And.intro (@List.drop_zero.{0}) (@List.length_map.{0,0}))) (And.intro (@zlK) (And.intro (@zlL) (@zlM)))) (And.intro (And.intro (@zlN) (And.intro (@zlO) (@zlP))) (And.intro (And.intro (@zlQ) (@zlR)) (And.intro (Int.toNat_zero) (Int.toNat_one)))))):=And.intro (And.intro (And.intro (And.intro (@sub0) (And.intro (Nat.sub_zero) (@zgq))) (And.intro (@zeZ) (And.intro (@zdh) (@zd0)))) (And.intro (And.intro (Bool.true_beq) (And.intro (Bool.false_beq) (@zaC))) (And.intro (@zbw) (And.intro (Nat.zero_mul) (Nat.one_mul))))) (And.intro (And.intro (And.intro (Nat.mul_one) (And.intro (@List.drop_zero.{0}) (@List.length_map.{0,0}))) (And.intro (@zlK) (And.intro (@zlL) (@zlM)))) (And.intro (And.intro (@zlN) (And.intro (@zlO) (@zlP))) (And.intro (And.intro (@zlQ) (@zlR)) (And.intro (Int.toNat_zero) (Int.toNat_one)))))
end Go.Pk
namespace Go.Pk
def Stop (p:Prop):Prop:=p
theorem zc3 (n:Nat) {T:Nat→Option TI} {P:Program} {ops:Array Oper} {d:Bool} {y:Code} {Q:Ex→G→Prop} {g:G} (h:Stop (SeqQ T P (.seq (.region n ops d) y) Q .normal g)):
  SeqQ T P (.seq (.region n ops d) y) Q .normal g:=h
theorem zfP {T:Nat→Option TI} {P:Program} {y:Code} {Q:Ex→G→Prop} {g g':G} (h:Gh g g') (hk:awp T P y g' Q):Stop (SeqQ T P y Q .normal g):=⟨g',h,hk⟩
def codeAt (n:Nat):Code→Option Code
 | .seq (.region m ops d) y=>if m==n then some (.seq (.region m ops d) y)else codeAt n y
 | .seq a y=>(codeAt n a).or (codeAt n y)
 | .cond _ a b=>(codeAt n a).or (codeAt n b)
 | .block _ b=>codeAt n b
 | .loop b=>codeAt n b
 | .scope b=>codeAt n b
 |_=>none
theorem ze0 {s:Sh} {ss:List Sh} {dss:List (List D)} (h:ShAll (s::ss) dss):∃d ds,dss=d::ds∧ShD s d∧ShAll ss ds:=by
 cases dss with
 |nil=>exact h.elim
 |cons d ds=>exact⟨d,ds,rfl,h.1,h.2⟩
theorem zja {dss:List (List D)} (h:ShAll [] dss):dss=[]:=by
 cases dss with
 |nil=>rfl
 |cons d ds=>exact h.elim
end Go.Pk
namespace Go.Pk
set_option linter.unusedSimpArgs false
set_option linter.unusedVariables false
set_option linter.unusedSectionVars false
section
variable {T:Nat→Option TI}
end
theorem Rd.sub {w:World} {A A':Nat→Prop} (h:∀b,A' b→A b) {d:D} {u:Value} (hd:Rd w A d u):Rd w A' d u:=
 hd.stb (⟨fun _ _ _=>rfl,fun b _ hb=>h b hb⟩:Stb w A w A')
theorem RowM.take {w:World} {A A':Nat→Prop} (h:∀b,A' b→A b) {pl:Pl} {sz:Nat} {ds xs:List D} (hm:RowM w A pl sz (ds++xs)):RowM w A' pl sz ds:=by
 unfold RowM at*
 split at hm
 ·exact⟨(List.append_eq_nil_iff.1 hm.1).1,hm.2⟩
 ·obtain⟨c,e,h1,h2,h3,h4⟩:=hm
  refine⟨c,e,h1,h2,by rw[List.length_append]at h3;omega,fun k d hk=> ?_⟩
  obtain⟨u,g1,g2⟩:=h4 k d (by rw[List.getElem?_append_left (List.getElem?_eq_some_iff.1 hk).1];exact hk)
  exact⟨u,g1,g2.sub h⟩
end Go.Pk
namespace Go.Pk
set_option linter.unusedSimpArgs false
set_option linter.unusedVariables false
def closeP1 (r:Rs) (y:AV) (ys:List AV) (post:List RF→List RO→Prop):Prop:=
 match y with
 | .one (.ptr hd 0)=>match getR r hd with
  |some res=>match roCs r res.cells,avRFs r ys with
   |some l,some rfs=>res.var=true∧ndB (ownHs r (avCellss ys++res.cells))=true∧post rfs l
   |_,_=>False
  |none=>False
 |_=>False
def closeP (T:Nat→Option TI) (rvs:List ResultVar) (post:List RF→List RO→Prop) (g:G):Prop:=
 (resAs T g.v g.r rvs).1∧match (resAs T g.v g.r rvs).2 with
  |y::ys=>closeP1 g.r y ys post
  |[]=>False
def EndP (T:Nat→Option TI) (rvs:List ResultVar) (post:List RF→List RO→Prop) (e:Ex) (g:G):Prop:=
 match e with
 | .normal=>closeP T rvs post g
 | .ret=>closeP T rvs post g
 | .exit _=>False
 | .panic _=>False
theorem zc4 {T:Nat→Option TI} {rvs:List ResultVar} {post:List RF→List RO→Prop} {g:G}:EndP T rvs post .normal g=closeP T rvs post g:=rfl
theorem zfQ {T:Nat→Option TI} {rvs:List ResultVar} {post:List RF→List RO→Prop} {g:G}:EndP T rvs post .ret g=closeP T rvs post g:=rfl
section
variable {P:Program} {cx:Cx} {T:Nat→Option TI} {v:List AV} {r:Rs} {a:Act} {w:World} {β:Nat→Nat→Pl}
theorem zmj (h:Holds cx ⟨v,r⟩ a w β) (hB:cx.Bor=fun _=>False) {ys:List AV} {us:List Value} {hd:Hd} {res:Res} {rfs:List RF} {l:List RO} (hu:ReAs cx w r β (.one (.ptr hd 0)::ys) us)
  (hg:getR r hd=some res) (hv:res.var=true) (h1:roCs r res.cells=some l) (h2:avRFs r ys=some rfs) (h3:ndB (ownHs r (avCellss ys++res.cells))=true):
  ∃b,cx.w0.heap.size≤b∧Ret cx.w0 (fun x=>cx.A0 x∨x∈blks [.blk b]) (fun _=>False) w [.blk b] (.one (.d (.v (ptrV b)))::rfs) [l] (tupV us):=by
 obtain⟨hlk,hee⟩:=zaj hg
 have hok:=(h.rs _ _ _ hlk).1
 unfold ResOK at hok
 rw[if_pos hv]at hok
 obtain⟨hf,b,arr,e,hb,_,_,_⟩:=hok
 have hn:cx.n0≤b:=by
  have:=(h.fr _ _ _ _ _ hlk hf hb).1
  rw[hB]at this
  exact this.resolve_right fun h=>h
 simp only[ReAs]at hu
 obtain⟨u0,us',rfl,g1,g2⟩:=hu
 simp only[ReA,ReC]at g1
 obtain⟨b',o',e1,e2⟩:=g1.2.2 res hg
 rw[hb]at e1
 cases e1
 simp only[Nat.zero_add]at e2
 subst e2
 refine⟨b,hn, ?_⟩
 have hcs:avCellss (.one (.d (.v (ptrV b)))::ys)++flatCs [res.cells]= .d (.v (ptrV b))::(avCellss ys++res.cells):=by simp[avCellss,avCells,flatCs]
 have:=zh3 (A1:=fun x=>cx.A0 x∨x∈blks [.blk b]) (ps:=[.h hd]) (bs:=[.blk b]) (cs:=[res.cells]) (objs:=[l]) (ys:= .one (.d (.v (ptrV b)))::ys) (rfs:= .one (.d (.v (ptrV b)))::rfs) (us:=ptrV b::us') (u:=tupV (ptrV b::us')) h
  (fun x hx=>hx.elim .inl fun hx=> .inr ⟨hd.s,hd.j,res,0,hlk,hf,by simp only[blks,List.mem_singleton]at hx;rw[hx];exact hb⟩)
  (by simp only[ReAs];exact⟨_,us',rfl,zau.2 ⟨rfl,rfl⟩,g2⟩) rfl (by simp[avRFs,avRF,roC,h2]) (by simp only[ObjCs];exact⟨⟨res,hg,hv,rfl⟩,trivial⟩) (by simp[roCss,h1])
  (by rw[hcs];simpa[ownHs,ownH]using h3) (by simp only[PosOK];exact⟨fun res' hr=>hb,trivial⟩)
  (fun s j res' b' o hl hf' hv' hbase hm=>by
   simp only[blks,List.mem_singleton]at hm
   subst hm
   obtain⟨q1,q2⟩:=h.inj _ _ _ _ _ _ _ _ _ hl hf' hlk hf hbase hb
   subst q1 q2
   rw[hl]at hlk
   cases hlk
   rw[hv']at hv
   cases hv)
 rw[hB]at this
 exact this
theorem zfR (hT:TOK P T) (hm:P.follows .mixedOrders=true) {f:FuncId} {fn:Func} {c:Code} {rvs:List ResultVar} {n:Nat} (hf:P.funcs[f]? =some fn) (hb:fn.body=some c)
  (hres:fn.results=rvs.toArray) (hn:fn.ntmps=n) (hcall:∀(us:Array Value) (w:World),(callFunc f us).run P w= .ok (.enter f us) w) {args:List Arg} {rfs:List RF} {l:List RO}
  (h:awp T P c (openG n args) (EndP T rvs fun x y=>x=rfs∧y=l)):CallP P f args rfs l:=by
 refine⟨hcall,fun w A0 us hA ha=> ?_⟩
 refine calls_of_wp hf hb ?_
 have hob:argObjs args=[]:=by
  clear h
  have:∀{args:List Arg} {k:Nat} {us:List Value},ArgsOK P w A0 (fun _=>False) (fun _=>⟨none,0⟩) k args [] us→argObjs args=[]:=by
   intro args
   induction args with
   |nil=>intros;rfl
   |cons x xs ih=>
    intro k us ha
    cases x with
    |f y=>simp only[ArgsOK]at ha;obtain⟨_,us',_,_,ha⟩:=ha;exact ih ha
    |obj _=>simp only[ArgsOK]at ha;obtain⟨_,_,_,_,_,_,e,_⟩:=ha;cases e
    |row _ _ _=>simp only[ArgsOK]at ha;obtain⟨_,_,_,_,e,_⟩:=ha;cases e
    |agr _ _ _ _ _=>simp only[ArgsOK]at ha;obtain⟨_,_,_,_,_,_,e,_⟩:=ha;cases e
  exact this ha
 have h0:=zbT (n:=n) ha hA (fun b hb=>hb.elim) (by rw[hob];intro b hb;exact hb.elim) List.nodup_nil (by rw[hob];intro i j b o o' sz n ds bo sz' n' ds' bo' h1;simp at h1)
 have hend:∀g a w',HoldsE (cxO P w A0 (fun _=>False) args []) g a w'→closeP T rvs (fun x y=>x=rfs∧y=l) g→
   a.defers=[]∧∃v,(results fn a.tmps).run P w'= .ok v w'∧∃bs r objs u,(∃b,bs=[.blk b]∧r= .one (.d (.v (ptrV b)))::rfs∧objs=[l])∧Ending.returned v= .returned u∧(∀b∈blks bs,w.heap.size≤b)∧
    Ret w (fun b=>A0 b∨b∈blks bs) (fun _=>False) w' bs r objs u:=by
  rintro⟨v,r⟩ a w' ⟨β,hh⟩ ⟨g1,g2⟩
  obtain⟨vs,k1,k2⟩:=zdp (cx:=cxO P w A0 (fun _=>False) args []) hT hh g1
  refine⟨hh.df,tupV vs,zcb hres k1, ?_⟩
  simp only at g2
  split at g2
  ·rename_i y ys hys
   rw[hys]at k2
   unfold closeP1 at g2
   split at g2
   ·rename_i hd
    split at g2
    ·rename_i res hg
     split at g2
     ·rename_i l' rfs' q1 q2
      obtain⟨q3,q4,rfl,rfl⟩:=g2
      obtain⟨b,hb0,hret⟩:=zmj hh rfl k2 hg q3 q1 q2 q4
      exact⟨_,_,_,_,⟨b,rfl,rfl,rfl⟩,rfl,fun x hx=>by simp only[blks,List.mem_singleton]at hx;subst hx;exact hb0,hret⟩
     ·exact g2.elim
    ·exact g2.elim
   ·exact g2.elim
  ·exact g2.elim
 have hact:({tmps:=us.toArray++Array.replicate (fn.ntmps - us.toArray.size) undef,defers:=[]}:Act)={tmps:=us.toArray++Array.replicate (n - us.length) undef,defers:=[]}:=by rw[hn];simp
 rw[hact]
 refine zfa (cx:=cxO P w A0 (fun _=>False) args []) hT hm c (openG n args) _ _ (fun e g a w' hh hq=> ?_) h _ _ ⟨_,h0⟩
 cases e with
 |normal=>exact hend g a w' hh hq
 |ret=>exact hend g a w' hh hq
 |exit id=>exact hq.elim
 |panic x=>exact hq.elim
theorem CallP.le {f:FuncId} {as as':List Arg} {rfs:List RF} {l:List RO} (h:CallP P f as' rfs l) (hl:argsLe as as'):CallP P f as rfs l:=
 ⟨h.1,fun w A0 us h1 h3=>h.2 w A0 us h1 (zbQ hl h3).1⟩
end
end Go.Pk
namespace Go.Pk
set_option linter.unusedSimpArgs false
set_option linter.unusedVariables false
def roA (a b:RO):Prop:=
 match a,b with
 | .d x, .d y=>y=x
 | .d (.v (.slice none 0 0)), .own _ n ds _=>n=0∧ds=[]
 | .own sz n ds _, .own sz' n' ds' _=>sz'=sz∧n'=n∧ds'=ds
 |_,_=>False
def rosA:List RO→List RO→Prop
 |[],[]=>True
 |a::l,b::m=>roA a b∧rosA l m
 |_,_=>False
def roB (a b:RO):Prop:=
 b=a∨match a,b with
 | .d (.v (.slice none 0 0)), .own _ n ds _=>n=0∧ds=[]
 | .d (.v (.slice none 0 0)), .d (.sl n ds)=>n=0∧ds=[]
 | .own sz n ds _, .own sz' n' ds' bo'=>sz'=sz∧n'=n∧ds'=ds∧bo'=true
 |_,_=>False
def rosB:List RO→List RO→Prop
 |[],[]=>True
 |a::l,b::m=>roB a b∧rosB l m
 |_,_=>False
def rfB:RF→RF→Prop
 | .one a, .one b=>roB a b
 | .agg l, .agg m=>rosB l m
 |_,_=>False
def rfsB:List RF→List RF→Prop
 |[],[]=>True
 |a::l,b::m=>rfB a b∧rfsB l m
 |_,_=>False
def objsB:List (List RO)→List (List RO)→Prop
 |[],[]=>True
 |a::l,b::m=>rosB a b∧objsB l m
 |_,_=>False
theorem zdi:∀{a:List RO},rosB a a
 |[]=>trivial
 |x::a=>⟨.inl rfl,zdi⟩
theorem zhJ {a:RF}:rfB a a:=by cases a;exact .inl rfl;exact zdi
theorem zan:∀{a:List RF},rfsB a a
 |[]=>trivial
 |x::a=>⟨zhJ,zan⟩
theorem zas:∀{a:List (List RO)},objsB a a
 |[]=>trivial
 |x::a=>⟨zdi,zas⟩
theorem zb7:∀{a b c d:List RO},rosB a b→rosB c d→rosB (a++c) (b++d)
 |[],[],_,_,_,h=>h
 |x::a,y::b,_,_,h,h'=>⟨h.1,zb7 h.2 h'⟩
 |[],_::_,_,_,h,_=>h.elim
 |_::_,[],_,_,h,_=>h.elim
theorem zdO:∀{a b:List RF},rfsB a b→rosB (a.flatMap RF.cells) (b.flatMap RF.cells)
 |[],[],_=>trivial
 |x::a,y::b,h=>by
  simp only[List.flatMap_cons]
  refine zb7 ?_ (zdO h.2)
  cases x with
  |one x=>cases y with
   |one y=>exact⟨h.1,trivial⟩
   |agg _=>exact h.1.elim
  |agg l=>cases y with
   |one y=>exact h.1.elim
   |agg m=>exact h.1
 |[],_::_,h=>h.elim
 |_::_,[],h=>h.elim
theorem ze1:∀{a b:List (List RO)},objsB a b→rosB a.flatten b.flatten
 |[],[],_=>trivial
 |x::a,y::b,h=>by simp only[List.flatten_cons];exact zb7 h.1 (ze1 h.2)
 |[],_::_,h=>h.elim
 |_::_,[],h=>h.elim
theorem zcF:∀{a b:List RO},rosB a b→b.length=a.length
 |[],[],_=>rfl
 |x::a,y::b,h=>by simp[zcF h.2]
 |[],_::_,h=>h.elim
 |_::_,[],h=>h.elim
theorem zhK:∀{a b:List RO} {i:Nat} {y:RO},rosB a b→b[i]? =some y→∃x,a[i]? =some x∧roB x y
 |[],[],_,_,_,h=>by simp at h
 |x::a,y::b,0,z,h,hi=>by simp only[List.getElem?_cons_zero,Option.some.injEq]at hi;subst hi;exact⟨x,rfl,h.1⟩
 |x::a,y::b,i+1,z,h,hi=>by simpa using zhK (i:=i) h.2 (by simpa using hi)
 |[],_::_,_,_,h,_=>h.elim
 |_::_,[],_,_,h,_=>h.elim
theorem zhL:∀{a b:List RO} {i:Nat} {y:RO},rosA a b→b[i]? =some y→∃x,a[i]? =some x∧roA x y
 |[],[],_,_,_,h=>by simp at h
 |x::a,y::b,0,z,h,hi=>by simp only[List.getElem?_cons_zero,Option.some.injEq]at hi;subst hi;exact⟨x,rfl,h.1⟩
 |x::a,y::b,i+1,z,h,hi=>by simpa using zhL (i:=i) h.2 (by simpa using hi)
 |[],_::_,_,_,h,_=>h.elim
 |_::_,[],_,_,h,_=>h.elim
section
variable {P:Program} {w:World} {A0 Bor:Nat→Prop} {γ:Nat→Pl} {A A':Nat→Prop} {L:List RO}
theorem znU {x:RO} {sz n:Nat} {ds:List D} {bo:Bool} (h:roB x (.own sz n ds bo)):(∃bo',x= .own sz n ds bo'∧(bo=false→bo'=false))∨∃y,x= .d y:=by
 rcases h with h|h
 ·exact .inl ⟨bo,h.symm,id⟩
 ·split at h
  ·exact .inr ⟨_,rfl⟩
  ·rename_i q;cases q
  ·rename_i sz0 n0 ds0 bo0 sz1 n1 ds1 bo1 q
   cases q
   obtain⟨rfl,rfl,rfl,rfl⟩:=h
   exact .inl ⟨bo0,rfl,fun h=>by cases h⟩
  ·exact h.elim
theorem zno (hA:∀b,A' b→A b) {a b:RO} {u:Value} {i:Nat} (hi:L[i]? =some a) (h:roB a b) (hu:ROc A w (γ i) a u):ROc A' w (γN γ L i) b u:=by
 rcases h with rfl|h
 ·exact zdl hA hi hu
 ·split at h
  ·obtain⟨rfl,rfl⟩:=h
   exact zfV hi hu
  ·obtain⟨rfl,rfl⟩:=h
   exact zhQ hu
  ·obtain⟨rfl,rfl,rfl,rfl⟩:=h
   have:=zdl (L:=L) (γ:=γ) hA hi hu
   simp only[ROc]at this⊢
   exact this
  ·exact h.elim
theorem znV {a b:RO} {u:Value} {i:Nat} (hi:L[i]? =some a) (h:roA a b) (hu:ROc A w (γ i) a u):ROc A w (γN γ L i) b u:=by
 unfold roA at h
 split at h
 ·subst h
  exact zdl (fun _ h=>h) hi hu
 ·obtain⟨rfl,rfl⟩:=h
  exact zfV hi hu
 ·obtain⟨rfl,rfl,rfl⟩:=h
  have:=zdl (L:=L) (γ:=γ) (A':=A) (fun _ h=>h) hi hu
  simp only[ROc]at this⊢
  exact this
 ·exact h.elim
theorem zhM (hA:∀b,A' b→A b):∀{a b:List RO} {k:Nat} {us:List Value},(∀i x,a[i]? =some x→L[k+i]? =some x)→rosB a b→ROcs A w γ k a us→ROcs A' w (γN γ L) k b us
 |[],[],k,us,_,_,h=>h
 |x::a,y::b,k,us,hL,hl,h=>by
  simp only[ROcs]at h⊢
  obtain⟨u,us',rfl,h1,h2⟩:=h
  refine⟨u,us',rfl,zno hA (hL 0 x rfl) hl.1 h1,zhM hA (fun i x' hi=> ?_) hl.2 h2⟩
  have:=hL (i+1) x' (by simpa using hi)
  rwa[show k+(i+1)=k+1+i by omega]at this
 |[],_::_,_,_,_,h,_=>h.elim
 |_::_,[],_,_,_,h,_=>h.elim
theorem zlT:∀{a b:List RO} {k:Nat} {us:List Value},(∀i x,a[i]? =some x→L[k+i]? =some x)→rosA a b→ROcs A w γ k a us→ROcs A w (γN γ L) k b us
 |[],[],k,us,_,_,h=>h
 |x::a,y::b,k,us,hL,hl,h=>by
  simp only[ROcs]at h⊢
  obtain⟨u,us',rfl,h1,h2⟩:=h
  refine⟨u,us',rfl,znV (hL 0 x rfl) hl.1 h1,zlT (fun i x' hi=> ?_) hl.2 h2⟩
  have:=hL (i+1) x' (by simpa using hi)
  rwa[show k+(i+1)=k+1+i by omega]at this
 |[],_::_,_,_,_,h,_=>h.elim
 |_::_,[],_,_,_,h,_=>h.elim
theorem zlU (hA:∀b,A' b→A b):∀{a b:List RF} {k:Nat} {us:List Value},(∀i x,(a.flatMap RF.cells)[i]? =some x→L[k+i]? =some x)→rfsB a b→RFvs A w γ k a us→RFvs A' w (γN γ L) k b us
 |[],[],k,us,_,_,h=>h
 |x::a,y::b,k,us,hL,hl,h=>by
  simp only[RFvs]at h⊢
  obtain⟨u,us',rfl,h1,h2⟩:=h
  have hlen:y.cells.length=x.cells.length:=by
   cases x with
   |one x=>cases y with
    |one y=>rfl
    |agg _=>exact hl.1.elim
   |agg l=>cases y with
    |one y=>exact hl.1.elim
    |agg m=>exact zcF hl.1
  refine⟨u,us',rfl, ?_, ?_⟩
  ·have hx:∀i z,x.cells[i]? =some z→L[k+i]? =some z:=fun i z hi=>hL i z (by rw[List.flatMap_cons,List.getElem?_append_left (List.getElem?_eq_some_iff.1 hi).1];exact hi)
   cases x with
   |one x=>cases y with
    |one y=>simp only[RFv]at h1⊢;exact zno hA (hx 0 x rfl) hl.1 h1
    |agg _=>exact hl.1.elim
   |agg l=>cases y with
    |one y=>exact hl.1.elim
    |agg m=>
     simp only[RFv]at h1⊢
     obtain⟨vs,e1,e2⟩:=h1
     exact⟨vs,e1,zhM hA hx hl.1 e2⟩
  ·rw[hlen]
   refine zlU hA (fun i z hi=> ?_) hl.2 h2
   have:=hL (x.cells.length+i) z (by rw[List.flatMap_cons,List.getElem?_append_right (Nat.le_add_right _ _)];simpa using hi)
   rwa[Nat.add_assoc]
 |[],_::_,_,_,_,h,_=>h.elim
 |_::_,[],_,_,_,h,_=>h.elim
theorem zfS (hA:∀b,A' b→A b):∀{ls ms:List (List RO)} {k:Nat} {bs:List Hold},(∀i x,ls.flatten[i]? =some x→L[k+i]? =some x)→objsB ls ms→ObjsAt A w γ k ls bs→ObjsAt A' w (γN γ L) k ms bs
 |[],[],k,bs,_,_,h=>by simpa[ObjsAt]using h
 |l::ls,m::ms,k,[],_,_,h=>by simp[ObjsAt]at h
 |l::ls,m::ms,k, .blk b::bs,hL,hl,h=>by
  simp only[ObjsAt]at h⊢
  obtain⟨⟨c,e,h1,h2,h3⟩,h4⟩:=h
  refine⟨⟨c,e,h1,zhM hA (fun i x hi=>hL i x (by rw[List.flatten_cons,List.getElem?_append_left (List.getElem?_eq_some_iff.1 hi).1];exact hi)) hl.1 h2,h3⟩, ?_⟩
  rw[zcF hl.1]
  refine zfS hA (fun i x hi=> ?_) hl.2 h4
  have:=hL (l.length+i) x (by rw[List.flatten_cons,List.getElem?_append_right (Nat.le_add_right _ _)];simpa using hi)
  rwa[Nat.add_assoc]
 |l::ls,m::ms,k, .val u::bs,hL,hl,h=>by
  simp only[ObjsAt]at h⊢
  obtain⟨h1,h4⟩:=h
  refine⟨?_, ?_⟩
  ·rcases h1 with rfl|h1
   ·left
    have:=zcF hl.1
    exact List.eq_nil_of_length_eq_zero (by simpa using this)
   ·right
    exact zhM hA (fun i x hi=>hL i x (by rw[List.flatten_cons,List.getElem?_append_left (List.getElem?_eq_some_iff.1 hi).1];exact hi)) hl.1 h1
  rw[zcF hl.1]
  refine zfS hA (fun i x hi=> ?_) hl.2 h4
  have:=hL (l.length+i) x (by rw[List.flatten_cons,List.getElem?_append_right (Nat.le_add_right _ _)];simpa using hi)
  rwa[Nat.add_assoc]
 |[],_::_,_,_,_,h,_=>h.elim
 |_::_,[],_,_,_,h,_=>h.elim
theorem zmk {rfs rfs':List RF} {objs objs':List (List RO)} (h:rfsB rfs rfs') (ho:objsB objs objs'):rosB (allRO rfs objs) (allRO rfs' objs'):=zb7 (zdO h) (ze1 ho)
theorem Ret.le {w':World} {bs:List Hold} {rfs rfs':List RF} {objs objs':List (List RO)} {u:Value} (h:Ret w A0 Bor w' bs rfs objs u) (hl:rfsB rfs rfs') (ho:objsB objs objs'):Ret w A0 Bor w' bs rfs' objs' u:=by
 obtain⟨⟨γ,us,m1,m2,m3,m4,m5,m6⟩,h2,h3,h4,h5⟩:=h
 have hle:=zmk hl ho
 have hown:∀{i sz n b o:Nat} {ds:List D} {bo:Bool},(allRO rfs' objs')[i]? =some (.own sz n ds bo)→(γN γ (allRO rfs objs) i).base=some (b,o)→∃bo',(allRO rfs objs)[i]? =some (.own sz n ds bo')∧(bo=false→bo'=false)∧(γ i).base=some (b,o):=fun {i sz n b o ds bo} hi hb=>by
  obtain⟨x,g1,g2⟩:=zhK hle hi
  rcases znU g2 with⟨bo',rfl,hbo⟩|⟨y,rfl⟩
  ·refine⟨bo',g1,hbo, ?_⟩
   unfold γN at hb
   rw[g1]at hb
   exact hb
  ·unfold γN at hb
   rw[g1]at hb
   cases hb
 have hNB:∀b,NB (γN γ (allRO rfs objs)) 0 (allRO rfs' objs') b→NB γ 0 (allRO rfs objs) b:=fun b hb=>by
  obtain⟨i,sz,n,ds,bo,o,g1,g2⟩:=zc1 hb
  rw[Nat.zero_add]at g2
  obtain⟨bo',g3,_,g4⟩:=hown g1 g2
  exact zcr (k:=0) g3 (by rw[Nat.zero_add];exact g4)
 have hlen:(rfs'.flatMap RF.cells).length=(rfs.flatMap RF.cells).length:=zcF (zdO hl)
 refine⟨⟨γN γ (allRO rfs objs),us,m1, ?_, ?_,fun b hb=>m4 b (hNB b hb),fun i sz n ds b o hi hb=> ?_,fun i j b o o' sz n ds bo sz' n' ds' bo' hi hj hbi hbj=> ?_⟩,h2,h3,h4,h5⟩
 ·exact zlU (fun b hb=>hb.imp id (hNB b)) (fun i x hi=>by rw[Nat.zero_add];unfold allRO;rw[List.getElem?_append_left (List.getElem?_eq_some_iff.1 hi).1];exact hi) hl m2
 ·rw[hlen]
  exact zfS (fun b hb=>hb.imp id (hNB b)) (fun i x hi=>by unfold allRO;rw[List.getElem?_append_right (Nat.le_add_right _ _)];simpa using hi) ho m3
 ·obtain⟨bo',g1,g0,g2⟩:=hown hi hb
  rw[g0 rfl]at g1
  exact m5 i sz n ds b o g1 g2
 ·obtain⟨b1,g1,_,g2⟩:=hown hi hbi
  obtain⟨b2,g3,_,g4⟩:=hown hj hbj
  exact m6 i j b o o' sz n ds b1 sz' n' ds' b2 g1 g3 g2 g4
theorem CallOK.leR {f:FuncId} {as:List Arg} {rfs':List RF} {objs':List (List RO)} (h:CallOK P f as (fun r o=>rfsB r rfs'∧objsB o objs')):CallOK P f as (fun r o=>r=rfs'∧o=objs'):=
 ⟨h.1,fun w A0 Bor γ bs us h1 h2 h3 h4 h5 h6=>(h.2 w A0 Bor γ bs us h1 h2 h3 h4 h5 h6).mono fun e w' ⟨r,o,u,⟨g1,g2⟩,g3,g4⟩=>⟨rfs',objs',u,⟨rfl,rfl⟩,g3,g4.le g1 g2⟩⟩
theorem CallP.leR {f:FuncId} {as:List Arg} {rfs rfs':List RF} {l l':List RO} (h:CallP P f as rfs l) (hr:rfsB rfs rfs') (hl:rosB l l'):CallP P f as rfs' l':=
 ⟨h.1,fun w A0 us h1 h2=>(h.2 w A0 us h1 h2).mono fun e w' ⟨bs,r,o,u,⟨b,g1,g2,g3⟩,g4,g5,g6⟩=>by
  subst g1 g2 g3
  exact⟨_,_,_,u,⟨b,rfl,rfl,rfl⟩,g4,g5,g6.le ⟨zhJ,hr⟩ ⟨hl,trivial⟩⟩⟩
theorem zhN {γ γ':Nat→Pl}:∀{as:List Arg} {k k':Nat} {bs:List Hold} {us:List Value},argObjs as=[]→(∀l,Arg.obj l ∉ as)→ArgsOK P w A0 Bor γ k as bs us→ArgsOK P w A0 Bor γ' k' as bs us
 |[],_,_,_,_,_,_,h=>h
 | .f x::as,k,k',bs,us,h0,h1,h=>by
  simp only[ArgsOK]at h⊢
  obtain⟨u,us',e1,e2,e3⟩:=h
  exact⟨u,us',e1,e2,zhN (by simpa[argObjs]using h0) (fun l hl=>h1 l (List.mem_cons_of_mem _ hl)) e3⟩
 | .obj l::as,_,_,_,_,_,h1,_=>absurd (List.mem_cons_self) (h1 l)
 | .row .. ::as,_,_,_,_,h0,_,_=>by simp[argObjs]at h0
def noObj:List Arg→Bool
 |[]=>true
 | .f _::as=>noObj as
 |_::_=>false
theorem zhO:∀{as:List Arg},noObj as=true→argObjs as=[]∧∀l,Arg.obj l ∉ as
 |[],_=>⟨rfl,fun l h=>by simp at h⟩
 | .f x::as,h=>by
  obtain⟨h1,h2⟩:=zhO (as:=as) (by simpa[noObj]using h)
  exact⟨by simpa[argObjs]using h1,fun l hl=>by
   rcases List.mem_cons.1 hl with hl|hl
   ·cases hl
   ·exact h2 l hl⟩
 | .obj _::_,h=>by simp[noObj]at h
 | .row .. ::_,h=>by simp[noObj]at h
theorem CallOK.leO {f:FuncId} {x y:List RO} {as:List Arg} {post:List RF→List (List RO)→Prop} (h:CallOK P f (.obj y::as) post) (hl:rosA x y) (hn:noObj as=true):CallOK P f (.obj x::as) post:=by
 obtain⟨hn1,hn2⟩:=zhO hn
 refine⟨h.1,fun w A0 Bor γ bs us h1 h2 h3 h4 h5 h6=> ?_⟩
 have hx:argObjs (.obj x::as)=x:=by simp[argObjs,hn1]
 have hy:argObjs (.obj y::as)=y:=by simp[argObjs,hn1]
 rw[hx]at h4 h6
 have hown:∀{i sz n b o:Nat} {ds:List D} {bo:Bool},y[i]? =some (.own sz n ds bo)→(γN γ x i).base=some (b,o)→∃sz' n' ds' bo',x[i]? =some (.own sz' n' ds' bo')∧(γ i).base=some (b,o):=fun {i sz n b o ds bo} hi hb=>by
  obtain⟨z,g1,g2⟩:=zhL hl hi
  cases z with
  |d z=>unfold γN at hb;rw[g1]at hb;cases hb
  |own sz' n' ds' bo'=>
   unfold γN at hb
   rw[g1]at hb
   exact⟨sz',n',ds',bo',g1,hb⟩
 refine h.2 w A0 Bor (γN γ x) bs us h1 h2 ?_ ?_ h5 ?_
 ·simp only[ArgsOK]at h3⊢
  obtain⟨b,bs',us',c,e,e1,e2,e3,e4,e5,e6,e7⟩:=h3
  exact⟨b,bs',us',c,e,e1,e2,e3,e4,zlT (L:=x) (fun i z hi=>by rw[Nat.zero_add];exact hi) hl e5,e6,zhN hn1 hn2 e7⟩
 ·rw[hy]
  intro b hb
  obtain⟨i,sz,n,ds,bo,o,g1,g2⟩:=zc1 hb
  rw[Nat.zero_add]at g2
  obtain⟨sz',n',ds',bo',g3,g4⟩:=hown g1 g2
  exact h4 b (zcr (k:=0) g3 (by rw[Nat.zero_add];exact g4))
 ·rw[hy]
  intro i j b o o' sz n ds bo sz' n' ds' bo' hi hj hbi hbj
  obtain⟨s1,n1,d1,b1,g1,g2⟩:=hown hi hbi
  obtain⟨s2,n2,d2,b2,g3,g4⟩:=hown hj hbj
  exact h6 i j b o o' s1 n1 d1 b1 s2 n2 d2 b2 g1 g3 g2 g4
theorem CallOK.leM {f:FuncId} {x y:List RO} {as as':List Arg} {post:List RF→List (List RO)→Prop} (h:CallOK P f (.obj y::as') post) (hl:rosA x y) (hn:noObj as'=true) (ha:argsLe as as'):CallOK P f (.obj x::as) post:=
 (h.leO hl hn).le ⟨rfl,ha⟩
end
section
variable {T:Nat→Option TI} {P:Program}
theorem zaG {all:List Oper} {m:M} {rest:List Oper} {dst:Option Nat} {v:List AV} {r:Rs} {K:Ex→G→Prop} {n:FuncId} {x y:List RO} {ass as':List Arg} {mv:Mv} {lent:List Nat} {rfs:List RF} {l':List RO}
  {f:Operand} {args:Array Operand} {a:Option (FuncId×List Arg)} (hc:callM 0 v r f args=some (n, .obj x::ass,mv,lent)) (h:CallOK P n (.obj y::as') (fun r o=>r=rfs∧o=[l'])) (hr:rosA x y) (hn:noObj as'=true) (ha:argsLe ass as')
  (hs:scM r dst mv lent l') (hk:aops T P all (upM dst mv.s m) rest (putV v dst (bindM r dst mv rfs l').1) (bindM r dst mv rfs l').2 K):CallR T P all m rest dst v r K f args a:=
 zbl 0 hc (h.leM hr hn ha) hs hk
end
end Go.Pk
namespace Go.Pk
abbrev intsE (l:List Int):List D:=l.flatMap fun n=>[iD n]
structure Sess where
 client:Int
 num:Int
 renewed:Int
abbrev Sess.enc (x:Sess):List D:=[iD x.client,iD x.num,iD x.renewed]
abbrev sessE (l:List Sess):List D:=l.flatMap Sess.enc
structure Lk where
 name:ByteArray
 holder:Int
 token:Int
 line:List Int
abbrev Lk.enc (k:Lk):List D:=[sD k.name,iD k.holder,iD k.token, .sl k.line.length (intsE k.line)]
abbrev locksE (l:List Lk):List D:=l.flatMap Lk.enc
structure Grant where
 name:ByteArray
 token:Int
abbrev Grant.enc (g:Grant):List D:=[sD g.name,iD g.token]
abbrev grantsE (l:List Grant):List D:=l.flatMap Grant.enc
structure Reply where
 code:Int
 session:Int
 ahead:Int
 held:List Grant
abbrev Reply.enc (r:Reply):List D:=[iD r.code,iD r.session,iD r.ahead, .sl r.held.length (grantsE r.held)]
abbrev Reply.lent (r:Reply):List C:=[di r.code,di r.session,di r.ahead, .lent r.held.length (grantsE r.held)]
structure Memo where
 client:Int
 seq:Int
 reply:Reply
abbrev Memo.enc (m:Memo):List D:=iD m.client::iD m.seq::m.reply.enc
abbrev Memo.lent (m:Memo):List C:=di m.client::di m.seq::m.reply.lent
abbrev memosE (l:List Memo):List D:=l.flatMap Memo.enc
structure St where
 time:Int
 num:Int
 token:Int
 sess:List Sess
 locks:List Lk
 memos:List Memo
abbrev St.lent (s:St):List C:=[di s.time,di s.num,di s.token, .lent s.sess.length (sessE s.sess), .lent s.locks.length (locksE s.locks), .lent s.memos.length (memosE s.memos)]
abbrev St.rf (s:St):RF:= .agg [.d (iD s.time), .d (iD s.num), .d (iD s.token), .own 3 s.sess.length (sessE s.sess) false, .own 4 s.locks.length (locksE s.locks) false, .own 6 s.memos.length (memosE s.memos) false]
theorem zaP {l:List Grant} {i:Nat} (hi:i<l.length):(grantsE l).drop (i*2)=l[i].enc++(grantsE (l.drop (i+1))):=zfX _ 2 l i hi fun _=>rfl
theorem zkG {l:List Int}:(intsE l).length=l.length*1:=zez _ 1 (fun _=>rfl) l
theorem zjb {l:List Int}:(intsE l).length=l.length:=by rw[zkG,Nat.mul_one]
theorem zaD {l:List Grant}:(grantsE l).length=l.length*2:=zez _ 2 (fun _=>rfl) l
theorem zgr {l:List Int}:(intsE l).take l.length=intsE l:=List.take_of_length_le (Nat.le_of_eq zjb)
theorem zgs {l:List Sess}:(sessE l).take (l.length*3)=sessE l:=zbO Sess.enc 3 (fun _=>rfl) l
theorem ze2 {l:List Lk}:(locksE l).take (l.length*4)=locksE l:=zbO Lk.enc 4 (fun _=>rfl) l
theorem zeu {l:List Grant}:(grantsE l).take (l.length*2)=grantsE l:=zbO Grant.enc 2 (fun _=>rfl) l
theorem ze3 {l:List Memo}:(memosE l).take (l.length*6)=memosE l:=zbO Memo.enc 6 (fun _=>rfl) l
theorem zd1 {l:List Grant} {r:Grant}:grantsE (l++[r])=grantsE l++r.enc:=by simp[grantsE]
theorem pkY:type_of% (And.intro (And.intro (And.intro (pkX) (And.intro (@zgr) (@zgs))) (And.intro (@ze2) (And.intro (@zeu) (@ze3)))) (And.intro (And.intro (zlS) (And.intro (@Option.map_some.{0,0}) (@Option.map_none.{0,0}))) (And.intro (And.intro (Bool.not_true) (Bool.not_false)) (And.intro (@List.any_cons.{0}) (@List.any_nil.{0}))))):=And.intro (And.intro (And.intro (pkX) (And.intro (@zgr) (@zgs))) (And.intro (@ze2) (And.intro (@zeu) (@ze3)))) (And.intro (And.intro (zlS) (And.intro (@Option.map_some.{0,0}) (@Option.map_none.{0,0}))) (And.intro (And.intro (Bool.not_true) (Bool.not_false)) (And.intro (@List.any_cons.{0}) (@List.any_nil.{0}))))
end Go.Pk
namespace Go.Pk
set_option linter.unusedSimpArgs false
set_option linter.unusedVariables false
theorem Gh.sealV {v:List AV} {r r':Rs} (i:Nat) {x:C} {d:D} (hi:v[i]? =some (.one x)) (hs:sealC r x=some (d,r')):Gh ⟨v,r⟩ ⟨v.set i (.one (.d d)),r'⟩:=fun cx a w ⟨β,hh⟩=>by
 obtain⟨u,h1,h2⟩:=hh.sl i _ hi
 simp only[ReA]at h2
 obtain⟨β1,k1,x1,hd1⟩:=zh8 hh hs h2
 refine⟨β1,{k1 with sz:=by simpa using k1.sz,sl:=fun j y hj=> ?_}⟩
 simp only[List.getElem?_set]at hj
 by_cases hij:i=j
 ·subst hij
  rw[if_pos rfl]at hj
  split at hj
  ·cases hj
   exact⟨u,h1,by simp only[ReA,ReC];exact hd1⟩
  ·cases hj
 ·rw[if_neg hij]at hj
  exact k1.sl j y hj
theorem zhg {T:Nat→Option TI} {P:Program} {y:Code} {Q:Ex→G→Prop} {g g':G} (h:Gh g g') (hk:SeqQ T P y Q .normal g'):SeqQ T P y Q .normal g:=by
 obtain⟨g1,h1,h2⟩:=hk
 exact⟨g1,fun cx a w hh=>h1 cx a w (h cx a w hh),h2⟩
theorem zhh {p:Prop} (h:p):Stop p:=h
theorem zb8 (n:Nat) {T:Nat→Option TI} {P:Program} {ops:Array Oper} {d:Bool} {Q:Ex→G→Prop} {g:G} (h:Stop (SeqQ T P (.region n ops d) Q .normal g)):
  SeqQ T P (.region n ops d) Q .normal g:=h
end Go.Pk
namespace Go.Pk
section
variable {T:Nat→Option TI} {P:Program}
theorem zb9 (n:Nat) {ops:Array Oper} {d:Bool} {x y:Code} {Q:Ex→G→Prop} {g:G} (h:Stop (SeqQ T P (.seq (.seq (.region n ops d) x) y) Q .normal g)):
  SeqQ T P (.seq (.seq (.region n ops d) x) y) Q .normal g:=h
end
end Go.Pk
namespace Go.Pk
theorem ze4 (b:ByteArray):∀(n i:Nat) (r:List UInt8),b.size - i=n→ByteArray.toList.loop b i r=r.reverse++b.data.toList.drop i
 |0,i,r,h=>by
  have hl:b.data.toList.length=b.size:=Array.length_toList
  rw[ByteArray.toList.loop.eq_1,if_neg (by omega),List.drop_of_length_le (by omega)];simp
 |n+1,i,r,h=>by
  have hi:i<b.size:=by omega
  rw[ByteArray.toList.loop.eq_1,if_pos hi,ze4 b n (i+1) _ (by omega)]
  have hi':i<b.data.toList.length:=by
   have hl:b.data.toList.length=b.size:=Array.length_toList
   omega
  rw[List.drop_eq_getElem_cons hi']
  have:b.get! i=b.data.toList[i]:=by
   have h2:i<b.data.size:=hi
   show b.data[i]! =_
   rw[getElem!_pos b.data i h2,Array.getElem_toList]
  rw[this];simp
theorem zd2 (b:ByteArray):b.toList=b.data.toList:=by
 unfold ByteArray.toList
 rw[ze4 b b.size 0 [] (by omega)];simp
theorem Gh.nilG {v:List AV} {r:Rs} {i s sz:Nat} (hi:v[i]? =some (.one (.d (.v (.slice none 0 0))))):
  Gh ⟨v,r⟩ ⟨v.set i (.one (.gap ⟨s,1,nxt r s⟩ 0 0 0)),setR s ⟨nxt r s+1,[none,some {e:=nxt r s,var:=false,fz:=false,sz,cells:=[]}]⟩ r⟩:=fun cx a w ⟨β,hh⟩=>by
 obtain⟨β',q1,q2,q3⟩:=hh.fresh (w':=w) (d:=s) (j0:=1) (L:=[none,some {e:=nxt r s,var:=false,fz:=false,sz,cells:=[]}]) (pl0:=⟨none,0⟩) rfl
  (fun j res hj=>by
   match j with
   |0=>simp at hj
   |1=>rfl
   |j+2=>simp at hj) rfl rfl (fun b o hb=>by cases hb) (fun _ _=>rfl) (Nat.le_refl _)
  (fun β' hx hA=>zbv (ds:=[]) rfl rfl rfl (by simp[RowM]))
 obtain⟨u,g1,g2⟩:=hh.sl i _ hi
 have hu:=(zau.1 g2).1
 subst hu
 refine⟨β',{q1 with sz:=by simpa using q1.sz,sl:=fun j x hj=> ?_}⟩
 rw[List.getElem?_set]at hj
 split at hj
 ·rename_i e
  subst e
  split at hj
  ·cases hj
   refine⟨_,g1, ?_⟩
   simp only[ReA,ReC]
   refine⟨rfl,by rw[zaB,if_pos rfl];exact Nat.lt_succ_self _,Nat.le_refl _,none,rfl,fun res hr=> ?_⟩
   obtain⟨hl,_⟩:=zaj hr
   rw[zav,if_pos rfl]at hl
   simp only[List.getElem?_cons_succ,List.getElem?_cons_zero,Option.some.injEq]at hl
   subst hl
   rw[q2]
   exact⟨rfl,rfl, .inl trivial⟩
  ·cases hj
 ·exact q1.sl j x hj
end Go.Pk
namespace Go.Pk
theorem I {p q:Prop} (a:p) (b:q):p∧q:=⟨a,b⟩
theorem zI {p:Prop} (h:p:=by
 ((try with_reducible refine zid ?_);first|(with_reducible rfl)|((with_reducible first|refine zlZ ?_|refine zhX ?_|refine zjm ?_);kernel_rfl)|(intros;omega)|(intro q p;rw[q,p];rfl)|(intro q;rw[q];rfl)|(intro q;simp only[Bool.and_eq_true,decide_eq_true_eq,beq_iff_eq]at q;omega)|(intros;simp[List.range,List.range.loop];done)|(intros;simp_all[List.range,List.range.loop];done)|fail)):p:=h
theorem zJ {p:Prop} (h:p:=by
 ((try with_reducible refine zid ?_);first|(with_reducible rfl)|((with_reducible first|refine zlZ ?_|refine zhX ?_|refine zjm ?_);kernel_rfl)|(intros;omega)|(intro q p;rw[q,p];rfl)|(intro q;rw[q];rfl)|(intro q;simp only[Bool.and_eq_true,decide_eq_true_eq,beq_iff_eq]at q;omega)|(intros;simp[List.range,List.range.loop];done)|fail)):p:=h
theorem zC {p:Prop} (h:p:=by first|(with_reducible refine zjm ?_;kernel_rfl)|fail):p:=h
theorem zK {p:Prop} (h:p:=by(simp only[zaq,zaE,zar,zaw,zax,zay,List.set_cons_zero,List.set_cons_succ,and_true,true_and,Int.natCast_zero,Int.cast_ofNat_Int,D.v.injEq,Value.int.injEq];try(repeat'(first|rfl|omega|with_reducible apply And.intro)))):p:=h
theorem zM {p:Prop} (h:p:=by first|(simp[argsLe,aLe,csLe,cLe];done)|fail):p:=h
end Go.Pk
namespace Go.Pk
set_option linter.unusedSimpArgs false
set_option linter.unusedVariables false
theorem zdj {P:Program} {ops:Array Oper} {Q:Exit→Act→List Frame→World→Prop} {cs:List Frame} (hno:∀a w,¬Q .outgrown a cs w):∀(l:List Nat) (a:Act) (w:World),wpOps P ops (fun e a w=>Q e a cs w) l a w→wpOpsS P ops Q l a cs w
 |[],a,w,h=>by simpa only[wpOps,wpOpsS]using h
 |i::rest,a,w,h=>by
  simp only[wpOps,wpOpsS]at h⊢
  cases ho:ops[i]? with
  |none=>rw[ho]at h;exact zdj hno rest a w h
  |some o=>
   rw[ho]at h
   simp only at h⊢
   split
   ·rename_i hw
    rw[if_pos hw]at h
    replace h:=h.resolve_right (fun h=>by obtain⟨_,a',w',hq⟩:=h;exact hno a' w' hq)
    unfold Oper.wp at h
    split
    ·rename_i w' hr
     rw[hr]at h
     exact h.elim
    ·exact Oper.wp_mono (P:=P) (o:=o) (a:=a) (w:=w) (fun a w h=>zdj hno rest a w h) h
   ·rename_i hw
    rw[if_neg hw]at h
    exact zdj hno rest _ w h
section
variable {P:Program} {T:Nat→Option TI}
def recU:FrameMode→Option (Value×FrameMode)
 | .panicking ({v,recovered:=false,goexit:=false}::older)=>some (v, .panicking ({v,recovered:=true}::older))
 |_=>none
def plainO (l:List Value):List RO:=l.map fun x=> .d (.v x)
theorem ze5 {A:Nat→Prop} {w:World} {γ:Nat→Pl}:∀{l us:List Value} {k:Nat},ROcs A w γ k (plainO l) us→us=l
 |[],us,k,h=>by simpa[plainO,ROcs]using h
 |x::l,us,k,h=>by
  simp only[plainO,List.map_cons,ROcs,ROc,Rd]at h
  obtain⟨u,us',rfl,h1,h2⟩:=h
  rw[h1.1,ze5 (l:=l) h2]
theorem ze6 {A:Nat→Prop} {w:World} {γ:Nat→Pl}:∀{l:List Value} {k:Nat},(∀u∈l,flat u=true)→ROcs A w γ k (plainO l) l
 |[],k,h=>by simp[plainO,ROcs]
 |x::l,k,h=>by
  simp only[plainO,List.map_cons,ROcs,ROc,Rd]
  exact⟨x,l,rfl,⟨rfl,h x (by simp)⟩,ze6 fun u hu=>h u (by simp[hu])⟩
theorem zjc {l:List Value} {i sz n:Nat} {ds:List D} {bo:Bool}:(plainO l)[i]? ≠some (.own sz n ds bo):=by
 simp only[plainO,List.getElem?_map]
 cases l[i]? <;>simp
abbrev cellArgs (ls:List (List Value)):List Arg:=ls.map fun l=> .obj (plainO l)
theorem zdk:∀{ls:List (List Value)},argObjs (cellArgs ls)=plainO ls.flatten
 |[]=>rfl
 |l::ls=>by simp only[cellArgs,List.map_cons,argObjs,List.flatten_cons,plainO,List.map_append];rw[←plainO,←plainO,←zdk];rfl
theorem zev {w:World} {A0 Bor:Nat→Prop} {γ:Nat→Pl}:∀{ls:List (List Value)} {bs:List Nat} {k:Nat},ls.length=bs.length→(∀b∈bs,Bor b)→
  (∀(i:Nat) (l:List Value) (b:Nat),ls[i]? =some l→bs[i]? =some b→∃e,w.heap[b]? =some (.cells l.toArray e (0,0)))→(∀l∈ls,∀u∈l,flat u=true)→
  ArgsOK P w A0 Bor γ k (cellArgs ls) (bs.map Hold.blk) (bs.map ptrV)
 |[],[],k,_,_,_,_=>by simp[cellArgs,ArgsOK]
 |[],_::_,k,h,_,_,_=>by simp at h
 |_::_,[],k,h,_,_,_=>by simp at h
 |l::ls,b::bs,k,h,h1,h2,h3=>by
  simp only[cellArgs,List.map_cons,ArgsOK]
  obtain⟨e,he⟩:=h2 0 l b rfl rfl
  exact⟨b,_,_,_,e,rfl,rfl,h1 b (by simp),he,by simpa using ze6 (h3 l (by simp)),by simpa using h3 l (by simp),
   zev (by simpa using h) (fun b hb=>h1 b (by simp[hb])) (fun i l b hi hb=>h2 (i+1) l b (by simpa using hi) (by simpa using hb)) (fun l hl=>h3 l (by simp[hl]))⟩
theorem zml (hT:TOK P T) {fn:Func} {rvs:List ResultVar} {args:List Arg} {w:World} {A0 Bor:Nat→Prop} {γ:Nat→Pl} {bs:List Hold} {us:List Value} {post:List RF→List (List RO)→Prop} (hres:fn.results=rvs.toArray)
  (ha:ArgsOK P w A0 Bor γ 0 args bs us) {g:G} {a:Act} {w':World} (hh:HoldsE (cxO P w A0 Bor args bs) g a w') (hc:closeA T rvs (objPos 0 args) post g):
  a.defers=[]∧∃v,(results fn a.tmps).run P w'= .ok v w'∧∃rfs objs u,post rfs objs∧Ending.returned v= .returned u∧Ret w A0 Bor w' bs rfs objs u:=by
 obtain⟨v,r⟩:=g
 obtain⟨β,hh⟩:=hh
 obtain⟨g1,g2⟩:=hc
 obtain⟨vs,k1,k2⟩:=zdp (cx:=cxO P w A0 Bor args bs) hT hh g1
 refine⟨hh.df,tupV vs,zcb hres k1, ?_⟩
 unfold closeB at g2
 split at g2
 ·rename_i rfs cs q1 q2
  split at g2
  ·rename_i objs q3
   refine⟨rfs,objs,tupV vs,g2.2,rfl, ?_⟩
   have hpos:PosOK (cxO P w A0 Bor args bs) w' r β (objPos 0 args) bs:=zhW ha (fun _ _ _=>trivial) (fun q b hm res hg=>(hh.ob q b hm).2 res hg) (fun q n u hm=>hh.rw q n u hm)
   refine zh3 (cx:=cxO P w A0 Bor args bs) hh (A1:=A0) (fun b hb=> .inl hb) k2 rfl q1 (zcs q2) q3 g2.1 hpos (fun s j res b o hl hfz hv hbase hmem=> ?_)
   obtain⟨p,res',e1,e2,hbase'⟩:=zco (zcs q2) hpos hmem
   have hlk:=(zaj e1).1
   have hf':res'.fz=false:=by
    cases hq:res'.fz with
    |false=>rfl
    |true=>have:=hh.vz _ _ _ hlk hq;rw[e2]at this;cases this
   obtain⟨p1,p2⟩:=hh.inj _ _ _ _ _ _ _ _ _ hl hfz hlk hf' hbase hbase'
   subst p1 p2
   rw[hl]at hlk
   cases hlk
   rw[hv]at e2
   cases e2
  ·exact g2.elim
 ·exact g2.elim
theorem zkH {bs:List Nat}:blks (bs.map Hold.blk)=bs:=by
 induction bs with
 |nil=>rfl
 |cons b bs ih=>simp[blks,ih]
theorem zd3 {A:Nat→Prop} {w:World} {γ:Nat→Pl}:∀{ls:List (List Value)} {bs:List Nat} {k:Nat},ObjsAt A w γ k (ls.map plainO) (bs.map Hold.blk)→
  ∀(i:Nat) (l:List Value) (b:Nat),ls[i]? =some l→bs[i]? =some b→∃e,w.heap[b]? =some (.cells l.toArray e (0,0))∧∀u∈l,flat u=true
 |[],_,_,_,i,l,b,h,_=>by simp at h
 |l0::ls,[],_,h,i,l,b,_,hb=>by simp at hb
 |l0::ls,b0::bs,k,h,i,l,b,hl,hb=>by
  simp only[List.map_cons,ObjsAt]at h
  obtain⟨⟨c,e,h1,h2,h3⟩,h4⟩:=h
  cases i with
  |zero=>
   simp only[List.getElem?_cons_zero,Option.some.injEq]at hl hb
   subst hl hb
   have:=ze5 h2
   refine⟨e, ?_,fun u hu=>h3 u (by rw[this];exact hu)⟩
   rw[h1,←this]
  |succ i=>exact zd3 h4 i l b (by simpa using hl) (by simpa using hb)
theorem ze7 (hT:TOK P T) (hm:P.follows .mixedOrders=true) {fc:FuncId} {fn:Func} {j0 n t6 t7 tA tF:Nat} {ops0:List Oper} {rest:Code} {o0 o1:Oper} {tl:List Oper} {ts:Array TypeId}
  (hf:P.funcs[fc]? =some fn) (hb:fn.body=some (.seq (.region j0 ops0.toArray false) rest)) (hres:fn.results= #[]) (hn:fn.ntmps=n) (hops:ops0=o0::o1::tl)
  (h0:o0.op= .call ⟨.builtin .recover, #[],ts⟩) (h0d:o0.dst=some t6) (h0g:o0.guard=none) (h1:o1.op= .typeAssert (.tmp t6) tA tF true) (h1d:o1.dst=some t7) (h1g:o1.guard=none) (ht6:t6<n)
  {args:List Arg} {post:List RF→List (List RO)→Prop} {u u1:FrameMode} {x6 y7:Value} {V7:AV} (hrec:recU u=some (x6,u1)∨(recU u=none∧x6= .nilIface∧u1=u))
  (hta:∀w,(Instr.typeAssert x6 tA tF true).run P w= .ok y7 w) (hV:∀cx w r β,ReA cx w r β V7 y7) (hd6:(openG n args).v[t6]? =some (.one .dead))
  (h:aops T P ops0 ⟨none,[]⟩ tl ((openG n args).v.set t7 V7) (openG n args).r (SeqQ T P rest (EndQ T [] (objPos 0 args) post)))
  {A0 Bor:Nat→Prop} {γ:Nat→Pl} {bs:List Hold} {us:List Value} {w:World} (hA:∀b,A0 b→b<w.heap.size) (hB:∀b,Bor b→A0 b) (ha:ArgsOK P w A0 Bor γ 0 args bs us)
  (hnb:∀b,NB γ 0 (argObjs args) b→Bor b∧b ∉ blks bs) (hnd:(blks bs).Nodup) (hap:Apart γ (argObjs args)) (hle:us.length≤n):
  CallsD P fc us.toArray u w fun e u' w'=>u'=u1∧∃rfs objs uu,post rfs objs∧e= .returned uu∧Ret w A0 Bor w' bs rfs objs uu:=by
 refine callsD_of_wpS hf hb fun c₀ cs hu=> ?_
 have hop:=zbT (n:=n) ha hA hB hnb hnd hap
 have hact:({tmps:=us.toArray++Array.replicate (fn.ntmps - us.toArray.size) undef,defers:=[]}:Act)={tmps:=us.toArray++Array.replicate (n - us.length) undef,defers:=[]}:=by rw[hn];simp
 rw[hact]
 generalize ha0:({tmps:=us.toArray++Array.replicate (n - us.length) undef,defers:=[]}:Act)=a0 at hop
 have hsz0:a0.tmps.size=n:=by
  rw[←ha0]
  simp
  omega
 apply wpS_seq
 apply wpS_region
 have hrg:List.range ops0.toArray.size=0::1::List.range' 2 tl.length:=by
  rw[hops]
  simp only[List.size_toArray,List.length_cons,List.range_eq_range']
  rfl
 rw[hrg]
 have hi0:ops0.toArray[0]? =some o0:=by rw[hops];rfl
 have hi1:ops0.toArray[1]? =some o1:=by rw[hops];rfl
 have hr0:∀(a:Act) (w:World),(execOp a.eval o0).run P w= .ok .recover w:=fun a w=>by simp[execOp,h0,resolve,invoke,builtin]
 have hr1:∀w,(execOp (a0.put (some t6) x6).eval o1).run P w= .ok (.value y7) w:=fun w=>by
  have:(a0.put (some t6) x6).eval (.tmp t6)=x6:=by simp[Act.eval,Act.put,hsz0,ht6]
  simp[execOp,h1,this,hta]
 have hw0:∀y,Region.wanted o0 y=true:=fun y=>zbq h0g
 have hw1:∀y,Region.wanted o1 y=true:=fun y=>zbq h1g
 -- what is asked to recover
 suffices hmain:wpOpsS P ops0.toArray (Exit.thenS (rest.wpS P (bodyPostS P fn c₀ cs fun e u' w'=>u'=u1∧∃rfs objs uu,post rfs objs∧e= .returned uu∧Ret w A0 Bor w' bs rfs objs uu)) (bodyPostS P fn c₀ cs fun e u' w'=>u'=u1∧∃rfs objs uu,post rfs objs∧e= .returned uu∧Ret w A0 Bor w' bs rfs objs uu)) (List.range' 2 tl.length) ((a0.put (some t6) x6).put (some t7) y7) ({c₀ with mode:=u1}::cs) w by
  have step1:∀cs',wpOpsS P ops0.toArray (Exit.thenS (rest.wpS P (bodyPostS P fn c₀ cs fun e u' w'=>u'=u1∧∃rfs objs uu,post rfs objs∧e= .returned uu∧Ret w A0 Bor w' bs rfs objs uu)) (bodyPostS P fn c₀ cs fun e u' w'=>u'=u1∧∃rfs objs uu,post rfs objs∧e= .returned uu∧Ret w A0 Bor w' bs rfs objs uu)) (List.range' 2 tl.length) ((a0.put (some t6) x6).put (some t7) y7) cs' w→
   wpOpsS P ops0.toArray (Exit.thenS (rest.wpS P (bodyPostS P fn c₀ cs fun e u' w'=>u'=u1∧∃rfs objs uu,post rfs objs∧e= .returned uu∧Ret w A0 Bor w' bs rfs objs uu)) (bodyPostS P fn c₀ cs fun e u' w'=>u'=u1∧∃rfs objs uu,post rfs objs∧e= .returned uu∧Ret w A0 Bor w' bs rfs objs uu)) (1::List.range' 2 tl.length) (a0.put (some t6) x6) cs' w:=fun cs' hh=>by
   rw[wpOpsS]
   simp only[hi1,hw1,if_true,hr1,Oper.upon_value,h1d]
   exact hh
  rw[wpOpsS]
  simp only[hi0,hw0,if_true,hr0]
  have hrec2:(recoverD (c₀::cs)=some (x6,{c₀ with mode:=u1}::cs))∨(recoverD (c₀::cs)=none∧x6= .nilIface∧u1=u):=by
   subst hu
   rcases hrec with hrec|⟨hrec,e1,e2⟩
   ·left
    unfold recU at hrec
    unfold recoverD
    simp only
    split at hrec
    ·rename_i v older hmode
     cases hrec
     simp only[hmode]
    ·cases hrec
   ·right
    refine⟨?_,e1,e2⟩
    unfold recU at hrec
    unfold recoverD
    simp only
    split at hrec
    ·cases hrec
    ·rename_i hno
     split
     ·rename_i v older hmode
      exact absurd hmode (hno v older)
     ·rfl
  rcases hrec2 with hr|⟨hr,e1,e2⟩
  ·rw[hr,h0d]
   exact step1 _ hmain
  ·rw[hr,h0d]
   have:({c₀ with mode:=u1}:Frame)=c₀:=by rw[e2,←hu]
   rw[this]at hmain
   subst e1
   exact step1 _ hmain
 -- the rest is code like any other
 have hold:HoldsE (cxO P w A0 Bor args bs) ⟨(openG n args).v.set t7 V7,(openG n args).r⟩ ((a0.put (some t6) x6).put (some t7) y7) w:=by
  have e6:=hop.put (some t6) (x:= .one .dead) (u:=x6) (by simp[ReA,ReC])
  have hv6:(openG n args).v.set t6 (.one .dead)=(openG n args).v:=by
   apply List.ext_getElem?
   intro i
   rw[List.getElem?_set]
   split
   ·rename_i hi
    subst hi
    rw[hd6,if_pos (List.getElem?_eq_some_iff.1 hd6).1]
   ·rfl
  have ev6:(openG n args).put (some t6) (.one .dead)=openG n args:=by
   unfold G.put
   simp only
   rw[hv6]
  rw[ev6]at e6
  exact⟨_,e6.put (some t7) (hV _ _ _ _)⟩
 refine zdj (fun a w hq=> ?_) _ _ _ ?_
 ·obtain⟨_,_,_,_,_,_,hq1,_⟩:=hq
  cases hq1
 refine zdm (cx:=cxO P w A0 Bor args bs) hT (fun e g a w' hh hq=> ?_) tl 2 _ _ _ _ _ (fun j=>by rw[hops,Nat.add_comm 2 j];rfl) h hold
 have hend:∀{e:Ex} {g:G} {a:Act} {w':World},HoldsE (cxO P w A0 Bor args bs) g a w'→
   EndQ T [] (objPos 0 args) post e g→
   bodyPostS P fn c₀ cs (fun e u' w'=>u'=u1∧∃rfs objs uu,post rfs objs∧e= .returned uu∧Ret w A0 Bor w' bs rfs objs uu) (exOf e) a ({c₀ with mode:=u1}::cs) w':=fun {e g a w'} hh hq=>by
  have fin:closeA T [] (objPos 0 args) post g→a.defers=[]∧∃u',({c₀ with mode:=u1}::cs:List Frame)={c₀ with mode:=u'}::cs∧∃v,(results fn a.tmps).run P w'= .ok v w'∧
    (u'=u1∧∃rfs objs uu,post rfs objs∧Ending.returned v= .returned uu∧Ret w A0 Bor w' bs rfs objs uu):=fun hc=>by
   obtain⟨q1,v,q2,q3⟩:=zml (rvs:=[]) hT (by rw[hres]) ha hh hc
   exact⟨q1,u1,rfl,v,q2,rfl,q3⟩
  cases e with
  |normal=>exact fin hq
  |ret=>exact fin hq
  |exit id=>exact hq.elim
  |panic x=>exact hq.elim
 cases e with
 |normal=>
  obtain⟨g',hg,hk⟩:=hq
  exact wpS_of_wp (zfa (cx:=cxO P w A0 Bor args bs) hT hm rest g' _ _ (fun e g a w' hh hq=>hend hh hq) hk _ _ (hg _ _ _ hh))
 |ret=>exact hend (e:= .ret) hh hq
 |exit id=>exact hq.elim
 |panic x=>exact hq.elim
theorem zhP {w:World} {A0 Bor:Nat→Prop} {w':World} {bs:List Hold} {objs:List (List RO)} {u:Value} (h:Ret w A0 Bor w' bs [] objs u):u= .tuple #[]∧PRet w Bor w':=by
 obtain⟨⟨γ,us,m1,m2,_⟩,p1,p2,p3,p4⟩:=h
 simp only[RFvs]at m2
 subst m2
 exact⟨m1,p1,p2,p3,p4⟩
theorem zgt (hT:TOK P T) (hm:P.follows .mixedOrders=true) {fc:FuncId} {fn:Func} {j0 n t6 t7 tA tF:Nat} {ops0:List Oper} {rest:Code} {o0 o1:Oper} {tl:List Oper} {ts:Array TypeId}
  (hf:P.funcs[fc]? =some fn) (hb:fn.body=some (.seq (.region j0 ops0.toArray false) rest)) (hres:fn.results= #[]) (hn:fn.ntmps=n) (hops:ops0=o0::o1::tl)
  (h0:o0.op= .call ⟨.builtin .recover, #[],ts⟩) (h0d:o0.dst=some t6) (h0g:o0.guard=none) (h1:o1.op= .typeAssert (.tmp t6) tA tF true) (h1d:o1.dst=some t7) (h1g:o1.guard=none) (ht6:t6<n)
  {ls ls':List (List Value)} {x6 y7:Value} {V7:AV} (hta:∀w,(Instr.typeAssert x6 tA tF true).run P w= .ok y7 w) (hV:∀cx w r β,ReA cx w r β V7 y7) (hd6:(openG n (cellArgs ls)).v[t6]? =some (.one .dead))
  (h:aops T P ops0 ⟨none,[]⟩ tl ((openG n (cellArgs ls)).v.set t7 V7) (openG n (cellArgs ls)).r (SeqQ T P rest (EndQ T [] (objPos 0 (cellArgs ls)) (fun r o=>r=[]∧o=ls'.map plainO))))
  {bs:List Nat} {w:World} (hle:ls.length≤n) (hlen:ls.length=bs.length) (hnd:bs.Nodup) (hblk:∀(i:Nat) (l:List Value) (b:Nat),ls[i]? =some l→bs[i]? =some b→∃e,w.heap[b]? =some (.cells l.toArray e (0,0)))
  (hfl:∀l∈ls,∀u∈l,flat u=true):
  CallsD P fc (bs.map ptrV).toArray (.panicking [{v:=x6,recovered:=false}]) w fun e u' w'=>e= .returned (.tuple #[])∧u'= .panicking [{v:=x6,recovered:=true}]∧PRet w (fun b=>b∈bs) w'∧
   ∀(i:Nat) (l:List Value) (b:Nat),ls'[i]? =some l→bs[i]? =some b→∃e,w'.heap[b]? =some (.cells l.toArray e (0,0))∧∀u∈l,flat u=true:=by
 have ha:ArgsOK P w (fun b=>b∈bs) (fun b=>b∈bs) (fun _=>⟨none,0⟩) 0 (cellArgs ls) (bs.map Hold.blk) (bs.map ptrV):=zev hlen (fun b h=>h) hblk hfl
 have hlt:∀b∈bs,b<w.heap.size:=fun b hb'=>by
  obtain⟨i,hi,rfl⟩:=List.getElem_of_mem hb'
  obtain⟨e,he⟩:=hblk i ls[i] bs[i] (List.getElem?_eq_getElem (by omega)) (List.getElem?_eq_getElem hi)
  exact(Array.getElem?_eq_some_iff.1 he).1
 have hnone:∀(i sz m:Nat) (ds:List D) (bo:Bool),(argObjs (cellArgs ls))[i]? ≠some (.own sz m ds bo):=fun i sz m ds bo=>by rw[zdk];exact zjc
 refine(ze7 hT hm hf hb hres hn hops h0 h0d h0g h1 h1d h1g ht6 (u:= .panicking [{v:=x6,recovered:=false}]) (u1:= .panicking [{v:=x6,recovered:=true}]) (.inl rfl) hta hV hd6 h hlt (fun b h=>h) ha (fun b hN=>by
   exfalso
   obtain⟨i,sz,m,ds,bo,o,e1,_⟩:=zc1 hN
   exact hnone _ _ _ _ _ e1) (by rw[zkH];exact hnd) (fun i j b o o' sz m ds bo sz' m' ds' bo' e1=>absurd e1 (hnone _ _ _ _ _)) (by simpa[←hlen]using hle)).mono ?_
 rintro e u' w' ⟨rfl,rfs,objs,uu,⟨rfl,rfl⟩,rfl,hr⟩
 obtain⟨e1,e2⟩:=zhP hr
 refine⟨by rw[e1],rfl,e2, ?_⟩
 obtain⟨⟨γ',us',m1,m2,m3,_⟩,_⟩:=hr
 exact zd3 m3
theorem zgu {w:World} {A0 Bor:Nat→Prop} {γ:Nat→Pl} {k:Nat}:∀{us:List Value},ArgsOK P w A0 Bor γ k (us.map fun _=>Arg.f (.one .dead)) [] us
 |[]=>by simp[ArgsOK]
 |u::us=>by simp only[List.map_cons,ArgsOK];exact⟨u,us,rfl,by simp[ReA,ReC],zgu⟩
theorem zcZ {us:List Value}:argObjs (us.map fun _=>Arg.f (.one .dead))=[]:=by
 induction us with
 |nil=>rfl
 |cons u us ih=>simpa[argObjs]using ih
theorem zca (hT:TOK P T) (hm:P.follows .mixedOrders=true) {fc:FuncId} {fn:Func} {j0 n t6 t7 tA tF:Nat} {ops0:List Oper} {rest:Code} {o0 o1:Oper} {tl:List Oper} {ts:Array TypeId}
  (hf:P.funcs[fc]? =some fn) (hb:fn.body=some (.seq (.region j0 ops0.toArray false) rest)) (hres:fn.results= #[]) (hn:fn.ntmps=n) (hops:ops0=o0::o1::tl)
  (h0:o0.op= .call ⟨.builtin .recover, #[],ts⟩) (h0d:o0.dst=some t6) (h0g:o0.guard=none) (h1:o1.op= .typeAssert (.tmp t6) tA tF true) (h1d:o1.dst=some t7) (h1g:o1.guard=none) (ht6:t6<n)
  {y7:Value} {V7:AV} (hta:∀w,(Instr.typeAssert .nilIface tA tF true).run P w= .ok y7 w) (hV:∀cx w r β,ReA cx w r β V7 y7) {k:Nat} (hle:k≤n)
  (hd6:(openG n (List.replicate k (.f (.one .dead)))).v[t6]? =some (.one .dead))
  (h:aops T P ops0 ⟨none,[]⟩ tl ((openG n (List.replicate k (.f (.one .dead)))).v.set t7 V7) (openG n (List.replicate k (.f (.one .dead)))).r (SeqQ T P rest (EndQ T [] (objPos 0 (List.replicate k (.f (.one .dead)))) (fun r o=>r=[]∧o=[])))):
  IdleC P fc k:=by
 intro us w hk
 have hr:List.replicate k (Arg.f (.one .dead))=us.toList.map fun _=>Arg.f (.one .dead):=by
  rw[List.map_const']
  simp[←hk]
 rw[hr]at hd6 h
 have ha:ArgsOK P w (fun _=>False) (fun _=>False) (fun _=>⟨none,0⟩) 0 (us.toList.map fun _=>Arg.f (.one .dead)) [] us.toList:=zgu
 have:=ze7 hT hm hf hb hres hn hops h0 h0d h0g h1 h1d h1g ht6 (u:= .returning) (u1:= .returning) (.inr ⟨rfl,rfl,rfl⟩) hta hV hd6 h (w:=w) (fun b h=>h.elim) (fun b h=>h.elim) ha (by rw[zcZ];intro b hb;exact hb.elim) List.nodup_nil
  (by rw[zcZ];intro i j b o o' sz n ds bo sz' n' ds' bo' h1;simp at h1) (by simp[hk,hle])
 simp only[Array.toArray_toList]at this
 refine this.mono ?_
 rintro e u' w' ⟨rfl,rfs,objs,uu,⟨rfl,rfl⟩,rfl,hr⟩
 obtain⟨e1,e2⟩:=zhP hr
 exact⟨by rw[e1],rfl,e2⟩
theorem zew (hT:TOK P T) (hm:P.follows .mixedOrders=true) {fc:FuncId} {fn:Func} {j0 n t6 t7 tA tF:Nat} {ops0:List Oper} {rest:Code} {o0 o1:Oper} {tl:List Oper} {ts:Array TypeId}
  (hf:P.funcs[fc]? =some fn) (hb:fn.body=some (.seq (.region j0 ops0.toArray false) rest)) (hres:fn.results= #[]) (hn:fn.ntmps=n) (hops:ops0=o0::o1::tl)
  (h0:o0.op= .call ⟨.builtin .recover, #[],ts⟩) (h0d:o0.dst=some t6) (h0g:o0.guard=none) (h1:o1.op= .typeAssert (.tmp t6) tA tF true) (h1d:o1.dst=some t7) (h1g:o1.guard=none) (ht6:t6<n)
  {ks:List Nat} {sz:Nat→Nat} {nw:Value→Nat→List Value} {Px:Value→Prop} (hnd:ks.Nodup) (hle:ks.length≤n)
  (hmain:∀x,Px x→∀ls:List (List Value),ls.length=ks.length→(∀(i k:Nat) (l:List Value),ks[i]? =some k→ls[i]? =some l→l.length=sz k)→∃y7 V7,(∀w,(Instr.typeAssert x tA tF true).run P w= .ok y7 w)∧
   (∀cx w r β,ReA cx w r β V7 y7)∧(openG n (cellArgs ls)).v[t6]? =some (.one .dead)∧
   aops T P ops0 ⟨none,[]⟩ tl ((openG n (cellArgs ls)).v.set t7 V7) (openG n (cellArgs ls)).r (SeqQ T P rest (EndQ T [] (objPos 0 (cellArgs ls)) (fun r o=>r=[]∧o=(ks.map (nw x)).map plainO)))):
  CatchC P fc ks sz nw Px:=by
 intro x bl w hx hblk hinj
 let ce:Nat→List Value:=fun k=>match w.heap[bl k]? with|some (.cells c _ _)=>c.toList|_=>[]
 have hce:∀k∈ks,(∃e,w.heap[bl k]? =some (.cells (ce k).toArray e (0,0)))∧(ce k).length=sz k∧∀u∈ce k,flat u=true:=fun k hk=>by
  obtain⟨c,e,q1,q2,q3⟩:=hblk k hk
  have:ce k=c.toList:=by simp only[ce];rw[q1]
  rw[this]
  exact⟨⟨e,by simpa using q1⟩,by simpa using q2,q3⟩
 obtain⟨y7,V7,g1,g2,g3,g4⟩:=hmain x hx (ks.map ce) (by simp) (fun i k l hk hl=>by
  rw[List.getElem?_map,hk]at hl
  cases hl
  exact(hce k (List.mem_of_getElem? hk)).2.1)
 have hbs:(ks.map bl).Nodup:=by
  rw[List.nodup_iff_pairwise_ne,List.pairwise_map]
  refine hnd.imp_of_mem ?_
  intro a b ha hb' hne he
  exact hne (hinj a ha b hb' he)
 have hk2:(ks.map fun k=>ptrV (bl k))=(ks.map bl).map ptrV:=by rw[List.map_map];rfl
 rw[hk2]
 refine(zgt hT hm hf hb hres hn hops h0 h0d h0g h1 h1d h1g ht6 (ls:=ks.map ce) (ls':=ks.map (nw x)) g1 g2 g3 g4 (by simpa using hle) (by simp) hbs (fun i l b hl hb=> ?_) (fun l hl u hu=> ?_)).mono ?_
 ·rw[List.getElem?_map]at hl hb
  cases hk:ks[i]? with
  |none=>rw[hk]at hl;cases hl
  |some k=>
   rw[hk]at hl hb
   cases hl
   cases hb
   exact(hce k (List.mem_of_getElem? hk)).1
 ·obtain⟨k,hk,rfl⟩:=List.mem_map.1 hl
  exact(hce k hk).2.2 u hu
 ·rintro e u' w' ⟨rfl,rfl,p,q⟩
  refine⟨rfl,rfl,p.size,fun b hb hn=>p.old b hb fun hm=> ?_,fun k hk=> ?_,p.os,p.out⟩
  ·obtain⟨k,hk,rfl⟩:=List.mem_map.1 hm
   exact hn k hk rfl
  ·obtain⟨i,hi,rfl⟩:=List.getElem_of_mem hk
   exact q i (nw x ks[i]) (bl ks[i]) (by rw[List.getElem?_map,List.getElem?_eq_getElem hi];rfl) (by rw[List.getElem?_map,List.getElem?_eq_getElem hi];rfl)
end
end Go.Pk
namespace Go.Pk
set_option linter.unusedSimpArgs false
set_option linter.unusedVariables false
def shiftFR (r:Rs) (s k lo n:Nat):Rs:=
 match findR s r with
 |some rs=>(match rs.l[0]?,rs.l[k+1]? with
  |some (some V),some (some R)=>setR s ⟨rs.next+1,(rs.l.set (k+1) (some {R with e:=rs.next,cells:=R.cells.drop (lo*R.sz)})).set 0 (some {V with cells:=V.cells.set k (.own ⟨s,k+1,rs.next⟩ 0 n)})⟩ r
  |_,_=>r)
 |none=>r
def shiftFOK (r:Rs) (s k lo n:Nat):Prop:=
 match findR s r with
 |some rs=>(match rs.l[0]?,rs.l[k+1]? with
  |some (some V),some (some R)=>V.var=true∧R.var=false∧V.cells[k]? =some (.own ⟨s,k+1,R.e⟩ lo n)
  |_,_=>False)
 |none=>False
def shiftPl (pl:Pl) (lo sz:Nat):Pl:=⟨pl.base.map fun q=>(q.1,q.2+lo*sz),pl.cap - lo⟩
theorem Gh.shiftF {v:List AV} {r:Rs} (s k lo n:Nat) (hok:shiftFOK r s k lo n):Gh ⟨v,r⟩ ⟨v,shiftFR r s k lo n⟩:=fun cx a w ⟨β,hh⟩=>by
 unfold shiftFOK at hok
 unfold shiftFR
 cases hf:findR s r with
 |none=>rw[hf]at hok;exact hok.elim
 |some rs=>
  rw[hf]at hok
  simp only at hok⊢
  split at hok
  case h_2=>exact hok.elim
  case h_1 V R h0 hk=>
   obtain⟨hv,hrv,hcell⟩:=hok
   try simp only[h0,hk]
   have hnx:nxt r s=rs.next:=by unfold nxt;rw[hf]
   have hklt:k+1<rs.l.length:=(List.getElem?_eq_some_iff.1 hk).1
   let row:Res:={R with e:=rs.next,cells:=R.cells.drop (lo*R.sz)}
   let r1:Rs:=setR s ⟨rs.next+1,rs.l.set (k+1) (some row)⟩ r
   let β':Nat→Nat→Pl:=fun s' j'=>if s'=s∧j'=k+1 then shiftPl (β s (k+1)) lo R.sz else β s' j'
   have hβ0:β' s (k+1)=shiftPl (β s (k+1)) lo R.sz:=by simp[β']
   have hβ1:∀s' j',¬(s'=s∧j'=k+1)→β' s' j'=β s' j':=fun s' j' hn=>by simp[β',hn]
   have hlkR:lookR r s (k+1)=some R:=by unfold lookR;simp only[hf,hk]
   have hbs:∀b o,(shiftPl (β s (k+1)) lo R.sz).base=some (b,o)→∃o',(β s (k+1)).base=some (b,o'):=fun b o hb=>by
    unfold shiftPl at hb
    simp only[Option.map_eq_some_iff]at hb
    obtain⟨q,q1,q2⟩:=hb
    cases q2
    exact⟨q.2,q1⟩
   have hl:∀s' j' res,lookR r1 s' j'=some res→(s'=s∧j'=k+1∧res=row)∨(¬(s'=s∧j'=k+1)∧lookR r s' j'=some res):=fun s' j' res hl=>by
    simp only[r1]at hl
    rw[zav]at hl
    by_cases hs:s=s'
    ·subst hs
     rw[if_pos rfl]at hl
     simp only[List.getElem?_set]at hl
     by_cases hj:k+1=j'
     ·subst hj
      rw[if_pos rfl,if_pos hklt]at hl
      simp only[Option.some.injEq]at hl
      exact .inl ⟨rfl,rfl,hl.symm⟩
     ·rw[if_neg hj]at hl
      refine .inr ⟨fun h=>hj h.2.symm, ?_⟩
      unfold lookR
      rw[hf]
      exact hl
    ·rw[if_neg hs]at hl
     exact .inr ⟨fun h=>hs h.1.symm,hl⟩
   -- what the cell says
   have hlk0:lookR r s 0=some V:=by unfold lookR;simp only[hf,h0]
   have hok0:=(hh.rs _ _ _ hlk0).1
   unfold ResOK at hok0
   rw[if_pos hv]at hok0
   obtain⟨p0,b,arr,e,p1,p2,p3,p4⟩:=hok0
   obtain⟨u,hu1,hu2⟩:=zaR p3 hcell
   simp only[ReC]at hu2
   obtain⟨hfl,_,hown⟩:=hu2
   obtain⟨_,ho1,ho2,a',ho3,ho4⟩:=hown R (zao hlkR rfl)
   have hx:Ext cx w r β w r1 β':=by
    refine⟨fun t=> ?_,fun hd res' hlt hg=> ?_,⟨fun _ _ _=>rfl,fun b _ hA=> ?_⟩,fun _ _ _=>rfl,rfl,rfl⟩
    ·simp only[r1]
     rw[zaB]
     split
     ·rename_i e;subst e;rw[hnx];exact Nat.le_succ _
     ·exact Nat.le_refl _
    ·obtain⟨e1,e2⟩:=zaj hg
     rcases hl _ _ _ e1 with⟨q1,q2,q3⟩|⟨q1,q2⟩
     ·subst q3
      rw[q1,hnx]at hlt
      simp only[row]at e2
      omega
     ·exact⟨res',zao q2 e2,hβ1 _ _ q1,rfl,rfl,Nat.le_refl _⟩
    ·rcases hA with hA|⟨t,j,res,o,e1,e2,e3⟩
     ·exact .inl hA
     ·rcases hl _ _ _ e1 with⟨q1,q2,q3⟩|⟨q1,q2⟩
      ·rw[q1,q2,hβ0]at e3
       obtain⟨o',e3⟩:=hbs _ _ e3
       rw[q3]at e2
       exact .inr ⟨s,k+1,R,o',hlkR,e2,e3⟩
      ·rw[hβ1 _ _ q1]at e3
       exact .inr ⟨t,j,res,o,q2,e2,e3⟩
   have hrow:ResOK cx w r β (shiftPl (β s (k+1)) lo R.sz) row:=by
    have hR:=(hh.rs _ _ _ hlkR).1
    unfold ResOK at hR⊢
    rw[if_neg (by rw[hrv];simp)]at hR
    rw[if_neg (by show¬R.var=true;rw[hrv];simp)]
    obtain⟨ds,d1,d2,d3⟩:=hR
    refine⟨ds.drop (lo*R.sz),by simp only[row];rw[d1,List.map_drop], ?_, ?_⟩
    ·show RowM w _ (shiftPl (β s (k+1)) lo R.sz) R.sz _
     unfold RowM at d2⊢
     unfold shiftPl
     cases hb:(β s (k+1)).base with
     |none=>
      rw[hb]at d2
      simp only[Option.map_none]
      obtain⟨d4,d5⟩:=d2
      exact⟨by rw[d4];simp,by rw[d5];simp⟩
     |some q=>
      obtain⟨b1,o1⟩:=q
      rw[hb]at d2
      simp only[Option.map_some]
      obtain⟨c,ec,f1,f2,f3,f4⟩:=d2
      have hm:lo*R.sz+((β s (k+1)).cap - lo)*R.sz=(β s (k+1)).cap*R.sz:=by rw[←Nat.add_mul];congr 1;omega
      refine⟨c,ec,f1,by omega,by rw[List.length_drop];omega,fun i d hd=> ?_⟩
      rw[List.getElem?_drop]at hd
      obtain⟨u1,g1,g2⟩:=f4 _ _ hd
      exact⟨u1,by rw[←g1];congr 1;omega,g2⟩
    ·intro hz b1 o1 hb1
     obtain⟨o',hb1⟩:=hbs _ _ hb1
     exact d3 hz b1 o' hb1
   have h1:Holds cx ⟨v,r1⟩ a w β':=hh.mk' hx (fun t j res e1=>by
     rcases hl _ _ _ e1 with⟨q1,q2,q3⟩|⟨q1,q2⟩
     ·subst q1;subst q2;subst q3
      rw[hβ0]
      refine⟨hrow.ext hx (fun _ _ _=>rfl) (fun b o hb=> ?_), ?_⟩
      ·obtain⟨o',hb⟩:=hbs _ _ hb
       exact(hh.rs _ _ _ hlkR).1.lt hb
      ·simp only[r1]
       rw[zaB,if_pos rfl]
       exact Nat.lt_succ_self _
     ·obtain⟨g1,g2⟩:=hh.rs _ _ _ q2
      rw[hβ1 _ _ q1]
      exact⟨g1.ext hx (fun _ _ _=>rfl) (fun b o hb=>g1.lt hb),Nat.lt_of_lt_of_le g2 (hx.nx t)⟩)
    (fun t j res t' j' res' b o o' e1 f1 e2 f2 b1 b2=>by
     rcases hl _ _ _ e1 with⟨q1,q2,q3⟩|⟨q1,q2⟩
     ·rw[q1,q2,hβ0]at b1
      obtain⟨oo,b1⟩:=hbs _ _ b1
      rw[q3]at f1
      rcases hl _ _ _ e2 with⟨p1,p2,p3⟩|⟨p1,p2⟩
      ·exact⟨by rw[q1,p1],by rw[q2,p2]⟩
      ·rw[hβ1 _ _ p1]at b2
       have:=hh.inj _ _ _ _ _ _ _ _ _ hlkR f1 p2 f2 b1 b2
       rw[q1,q2];exact this
     ·rw[hβ1 _ _ q1]at b1
      rcases hl _ _ _ e2 with⟨p1,p2,p3⟩|⟨p1,p2⟩
      ·rw[p1,p2,hβ0]at b2
       obtain⟨oo,b2⟩:=hbs _ _ b2
       rw[p3]at f2
       have:=hh.inj _ _ _ _ _ _ _ _ _ q2 f1 hlkR f2 b1 b2
       rw[p1,p2];exact this
      ·rw[hβ1 _ _ p1]at b2
       exact hh.inj _ _ _ _ _ _ _ _ _ q2 f1 p2 f2 b1 b2)
    (fun t j res b o e1 f1 b1=>by
     rcases hl _ _ _ e1 with⟨q1,q2,q3⟩|⟨q1,q2⟩
     ·rw[q1,q2,hβ0]at b1
      obtain⟨oo,b1⟩:=hbs _ _ b1
      rw[q3]at f1⊢
      exact hh.fr s (k+1) R _ _ hlkR f1 b1
     ·rw[hβ1 _ _ q1]at b1
      exact hh.fr _ _ _ _ _ q2 f1 b1) (Nat.le_refl _)
   have hfr:findR s r1=some ⟨rs.next+1,rs.l.set (k+1) (some row)⟩:=by simp only[r1];rw[zam,if_pos rfl]
   obtain⟨β2,t1,t2,t3⟩:=h1.recell (next':=rs.next+1) (x:= .own ⟨s,k+1,rs.next⟩ 0 n) (V:=V) (k:=k) (b:=b) (cs:=arr) (e:=e) (u:=u) hfr
    (by simp only[List.getElem?_set_ne (show k+1≠0 by omega),h0]) hv (by rw[hβ1 s 0 (by omega)];exact p1) p2 (by simpa using hu1) (by
     simp only[ReC]
     refine⟨hfl, ?_,fun res hr=> ?_⟩
     ·simp only[r1]
      rw[zaB,if_pos rfl]
      exact Nat.lt_succ_self _
     ·obtain⟨e1,e2⟩:=zaj hr
      rcases hl _ _ _ e1 with⟨q1,q2,q3⟩|⟨q1,q2⟩
      ·subst q3
       rw[hβ0]
       refine⟨hrv, ?_,by show 0+n≤(β s (k+1)).cap - lo;omega,a',ho3, ?_⟩
       ·show 0*R.sz+n*R.sz≤(R.cells.drop (lo*R.sz)).length
        rw[List.length_drop];omega
       ·rcases ho4 with ho4|⟨b1,o1,g1,g2⟩
        ·exact .inl ho4
        ·refine .inr ⟨b1,o1+lo*R.sz, ?_, ?_⟩
         ·show(shiftPl (β s (k+1)) lo R.sz).base=_
          unfold shiftPl
          simp only[g1,Option.map_some]
         ·rw[g2,Nat.zero_mul,Nat.add_zero]
      ·exact absurd ⟨rfl,rfl⟩ q1) (Nat.le_refl _)
   refine⟨β2,t1.congr fun t=> ?_⟩
   simp only[r1]
   rw[zam,zam,zam]
   split
   ·rfl
   ·rfl
end Go.Pk
namespace Go.Pk
set_option linter.unusedSimpArgs false
set_option linter.unusedVariables false
section
variable {T:Nat→Option TI} {P:Program} {all:List Oper} {m:M} {rest:List Oper} {v:List AV} {r r':Rs} {K:Ex→G→Prop} {f:Operand} {args:Array Operand} {a:Option (FuncId×List Arg)}
theorem zjd (i:Nat) {h:Hd} {lo n k:Nat} {ds:List D} {d:Nat} {nf:FuncId} {ars:List Arg} {rfs:List RF} {l:List RO} (hm:m.fp=none) (hi:v[i]? =some (.one (.own h lo n)))
  (hg:Gh ⟨v,r⟩ ⟨v.set i (.one (.d (.sl k ds))),r'⟩) (h1:evS true (v.set i (.one (.d (.sl k ds)))) f) (h2:evsS true (v.set i (.one (.d (.sl k ds)))) args.toList) (hc:callA (v.set i (.one (.d (.sl k ds)))) r' f args=some (nf,ars))
  (hp:CallP P nf ars rfs l) (hk:aops T P all (upM (some d) (d+pK) m) rest (putV (v.set i (.one (.d (.sl k ds)))) (some d) (bindP r' d rfs l).1) (bindP r' d rfs l).2 K):
  CallR T P all m rest (some d) v r K f args a:=
 .inr (.inr (.inr (.inr (.inr ⟨hm,i,h,lo,n,k,ds,r',hi,hg,h1,h2, .inr (.inr ⟨d,rfl,by unfold CallPK;rw[hc];exact⟨rfs,l,hp,hk⟩⟩)⟩))))
end
end Go.Pk
