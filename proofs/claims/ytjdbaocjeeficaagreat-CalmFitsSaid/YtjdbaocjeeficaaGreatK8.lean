import Derived.Test.YtjdbaocjeeficaaGreatK7
import Derived.Laws.Externs
import Derived.Lib.Bytealg
import Derived.Recover
set_option linter.unusedVariables false
set_option linter.unusedSimpArgs false
set_option linter.unusedSectionVars false
namespace Go.Pk
def gi (Z:List Nat) (s e:Nat):Nat:=if Z.contains s=true then e else 1
mutual
def ey (Z:List Nat):C->C
 | .own h lo n=> .own ⟨h.s,h.j,gi Z h.s h.e⟩ lo n
 | .ptr h off=> .ptr ⟨h.s,h.j,gi Z h.s h.e⟩ off
 | .dF f caps=> .dF f (i1 Z caps)
 | .d x=> .d x
 | .aI n ds=> .aI n ds
 | .cZ ds=> .cZ ds
 | .ab=> .ab
 | .dead=> .dead
 | .cN cs=> .cN (i1 Z cs)
 | .cP _ _ _ _=> .dead
 | .lk h n x=> .lk ⟨h.s,h.j,gi Z h.s h.e⟩ n x
def i1 (Z:List Nat):List C->List C
 |[]=>[]
 |c::cs=>ey Z c::i1 Z cs
end
mutual
def fM (Z:List Nat):AV->AV
 | .one x=> .one (ey Z x)
 | .agg l=> .agg (i1 Z l)
 | .eW l=> .eW (fL Z l)
 | .gd c x=> .gd c (fM Z x)
def fL (Z:List Nat):List AV->List AV
 |[]=>[]
 |c::cs=>fM Z c::fL Z cs
end
def dW (Z:List Nat) (s:Nat) (res:aM):aM:=if res.var=true then {res with e:=gi Z s res.e,cells:=i1 Z res.cells}else {res with e:=gi Z s res.e}
def oR (Z:List Nat) (s:Nat) (rs:RS):RS:=⟨if Z.contains s=true then rs.next else 2,rs.l.map λ x=>x.map (dW Z s)⟩
def eU (Z:List Nat):Rs->Rs
 |[]=>[]
 |(s,rs)::l=>(s,oR Z s rs)::eU Z l
def kK (Z:List Nat) (r:Rs) (h:Hd):Bool:=
 Z.contains h.s||match aq r h.s h.j with
 |some res=>res.e==h.e
 |none=>true
mutual
def hP (Z:List Nat) (r:Rs):C->Bool
 | .own h _ _=>kK Z r h
 | .ptr h _=>kK Z r h
 | .dF _ caps=>kz Z r caps
 | .d _=>true
 | .aI _ _=>true
 | .cZ _=>true
 | .ab=>true
 | .dead=>true
 | .cN cs=>kz Z r cs
 | .cP _ _ _ _=>true
 | .lk h _ _=>kK Z r h
def kz (Z:List Nat) (r:Rs):List C->Bool
 |[]=>true
 |c::cs=>hP Z r c&&kz Z r cs
end
mutual
def fN (Z:List Nat) (r:Rs):AV->Bool
 | .one x=>hP Z r x
 | .agg l=>kz Z r l
 | .eW l=>i3 Z r l
 | .gd _ x=>fN Z r x
def i3 (Z:List Nat) (r:Rs):List AV->Bool
 |[]=>true
 |c::cs=>fN Z r c&&i3 Z r cs
end
def nf (Z:List Nat) (r:Rs):Option aM->Bool
 |some res=> !res.var||kz Z r res.cells
 |none=>true
def lU (Z:List Nat) (r:Rs):List (Option aM)->Bool
 |[]=>true
 |x::l=>nf Z r x&&lU Z r l
def m8 (Z:List Nat) (r:Rs):Rs->Bool
 |[]=>true
 |(s,rs)::l=>lU Z r rs.l&&m8 Z r l
theorem qa {Z:List Nat}:∀{r:Rs} {s:Nat},aa s (eU Z r)=(aa s r).map (oR Z s)
 |[],s=>rfl
 |(t,rs)::l,s=>by
  simp only[eU,aa];by_cases h:t=s
  .subst h;rw[ao rfl,ao rfl];rfl
  .rw[aj h,aj h,qa]
theorem nV {Z:List Nat} {r:Rs} {s j:Nat}:aq (eU Z r) s j=(aq r s j).map (dW Z s):=by
 unfold aq;rw[qa];cases aa s r with
 |none=>rfl
 |some rs=>
  simp only[fZ,oR,eK];cases rs.l[j]? with
  |none=>rfl
  |some x=>cases x<;>rfl
theorem qo {Z:List Nat} {r:Rs} {s:Nat}:af (eU Z r) s=if Z.contains s=true then af r s else(if(aa s r).isSome then 2 else 0):=by
 unfold af;rw[qa];cases aa s r with
 |none=>simp
 |some rs=>simp[oR]
theorem kf {Z:List Nat} {s:Nat} {res:aM}:(dW Z s res).fz=res.fz:=by unfold dW;split<;>rfl
theorem s7 {Z:List Nat} {s:Nat} {res:aM}:(dW Z s res).var=res.var:=by unfold dW;split<;>rfl
theorem tr {Z:List Nat} {s:Nat} {res:aM}:(dW Z s res).sz=res.sz:=by unfold dW;split<;>rfl
theorem Bk {Z:List Nat} {s:Nat} {res:aM}:(dW Z s res).cf=res.cf:=by unfold dW;split<;>rfl
theorem nX {Z:List Nat} {s:Nat} {res:aM}:(dW Z s res).e=gi Z s res.e:=by unfold dW;split<;>rfl
theorem tJ {Z:List Nat}:∀{l:List C},(i1 Z l).length=l.length
 |[]=>rfl
 |x::l=>by simp only[i1,dK,tJ]
theorem BA {Z:List Nat} {s:Nat} {res:aM}:(dW Z s res).cells.length=res.cells.length:=by unfold dW;split<;>simp[tJ]
section
variable {cx:Cx} {w:World} {r:Rs} {β:Nat->Nat->Pl} {Z:List Nat}
theorem El {b:Nat}:OB (eU Z r) β b↔OB r β b:=by
 constructor
 .rintro⟨s,j,res,o,h1,h2,h3⟩
  rw[nV]at h1;cases hl:aq r s j with
  |none=>rw[hl]at h1;cases h1
  |some res0=>
   rw[hl]at h1;simp only[fZ,aF]at h1;subst h1;exact⟨s,j,res0,o,hl,by rwa[kf]at h2,h3⟩
 .rintro⟨s,j,res,o,h1,h2,h3⟩
  exact⟨s,j,dW Z s res,o,by rw[nV,h1];rfl,by rw[kf];exact h2,h3⟩
theorem lz:Av cx (eU Z r) β=Av cx r β:=by funext b;simp only[Av,El]
theorem qm {h:Hd} {res':aM} (hc:kK Z r h=true) (hg:ax (eU Z r) ⟨h.s,h.j,gi Z h.s h.e⟩=some res'):
  ∃res,ax r h=some res/\res'=dW Z h.s res:=by
 obtain⟨h1,h2⟩:=bh hg;rw[nV]at h1;simp only at h1 h2;cases hl:aq r h.s h.j with
 |none=>rw[hl]at h1;cases h1
 |some res=>
  rw[hl]at h1;simp only[fZ,aF]at h1;subst h1;refine⟨res,dH hl ?_,rfl⟩;unfold kK at hc;rw[nX]at h2;by_cases hz:Z.contains h.s=true
  .simp only[gi,ao hz]at h2;exact h2
  .rw[hl]at hc;simp only[hz,Bool.false_or,gx]at hc;exact hc
theorem ou {h:Hd} (hlt:h.e<af r h.s):gi Z h.s h.e<af (eU Z r) h.s:=by
 rw[qo];unfold gi;split
 .exact hlt
 .have:(aa h.s r).isSome=true:=by
   unfold af at hlt;cases hf:aa h.s r with
   |none=>rw[hf]at hlt;simp at hlt
   |some _=>rfl
  rw[ao this];decide
theorem qp {pl:Pl} {s:Nat} {res:aM} {lo n:Nat} {u:Value} (h:hE pl res lo n u):hE pl (dW Z s res) lo n u:=
 h.same s7 tr (Nat.le_of_eq BA.symm)
mutual
theorem vi:∀{c:C} {u:Value},hP Z r c=true->ae cx w r β c u->ae cx w (eU Z r) β (ey Z c) u
 | .d _,_,_,h=>by simp only[ey,ae,lz]at h⊢;exact h
 | .aI n ds,_,_,h=>by simp only[ey,ae,lz]at h⊢;exact h
 | .own hd lo n,u,hc,h=>by simp only[ey,ae,hP]at h hc⊢;obtain⟨h1,h2,h3⟩:=h;refine⟨h1,ou h2,λ res' hr=> ?_⟩;obtain⟨res,g1,rfl⟩:=qm hc hr;exact qp (h3 res g1)
 | .ptr hd off,u,hc,h=>by simp only[ey,ae,hP]at h hc⊢;obtain⟨h1,h2,h3⟩:=h;refine⟨h1,ou h2,λ res' hr=> ?_⟩;obtain⟨res,g1,rfl⟩:=qm hc hr;exact h3 res g1
 | .cZ ds,_,_,h=>by simp only[ey,ae,lz]at h⊢;exact h
 | .dF f caps,_,hc,h=>by simp only[ey,ae,hP]at h hc⊢;obtain⟨us,h1,h2⟩:=h;exact⟨us,h1,mm hc h2⟩
 | .ab,_,_,h=>by simpa only[ey,ae]using h
 | .dead,_,_,_=>by simp[ey,ae]
 | .cN cs,_,hc,h=>by simp only[ey,ae]at h⊢;obtain⟨b,o,us,h1,h2,h3,h4,h5⟩:=h;exact⟨b,o,us,h1,h2,by rw[lz];exact h3,h4,mm hc h5⟩
 | .cP _ _ _ _,_,_,_=>by simp[ey,ae]
 | .lk hd n x,u,hc,h=>by simp only[ey,ae,hP]at h hc⊢;obtain⟨h1,h2,h3⟩:=h;refine⟨h1,ou h2,λ res' hr=> ?_⟩;obtain⟨res,g1,rfl⟩:=qm hc hr;exact qp (h3 res g1)
theorem mm:∀{c:List C} {u:List Value},kz Z r c=true->ar cx w r β c u->ar cx w (eU Z r) β (i1 Z c) u
 |[],_,_,h=>by simpa[i1,ar]using h
 |c::cs,_,hc,h=>by simp only[i1,ar,kz,cg]at h hc⊢;obtain⟨u,us,h1,h2,h3⟩:=h;exact⟨u,us,h1,vi hc.1 h2,mm hc.2 h3⟩
end
mutual
theorem qv:∀{c:AV} {u:Value},fN Z r c=true->ak cx w r β c u->ak cx w (eU Z r) β (fM Z c) u
 | .one _,_,hc,h=>by simp only[fM,ak,fN]at h hc⊢;exact vi hc h
 | .agg l,_,hc,h=>by simp only[fM,ak,fN]at h hc⊢;obtain⟨us,h1,h2⟩:=h;exact⟨us,h1,mm hc h2⟩
 | .eW l,_,hc,h=>by simp only[fM,ak,fN]at h hc⊢;obtain⟨us,h1,h2⟩:=h;exact⟨us,h1,uF hc h2⟩
 | .gd c y,_,hc,h=>by simp only[fM,ak,fN]at h hc⊢;exact⟨λ he=>qv hc (h.1 he),h.2⟩
theorem uF:∀{c:List AV} {u:List Value},i3 Z r c=true->aL cx w r β c u->aL cx w (eU Z r) β (fL Z c) u
 |[],_,_,h=>by simpa[fL,aL]using h
 |c::cs,_,hc,h=>by simp only[fL,aL,i3,cg]at h hc⊢;obtain⟨u,us,h1,h2,h3⟩:=h;exact⟨u,us,h1,qv hc.1 h2,uF hc.2 h3⟩
end
theorem u6:∀{l:List (Option aM)} {j:Nat} {res:aM},lU Z r l=true->l[j]? =some (some res)->nf Z r (some res)=true
 |[],_,_,_,h=>by simp at h
 |x::l,0,res,h,hj=>by simp only[bG,aF]at hj;subst hj;simp only[lU,cg]at h;exact h.1
 |x::l,j+1,res,h,hj=>by simp only[lU,cg]at h;exact u6 h.2 (by simpa using hj)
theorem tQ:∀{l:Rs} {s:Nat} {rs:RS},m8 Z r l=true->aa s l=some rs->lU Z r rs.l=true
 |[],_,_,_,h=>by simp[aa]at h
 |(t,rs')::l,s,rs,h,hf=>by
  simp only[m8,cg]at h;simp only[aa]at hf;split at hf
  .cases hf;exact h.1
  .exact tQ h.2 hf
theorem B0 {pl:Pl} {s:Nat} {res:aM} (hc:nf Z r (some res)=true) (h:bn cx w r β pl res):bn cx w (eU Z r) β pl (dW Z s res):=by
 unfold bn at h⊢;rw[s7];by_cases hv:res.var=true
 .rw[ao hv]at h⊢;simp only[nf,hv,lF,Bool.false_or]at hc;obtain⟨h0,b,c,e,h1,h2,h3,h4⟩:=h;exact⟨by rw[kf];exact h0,b,c,e,h1,h2,by unfold dW;rw[ao hv];exact mm hc h3,h4⟩
 .rw[aj hv]at h⊢;obtain⟨ds,h1,h2,h3⟩:=h;refine⟨ds,by unfold dW;rw[aj hv];exact h1,by rw[tr,lz];exact h2, ?_⟩;rw[kf,lz];exact h3
end
theorem Gh.can (Z:List Nat) {v:List AV} {r:Rs} (hv:i3 Z r v=true) (hr:m8 Z r r=true):Gh ⟨v,r⟩ ⟨fL Z v,eU Z r⟩:=λ cx a w ⟨β,hh⟩=>by
 have hlk:∀{s j:Nat} {res:aM},aq (eU Z r) s j=some res->∃res0,aq r s j=some res0/\res=dW Z s res0:=λ {s j res} hl=>by
  rw[nV]at hl;cases h0:aq r s j with
  |none=>rw[h0]at hl;cases hl
  |some res0=>rw[h0]at hl;simp only[fZ,aF]at hl;exact⟨res0,rfl,hl.symm⟩
 have hO:∀{s j:Nat} {res:aM},aq r s j=some res->nf Z r (some res)=true:=λ {s j res} hl=>by
  unfold aq at hl;split at hl
  .rename_i rs hf;split at hl
   .rename_i res' hj;cases hl;exact u6 (tQ hr hf) hj
   .cases hl
  .cases hl
 have hlen:∀(l:List AV),(fL Z l).length=l.length:=λ l=>by induction l with
  |nil=>rfl
  |cons x l ih=>simp only[fL,dK,ih]
 have hget:∀(l:List AV) (i:Nat) (y:AV),i3 Z r l=true->(fL Z l)[i]? =some y->∃x,l[i]? =some x/\y=fM Z x/\fN Z r x=true:=λ l=>by
  induction l with
  |nil=>intro i y _ h;simp[fL]at h
  |cons x l ih=>
   intro i y hc h;simp only[i3,cg]at hc;cases i with
   |zero=>simp only[fL,bG,aF]at h;exact⟨x,rfl,h.symm,hc.1⟩
   |succ i=>simpa using ih i y hc.2 (by simpa[fL]using h)
 refine⟨β, ?_⟩
 refine {sz:=by rw[hh.sz];exact(hlen v).symm,df:=hh.df,sl:=λ i y hi=> ?_,rs:=λ s j res hl=> ?_,inj:=λ s j res s' j' res' b o o' h1 f1 h2 f2 hb1 hb2=> ?_,
          fr:=λ s j res b o hl hf hb=> ?_,n0:=hh.n0,aP:=hh.aP,a0:=hh.a0,cf:=hh.cf,ob:=λ p b hm=> ?_,rw:=λ p n u hm=> ?_,os:=hh.os,out:=hh.out}
 .obtain⟨x,h1,rfl,h3⟩:=hget v i y hv hi;obtain⟨u,g1,g2⟩:=hh.sl i x h1;exact⟨u,g1,qv h3 g2⟩
 .obtain⟨res0,h0,rfl⟩:=hlk hl;obtain⟨g1,g2⟩:=hh.rs s j res0 h0;refine⟨B0 (hO h0) g1, ?_⟩;rw[nX];exact ou (h:=⟨s,j,res0.e⟩) g2
 .obtain⟨r1,e1,rfl⟩:=hlk h1;obtain⟨r2,e2,rfl⟩:=hlk h2;exact hh.inj _ _ _ _ _ _ _ _ _ e1 (by rwa[kf]at f1) e2 (by rwa[kf]at f2) hb1 hb2
 .obtain⟨r1,e1,rfl⟩:=hlk hl;rw[kf]at hf;rw[Bk];exact hh.fr _ _ _ _ _ e1 hf hb
 .obtain⟨h1,h2⟩:=hh.ob p b hm;refine⟨?_,λ res hg=> ?_⟩
  .rw[qo];split
   .exact h1
   .have:(aa p r).isSome=true:=by
     unfold af at h1;cases hf:aa p r with
     |none=>rw[hf]at h1;simp at h1
     |some _=>rfl
    rw[ao this];decide
  .obtain⟨e1,e2⟩:=bh hg;obtain⟨r1,e3,rfl⟩:=hlk e1;rw[nX]at e2;simp only at e2;unfold gi at e2;split at e2
   .exact h2 r1 (dH e3 e2)
   .simp at e2
 .have:=hh.rw p n u hm;simp only[ae]at this⊢;obtain⟨h1,h2,h3⟩:=this;refine⟨h1, ?_,λ res hg=> ?_⟩
  .rw[qo];split
   .exact h2
   .have:(aa p r).isSome=true:=by
     unfold af at h2;cases hf:aa p r with
     |none=>rw[hf]at h2;simp at h2
     |some _=>rfl
    rw[ao this];decide
  .obtain⟨e1,e2⟩:=bh hg;obtain⟨r1,e3,rfl⟩:=hlk e1;rw[nX]at e2;simp only at e2;unfold gi at e2;split at e2
   .exact qp (h3 r1 (dH e3 e2))
   .simp at e2
def dC (Z:List Nat) (r:Rs):List AV->List AV->Prop
 |[],[]=>True
 |x::xs,y::ys=>(y= .one .dead∨(fN Z r x=true/\fM Z x=y))/\dC Z r xs ys
 |_,_=>False
theorem cE {Z:List Nat} {r:Rs}:dC Z r [] []=True:=rfl
theorem cC {Z:List Nat} {r:Rs} {x:AV} {xs ys:List AV}:dC Z r (x::xs) (.one .dead::ys)=dC Z r xs ys:=by simp[dC]
theorem cG {Z:List Nat} {r:Rs} {x y:D} {xs ys:List AV}:dC Z r (.one (.d x)::xs) (.one (.d y)::ys)=(x=y/\dC Z r xs ys):=by simp[dC,fM,ey,fN,hP]
theorem cB {Z:List Nat} {r:Rs} {n:Nat} {x:List D} {xs ys:List AV}:dC Z r (.one (.aI n x)::xs) (.one (.aI n x)::ys)=dC Z r xs ys:=by simp[dC,fM,ey,fN,hP]
theorem cF {Z:List Nat} {r:Rs} {h h':Hd} {o:Nat} {xs ys:List AV}:dC Z r (.one (.ptr h o)::xs) (.one (.ptr h' o)::ys)=((kK Z r h=true/\(⟨h.s,h.j,gi Z h.s h.e⟩:Hd)=h')/\dC Z r xs ys):=by simp[dC,fM,ey,fN,hP]
theorem cD {Z:List Nat} {r:Rs} {h h':Hd} {o n m:Nat} {xs ys:List AV}:dC Z r (.one (.own h o n)::xs) (.one (.own h' o m)::ys)=((kK Z r h=true/\(⟨h.s,h.j,gi Z h.s h.e⟩:Hd)=h'/\n=m)/\dC Z r xs ys):=by simp[dC,fM,ey,fN,hP]
theorem uV {Z:List Nat} {r:Rs} {x y:AV} {xs ys:List AV} (h1:fN Z r x=true) (h2:fM Z x=y):dC Z r (x::xs) (y::ys)=dC Z r xs ys:=by simp[dC,h1,h2]
theorem vd {Z:List Nat} {r:Rs}:∀{v v':List AV},dC Z r v v'->∃v1,kT v v1/\i3 Z r v1=true/\fL Z v1=v'
 |[],[],_=>⟨[],trivial,rfl,rfl⟩
 |x::xs,y::ys,h=>by
  obtain⟨h1,h2⟩:=h;obtain⟨v1,g1,g2,g3⟩:=vd h2;rcases h1 with rfl|⟨h1,rfl⟩
  .exact⟨.one .dead::v1,⟨.inl rfl,g1⟩,by simp[i3,fN,hP,g2],by simp[fL,fM,ey,g3]⟩
  .exact⟨x::v1,⟨.inr rfl,g1⟩,by simp[i3,h1,g2],by simp[fL,g3]⟩
 |[],_::_,h=>h.elim
 |_::_,[],h=>h.elim
theorem Gh.canon (aT adds Z:List Nat) {v v':List AV} {r r':Rs} (h:dC Z (fR aT r++adds.map λ s=>(s,(⟨0,[]⟩:RS))) v v')
  (hc:m8 Z (fR aT r++adds.map λ s=>(s,(⟨0,[]⟩:RS))) (fR aT r++adds.map λ s=>(s,(⟨0,[]⟩:RS)))=true)
  (hr:eU Z (fR aT r++adds.map λ s=>(s,(⟨0,[]⟩:RS)))=r'):Gh ⟨v,r⟩ ⟨v',r'⟩:=by
 obtain⟨v1,h1,h2,h3⟩:=vd h;subst hr h3;exact(Gh.aT aT adds h1 rfl).trans (Gh.can Z h2 hc)
def wN (r:Rs) (s k sz:Nat):Rs:=
 match aa s r with
 |some rs=>(match rs.l[0]? with
  |some (some V)=>az s ⟨rs.next+1,(rs.l.set (k+1) (some {e:=rs.next,var:=false,fz:=false,sz,cells:=[]})).set 0 (some {V with cells:=V.cells.set k (.own ⟨s,k+1,rs.next⟩ 0 0)})⟩ r
  |_=>r)
 |none=>r
def qG:Option C->Bool
 |some (.d (.v (.slice none 0 0)))=>true
 |_=>false
def wy (r:Rs) (s k:Nat):Bool:=
 match aa s r with
 |some rs=>(match rs.l[0]?,rs.l[k+1]? with
  |some (some V),some none=>V.var&&qG V.cells[k]?
  |_,_=>false)
 |none=>false
theorem Cq {x:Option C} (h:qG x=true):x=some (.d (.v (.slice none 0 0))):=by
 unfold qG at h;split at h
 .rfl
 .cases h
theorem Gh.xA {v:List AV} {r:Rs} (s k sz:Nat) (hok:wy r s k=true):Gh ⟨v,r⟩ ⟨v,wN r s k sz⟩:=λ cx a w ⟨β,hh⟩=>by
 unfold wy at hok;unfold wN;cases hf:aa s r with
 |none=>rw[hf]at hok;cases hok
 |some rs=>
  rw[hf]at hok;simp only at hok⊢;split at hok
  case h_2=>cases hok
  case h_1 V h0 hk=>
   simp only[cg]at hok;obtain⟨hv,hn⟩:=hok;have hn:=Cq hn;simp only[h0];have hnx:af r s=rs.next:=by unfold af;rw[hf]
   have hklt:k+1<rs.l.length:=(bq.1 hk).1
   let row:aM:={e:=rs.next,var:=false,fz:=false,sz,cells:=[]}
   let r1:Rs:=az s ⟨rs.next+1,rs.l.set (k+1) (some row)⟩ r
   let β':Nat->Nat->Pl:=λ s' j'=>if s'=s/\j'=k+1 then⟨none,0⟩else β s' j'
   have hβ0:β' s (k+1)=⟨none,0⟩:=by simp[β']
   have hβ1:∀s' j',¬(s'=s/\j'=k+1)->β' s' j'=β s' j':=λ s' j' hn=>by simp[β',hn]
   have hl:∀s' j' res,aq r1 s' j'=some res->(s'=s/\j'=k+1/\res=row)∨(¬(s'=s/\j'=k+1)/\aq r s' j'=some res):=λ s' j' res hl=>by
    simp only[r1]at hl;rw[dy]at hl;by_cases hs:s=s'
    .subst hs;rw[ao rfl]at hl;simp only[kJ]at hl;by_cases hj:k+1=j'
     .subst hj;rw[ao rfl,ao hklt]at hl;simp only[aF]at hl;exact .inl ⟨rfl,rfl,hl.symm⟩
     .rw[aj hj]at hl;refine .inr ⟨λ h=>hj h.2.symm, ?_⟩;unfold aq;rw[hf];exact hl
    .rw[aj hs]at hl;exact .inr ⟨λ h=>hs h.1.symm,hl⟩
   have hx:Ext cx w r β w r1 β':=by
    refine⟨λ t=> ?_,λ hd res' hlt hg=> ?_,⟨λ _ _ _=>rfl,λ b _ hA=> ?_⟩,λ _ _ _=>rfl,rfl,rfl⟩
    .simp only[r1];rw[c6];split
     .rename_i e;subst e;rw[hnx];exact kB _
     .exact Nat.le_refl _
    .obtain⟨e1,e2⟩:=bh hg;rcases hl _ _ _ e1 with⟨q1,q2,q3⟩|⟨q1,q2⟩
     .subst q3;rw[q1,hnx]at hlt;simp only[row]at e2;omega
     .exact⟨res',dH q2 e2,hβ1 _ _ q1,rfl,rfl,Nat.le_refl _⟩
    .rcases hA with hA|⟨t,j,res,o,e1,e2,e3⟩
     .exact .inl hA
     .rcases hl _ _ _ e1 with⟨q1,q2,q3⟩|⟨q1,q2⟩
      .rw[q1,q2,hβ0]at e3;cases e3
      .rw[hβ1 _ _ q1]at e3;exact .inr ⟨t,j,res,o,q2,e2,e3⟩
   have h1:aw cx ⟨v,r1⟩ a w β':=hh.mk' hx (λ t j res e1=>by
     rcases hl _ _ _ e1 with⟨q1,q2,q3⟩|⟨q1,q2⟩
     .subst q1;subst q2;subst q3;rw[hβ0];refine⟨jH (ds:=[]) rfl rfl rfl (by simp[bL]), ?_⟩;simp only[r1];rw[c6,ao rfl];exact eH _
     .obtain⟨g1,g2⟩:=hh.rs _ _ _ q2;rw[hβ1 _ _ q1];exact⟨g1.ext hx (λ _ _ _=>rfl) (λ b o hb=>g1.lt hb),c9 g2 (hx.nx t)⟩)
    (λ t j res t' j' res' b o o' e1 f1 e2 f2 b1 b2=>by
     rcases hl _ _ _ e1 with⟨q1,q2,q3⟩|⟨q1,q2⟩
     .rw[q1,q2,hβ0]at b1;cases b1
     .rcases hl _ _ _ e2 with⟨p1,p2,p3⟩|⟨p1,p2⟩
      .rw[p1,p2,hβ0]at b2;cases b2
      .rw[hβ1 _ _ q1]at b1;rw[hβ1 _ _ p1]at b2;exact hh.inj _ _ _ _ _ _ _ _ _ q2 f1 p2 f2 b1 b2)
    (λ t j res b o e1 f1 b1=>by
     rcases hl _ _ _ e1 with⟨q1,q2,q3⟩|⟨q1,q2⟩
     .rw[q1,q2,hβ0]at b1;cases b1
     .rw[hβ1 _ _ q1]at b1;exact hh.fr _ _ _ _ _ q2 f1 b1) (Nat.le_refl _)
   have hlk0:aq r s 0=some V:=by unfold aq;simp only[hf,h0]
   have hok0:=(hh.rs _ _ _ hlk0).1;unfold bn at hok0;rw[ao hv]at hok0;obtain⟨p0,b,arr,e,p1,p2,p3,p4⟩:=hok0;obtain⟨u,hu1,hu2⟩:=eL p3 hn;have hu:=(dN.1 hu2).1;subst hu;have hfr:aa s r1=some ⟨rs.next+1,rs.l.set (k+1) (some row)⟩:=by simp only[r1];rw[bX,ao rfl]
   obtain⟨β2,t1,t2,t3⟩:=h1.oG (next':=rs.next+1) (x:= .own ⟨s,k+1,rs.next⟩ 0 0) (V:=V) (k:=k) (b:=b) (cs:=arr) (e:=e) (u:= .slice none 0 0) hfr
    (by simp only[fV (show k+1≠0 by omega),h0]) hv (by rw[hβ1 s 0 (by omega)];exact p1) p2 (by simpa using hu1) (by
     simp only[ae];refine⟨rfl, ?_,λ res hr=> ?_⟩
     .simp only[r1];rw[c6,ao rfl];exact eH _
     .obtain⟨e1,e2⟩:=bh hr;rcases hl _ _ _ e1 with⟨q1,q2,q3⟩|⟨q1,q2⟩
      .subst q3;rw[hβ0];exact⟨rfl,by simp,Nat.le_refl _,none,rfl, .inl rfl⟩
      .exact absurd ⟨rfl,rfl⟩ q1) (Nat.le_refl _)
   refine⟨β2,t1.congr λ t=> ?_⟩;simp only[r1];rw[bX,bX,bX];split
   .rfl
   .rfl
def Ft (r:Rs) (s k:Nat) (x:C):Rs:=
 match gV r x with
 |some (d,r')=>(match aa s r' with
  |some rs=>(match rs.l[0]? with
   |some (some V)=>az s ⟨rs.next,rs.l.set 0 (some {V with cells:=V.cells.set k (.d d)})⟩ r'
   |_=>r)
  |none=>r)
 |none=>r
def Fm (r:Rs) (s k:Nat) (x:C):Prop:=
 match gV r x with
 |some (_,r')=>(match aa s r' with
  |some rs=>(match rs.l[0]? with
   |some (some V)=>V.var=true/\V.cells[k]? =some x
   |_=>False)
  |none=>False)
 |none=>False
abbrev iD (n:Int):D:= .v (.int .i64 n)
abbrev uD (n:Int):D:= .v (.int .u8 n)
abbrev bD (b:Bool):D:= .v (.bool b)
abbrev sD (s:ByteArray):D:= .v (.string s)
abbrev di (n:Int):C:= .d (.v (.int .i64 n))
abbrev db (n:Bool):C:= .d (.v (.bool n))
abbrev dS (s:ByteArray):C:= .d (.v (.string s))
abbrev ai (n:Int):AV:= .one (.d (.v (.int .i64 n)))
abbrev au (n:Int):AV:= .one (.d (.v (.int .u8 n)))
abbrev FQ (s:ByteArray):AV:= .one (.d (.v (.string s)))
abbrev ab (b:Bool):AV:= .one (.d (.v (.bool b)))
abbrev rb (b:Bool):RF:= .one (.d (.v (.bool b)))
abbrev ri (n:Int):RF:= .one (.d (.v (.int .i64 n)))
abbrev dd:AV:= .one .dead
def rN (l:List AV):List AV:=dd::dd::l
def rL (l:List AV):List AV:=dd::rN l
def rH (l:List AV):List AV:=dd::rL l
def rM (l:List AV):List AV:=dd::rH l
def rP (l:List AV):List AV:=dd::rM l
def rQ (l:List AV):List AV:=dd::rP l
def rK (l:List AV):List AV:=dd::rQ l
def rJ (l:List AV):List AV:=dd::rK l
def rj (l:List AV):List AV:=dd::rJ l
def qU (l:List AV):List AV:=dd::rj l
def rp (l:List AV):List AV:=dd::qU l
def qT (l:List AV):List AV:=dd::rp l
def qR (l:List AV):List AV:=dd::qT l
def qM (l:List AV):List AV:=dd::qR l
def ry (l:List AV):List AV:=dd::qM l
def qO (l:List AV):List AV:=dd::ry l
def rl (l:List AV):List AV:=dd::qO l
def qZ (l:List AV):List AV:=dd::rl l
def rq (l:List AV):List AV:=dd::qZ l
def rF (l:List AV):List AV:=dd::rq l
def q9 (l:List AV):List AV:=dd::rF l
def rD (l:List AV):List AV:=dd::q9 l
def qV (l:List AV):List AV:=dd::rD l
def rn (l:List AV):List AV:=dd::qV l
def ru (l:List AV):List AV:=dd::rn l
def rC (l:List AV):List AV:=dd::ru l
def qS (l:List AV):List AV:=dd::rC l
def qW (l:List AV):List AV:=dd::qS l
def rm (l:List AV):List AV:=dd::qW l
def qP (l:List AV):List AV:=dd::rm l
def rE (l:List AV):List AV:=dd::qP l
def ra (l:List AV):List AV:=dd::rE l
def qX (l:List AV):List AV:=dd::ra l
def rh (l:List AV):List AV:=dd::qX l
def qN (l:List AV):List AV:=dd::rh l
def qQ (l:List AV):List AV:=dd::qN l
def rk (l:List AV):List AV:=dd::qQ l
def rz (l:List AV):List AV:=dd::rk l
def E7 (l:List AV):List AV:=dd::rz l
def Fg (s:Nat):AV:= .one (.ptr ⟨s,0,1⟩ 0)
def Ff (e:Nat) (cs:List C):Option aM:=some {e:=e,var:=true,fz:=false,sz:=0,cells:=cs}
def Fe (e sz:Nat) (ds:List D):Option aM:=some {e:=e,var:=false,fz:=false,sz:=sz,cells:=ds.map C.d}
theorem cw:(∀l,rN l=dd::dd::l)/\(∀l,rL l=dd::rN l)/\(∀l,rH l=dd::rL l)/\(∀l,rM l=dd::rH l)/\(∀l,rP l=dd::rM l)/\(∀l,rQ l=dd::rP l)/\(∀l,rK l=dd::rQ l)/\(∀l,rJ l=dd::rK l)/\(∀l,rj l=dd::rJ l)/\(∀l,qU l=dd::rj l)/\(∀l,rp l=dd::qU l)/\(∀l,qT l=dd::rp l)/\(∀l,qR l=dd::qT l)/\(∀l,qM l=dd::qR l)/\(∀l,ry l=dd::qM l)/\(∀l,qO l=dd::ry l)/\(∀l,rl l=dd::qO l)/\(∀l,qZ l=dd::rl l)/\(∀l,rq l=dd::qZ l)/\(∀l,rF l=dd::rq l)/\(∀l,q9 l=dd::rF l)/\(∀l,rD l=dd::q9 l)/\(∀l,qV l=dd::rD l)/\(∀l,rn l=dd::qV l)/\(∀l,ru l=dd::rn l)/\(∀l,rC l=dd::ru l)/\(∀l,qS l=dd::rC l)/\(∀l,qW l=dd::qS l)/\(∀l,rm l=dd::qW l)/\(∀l,qP l=dd::rm l)/\(∀l,rE l=dd::qP l)/\(∀l,ra l=dd::rE l)/\(∀l,qX l=dd::ra l)/\(∀l,rh l=dd::qX l)/\(∀l,qN l=dd::rh l)/\(∀l,qQ l=dd::qN l)/\(∀l,rk l=dd::qQ l)/\(∀l,rz l=dd::rk l)/\(∀l,E7 l=dd::rz l)/\(∀s,Fg s= .one (.ptr ⟨s,0,1⟩ 0))/\(∀e cs,Ff e cs=some {e:=e,var:=true,fz:=false,sz:=0,cells:=cs})/\(∀e sz ds,Fe e sz ds=some {e:=e,var:=false,fz:=false,sz:=sz,cells:=ds.map C.d}):=
 ⟨λ _=>rfl,λ _=>rfl,λ _=>rfl,λ _=>rfl,λ _=>rfl,λ _=>rfl,λ _=>rfl,λ _=>rfl,λ _=>rfl,λ _=>rfl,λ _=>rfl,λ _=>rfl,λ _=>rfl,λ _=>rfl,λ _=>rfl,λ _=>rfl,λ _=>rfl,λ _=>rfl,λ _=>rfl,λ _=>rfl,λ _=>rfl,λ _=>rfl,λ _=>rfl,λ _=>rfl,λ _=>rfl,λ _=>rfl,λ _=>rfl,λ _=>rfl,λ _=>rfl,λ _=>rfl,λ _=>rfl,λ _=>rfl,λ _=>rfl,λ _=>rfl,λ _=>rfl,λ _=>rfl,λ _=>rfl,λ _=>rfl,λ _=>rfl,λ _=>rfl,λ _ _=>rfl,λ _ _ _=>rfl⟩
abbrev FL:AV:= .one (.d (.v (.slice none 0 0)))
abbrev al (n:Nat) (ds:List D):AV:= .one (.aI n ds)
abbrev E5:Int:=2305843009213693952
def i64 (n:Int):Prop:= -9223372036854775808≤n/\n<9223372036854775808
structure ia where
 iY:Int
 seq:Int
 kind:Int
 kq:Int
 name:ByteArray
abbrev ia.enc (r:ia):List D:=[iD r.iY,iD r.seq,iD r.kind,iD r.kq,sD r.name]
def ia.ok (r:ia):Prop:=i64 r.iY/\i64 r.seq/\i64 r.kind/\i64 r.kq/\r.name.size<2^62
structure An where
 view:Int
 slot:Int
 deriving DecidableEq
structure Batch where
 fill:Bool
 view:Int
 gA:An
 time:Int
 reqs:List ia
abbrev oS (l:List ia):List D:=l.flatMap ia.enc
abbrev Batch.enc (b:Batch):List D:=[bD b.fill,iD b.view,iD b.gA.view,iD b.gA.slot,iD b.time, .sl b.reqs.length (oS b.reqs)]
abbrev Batch.aI (b:Batch):List C:=[db b.fill,di b.view,di b.gA.view,di b.gA.slot,di b.time, .aI b.reqs.length (oS b.reqs)]
def Batch.ok (b:Batch):Prop:=i64 b.view/\i64 b.gA.view/\i64 b.gA.slot/\i64 b.time/\b.reqs.length<2^42/\∀r∈b.reqs,r.ok
structure Vote where
 slot:Int
 vX:Int
 batch:Batch
abbrev Vote.enc (v:Vote):List D:=iD v.slot::iD v.vX::v.batch.enc
def Vote.ok (v:Vote):Prop:=i64 v.slot/\i64 v.vX/\v.batch.ok
structure ja where
 src:Int
 done:Int
 gA:An
 time:Int
 lO:List Vote
abbrev oC (l:List Vote):List D:=l.flatMap Vote.enc
abbrev ja.enc (p:ja):List D:=[iD p.src,iD p.done,iD p.gA.view,iD p.gA.slot,iD p.time, .sl p.lO.length (oC p.lO)]
abbrev ja.aI (p:ja):List C:=[di p.src,di p.done,di p.gA.view,di p.gA.slot,di p.time, .aI p.lO.length (oC p.lO)]
def ja.ok (p:ja):Prop:=i64 p.src/\i64 p.done/\i64 p.gA.view/\i64 p.gA.slot/\i64 p.time/\p.lO.length<2^42/\∀v∈p.lO,v.ok
abbrev tB (l:List ja):List D:=l.flatMap ja.enc
abbrev uI (l:List Batch):List D:=l.flatMap Batch.enc
theorem yl {n:Nat}:sub 0 0 n []=[]:=by simp[sub]
theorem wo {x0:C}:sub 0 1 1 [x0]=[x0]:=rfl
theorem wI {x0 x1:C}:sub 0 1 2 [x0,x1]=[x0,x1]:=rfl
theorem vS {x0 x1 x2:C}:sub 0 1 3 [x0,x1,x2]=[x0,x1,x2]:=rfl
theorem wz {x0 x1 x2 x3:C}:sub 0 1 4 [x0,x1,x2,x3]=[x0,x1,x2,x3]:=rfl
theorem wG {x0 x1 x2 x3 x4:C}:sub 0 1 5 [x0,x1,x2,x3,x4]=[x0,x1,x2,x3,x4]:=rfl
theorem v5 {x0 x1 x2 x3 x4 x5:C}:sub 0 1 6 [x0,x1,x2,x3,x4,x5]=[x0,x1,x2,x3,x4,x5]:=rfl
theorem wD {x0 x1 x2 x3 x4 x5 x6:C}:sub 0 1 7 [x0,x1,x2,x3,x4,x5,x6]=[x0,x1,x2,x3,x4,x5,x6]:=rfl
theorem vT {x0 x1 x2 x3 x4 x5 x6 x7:C}:sub 0 1 8 [x0,x1,x2,x3,x4,x5,x6,x7]=[x0,x1,x2,x3,x4,x5,x6,x7]:=rfl
theorem jI {α β:Type} (enc:α->List β) (sz:Nat) (h:∀x,(enc x).length=sz) (l:List α):(l.flatMap enc).take (l.length*sz)=l.flatMap enc:=oY (Nat.le_of_eq (qx enc sz h l))
theorem tw {l:List ia}:(oS l).take (l.length*5)=oS l:=jI ia.enc 5 (λ _=>rfl) l
theorem s6 {l:List Vote}:(oC l).take (l.length*8)=oC l:=jI Vote.enc 8 (λ _=>rfl) l
theorem rY {l:List ja}:(tB l).take (l.length*6)=tB l:=jI ja.enc 6 (λ _=>rfl) l
theorem r7 {l:List Batch}:(uI l).take (l.length*6)=uI l:=jI Batch.enc 6 (λ _=>rfl) l
section
variable {T:Nat->Option TI} {P:Program}
theorem aD {x y:Code} {g:G} {Q:Ex->G->Prop} (h:bZ T P x g Q):oX T P (.one (.d (.v (.bool true)))) True x y g Q:=⟨trivial,λ _=>h,λ h=>(by cases h)⟩
theorem aE {x y:Code} {g:G} {Q:Ex->G->Prop} (h:bZ T P y g Q):oX T P (.one (.d (.v (.bool false)))) True x y g Q:=⟨trivial,λ h=>(by cases h),λ _=>h⟩
end
theorem wh:Go.Pk.bad.x= .one .dead:=rfl
theorem zO:type_of% (I (I (I (I (@yl) (I (Nat.sub_zero) (@tw))) (I (@s6) (I (@rY) (@r7)))) (I (I (Bool.true_beq) (I (Bool.false_beq) (@eE))) (I (@gN) (I (Nat.zero_mul) (Nat.one_mul))))) (I (I (I (Nat.mul_one) (I (@jX.{0}) (@fG.{0,0}))) (I (@wo) (I (@wI) (@vS)))) (I (I (@wz) (I (@wG) (@v5))) (I (I (@wD) (@vT)) (I (Int.toNat_zero) (Int.toNat_one)))))):=I (I (I (I (@yl) (I (Nat.sub_zero) (@tw))) (I (@s6) (I (@rY) (@r7)))) (I (I (Bool.true_beq) (I (Bool.false_beq) (@eE))) (I (@gN) (I (Nat.zero_mul) (Nat.one_mul))))) (I (I (I (Nat.mul_one) (I (@jX.{0}) (@fG.{0,0}))) (I (@wo) (I (@wI) (@vS)))) (I (I (@wz) (I (@wG) (@v5))) (I (I (@wD) (@vT)) (I (Int.toNat_zero) (Int.toNat_one)))))
def Stop (p:Prop):Prop:=p
theorem Dw (n:Nat) {T:Nat->Option TI} {P:Program} {ops:Array Oper} {d:Bool} {y:Code} {Q:Ex->G->Prop} {g:G} (h:Stop (ga T P (.seq (.region n ops d) y) Q .normal g)):
  ga T P (.seq (.region n ops d) y) Q .normal g:=h
def jN (n:Nat):Code->Option Code
 | .seq (.region m ops d) y=>if m==n then some (.seq (.region m ops d) y)else jN n y
 | .seq a y=>(jN n a).or (jN n y)
 | .cond _ a b=>(jN n a).or (jN n b)
 | .block _ b=>jN n b
 | .loop b=>jN n b
 | .scope b=>jN n b
 |_=>none
theorem jG {s:Sh} {ss:List Sh} {dss:List (List D)} (h:jY (s::ss) dss):∃d ds,dss=d::ds/\cL s d/\jY ss ds:=by
 cases dss with
 |nil=>exact h.elim
 |cons d ds=>exact⟨d,ds,rfl,h.1,h.2⟩
theorem uc {dss:List (List D)} (h:jY [] dss):dss=[]:=by
 cases dss with
 |nil=>rfl
 |cons d ds=>exact h.elim
section
variable {T:Nat->Option TI}
end
theorem Rd.sub {w:World} {A A':Nat->Prop} (h:∀b,A' b->A b) {d:D} {u:Value} (hd:Rd w A d u):Rd w A' d u:=
 hd.bC (⟨λ _ _ _=>rfl,λ b _ hb=>h b hb⟩:eV w A w A')
theorem bL.take {w:World} {A A':Nat->Prop} (h:∀b,A' b->A b) {pl:Pl} {sz:Nat} {ds xs:List D} (hm:bL w A pl sz (ds++xs)):bL w A' pl sz ds:=by
 unfold bL at*;split at hm
 .exact⟨(List.append_eq_nil_iff.1 hm.1).1,hm.2⟩
 .obtain⟨c,e,h1,h2,h3,h4⟩:=hm;refine⟨c,e,h1,h2,by rw[eh]at h3;omega,λ k d hk=> ?_⟩;obtain⟨u,g1,g2⟩:=h4 k d (by rw[bJ (bq.1 hk).1];exact hk);exact⟨u,g1,g2.sub h⟩
def fQ (r:Rs) (y:AV) (ys:List AV) (post:List RF->List RO->Prop):Prop:=
 match y with
 | .one (.ptr hd 0)=>match ax r hd with
  |some res=>match ch r res.cells,fY r ys with
   |some l,some rfs=>res.var=true/\gg (dJ r (dm ys++res.cells))=true/\post rfs l
   |_,_=>False
  |none=>False
 |_=>False
def eN (T:Nat->Option TI) (rvs:List ResultVar) (post:List RF->List RO->Prop) (g:G):Prop:=
 (eJ T g.v g.r rvs).1/\match (eJ T g.v g.r rvs).2 with
  |y::ys=>fQ g.r y ys post
  |[]=>False
def rA (T:Nat->Option TI) (rvs:List ResultVar) (post:List RF->List RO->Prop) (e:Ex) (g:G):Prop:=
 match e with
 | .normal=>eN T rvs post g
 | .ret=>eN T rvs post g
 | .exit _=>False
 | .panic _=>False
theorem gD {T:Nat->Option TI} {rvs:List ResultVar} {post:List RF->List RO->Prop} {g:G}:rA T rvs post .normal g=eN T rvs post g:=rfl
theorem gG {T:Nat->Option TI} {rvs:List ResultVar} {post:List RF->List RO->Prop} {g:G}:rA T rvs post .ret g=eN T rvs post g:=rfl
section
variable {P:Program} {cx:Cx} {T:Nat->Option TI} {v:List AV} {r:Rs} {a:Act} {w:World} {β:Nat->Nat->Pl}
theorem DV (h:aw cx ⟨v,r⟩ a w β) (hB:cx.aH=λ _=>False) {ys:List AV} {us:List Value} {hd:Hd} {res:aM} {rfs:List RF} {l:List RO} (hu:aL cx w r β (.one (.ptr hd 0)::ys) us)
  (hg:ax r hd=some res) (hv:res.var=true) (h1:ch r res.cells=some l) (h2:fY r ys=some rfs) (h3:gg (dJ r (dm ys++res.cells))=true):
  ∃b,cx.w0.heap.size≤b/\dT cx.w0 (λ x=>cx.A0 x∨x∈bI [.bP b]) (λ _=>False) w [.bP b] (.one (.d (.v (eb b)))::rfs) [l] (j4 us):=by
 obtain⟨hlk,hee⟩:=bh hg;have hok:=(h.rs _ _ _ hlk).1;unfold bn at hok;rw[ao hv]at hok;obtain⟨hf,b,arr,e,hb,_,_,_⟩:=hok;have hn:cx.n0≤b:=by have:=(h.fr _ _ _ _ _ hlk hf hb).1;rw[hB]at this;exact this.resolve_right λ h=>h
 simp only[aL]at hu;obtain⟨u0,us',rfl,g1,g2⟩:=hu;simp only[ak,ae]at g1;obtain⟨b',o',e1,e2⟩:=g1.2.2 res hg;rw[hb]at e1;cases e1;simp only[bu]at e2;subst e2;refine⟨b,hn, ?_⟩;have hcs:dm (.one (.d (.v (eb b)))::ys)++dD [res.cells]= .d (.v (eb b))::(dm ys++res.cells):=by simp[dm,iT,dD]
 have:=wm (A1:=λ x=>cx.A0 x∨x∈bI [.bP b]) (ps:=[.h hd]) (bs:=[.bP b]) (cs:=[res.cells]) (objs:=[l]) (ys:= .one (.d (.v (eb b)))::ys) (rfs:= .one (.d (.v (eb b)))::rfs) (us:=eb b::us') (u:=j4 (eb b::us')) h
  (λ x hx=>hx.elim .inl λ hx=> .inr ⟨hd.s,hd.j,res,0,hlk,hf,by simp only[bI,iZ]at hx;rw[hx];exact hb⟩)
  (by simp only[aL];exact⟨_,us',rfl,bj.2 ⟨rfl,rfl⟩,g2⟩) rfl (by simp[fY,lY,gB,h2]) (by simp only[cY];exact⟨⟨res,hg,hv,rfl⟩,trivial⟩) (by simp[e9,h1])
  (by rw[hcs];simpa[dJ,i9]using h3) (by simp only[b9];exact⟨λ res' hr=>hb,trivial⟩)
  (λ s j res' b' o hl hf' hv' hbase hm=>by simp only[bI,iZ]at hm;subst hm;obtain⟨q1,q2⟩:=h.inj _ _ _ _ _ _ _ _ _ hl hf' hlk hf hbase hb;subst q1 q2;rw[hl]at hlk;cases hlk;rw[hv']at hv;cases hv)
 rw[hB]at this;exact this
theorem gK (hT:bx P T) (hm:P.follows .mixedOrders=true) {f:FuncId} {fn:Func} {c:Code} {rvs:List ResultVar} {n:Nat} (hf:P.funcs[f]? =some fn) (hb:fn.body=some c)
  (hres:fn.results=rvs.toArray) (hn:fn.ntmps=n) (hcall:∀(us:Array Value) (w:World),(callFunc f us).run P w= .ok (.enter f us) w) {args:List Arg} {rfs:List RF} {l:List RO}
  (h:bZ T P c (eT n args) (rA T rvs λ x y=>x=rfs/\y=l)):c8 P f args rfs l:=by
 refine⟨hcall,λ w A0 us hA ha=> ?_⟩;refine calls_of_wp hf hb ?_;have hob:br args=[]:=by
  clear h;have:∀{args:List Arg} {k:Nat} {us:List Value},aV P w A0 (λ _=>False) (λ _=>⟨none,0⟩) k args [] us->br args=[]:=by
   intro args;induction args with
   |nil=>intros;rfl
   |cons x xs ih=>
    intro k us ha;cases x with
    |f y=>simp only[aV]at ha;obtain⟨_,us',_,_,ha⟩:=ha;exact ih ha
    |ob _ _=>simp only[aV]at ha;obtain⟨_,_,_,_,_,_,e,_⟩:=ha;cases e
    |row _ _ _=>simp only[aV]at ha;obtain⟨_,_,_,_,e,_⟩:=ha;cases e
    |cW _ _ _ _ _=>simp only[aV]at ha;obtain⟨_,_,_,_,_,_,e,_⟩:=ha;cases e
  exact this ha
 have h0:=sT (n:=n) ha hA (λ b hb=>hb.elim) (by rw[hob];intro b hb;exact hb.elim) List.nodup_nil (by rw[hob];intro i j b o o' sz n ds bo sz' n' ds' bo' h1;simp at h1);have hend:∀g a w',cU (ic P w A0 (λ _=>False) args []) g a w'->eN T rvs (λ x y=>x=rfs/\y=l) g->
   a.defers=[]/\∃v,(results fn a.tmps).run P w'= .ok v w'/\∃bs r objs u,(∃b,bs=[.bP b]/\r= .one (.d (.v (eb b)))::rfs/\objs=[l])/\Ending.returned v= .returned u/\(∀b∈bI bs,w.heap.size≤b)/\
    dT w (λ b=>A0 b∨b∈bI bs) (λ _=>False) w' bs r objs u:=by
  rintro⟨v,r⟩ a w' ⟨β,hh⟩ ⟨g1,g2⟩
  obtain⟨vs,k1,k2⟩:=pY (cx:=ic P w A0 (λ _=>False) args []) hT hh g1;refine⟨hh.df,j4 vs,sr hres k1, ?_⟩;simp only at g2;split at g2
  .rename_i y ys hys;rw[hys]at k2;unfold fQ at g2;split at g2
   .rename_i hd;split at g2
    .rename_i res hg;split at g2
     .rename_i l' rfs' q1 q2;obtain⟨q3,q4,rfl,rfl⟩:=g2;obtain⟨b,hb0,hret⟩:=DV hh rfl k2 hg q3 q1 q2 q4;exact⟨_,_,_,_,⟨b,rfl,rfl,rfl⟩,rfl,λ x hx=>by simp only[bI,iZ]at hx;subst hx;exact hb0,hret⟩
     .exact g2.elim
    .exact g2.elim
   .exact g2.elim
  .exact g2.elim
 have hact:({tmps:=us.toArray++Array.replicate (fn.ntmps - us.toArray.size) undef,defers:=[]}:Act)={tmps:=us.toArray++Array.replicate (n - us.length) undef,defers:=[]}:=by rw[hn];simp
 rw[hact];refine wC (cx:=ic P w A0 (λ _=>False) args []) hT hm c (eT n args) _ _ (λ e g a w' hh hq=> ?_) h _ _ ⟨_,h0⟩;cases e with
 |normal=>exact hend g a w' hh hq
 |ret=>exact hend g a w' hh hq
 |exit id=>exact hq.elim
 |panic x=>exact hq.elim
theorem c8.le {f:FuncId} {as as':List Arg} {rfs:List RF} {l:List RO} (h:c8 P f as' rfs l) (hl:gQ as as'):c8 P f as rfs l:=
 ⟨h.1,λ w A0 us h1 h3=>h.2 w A0 us h1 (la hl h3).1⟩
end
def Fi (a b:RO):Prop:=
 match a,b with
 | .d x, .d y=>y=x
 | .d (.v (.slice none 0 0)), .own _ n ds _=>n=0/\ds=[]
 | .own sz n ds _, .own sz' n' ds' _=>sz'=sz/\n'=n/\ds'=ds
 |_,_=>False
def Fc:List RO->List RO->Prop
 |[],[]=>True
 |a::l,b::m=>Fi a b/\Fc l m
 |_,_=>False
def nm (a b:RO):Prop:=
 b=a∨match a,b with
 | .d (.v (.slice none 0 0)), .own _ n ds _=>n=0/\ds=[]
 | .d (.v (.slice none 0 0)), .d (.sl n ds)=>n=0/\ds=[]
 | .own sz n ds _, .own sz' n' ds' bo'=>sz'=sz/\n'=n/\ds'=ds/\bo'=true
 |_,_=>False
def gb:List RO->List RO->Prop
 |[],[]=>True
 |a::l,b::m=>nm a b/\gb l m
 |_,_=>False
def Ae:RF->RF->Prop
 | .one a, .one b=>nm a b
 | .agg l, .agg m=>gb l m
 |_,_=>False
def kL:List RF->List RF->Prop
 |[],[]=>True
 |a::l,b::m=>Ae a b/\kL l m
 |_,_=>False
def lB:List (List RO)->List (List RO)->Prop
 |[],[]=>True
 |a::l,b::m=>gb a b/\lB l m
 |_,_=>False
theorem tM:∀{a:List RO},gb a a
 |[]=>trivial
 |x::a=>⟨.inl rfl,tM⟩
theorem Cy {a:RF}:Ae a a:=by cases a;exact .inl rfl;exact tM
theorem nr:∀{a b c d:List RO},gb a b->gb c d->gb (a++c) (b++d)
 |[],[],_,_,_,h=>h
 |x::a,y::b,_,_,h,h'=>⟨h.1,nr h.2 h'⟩
 |[],_::_,_,_,h,_=>h.elim
 |_::_,[],_,_,h,_=>h.elim
theorem pG:∀{a b:List RF},kL a b->gb (a.flatMap RF.cells) (b.flatMap RF.cells)
 |[],[],_=>trivial
 |x::a,y::b,h=>by
  simp only[dA];refine nr ?_ (pG h.2);cases x with
  |one x=>cases y with
   |one y=>exact⟨h.1,trivial⟩
   |agg _=>exact h.1.elim
  |agg l=>cases y with
   |one y=>exact h.1.elim
   |agg m=>exact h.1
 |[],_::_,h=>h.elim
 |_::_,[],h=>h.elim
theorem sH:∀{a b:List (List RO)},lB a b->gb a.flatten b.flatten
 |[],[],_=>trivial
 |x::a,y::b,h=>by simp only[fl];exact nr h.1 (sH h.2)
 |[],_::_,h=>h.elim
 |_::_,[],h=>h.elim
theorem ln:∀{a b:List RO},gb a b->b.length=a.length
 |[],[],_=>rfl
 |x::a,y::b,h=>by simp[ln h.2]
 |[],_::_,h=>h.elim
 |_::_,[],h=>h.elim
theorem uM:∀{a b:List RO} {i:Nat} {y:RO},gb a b->b[i]? =some y->∃x,a[i]? =some x/\nm x y
 |[],[],_,_,_,h=>by simp at h
 |x::a,y::b,0,z,h,hi=>by simp only[bG,aF]at hi;subst hi;exact⟨x,rfl,h.1⟩
 |x::a,y::b,i+1,z,h,hi=>by simpa using uM (i:=i) h.2 (by simpa using hi)
 |[],_::_,_,_,h,_=>h.elim
 |_::_,[],_,_,h,_=>h.elim
section
variable {P:Program} {w:World} {A0 aH:Nat->Prop} {γ:Nat->Pl} {A A':Nat->Prop} {L:List RO}
theorem EY {x:RO} {sz n:Nat} {ds:List D} {bo:Bool} (h:nm x (.own sz n ds bo)):(∃bo',x= .own sz n ds bo'/\(bo=false->bo'=false))∨∃y,x= .d y:=by
 rcases h with h|h
 .exact .inl ⟨bo,h.symm,id⟩
 .split at h
  .exact .inr ⟨_,rfl⟩
  .rename_i q;cases q
  .rename_i sz0 n0 ds0 bo0 sz1 n1 ds1 bo1 q;cases q;obtain⟨rfl,rfl,rfl,rfl⟩:=h;exact .inl ⟨bo0,rfl,λ h=>by cases h⟩
  .exact h.elim
theorem wK (hA:∀b,A' b->A b) {a b:RO} {u:Value} {i:Nat} (hi:L[i]? =some a) (h:nm a b) (hu:cy A w (γ i) a u):cy A' w (γN γ L i) b u:=by
 rcases h with rfl|h
 .exact p' hA hi hu
 .split at h
  .obtain⟨rfl,rfl⟩:=h;exact uz hi hu
  .obtain⟨rfl,rfl⟩:=h;exact uG hu
  .obtain⟨rfl,rfl,rfl,rfl⟩:=h;have:=p' (L:=L) (γ:=γ) hA hi hu;simp only[cy]at this⊢;exact this
  .exact h.elim
theorem oD (hA:∀b,A' b->A b):∀{a b:List RO} {k:Nat} {us:List Value},(∀i x,a[i]? =some x->L[k+i]? =some x)->gb a b->bM A w γ k a us->bM A' w (γN γ L) k b us
 |[],[],k,us,_,_,h=>h
 |x::a,y::b,k,us,hL,hl,h=>by
  simp only[bM]at h⊢;obtain⟨u,us',rfl,h1,h2⟩:=h;refine⟨u,us',rfl,wK hA (hL 0 x rfl) hl.1 h1,oD hA (λ i x' hi=> ?_) hl.2 h2⟩;have:=hL (i+1) x' (by simpa using hi)
  rwa[show k+(i+1)=k+1+i by omega]at this
 |[],_::_,_,_,_,h,_=>h.elim
 |_::_,[],_,_,_,h,_=>h.elim
theorem wx (hA:∀b,A' b->A b):∀{a b:List RF} {k:Nat} {us:List Value},(∀i x,(a.flatMap RF.cells)[i]? =some x->L[k+i]? =some x)->kL a b->cM A w γ k a us->cM A' w (γN γ L) k b us
 |[],[],k,us,_,_,h=>h
 |x::a,y::b,k,us,hL,hl,h=>by
  simp only[cM]at h⊢;obtain⟨u,us',rfl,h1,h2⟩:=h;have hlen:y.cells.length=x.cells.length:=by
   cases x with
   |one x=>cases y with
    |one y=>rfl
    |agg _=>exact hl.1.elim
   |agg l=>cases y with
    |one y=>exact hl.1.elim
    |agg m=>exact ln hl.1
  refine⟨u,us',rfl, ?_, ?_⟩
  .have hx:∀i z,x.cells[i]? =some z->L[k+i]? =some z:=λ i z hi=>hL i z (by rw[dA,bJ (bq.1 hi).1];exact hi)
   cases x with
   |one x=>cases y with
    |one y=>simp only[fP]at h1⊢;exact wK hA (hx 0 x rfl) hl.1 h1
    |agg _=>exact hl.1.elim
   |agg l=>cases y with
    |one y=>exact hl.1.elim
    |agg m=>
     simp only[fP]at h1⊢;obtain⟨vs,e1,e2⟩:=h1;exact⟨vs,e1,oD hA hx hl.1 e2⟩
  .rw[hlen];refine wx hA (λ i z hi=> ?_) hl.2 h2;have:=hL (x.cells.length+i) z (by rw[dA,bT (ej _ _)];simpa using hi)
   rwa[cq]
 |[],_::_,_,_,_,h,_=>h.elim
 |_::_,[],_,_,_,h,_=>h.elim
theorem p9 (hA:∀b,A' b->A b):∀{ls ms:List (List RO)} {k:Nat} {bs:List ct},(∀i x,ls.flatten[i]? =some x->L[k+i]? =some x)->lB ls ms->dO A w γ k ls bs->dO A' w (γN γ L) k ms bs
 |[],[],k,bs,_,_,h=>by simpa[dO]using h
 |l::ls,m::ms,k,[],_,_,h=>by simp[dO]at h
 |l::ls,m::ms,k, .bP b::bs,hL,hl,h=>by
  simp only[dO]at h⊢;obtain⟨⟨c,e,h1,h2,h3⟩,h4⟩:=h;refine⟨⟨c,e,h1,oD hA (λ i x hi=>hL i x (by rw[fl,bJ (bq.1 hi).1];exact hi)) hl.1 h2,h3⟩, ?_⟩;rw[ln hl.1];refine p9 hA (λ i x hi=> ?_) hl.2 h4;have:=hL (l.length+i) x (by rw[fl,bT (ej _ _)];simpa using hi)
  rwa[cq]
 |l::ls,m::ms,k, .val u::bs,hL,hl,h=>by
  simp only[dO]at h⊢;obtain⟨h1,h4⟩:=h;refine⟨?_, ?_⟩
  .rcases h1 with rfl|h1
   .left
    have:=ln hl.1;exact fW (by simpa using this)
   .right
    exact oD hA (λ i x hi=>hL i x (by rw[fl,bJ (bq.1 hi).1];exact hi)) hl.1 h1
  rw[ln hl.1];refine p9 hA (λ i x hi=> ?_) hl.2 h4;have:=hL (l.length+i) x (by rw[fl,bT (ej _ _)];simpa using hi)
  rwa[cq]
 |[],_::_,_,_,_,h,_=>h.elim
 |_::_,[],_,_,_,h,_=>h.elim
theorem Dp {rfs rfs':List RF} {objs objs':List (List RO)} (h:kL rfs rfs') (ho:lB objs objs'):gb (bA rfs objs) (bA rfs' objs'):=nr (pG h) (sH ho)
theorem dT.le {w':World} {bs:List ct} {rfs rfs':List RF} {objs objs':List (List RO)} {u:Value} (h:dT w A0 aH w' bs rfs objs u) (hl:kL rfs rfs') (ho:lB objs objs'):dT w A0 aH w' bs rfs' objs' u:=by
 obtain⟨⟨γ,us,m1,m2,m3,m4,m5,m6⟩,h2,h3,h4,h5⟩:=h;have hle:=Dp hl ho;have hown:∀{i sz n b o:Nat} {ds:List D} {bo:Bool},(bA rfs' objs')[i]? =some (.own sz n ds bo)->(γN γ (bA rfs objs) i).base=some (b,o)->∃bo',(bA rfs objs)[i]? =some (.own sz n ds bo')/\(bo=false->bo'=false)/\(γ i).base=some (b,o):=λ {i sz n b o ds bo} hi hb=>by
  obtain⟨x,g1,g2⟩:=uM hle hi;rcases EY g2 with⟨bo',rfl,hbo⟩|⟨y,rfl⟩
  .refine⟨bo',g1,hbo, ?_⟩;unfold γN at hb;rw[g1]at hb;exact hb
  .unfold γN at hb;rw[g1]at hb;cases hb
 have hNB:∀b,NB (γN γ (bA rfs objs)) 0 (bA rfs' objs') b->NB γ 0 (bA rfs objs) b:=λ b hb=>by obtain⟨i,sz,n,ds,bo,o,g1,g2⟩:=jO hb;rw[bu]at g2;obtain⟨bo',g3,_,g4⟩:=hown g1 g2;exact fm (k:=0) g3 (by rw[bu];exact g4)
 have hlen:(rfs'.flatMap RF.cells).length=(rfs.flatMap RF.cells).length:=ln (pG hl);refine⟨⟨γN γ (bA rfs objs),us,m1, ?_, ?_,λ b hb=>m4 b (hNB b hb),λ i sz n ds b o hi hb=> ?_,λ i j b o o' sz n ds bo sz' n' ds' bo' hi hj hbi hbj=> ?_⟩,h2,h3,h4,h5⟩
 .exact wx (λ b hb=>hb.imp id (hNB b)) (λ i x hi=>by rw[bu];unfold bA;rw[bJ (bq.1 hi).1];exact hi) hl m2
 .rw[hlen];exact p9 (λ b hb=>hb.imp id (hNB b)) (λ i x hi=>by unfold bA;rw[bT (ej _ _)];simpa using hi) ho m3
 .obtain⟨bo',g1,g0,g2⟩:=hown hi hb;rw[g0 rfl]at g1;exact m5 i sz n ds b o g1 g2
 .obtain⟨b1,g1,_,g2⟩:=hown hi hbi;obtain⟨b2,g3,_,g4⟩:=hown hj hbj;exact m6 i j b o o' sz n ds b1 sz' n' ds' b2 g1 g3 g2 g4
theorem ag.Fh {f:FuncId} {as:List Arg} {rfs':List RF} {objs':List (List RO)} (h:ag P f as (λ r o=>kL r rfs'/\lB o objs')):ag P f as (λ r o=>r=rfs'/\o=objs'):=
 ⟨h.1,λ w A0 aH γ bs us h1 h2 h3 h4 h5 h6=>(h.2 w A0 aH γ bs us h1 h2 h3 h4 h5 h6).mono λ e w' ⟨r,o,u,⟨g1,g2⟩,g3,g4⟩=>⟨rfs',objs',u,⟨rfl,rfl⟩,g3,g4.le g1 g2⟩⟩
theorem c8.Fh {f:FuncId} {as:List Arg} {rfs rfs':List RF} {l l':List RO} (h:c8 P f as rfs l) (hr:kL rfs rfs') (hl:gb l l'):c8 P f as rfs' l':=
 ⟨h.1,λ w A0 us h1 h2=>(h.2 w A0 us h1 h2).mono λ e w' ⟨bs,r,o,u,⟨b,g1,g2,g3⟩,g4,g5,g6⟩=>by subst g1 g2 g3;exact⟨_,_,_,u,⟨b,rfl,rfl,rfl⟩,g4,g5,g6.le ⟨Cy,hr⟩ ⟨hl,trivial⟩⟩⟩
def jt:List Arg->Bool
 |[]=>true
 | .f _::as=>jt as
 |_::_=>false
theorem uj:∀{as:List Arg},jt as=true->br as=[]/\∀o l,Arg.ob o l ∉ as
 |[],_=>⟨rfl,λ o l h=>by simp at h⟩
 | .f x::as,h=>by
  obtain⟨h1,h2⟩:=uj (as:=as) (by simpa[jt]using h)
  exact⟨by simpa[br]using h1,λ o l hl=>by
   rcases dw.1 hl with hl|hl
   .cases hl
   .exact h2 o l hl⟩
 | .ob .. ::_,h=>by simp[jt]at h
 | .row .. ::_,h=>by simp[jt]at h
end
section
variable {T:Nat->Option TI} {P:Program}
end
abbrev mE (l:List Int):List D:=l.flatMap λ n=>[iD n]
structure kP where
 iY:Int
 num:Int
 DW:Int
abbrev kP.enc (x:kP):List D:=[iD x.iY,iD x.num,iD x.DW]
abbrev oK (l:List kP):List D:=l.flatMap kP.enc
structure Lk where
 name:ByteArray
 EI:Int
 token:Int
 line:List Int
abbrev Lk.enc (k:Lk):List D:=[sD k.name,iD k.EI,iD k.token, .sl k.line.length (mE k.line)]
abbrev oA (l:List Lk):List D:=l.flatMap Lk.enc
structure kA where
 name:ByteArray
 token:Int
abbrev kA.enc (g:kA):List D:=[sD g.name,iD g.token]
abbrev oc (l:List kA):List D:=l.flatMap kA.enc
structure mP where
 code:Int
 kq:Int
 ahead:Int
 held:List kA
abbrev mP.enc (r:mP):List D:=[iD r.code,iD r.kq,iD r.ahead, .sl r.held.length (oc r.held)]
abbrev mP.aI (r:mP):List C:=[di r.code,di r.kq,di r.ahead, .aI r.held.length (oc r.held)]
structure Memo where
 iY:Int
 seq:Int
 wS:mP
abbrev Memo.enc (m:Memo):List D:=iD m.iY::iD m.seq::m.wS.enc
abbrev Memo.aI (m:Memo):List C:=di m.iY::di m.seq::m.wS.aI
abbrev oH (l:List Memo):List D:=l.flatMap Memo.enc
structure St where
 time:Int
 num:Int
 token:Int
 pa:List kP
 o7:List Lk
 oM:List Memo
abbrev St.aI (s:St):List C:=[di s.time,di s.num,di s.token, .aI s.pa.length (oK s.pa), .aI s.o7.length (oA s.o7), .aI s.oM.length (oH s.oM)]
abbrev St.rf (s:St):RF:= .agg [.d (iD s.time), .d (iD s.num), .d (iD s.token), .own 3 s.pa.length (oK s.pa) false, .own 4 s.o7.length (oA s.o7) false, .own 6 s.oM.length (oH s.oM) false]
theorem CX {l:List Int}:(mE l).length=l.length*1:=qx _ 1 (λ _=>rfl) l
theorem B6 {l:List Int}:(mE l).length=l.length:=by rw[CX,Nat.mul_one]
theorem tR {l:List Int}:(mE l).take l.length=mE l:=oY (Nat.le_of_eq B6)
theorem tl {l:List kP}:(oK l).take (l.length*3)=oK l:=jI kP.enc 3 (λ _=>rfl) l
theorem sV {l:List Lk}:(oA l).take (l.length*4)=oA l:=jI Lk.enc 4 (λ _=>rfl) l
theorem sv {l:List kA}:(oc l).take (l.length*2)=oc l:=jI kA.enc 2 (λ _=>rfl) l
theorem sM {l:List Memo}:(oH l).take (l.length*6)=oH l:=jI Memo.enc 6 (λ _=>rfl) l
theorem At:type_of% (I (I (I (zO) (I (@tR) (@tl))) (I (@sV) (I (@sv) (@sM)))) (I (I (wh) (I (@fZ.{0,0}) (@Option.map_none.{0,0}))) (I (I (lF) (mJ)) (I (@List.any_cons.{0}) (@List.any_nil.{0}))))):=I (I (I (zO) (I (@tR) (@tl))) (I (@sV) (I (@sv) (@sM)))) (I (I (wh) (I (@fZ.{0,0}) (@Option.map_none.{0,0}))) (I (I (lF) (mJ)) (I (@List.any_cons.{0}) (@List.any_nil.{0}))))
theorem DC {T:Nat->Option TI} {P:Program} {y:Code} {Q:Ex->G->Prop} {g g':G} (h:Gh g g') (hk:ga T P y Q .normal g'):ga T P y Q .normal g:=by
 rcases hk with⟨g1,h1,h2⟩|hk
 .exact .inl ⟨g1,λ cx a w hh=>h1 cx a w (h cx a w hh),h2⟩
 .exact .inr λ cx e R hR a w hh=>hk cx e R hR a w (h cx a w hh)
theorem Du {p:Prop} (h:p):Stop p:=h
theorem CV (n:Nat) {T:Nat->Option TI} {P:Program} {ops:Array Oper} {d:Bool} {Q:Ex->G->Prop} {g:G} (h:Stop (ga T P (.region n ops d) Q .normal g)):
  ga T P (.region n ops d) Q .normal g:=h
section
variable {T:Nat->Option TI} {P:Program}
theorem C2 (n:Nat) {ops:Array Oper} {d:Bool} {x y:Code} {Q:Ex->G->Prop} {g:G} (h:Stop (ga T P (.seq (.seq (.region n ops d) x) y) Q .normal g)):
  ga T P (.seq (.seq (.region n ops d) x) y) Q .normal g:=h
end
theorem zI {p:Prop} (h:p:=by
 ((try with_reducible refine wi ?_);first|(with_reducible rfl)|((with_reducible first|refine wB ?_|refine uB ?_|refine qC ?_);kernel_rfl)|(intros;omega)|(intro q p;rw[q,p];rfl)|(intro q;rw[q];rfl)|(intro q;simp only[cg,dQ,gx]at q;omega)|(intros;simp[List.range,List.range.loop];done)|(intros;simp_all[List.range,List.range.loop];done)|fail)):p:=h
theorem zJ {p:Prop} (h:p:=by
 ((try with_reducible refine wi ?_);first|(with_reducible rfl)|((with_reducible first|refine wB ?_|refine uB ?_|refine qC ?_);kernel_rfl)|(intros;omega)|(intro q p;rw[q,p];rfl)|(intro q;rw[q];rfl)|(intro q;simp only[cg,dQ,gx]at q;omega)|(intros;simp[List.range,List.range.loop];done)|fail)):p:=h
theorem zC {p:Prop} (h:p:=by first|(with_reducible exact True.intro)|(with_reducible refine qC ?_;kernel_rfl)|fail):p:=h
theorem zK {p:Prop} (h:p:=by(simp only[cw,cC,cG,cB,cE,cF,cD,cm,cn,cc,ca,cA,cJ,D.v.injEq,cH];try(repeat'(first|rfl|omega|with_reducible apply And.intro)))):p:=h
theorem zM {p:Prop} (h:p:=by first|(simp[gQ,iQ,jb,j7];done)|fail):p:=h
structure Wr (p:Prop):Prop where
 h:p
section
variable {T:Nat->Option TI} {P:Program} {all:List Oper} {m:M} {rest:List Oper} {dst:Option Nat} {v:List AV} {r:Rs} {K:Ex->G->Prop} {n:FuncId} {as as':List Arg} {rfs:List RF} {f:Operand} {args:Array Operand} {post:List RF->List (List RO)->Prop} {j:Nat} {want c:Bool}
end
section
variable {P:Program} {T:Nat->Option TI}
def FH:FrameMode->Option (Value×FrameMode)
 | .panicking ({v,recovered:=false,goexit:=false}::older)=>some (v, .panicking ({v,recovered:=true}::older))
 |_=>none
def Ep (l:List Value):List RO:=l.map λ x=> .d (.v x)
abbrev Fl (ls:List (List Value)):List Arg:=ls.map λ l=> .obj (Ep l)
end
def Fo (r:Rs) (s k lo n:Nat):Rs:=
 match aa s r with
 |some rs=>(match rs.l[0]?,rs.l[k+1]? with
  |some (some V),some (some R)=>az s ⟨rs.next+1,(rs.l.set (k+1) (some {R with e:=rs.next,cells:=R.cells.drop (lo*R.sz)})).set 0 (some {V with cells:=V.cells.set k (.own ⟨s,k+1,rs.next⟩ 0 n)})⟩ r
  |_,_=>r)
 |none=>r
def Fk (r:Rs) (s k lo n:Nat):Prop:=
 match aa s r with
 |some rs=>(match rs.l[0]?,rs.l[k+1]? with
  |some (some V),some (some R)=>V.var=true/\R.var=false/\V.cells[k]? =some (.own ⟨s,k+1,R.e⟩ lo n)
  |_,_=>False)
 |none=>False
def Fp (pl:Pl) (lo sz:Nat):Pl:=⟨pl.base.map λ q=>(q.1,q.2+lo*sz),pl.cap - lo⟩
section
variable {T:Nat->Option TI} {P:Program} {all:List Oper} {m:M} {rest:List Oper} {v:List AV} {r r':Rs} {K:Ex->G->Prop} {f:Operand} {args:Array Operand} {a:Option (FuncId×List Arg)}
end
section
variable {T:Nat->Option TI} {P:Program} {cx:Cx} {v:List AV} {r:Rs} {a:Act} {w:World} {β:Nat->Nat->Pl}
def FN {τ:Type} (S:τ->G) (J:τ->Prop) (g:G):Prop:=∀(cx:Cx) (a:Act) (w:World),cU cx g a w->∃t,J t/\cU cx (S t) a w
theorem C5 {i j:Nat} {h:Hd} {n:Nat} {x:Value} (hi:v[i]? =some (.one (.d (.raw x)))) (hj:v[j]? =some (.one (.lk h n x))) (hh:cU cx ⟨v,r⟩ a w):cU cx ⟨v.set i (.one (.own h 0 n)),r⟩ a w:=by
 obtain⟨β,hh⟩:=hh;obtain⟨u,g1,g2⟩:=hh.sl i _ hi;obtain⟨u',_,g4⟩:=hh.sl j _ hj;simp only[ak,ae,Rd]at g2 g4;obtain⟨rfl,_⟩:=g2;refine⟨β,{hh with sz:=by simpa using hh.sz,sl:=λ k y hk=> ?_}⟩;simp only[kJ]at hk;by_cases hki:i=k
 .subst hki;rw[ao rfl]at hk;split at hk
  .cases hk;exact⟨u,g1,by simp only[ak,ae];exact g4⟩
  .cases hk
 .rw[aj hki]at hk;exact hh.sl k y hk
theorem Gh.view {i j:Nat} {h:Hd} {n:Nat} {x:Value} (hi:v[i]? =some (.one (.d (.raw x)))) (hj:v[j]? =some (.one (.lk h n x))):Gh ⟨v,r⟩ ⟨v.set i (.one (.own h 0 n)),r⟩:=λ _ _ _ hh=>C5 hi hj hh
def Fy (T:Nat->Option TI) (P:Program) (all:List Oper) (k:Nat) (z:Code) (Q:Ex->G->Prop) (e:Ex) (g:G):Prop:=
 match e with
 | .normal=>∃g',Gh g g'/\aZ T P all ⟨none,[]⟩ (all.drop k) g'.v g'.r (ga T P z Q)
 |_=>False
def FI (T:Nat->Option TI) (rvs:List ResultVar) (q n2:Nat) (J:Value->Prop) (R:Value->List RF) (L:List RO) (e:Ex) (g:G):Prop:=
 (e= .normal∨e= .ret)/\(eJ T g.v g.r rvs).1/\∃(j:Nat) (x:Value),g.v[j]? =some (AV.one (C.lk ⟨q,1,0⟩ n2 x))/\J x/\fY g.r (eJ T g.v g.r rvs).2=some (R x)/\ch g.r [C.own ⟨q,1,0⟩ 0 n2]=some L/\
  gg (dJ g.r (dm (eJ T g.v g.r rvs).2++dD [[C.own ⟨q,1,0⟩ 0 n2]]))=true
end
def Fu:Op->Bool
 | .move _=>true
 | .binOp .. =>true
 | .convert .. =>true
 | .load .. =>true
 | .fieldAddr .. =>true
 | .indexAddr .. =>true
 | .index .. =>true
 | .field .. =>true
 | .slice .. =>true
 | .nilCheck _=>true
 | .extract .. =>true
 | .unOp .. =>true
 | .build .. =>true
 |_=>false
def xa (o:Oper):Oper:={o with dst:=none,op:= .move (.const (.bool false)),guard:=none}
def Fw (p:Nat) (all:List Oper):List Oper:=all.zipIdx.map λ y=>if(y.2==p||((jg all).getD y.2 0).testBit p)=true then xa y.1 else y.1
section
variable {T:Nat->Option TI} {P:Program} {cx:Cx} {K:Ex->G->Prop}
def FK (P:Program) (f:Operand) (args:Array Operand) (x:Value) (g:G):Prop:=
 aO true g.v f/\cr true g.v args.toList/\∃n as,oE P n as x/\(bY g.v g.r f args=some (n,as)∨∃i mv aI l',dv i g.v g.r f args=some (n,as,mv,aI)/\dB g.r none mv aI l')
def E0:List Bool->List Oper->List Oper
 |b::m,o::l=>(if b=true then xa o else o)::E0 m l
 |_,l=>l
def FE (A B:Ex->G->Prop) (c:Bool):Ex->G->Prop:=match c with
 |true=>A
 |false=>B
def FD {α:Type} (b:Bool) (y:α) (e:Int) (r:Except Int α):Prop:=match b with
 |true=>r= .ok y
 |false=>r= .error e
end
end Go.Pk
