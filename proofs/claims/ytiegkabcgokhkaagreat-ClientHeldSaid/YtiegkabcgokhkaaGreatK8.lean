import Derived.Test.YtiegkabcgokhkaaGreatK7
import Derived.Laws.Externs
import Derived.Lib.Bytealg
import Derived.Recover
set_option linter.unusedVariables false
set_option linter.unusedSimpArgs false
set_option linter.unusedSectionVars false
namespace Go.Pk
def iX (Z:List Nat) (s e:Nat):Nat:=if Z.contains s=true then e else 1
mutual
def fU (Z:List Nat):C->C
 | .own h lo n=> .own ⟨h.s,h.j,iX Z h.s h.e⟩ lo n
 | .ptr h off=> .ptr ⟨h.s,h.j,iX Z h.s h.e⟩ off
 | .eP f caps=> .eP f (kT Z caps)
 | .d x=> .d x
 | .aJ n ds=> .aJ n ds
 | .dP ds=> .dP ds
 | .ab=> .ab
 | .dead=> .dead
 | .dZ cs=> .dZ (kT Z cs)
 | .cZ _ _ _ _=> .dead
 | .lk h n x=> .lk ⟨h.s,h.j,iX Z h.s h.e⟩ n x
def kT (Z:List Nat):List C->List C
 |[]=>[]
 |c::cs=>fU Z c::kT Z cs
end
mutual
def iC (Z:List Nat):AV->AV
 | .one x=> .one (fU Z x)
 | .agg l=> .agg (kT Z l)
 | .eY l=> .eY (ir Z l)
 | .gd c x=> .gd c (iC Z x)
def ir (Z:List Nat):List AV->List AV
 |[]=>[]
 |c::cs=>iC Z c::ir Z cs
end
def fk (Z:List Nat) (s:Nat) (res:aY):aY:=if res.var=true then {res with e:=iX Z s res.e,cells:=kT Z res.cells}else {res with e:=iX Z s res.e}
def tG (Z:List Nat) (s:Nat) (rs:RS):RS:=⟨if Z.contains s=true then rs.next else 2,rs.l.map λ x=>x.map (fk Z s)⟩
def gF (Z:List Nat):Rs->Rs
 |[]=>[]
 |(s,rs)::l=>(s,tG Z s rs)::gF Z l
def nS (Z:List Nat) (r:Rs) (h:Hd):Bool:=
 Z.contains h.s||match aB r h.s h.j with
 |some res=>res.e==h.e
 |none=>true
mutual
def jK (Z:List Nat) (r:Rs):C->Bool
 | .own h _ _=>nS Z r h
 | .ptr h _=>nS Z r h
 | .eP _ caps=>nB Z r caps
 | .d _=>true
 | .aJ _ _=>true
 | .dP _=>true
 | .ab=>true
 | .dead=>true
 | .dZ cs=>nB Z r cs
 | .cZ _ _ _ _=>true
 | .lk h _ _=>nS Z r h
def nB (Z:List Nat) (r:Rs):List C->Bool
 |[]=>true
 |c::cs=>jK Z r c&&nB Z r cs
end
mutual
def iE (Z:List Nat) (r:Rs):AV->Bool
 | .one x=>jK Z r x
 | .agg l=>nB Z r l
 | .eY l=>kX Z r l
 | .gd _ x=>iE Z r x
def kX (Z:List Nat) (r:Rs):List AV->Bool
 |[]=>true
 |c::cs=>iE Z r c&&kX Z r cs
end
def ra (Z:List Nat) (r:Rs):Option aY->Bool
 |some res=> !res.var||nB Z r res.cells
 |none=>true
def pg (Z:List Nat) (r:Rs):List (Option aY)->Bool
 |[]=>true
 |x::l=>ra Z r x&&pg Z r l
def qM (Z:List Nat) (r:Rs):Rs->Bool
 |[]=>true
 |(s,rs)::l=>pg Z r rs.l&&qM Z r l
theorem vh {Z:List Nat}:∀{r:Rs} {s:Nat},ah s (gF Z r)=(ah s r).map (tG Z s)
 |[],s=>rfl
 |(t,rs)::l,s=>by
  simp only[gF,ah];by_cases h:t=s
  .subst h;rw[ay rfl,ay rfl];rfl
  .rw[ar h,ar h,vh]
theorem sb {Z:List Nat} {r:Rs} {s j:Nat}:aB (gF Z r) s j=(aB r s j).map (fk Z s):=by
 unfold aB;rw[vh];cases ah s r with
 |none=>rfl
 |some rs=>
  simp only[fE,tG,fl];cases rs.l[j]? with
  |none=>rfl
  |some x=>cases x<;>rfl
theorem vq {Z:List Nat} {r:Rs} {s:Nat}:aq (gF Z r) s=if Z.contains s=true then aq r s else(if(ah s r).isSome then 2 else 0):=by
 unfold aq;rw[vh];cases ah s r with
 |none=>simp
 |some rs=>simp[tG]
theorem mR {Z:List Nat} {s:Nat} {res:aY}:(fk Z s res).fz=res.fz:=by unfold fk;split<;>rfl
theorem yu {Z:List Nat} {s:Nat} {res:aY}:(fk Z s res).var=res.var:=by unfold fk;split<;>rfl
theorem yS {Z:List Nat} {s:Nat} {res:aY}:(fk Z s res).sz=res.sz:=by unfold fk;split<;>rfl
theorem JB {Z:List Nat} {s:Nat} {res:aY}:(fk Z s res).cw=res.cw:=by unfold fk;split<;>rfl
theorem sk {Z:List Nat} {s:Nat} {res:aY}:(fk Z s res).e=iX Z s res.e:=by unfold fk;split<;>rfl
theorem yZ {Z:List Nat}:∀{l:List C},(kT Z l).length=l.length
 |[]=>rfl
 |x::l=>by simp only[kT,de,yZ]
theorem Jz {Z:List Nat} {s:Nat} {res:aY}:(fk Z s res).cells.length=res.cells.length:=by unfold fk;split<;>simp[yZ]
section
variable {cx:Cx} {w:World} {r:Rs} {β:Nat->Nat->Pl} {Z:List Nat}
theorem Nc {b:Nat}:OB (gF Z r) β b↔OB r β b:=by
 constructor
 .rintro⟨s,j,res,o,h1,h2,h3⟩
  rw[sb]at h1;cases hl:aB r s j with
  |none=>rw[hl]at h1;cases h1
  |some res0=>
   rw[hl]at h1;simp only[fE,aQ]at h1;subst h1;exact⟨s,j,res0,o,hl,by rwa[mR]at h2,h3⟩
 .rintro⟨s,j,res,o,h1,h2,h3⟩
  exact⟨s,j,fk Z s res,o,by rw[sb,h1];rfl,by rw[mR];exact h2,h3⟩
theorem oK:Av cx (gF Z r) β=Av cx r β:=by funext b;simp only[Av,Nc]
theorem vC {h:Hd} {res':aY} (hc:nS Z r h=true) (hg:aK (gF Z r) ⟨h.s,h.j,iX Z h.s h.e⟩=some res'):
  ∃res,aK r h=some res/\res'=fk Z h.s res:=by
 obtain⟨h1,h2⟩:=bq hg;rw[sb]at h1;simp only at h1 h2;cases hl:aB r h.s h.j with
 |none=>rw[hl]at h1;cases h1
 |some res=>
  rw[hl]at h1;simp only[fE,aQ]at h1;subst h1;refine⟨res,ed hl ?_,rfl⟩;unfold nS at hc;rw[sk]at h2;by_cases hz:Z.contains h.s=true
  .simp only[iX,ay hz]at h2;exact h2
  .rw[hl]at hc;simp only[hz,nJ,kN]at hc;exact hc
theorem sJ {h:Hd} (hlt:h.e<aq r h.s):iX Z h.s h.e<aq (gF Z r) h.s:=by
 rw[vq];unfold iX;split
 .exact hlt
 .have:(ah h.s r).isSome=true:=by
   unfold aq at hlt;cases hf:ah h.s r with
   |none=>rw[hf]at hlt;simp at hlt
   |some _=>rfl
  rw[ay this];decide
theorem vB {pl:Pl} {s:Nat} {res:aY} {lo n:Nat} {u:Value} (h:jR pl res lo n u):jR pl (fk Z s res) lo n u:=
 h.same yu yS (Nat.le_of_eq Jz.symm)
mutual
theorem BE:∀{c:C} {u:Value},jK Z r c=true->aw cx w r β c u->aw cx w (gF Z r) β (fU Z c) u
 | .d _,_,_,h=>by simp only[fU,aw,oK]at h⊢;exact h
 | .aJ n ds,_,_,h=>by simp only[fU,aw,oK]at h⊢;exact h
 | .own hd lo n,u,hc,h=>by simp only[fU,aw,jK]at h hc⊢;obtain⟨h1,h2,h3⟩:=h;refine⟨h1,sJ h2,λ res' hr=> ?_⟩;obtain⟨res,g1,rfl⟩:=vC hc hr;exact vB (h3 res g1)
 | .ptr hd off,u,hc,h=>by simp only[fU,aw,jK]at h hc⊢;obtain⟨h1,h2,h3⟩:=h;refine⟨h1,sJ h2,λ res' hr=> ?_⟩;obtain⟨res,g1,rfl⟩:=vC hc hr;exact h3 res g1
 | .dP ds,_,_,h=>by simp only[fU,aw,oK]at h⊢;exact h
 | .eP f caps,_,hc,h=>by simp only[fU,aw,jK]at h hc⊢;obtain⟨us,h1,h2⟩:=h;exact⟨us,h1,pY hc h2⟩
 | .ab,_,_,h=>by simpa only[fU,aw]using h
 | .dead,_,_,_=>by simp[fU,aw]
 | .dZ cs,_,hc,h=>by simp only[fU,aw]at h⊢;obtain⟨b,o,us,h1,h2,h3,h4,h5⟩:=h;exact⟨b,o,us,h1,h2,by rw[oK];exact h3,h4,pY hc h5⟩
 | .cZ _ _ _ _,_,_,_=>by simp[fU,aw]
 | .lk hd n x,u,hc,h=>by simp only[fU,aw,jK]at h hc⊢;obtain⟨h1,h2,h3⟩:=h;refine⟨h1,sJ h2,λ res' hr=> ?_⟩;obtain⟨res,g1,rfl⟩:=vC hc hr;exact vB (h3 res g1)
theorem pY:∀{c:List C} {u:List Value},nB Z r c=true->aC cx w r β c u->aC cx w (gF Z r) β (kT Z c) u
 |[],_,_,h=>by simpa[kT,aC]using h
 |c::cs,_,hc,h=>by simp only[kT,aC,nB,cu]at h hc⊢;obtain⟨u,us,h1,h2,h3⟩:=h;exact⟨u,us,h1,BE hc.1 h2,pY hc.2 h3⟩
end
mutual
theorem vA:∀{c:AV} {u:Value},iE Z r c=true->aA cx w r β c u->aA cx w (gF Z r) β (iC Z c) u
 | .one _,_,hc,h=>by simp only[iC,aA,iE]at h hc⊢;exact BE hc h
 | .agg l,_,hc,h=>by simp only[iC,aA,iE]at h hc⊢;obtain⟨us,h1,h2⟩:=h;exact⟨us,h1,pY hc h2⟩
 | .eY l,_,hc,h=>by simp only[iC,aA,iE]at h hc⊢;obtain⟨us,h1,h2⟩:=h;exact⟨us,h1,Ad hc h2⟩
 | .gd c y,_,hc,h=>by simp only[iC,aA,iE]at h hc⊢;exact⟨λ he=>vA hc (h.1 he),h.2⟩
theorem Ad:∀{c:List AV} {u:List Value},kX Z r c=true->aZ cx w r β c u->aZ cx w (gF Z r) β (ir Z c) u
 |[],_,_,h=>by simpa[ir,aZ]using h
 |c::cs,_,hc,h=>by simp only[ir,aZ,kX,cu]at h hc⊢;obtain⟨u,us,h1,h2,h3⟩:=h;exact⟨u,us,h1,vA hc.1 h2,Ad hc.2 h3⟩
end
theorem zV:∀{l:List (Option aY)} {j:Nat} {res:aY},pg Z r l=true->l[j]? =some (some res)->ra Z r (some res)=true
 |[],_,_,_,h=>by simp at h
 |x::l,0,res,h,hj=>by simp only[bZ,aQ]at hj;subst hj;simp only[pg,cu]at h;exact h.1
 |x::l,j+1,res,h,hj=>by simp only[pg,cu]at h;exact zV h.2 (by simpa using hj)
theorem zx:∀{l:Rs} {s:Nat} {rs:RS},qM Z r l=true->ah s l=some rs->pg Z r rs.l=true
 |[],_,_,_,h=>by simp[ah]at h
 |(t,rs')::l,s,rs,h,hf=>by
  simp only[qM,cu]at h;simp only[ah]at hf;split at hf
  .cases hf;exact h.1
  .exact zx h.2 hf
theorem KA {pl:Pl} {s:Nat} {res:aY} (hc:ra Z r (some res)=true) (h:bB cx w r β pl res):bB cx w (gF Z r) β pl (fk Z s res):=by
 unfold bB at h⊢;rw[yu];by_cases hv:res.var=true
 .rw[ay hv]at h⊢;simp only[ra,hv,oS,nJ]at hc;obtain⟨h0,b,c,e,h1,h2,h3,h4⟩:=h;exact⟨by rw[mR];exact h0,b,c,e,h1,h2,by unfold fk;rw[ay hv];exact pY hc h3,h4⟩
 .rw[ar hv]at h⊢;obtain⟨ds,h1,h2,h3⟩:=h;refine⟨ds,by unfold fk;rw[ar hv];exact h1,by rw[yS,oK];exact h2, ?_⟩;rw[mR,oK];exact h3
end
theorem Gh.can (Z:List Nat) {v:List AV} {r:Rs} (hv:kX Z r v=true) (hr:qM Z r r=true):Gh ⟨v,r⟩ ⟨ir Z v,gF Z r⟩:=λ cx a w ⟨β,hh⟩=>by
 have hlk:∀{s j:Nat} {res:aY},aB (gF Z r) s j=some res->∃res0,aB r s j=some res0/\res=fk Z s res0:=λ {s j res} hl=>by
  rw[sb]at hl;cases h0:aB r s j with
  |none=>rw[h0]at hl;cases hl
  |some res0=>rw[h0]at hl;simp only[fE,aQ]at hl;exact⟨res0,rfl,hl.symm⟩
 have hO:∀{s j:Nat} {res:aY},aB r s j=some res->ra Z r (some res)=true:=λ {s j res} hl=>by
  unfold aB at hl;split at hl
  .rename_i rs hf;split at hl
   .rename_i res' hj;cases hl;exact zV (zx hr hf) hj
   .cases hl
  .cases hl
 have hlen:∀(l:List AV),(ir Z l).length=l.length:=λ l=>by induction l with
  |nil=>rfl
  |cons x l ih=>simp only[ir,de,ih]
 have hget:∀(l:List AV) (i:Nat) (y:AV),kX Z r l=true->(ir Z l)[i]? =some y->∃x,l[i]? =some x/\y=iC Z x/\iE Z r x=true:=λ l=>by
  induction l with
  |nil=>intro i y _ h;simp[ir]at h
  |cons x l ih=>
   intro i y hc h;simp only[kX,cu]at hc;cases i with
   |zero=>simp only[ir,bZ,aQ]at h;exact⟨x,rfl,h.symm,hc.1⟩
   |succ i=>simpa using ih i y hc.2 (by simpa[ir]using h)
 refine⟨β, ?_⟩
 refine {sz:=by rw[hh.sz];exact(hlen v).symm,df:=hh.df,sl:=λ i y hi=> ?_,rs:=λ s j res hl=> ?_,inj:=λ s j res s' j' res' b o o' h1 f1 h2 f2 hb1 hb2=> ?_,
          fr:=λ s j res b o hl hf hb=> ?_,n0:=hh.n0,ba:=hh.ba,a0:=hh.a0,cw:=hh.cw,ob:=λ p b hm=> ?_,rw:=λ p n u hm=> ?_,os:=hh.os,out:=hh.out}
 .obtain⟨x,h1,rfl,h3⟩:=hget v i y hv hi;obtain⟨u,g1,g2⟩:=hh.sl i x h1;exact⟨u,g1,vA h3 g2⟩
 .obtain⟨res0,h0,rfl⟩:=hlk hl;obtain⟨g1,g2⟩:=hh.rs s j res0 h0;refine⟨KA (hO h0) g1, ?_⟩;rw[sk];exact sJ (h:=⟨s,j,res0.e⟩) g2
 .obtain⟨r1,e1,rfl⟩:=hlk h1;obtain⟨r2,e2,rfl⟩:=hlk h2;exact hh.inj _ _ _ _ _ _ _ _ _ e1 (by rwa[mR]at f1) e2 (by rwa[mR]at f2) hb1 hb2
 .obtain⟨r1,e1,rfl⟩:=hlk hl;rw[mR]at hf;rw[JB];exact hh.fr _ _ _ _ _ e1 hf hb
 .obtain⟨h1,h2⟩:=hh.ob p b hm;refine⟨?_,λ res hg=> ?_⟩
  .rw[vq];split
   .exact h1
   .have:(ah p r).isSome=true:=by
     unfold aq at h1;cases hf:ah p r with
     |none=>rw[hf]at h1;simp at h1
     |some _=>rfl
    rw[ay this];decide
  .obtain⟨e1,e2⟩:=bq hg;obtain⟨r1,e3,rfl⟩:=hlk e1;rw[sk]at e2;simp only at e2;unfold iX at e2;split at e2
   .exact h2 r1 (ed e3 e2)
   .simp at e2
 .have:=hh.rw p n u hm;simp only[aw]at this⊢;obtain⟨h1,h2,h3⟩:=this;refine⟨h1, ?_,λ res hg=> ?_⟩
  .rw[vq];split
   .exact h2
   .have:(ah p r).isSome=true:=by
     unfold aq at h2;cases hf:ah p r with
     |none=>rw[hf]at h2;simp at h2
     |some _=>rfl
    rw[ay this];decide
  .obtain⟨e1,e2⟩:=bq hg;obtain⟨r1,e3,rfl⟩:=hlk e1;rw[sk]at e2;simp only at e2;unfold iX at e2;split at e2
   .exact vB (h3 r1 (ed e3 e2))
   .simp at e2
def eb (Z:List Nat) (r:Rs):List AV->List AV->Prop
 |[],[]=>True
 |x::xs,y::ys=>(y= .one .dead∨(iE Z r x=true/\iC Z x=y))/\eb Z r xs ys
 |_,_=>False
theorem bT {Z:List Nat} {r:Rs}:eb Z r [] []=True:=rfl
theorem bS {Z:List Nat} {r:Rs} {x:AV} {xs ys:List AV}:eb Z r (x::xs) (.one .dead::ys)=eb Z r xs ys:=by simp[eb]
theorem bW {Z:List Nat} {r:Rs} {x y:D} {xs ys:List AV}:eb Z r (.one (.d x)::xs) (.one (.d y)::ys)=(x=y/\eb Z r xs ys):=by simp[eb,iC,fU,iE,jK]
theorem bR {Z:List Nat} {r:Rs} {n:Nat} {x:List D} {xs ys:List AV}:eb Z r (.one (.aJ n x)::xs) (.one (.aJ n x)::ys)=eb Z r xs ys:=by simp[eb,iC,fU,iE,jK]
theorem bU {Z:List Nat} {r:Rs} {h h':Hd} {o:Nat} {xs ys:List AV}:eb Z r (.one (.ptr h o)::xs) (.one (.ptr h' o)::ys)=((nS Z r h=true/\(⟨h.s,h.j,iX Z h.s h.e⟩:Hd)=h')/\eb Z r xs ys):=by simp[eb,iC,fU,iE,jK]
theorem bV {Z:List Nat} {r:Rs} {h h':Hd} {o n m:Nat} {xs ys:List AV}:eb Z r (.one (.own h o n)::xs) (.one (.own h' o m)::ys)=((nS Z r h=true/\(⟨h.s,h.j,iX Z h.s h.e⟩:Hd)=h'/\n=m)/\eb Z r xs ys):=by simp[eb,iC,fU,iE,jK]
theorem u9 {Z:List Nat} {r:Rs} {x y:AV} {xs ys:List AV} (h1:iE Z r x=true) (h2:iC Z x=y):eb Z r (x::xs) (y::ys)=eb Z r xs ys:=by simp[eb,h1,h2]
theorem Ba {Z:List Nat} {r:Rs}:∀{v v':List AV},eb Z r v v'->∃v1,fH v v1/\kX Z r v1=true/\ir Z v1=v'
 |[],[],_=>⟨[],trivial,rfl,rfl⟩
 |x::xs,y::ys,h=>by
  obtain⟨h1,h2⟩:=h;obtain⟨v1,g1,g2,g3⟩:=Ba h2;rcases h1 with rfl|⟨h1,rfl⟩
  .exact⟨.one .dead::v1,⟨.inl rfl,g1⟩,by simp[kX,iE,jK,g2],by simp[ir,iC,fU,g3]⟩
  .exact⟨x::v1,⟨.inr rfl,g1⟩,by simp[kX,h1,g2],by simp[ir,g3]⟩
 |[],_::_,h=>h.elim
 |_::_,[],h=>h.elim
theorem Gh.canon (b8 adds Z:List Nat) {v v':List AV} {r r':Rs} (h:eb Z (iJ b8 r++adds.map λ s=>(s,(⟨0,[]⟩:RS))) v v')
  (hc:qM Z (iJ b8 r++adds.map λ s=>(s,(⟨0,[]⟩:RS))) (iJ b8 r++adds.map λ s=>(s,(⟨0,[]⟩:RS)))=true)
  (hr:gF Z (iJ b8 r++adds.map λ s=>(s,(⟨0,[]⟩:RS)))=r'):Gh ⟨v,r⟩ ⟨v',r'⟩:=by
 obtain⟨v1,h1,h2,h3⟩:=Ba h;subst hr h3;exact(Gh.b8 b8 adds h1 rfl).trans (Gh.can Z h2 hc)
def CB (r:Rs) (s k sz:Nat):Rs:=
 match ah s r with
 |some rs=>(match rs.l[0]? with
  |some (some V)=>aM s ⟨rs.next+1,(rs.l.set (k+1) (some {e:=rs.next,var:=false,fz:=false,sz,cells:=[]})).set 0 (some {V with cells:=V.cells.set k (.own ⟨s,k+1,rs.next⟩ 0 0)})⟩ r
  |_=>r)
 |none=>r
def vH:Option C->Bool
 |some (.d (.v (.slice none 0 0)))=>true
 |_=>false
def Cj (r:Rs) (s k:Nat):Bool:=
 match ah s r with
 |some rs=>(match rs.l[0]?,rs.l[k+1]? with
  |some (some V),some none=>V.var&&vH V.cells[k]?
  |_,_=>false)
 |none=>false
theorem Kr {x:Option C} (h:vH x=true):x=some (.d (.v (.slice none 0 0))):=by
 unfold vH at h;split at h
 .rfl
 .cases h
theorem Gh.N6 {v:List AV} {r:Rs} (s k sz:Nat) (hok:Cj r s k=true):Gh ⟨v,r⟩ ⟨v,CB r s k sz⟩:=λ cx a w ⟨β,hh⟩=>by
 unfold Cj at hok;unfold CB;cases hf:ah s r with
 |none=>rw[hf]at hok;cases hok
 |some rs=>
  rw[hf]at hok;simp only at hok⊢;split at hok
  case h_2=>cases hok
  case h_1 V h0 hk=>
   simp only[cu]at hok;obtain⟨hv,hn⟩:=hok;have hn:=Kr hn;simp only[h0];have hnx:aq r s=rs.next:=by unfold aq;rw[hf]
   have hklt:k+1<rs.l.length:=(bJ.1 hk).1
   let row:aY:={e:=rs.next,var:=false,fz:=false,sz,cells:=[]}
   let r1:Rs:=aM s ⟨rs.next+1,rs.l.set (k+1) (some row)⟩ r
   let β':Nat->Nat->Pl:=λ s' j'=>if s'=s/\j'=k+1 then⟨none,0⟩else β s' j'
   have hβ0:β' s (k+1)=⟨none,0⟩:=by simp[β']
   have hβ1:∀s' j',¬(s'=s/\j'=k+1)->β' s' j'=β s' j':=λ s' j' hn=>by simp[β',hn]
   have hl:∀s' j' res,aB r1 s' j'=some res->(s'=s/\j'=k+1/\res=row)∨(¬(s'=s/\j'=k+1)/\aB r s' j'=some res):=λ s' j' res hl=>by
    simp only[r1]at hl;rw[dH]at hl;by_cases hs:s=s'
    .subst hs;rw[ay rfl]at hl;simp only[kl]at hl;by_cases hj:k+1=j'
     .subst hj;rw[ay rfl,ay hklt]at hl;simp only[aQ]at hl;exact .inl ⟨rfl,rfl,hl.symm⟩
     .rw[ar hj]at hl;refine .inr ⟨λ h=>hj h.2.symm, ?_⟩;unfold aB;rw[hf];exact hl
    .rw[ar hs]at hl;exact .inr ⟨λ h=>hs h.1.symm,hl⟩
   have hx:Ext cx w r β w r1 β':=by
    refine⟨λ t=> ?_,λ hd res' hlt hg=> ?_,⟨λ _ _ _=>rfl,λ b _ hA=> ?_⟩,λ _ _ _=>rfl,rfl,rfl⟩
    .simp only[r1];rw[c5];split
     .rename_i e;subst e;rw[hnx];exact lN _
     .exact Nat.le_refl _
    .obtain⟨e1,e2⟩:=bq hg;rcases hl _ _ _ e1 with⟨q1,q2,q3⟩|⟨q1,q2⟩
     .subst q3;rw[q1,hnx]at hlt;simp only[row]at e2;omega
     .exact⟨res',ed q2 e2,hβ1 _ _ q1,rfl,rfl,Nat.le_refl _⟩
    .rcases hA with hA|⟨t,j,res,o,e1,e2,e3⟩
     .exact .inl hA
     .rcases hl _ _ _ e1 with⟨q1,q2,q3⟩|⟨q1,q2⟩
      .rw[q1,q2,hβ0]at e3;cases e3
      .rw[hβ1 _ _ q1]at e3;exact .inr ⟨t,j,res,o,q2,e2,e3⟩
   have h1:aH cx ⟨v,r1⟩ a w β':=hh.mk' hx (λ t j res e1=>by
     rcases hl _ _ _ e1 with⟨q1,q2,q3⟩|⟨q1,q2⟩
     .subst q1;subst q2;subst q3;rw[hβ0];refine⟨lj (ds:=[]) rfl rfl rfl (by simp[b5]), ?_⟩;simp only[r1];rw[c5,ay rfl];exact eX _
     .obtain⟨g1,g2⟩:=hh.rs _ _ _ q2;rw[hβ1 _ _ q1];exact⟨g1.ext hx (λ _ _ _=>rfl) (λ b o hb=>g1.lt hb),dI g2 (hx.nx t)⟩)
    (λ t j res t' j' res' b o o' e1 f1 e2 f2 b1 b2=>by
     rcases hl _ _ _ e1 with⟨q1,q2,q3⟩|⟨q1,q2⟩
     .rw[q1,q2,hβ0]at b1;cases b1
     .rcases hl _ _ _ e2 with⟨p1,p2,p3⟩|⟨p1,p2⟩
      .rw[p1,p2,hβ0]at b2;cases b2
      .rw[hβ1 _ _ q1]at b1;rw[hβ1 _ _ p1]at b2;exact hh.inj _ _ _ _ _ _ _ _ _ q2 f1 p2 f2 b1 b2)
    (λ t j res b o e1 f1 b1=>by
     rcases hl _ _ _ e1 with⟨q1,q2,q3⟩|⟨q1,q2⟩
     .rw[q1,q2,hβ0]at b1;cases b1
     .rw[hβ1 _ _ q1]at b1;exact hh.fr _ _ _ _ _ q2 f1 b1) (Nat.le_refl _)
   have hlk0:aB r s 0=some V:=by unfold aB;simp only[hf,h0]
   have hok0:=(hh.rs _ _ _ hlk0).1;unfold bB at hok0;rw[ay hv]at hok0;obtain⟨p0,b,arr,e,p1,p2,p3,p4⟩:=hok0;obtain⟨u,hu1,hu2⟩:=gf p3 hn;have hu:=(eH.1 hu2).1;subst hu;have hfr:ah s r1=some ⟨rs.next+1,rs.l.set (k+1) (some row)⟩:=by simp only[r1];rw[cp,ay rfl]
   obtain⟨β2,t1,t2,t3⟩:=h1.sV (next':=rs.next+1) (x:= .own ⟨s,k+1,rs.next⟩ 0 0) (V:=V) (k:=k) (b:=b) (cs:=arr) (e:=e) (u:= .slice none 0 0) hfr
    (by simp only[il (show k+1≠0 by omega),h0]) hv (by rw[hβ1 s 0 (by omega)];exact p1) p2 (by simpa using hu1) (by
     simp only[aw];refine⟨rfl, ?_,λ res hr=> ?_⟩
     .simp only[r1];rw[c5,ay rfl];exact eX _
     .obtain⟨e1,e2⟩:=bq hr;rcases hl _ _ _ e1 with⟨q1,q2,q3⟩|⟨q1,q2⟩
      .subst q3;rw[hβ0];exact⟨rfl,by simp,Nat.le_refl _,none,rfl, .inl rfl⟩
      .exact absurd ⟨rfl,rfl⟩ q1) (Nat.le_refl _)
   refine⟨β2,t1.congr λ t=> ?_⟩;simp only[r1];rw[cp,cp,cp];split
   .rfl
   .rfl
def Oh (r:Rs) (s k:Nat) (x:C):Rs:=
 match jj r x with
 |some (d,r')=>(match ah s r' with
  |some rs=>(match rs.l[0]? with
   |some (some V)=>aM s ⟨rs.next,rs.l.set 0 (some {V with cells:=V.cells.set k (.d d)})⟩ r'
   |_=>r)
  |none=>r)
 |none=>r
def Of (r:Rs) (s k:Nat) (x:C):Prop:=
 match jj r x with
 |some (_,r')=>(match ah s r' with
  |some rs=>(match rs.l[0]? with
   |some (some V)=>V.var=true/\V.cells[k]? =some x
   |_=>False)
  |none=>False)
 |none=>False
abbrev iD (n:Int):D:= .v (.int .i64 n)
abbrev uD (n:Int):D:= .v (.int .u8 n)
abbrev bD (b:Bool):D:= .v (.bool b)
abbrev sD (s:ByteArray):D:= .v (.string s)
abbrev di (n:Int):C:= .d (.v (.int .i64 n))
abbrev db (n:Bool):C:= .d (.v (.bool n))
abbrev dS (s:ByteArray):C:= .d (.v (.string s))
abbrev ai (n:Int):AV:= .one (.d (.v (.int .i64 n)))
abbrev au (n:Int):AV:= .one (.d (.v (.int .u8 n)))
abbrev mI (s:ByteArray):AV:= .one (.d (.v (.string s)))
abbrev ab (b:Bool):AV:= .one (.d (.v (.bool b)))
abbrev rb (b:Bool):RF:= .one (.d (.v (.bool b)))
abbrev ri (n:Int):RF:= .one (.d (.v (.int .i64 n)))
abbrev dd:AV:= .one .dead
def wV (l:List AV):List AV:=dd::dd::l
def wU (l:List AV):List AV:=dd::wV l
def wN (l:List AV):List AV:=dd::wU l
def wZ (l:List AV):List AV:=dd::wN l
def wR (l:List AV):List AV:=dd::wZ l
def wW (l:List AV):List AV:=dd::wR l
def wS (l:List AV):List AV:=dd::wW l
def wO (l:List AV):List AV:=dd::wS l
def wj (l:List AV):List AV:=dd::wO l
def we (l:List AV):List AV:=dd::wj l
def wo (l:List AV):List AV:=dd::we l
def wH (l:List AV):List AV:=dd::wo l
def v5 (l:List AV):List AV:=dd::wH l
def wm (l:List AV):List AV:=dd::v5 l
def wM (l:List AV):List AV:=dd::wm l
def wI (l:List AV):List AV:=dd::wM l
def vZ (l:List AV):List AV:=dd::wI l
def vW (l:List AV):List AV:=dd::vZ l
def wg (l:List AV):List AV:=dd::vW l
def wB (l:List AV):List AV:=dd::wg l
def v9 (l:List AV):List AV:=dd::wB l
def wc (l:List AV):List AV:=dd::v9 l
def wE (l:List AV):List AV:=dd::wc l
def wF (l:List AV):List AV:=dd::wE l
def wA (l:List AV):List AV:=dd::wF l
def wD (l:List AV):List AV:=dd::wA l
def wk (l:List AV):List AV:=dd::wD l
def vY (l:List AV):List AV:=dd::wk l
def wK (l:List AV):List AV:=dd::vY l
def wC (l:List AV):List AV:=dd::wK l
def vV (l:List AV):List AV:=dd::wC l
def v7 (l:List AV):List AV:=dd::vV l
def wL (l:List AV):List AV:=dd::v7 l
def vX (l:List AV):List AV:=dd::wL l
def wJ (l:List AV):List AV:=dd::vX l
def wi (l:List AV):List AV:=dd::wJ l
def v8 (l:List AV):List AV:=dd::wi l
def wq (l:List AV):List AV:=dd::v8 l
def N2 (l:List AV):List AV:=dd::wq l
def Oc (s:Nat):AV:= .one (.ptr ⟨s,0,1⟩ 0)
def Od (e:Nat) (cs:List C):Option aY:=some {e:=e,var:=true,fz:=false,sz:=0,cells:=cs}
def N9 (e sz:Nat) (ds:List D):Option aY:=some {e:=e,var:=false,fz:=false,sz:=sz,cells:=ds.map C.d}
theorem bN:(∀l,wV l=dd::dd::l)/\(∀l,wU l=dd::wV l)/\(∀l,wN l=dd::wU l)/\(∀l,wZ l=dd::wN l)/\(∀l,wR l=dd::wZ l)/\(∀l,wW l=dd::wR l)/\(∀l,wS l=dd::wW l)/\(∀l,wO l=dd::wS l)/\(∀l,wj l=dd::wO l)/\(∀l,we l=dd::wj l)/\(∀l,wo l=dd::we l)/\(∀l,wH l=dd::wo l)/\(∀l,v5 l=dd::wH l)/\(∀l,wm l=dd::v5 l)/\(∀l,wM l=dd::wm l)/\(∀l,wI l=dd::wM l)/\(∀l,vZ l=dd::wI l)/\(∀l,vW l=dd::vZ l)/\(∀l,wg l=dd::vW l)/\(∀l,wB l=dd::wg l)/\(∀l,v9 l=dd::wB l)/\(∀l,wc l=dd::v9 l)/\(∀l,wE l=dd::wc l)/\(∀l,wF l=dd::wE l)/\(∀l,wA l=dd::wF l)/\(∀l,wD l=dd::wA l)/\(∀l,wk l=dd::wD l)/\(∀l,vY l=dd::wk l)/\(∀l,wK l=dd::vY l)/\(∀l,wC l=dd::wK l)/\(∀l,vV l=dd::wC l)/\(∀l,v7 l=dd::vV l)/\(∀l,wL l=dd::v7 l)/\(∀l,vX l=dd::wL l)/\(∀l,wJ l=dd::vX l)/\(∀l,wi l=dd::wJ l)/\(∀l,v8 l=dd::wi l)/\(∀l,wq l=dd::v8 l)/\(∀l,N2 l=dd::wq l)/\(∀s,Oc s= .one (.ptr ⟨s,0,1⟩ 0))/\(∀e cs,Od e cs=some {e:=e,var:=true,fz:=false,sz:=0,cells:=cs})/\(∀e sz ds,N9 e sz ds=some {e:=e,var:=false,fz:=false,sz:=sz,cells:=ds.map C.d}):=
 ⟨λ _=>rfl,λ _=>rfl,λ _=>rfl,λ _=>rfl,λ _=>rfl,λ _=>rfl,λ _=>rfl,λ _=>rfl,λ _=>rfl,λ _=>rfl,λ _=>rfl,λ _=>rfl,λ _=>rfl,λ _=>rfl,λ _=>rfl,λ _=>rfl,λ _=>rfl,λ _=>rfl,λ _=>rfl,λ _=>rfl,λ _=>rfl,λ _=>rfl,λ _=>rfl,λ _=>rfl,λ _=>rfl,λ _=>rfl,λ _=>rfl,λ _=>rfl,λ _=>rfl,λ _=>rfl,λ _=>rfl,λ _=>rfl,λ _=>rfl,λ _=>rfl,λ _=>rfl,λ _=>rfl,λ _=>rfl,λ _=>rfl,λ _=>rfl,λ _=>rfl,λ _ _=>rfl,λ _ _ _=>rfl⟩
abbrev cY:AV:= .one (.d (.v (.slice none 0 0)))
abbrev al (n:Nat) (ds:List D):AV:= .one (.aJ n ds)
abbrev ep:Int:=2305843009213693952
def i64 (n:Int):Prop:= -9223372036854775808≤n/\n<9223372036854775808
structure br where
 bh:Int
 seq:Int
 kind:Int
 aF:Int
 name:ByteArray
abbrev br.enc (r:br):List D:=[iD r.bh,iD r.seq,iD r.kind,iD r.aF,sD r.name]
def br.ok (r:br):Prop:=i64 r.bh/\i64 r.seq/\i64 r.kind/\i64 r.aF/\r.name.size<2^62
structure Gq where
 view:Int
 slot:Int
 deriving DecidableEq
structure Batch where
 fill:Bool
 view:Int
 jl:Gq
 time:Int
 reqs:List br
abbrev tu (l:List br):List D:=l.flatMap br.enc
abbrev Batch.enc (b:Batch):List D:=[bD b.fill,iD b.view,iD b.jl.view,iD b.jl.slot,iD b.time, .sl b.reqs.length (tu b.reqs)]
abbrev Batch.aJ (b:Batch):List C:=[db b.fill,di b.view,di b.jl.view,di b.jl.slot,di b.time, .aJ b.reqs.length (tu b.reqs)]
def Batch.ok (b:Batch):Prop:=i64 b.view/\i64 b.jl.view/\i64 b.jl.slot/\i64 b.time/\b.reqs.length<2^42/\∀r∈b.reqs,r.ok
structure lR where
 slot:Int
 Co:Int
 batch:Batch
abbrev lR.enc (v:lR):List D:=iD v.slot::iD v.Co::v.batch.enc
def lR.ok (v:lR):Prop:=i64 v.slot/\i64 v.Co/\v.batch.ok
structure lb where
 src:Int
 done:Int
 jl:Gq
 time:Int
 oR:List lR
abbrev sN (l:List lR):List D:=l.flatMap lR.enc
abbrev lb.enc (p:lb):List D:=[iD p.src,iD p.done,iD p.jl.view,iD p.jl.slot,iD p.time, .sl p.oR.length (sN p.oR)]
abbrev lb.aJ (p:lb):List C:=[di p.src,di p.done,di p.jl.view,di p.jl.slot,di p.time, .aJ p.oR.length (sN p.oR)]
def lb.ok (p:lb):Prop:=i64 p.src/\i64 p.done/\i64 p.jl.view/\i64 p.jl.slot/\i64 p.time/\p.oR.length<2^42/\∀v∈p.oR,v.ok
abbrev zw (l:List lb):List D:=l.flatMap lb.enc
abbrev AQ (l:List Batch):List D:=l.flatMap Batch.enc
theorem C' {n:Nat}:sub 0 0 n []=[]:=by simp[sub]
theorem Cq {x0:C}:sub 0 1 1 [x0]=[x0]:=rfl
theorem Cf {x0 x1:C}:sub 0 1 2 [x0,x1]=[x0,x1]:=rfl
theorem B1 {x0 x1 x2:C}:sub 0 1 3 [x0,x1,x2]=[x0,x1,x2]:=rfl
theorem Cw {x0 x1 x2 x3:C}:sub 0 1 4 [x0,x1,x2,x3]=[x0,x1,x2,x3]:=rfl
theorem Cr {x0 x1 x2 x3 x4:C}:sub 0 1 5 [x0,x1,x2,x3,x4]=[x0,x1,x2,x3,x4]:=rfl
theorem Ct {x0 x1 x2 x3 x4 x5:C}:sub 0 1 6 [x0,x1,x2,x3,x4,x5]=[x0,x1,x2,x3,x4,x5]:=rfl
theorem Cu {x0 x1 x2 x3 x4 x5 x6:C}:sub 0 1 7 [x0,x1,x2,x3,x4,x5,x6]=[x0,x1,x2,x3,x4,x5,x6]:=rfl
theorem Ce {x0 x1 x2 x3 x4 x5 x6 x7:C}:sub 0 1 8 [x0,x1,x2,x3,x4,x5,x6,x7]=[x0,x1,x2,x3,x4,x5,x6,x7]:=rfl
theorem lq {α β:Type} (enc:α->List β) (sz:Nat) (h:∀x,(enc x).length=sz) (l:List α):(l.flatMap enc).take (l.length*sz)=l.flatMap enc:=dX (Nat.le_of_eq (oG enc sz h l))
theorem zg {l:List br}:(tu l).take (l.length*5)=tu l:=lq br.enc 5 (λ _=>rfl) l
theorem yx {l:List lR}:(sN l).take (l.length*8)=sN l:=lq lR.enc 8 (λ _=>rfl) l
theorem xk {l:List lb}:(zw l).take (l.length*6)=zw l:=lq lb.enc 6 (λ _=>rfl) l
theorem xt {l:List Batch}:(AQ l).take (l.length*6)=AQ l:=lq Batch.enc 6 (λ _=>rfl) l
section
variable {T:Nat->Option TI} {P:Program}
theorem ak {x y:Code} {g:G} {Q:Ex->G->Prop} (h:bQ T P x g Q):o9 T P (.one (.d (.v (.bool true)))) True x y g Q:=⟨trivial,λ _=>h,λ h=>(by cases h)⟩
theorem ao {x y:Code} {g:G} {Q:Ex->G->Prop} (h:bQ T P y g Q):o9 T P (.one (.d (.v (.bool false)))) True x y g Q:=⟨trivial,λ h=>(by cases h),λ _=>h⟩
end
theorem Cp:Go.Pk.bad.x= .one .dead:=rfl
theorem HF:type_of% (I (I (I (I (@C') (I (nv) (@zg))) (I (@yx) (I (@xk) (@xt)))) (I (I (Bool.true_beq) (I (Bool.false_beq) (@du))) (I (@jd) (I (nK) (nr))))) (I (I (I (oZ) (I (@gB.{0}) (@cF.{0,0}))) (I (@Cq) (I (@Cf) (@B1)))) (I (I (@Cw) (I (@Cr) (@Ct))) (I (I (@Cu) (@Ce)) (I (Int.toNat_zero) (Int.toNat_one)))))):=I (I (I (I (@C') (I (nv) (@zg))) (I (@yx) (I (@xk) (@xt)))) (I (I (Bool.true_beq) (I (Bool.false_beq) (@du))) (I (@jd) (I (nK) (nr))))) (I (I (I (oZ) (I (@gB.{0}) (@cF.{0,0}))) (I (@Cq) (I (@Cf) (@B1)))) (I (I (@Cw) (I (@Cr) (@Ct))) (I (I (@Cu) (@Ce)) (I (Int.toNat_zero) (Int.toNat_one)))))
def Stop (p:Prop):Prop:=p
theorem nf (n:Nat) {T:Nat->Option TI} {P:Program} {ops:Array Oper} {d:Bool} {y:Code} {Q:Ex->G->Prop} {g:G} (h:Stop (fG T P (.seq (.region n ops d) y) Q .normal g)):
  fG T P (.seq (.region n ops d) y) Q .normal g:=h
theorem BK {T:Nat->Option TI} {P:Program} {y:Code} {Q:Ex->G->Prop} {g g':G} (h:Gh g g') (hk:bQ T P y g' Q):Stop (fG T P y Q .normal g):= .inl ⟨g',h,hk⟩
def kK (n:Nat):Code->Option Code
 | .seq (.region m ops d) y=>if m==n then some (.seq (.region m ops d) y)else kK n y
 | .seq a y=>(kK n a).or (kK n y)
 | .cond _ a b=>(kK n a).or (kK n b)
 | .block _ b=>kK n b
 | .loop b=>kK n b
 | .scope b=>kK n b
 |_=>none
theorem rD {s:Sh} {ss:List Sh} {dss:List (List D)} (h:mq (s::ss) dss):∃d ds,dss=d::ds/\dr s d/\mq ss ds:=by
 cases dss with
 |nil=>exact h.elim
 |cons d ds=>exact⟨d,ds,rfl,h.1,h.2⟩
theorem yY {dss:List (List D)} (h:mq [] dss):dss=[]:=by
 cases dss with
 |nil=>rfl
 |cons d ds=>exact h.elim
section
variable {T:Nat->Option TI}
end
theorem Rd.sub {w:World} {A A':Nat->Prop} (h:∀b,A' b->A b) {d:D} {u:Value} (hd:Rd w A d u):Rd w A' d u:=
 hd.cg (⟨λ _ _ _=>rfl,λ b _ hb=>h b hb⟩:gJ w A w A')
theorem b5.take {w:World} {A A':Nat->Prop} (h:∀b,A' b->A b) {pl:Pl} {sz:Nat} {ds xs:List D} (hm:b5 w A pl sz (ds++xs)):b5 w A' pl sz ds:=by
 unfold b5 at*;split at hm
 .exact⟨(List.append_eq_nil_iff.1 hm.1).1,hm.2⟩
 .obtain⟨c,e,h1,h2,h3,h4⟩:=hm;refine⟨c,e,h1,h2,by rw[b6]at h3;omega,λ k d hk=> ?_⟩;obtain⟨u,g1,g2⟩:=h4 k d (by rw[cj (bJ.1 hk).1];exact hk);exact⟨u,g1,g2.sub h⟩
def sE (r:Rs) (y:AV) (ys:List AV) (post:List RF->List RO->Prop):Prop:=
 match y with
 | .one (.ptr hd 0)=>match aK r hd with
  |some res=>match cM r res.cells,iO r ys with
   |some l,some rfs=>res.var=true/\iV (eL r (dV ys++res.cells))=true/\post rfs l
   |_,_=>False
  |none=>False
 |_=>False
def nh (T:Nat->Option TI) (rvs:List ResultVar) (post:List RF->List RO->Prop) (g:G):Prop:=
 (gi T g.v g.r rvs).1/\match (gi T g.v g.r rvs).2 with
  |y::ys=>sE g.r y ys post
  |[]=>False
def wy (T:Nat->Option TI) (rvs:List ResultVar) (post:List RF->List RO->Prop) (e:Ex) (g:G):Prop:=
 match e with
 | .normal=>nh T rvs post g
 | .ret=>nh T rvs post g
 | .exit _=>False
 | .panic _=>False
theorem xy {T:Nat->Option TI} {rvs:List ResultVar} {post:List RF->List RO->Prop} {g:G}:wy T rvs post .normal g=nh T rvs post g:=rfl
theorem zT {T:Nat->Option TI} {rvs:List ResultVar} {post:List RF->List RO->Prop} {g:G}:wy T rvs post .ret g=nh T rvs post g:=rfl
section
variable {P:Program} {cx:Cx} {T:Nat->Option TI} {v:List AV} {r:Rs} {a:Act} {w:World} {β:Nat->Nat->Pl}
theorem Mg (h:aH cx ⟨v,r⟩ a w β) (hB:cx.aL=λ _=>False) {ys:List AV} {us:List Value} {hd:Hd} {res:aY} {rfs:List RF} {l:List RO} (hu:aZ cx w r β (.one (.ptr hd 0)::ys) us)
  (hg:aK r hd=some res) (hv:res.var=true) (h1:cM r res.cells=some l) (h2:iO r ys=some rfs) (h3:iV (eL r (dV ys++res.cells))=true):
  ∃b,cx.w0.heap.size≤b/\dc cx.w0 (λ x=>cx.A0 x∨x∈b9 [.cb b]) (λ _=>False) w [.cb b] (.one (.d (.v (dg b)))::rfs) [l] (jO us):=by
 obtain⟨hlk,hee⟩:=bq hg;have hok:=(h.rs _ _ _ hlk).1;unfold bB at hok;rw[ay hv]at hok;obtain⟨hf,b,arr,e,hb,_,_,_⟩:=hok;have hn:cx.n0≤b:=by have:=(h.fr _ _ _ _ _ hlk hf hb).1;rw[hB]at this;exact this.resolve_right λ h=>h
 simp only[aZ]at hu;obtain⟨u0,us',rfl,g1,g2⟩:=hu;simp only[aA,aw]at g1;obtain⟨b',o',e1,e2⟩:=g1.2.2 res hg;rw[hb]at e1;cases e1;simp only[bC]at e2;subst e2;refine⟨b,hn, ?_⟩;have hcs:dV (.one (.d (.v (dg b)))::ys)++ez [res.cells]= .d (.v (dg b))::(dV ys++res.cells):=by simp[dV,kE,ez]
 have:=sQ (A1:=λ x=>cx.A0 x∨x∈b9 [.cb b]) (ps:=[.h hd]) (bs:=[.cb b]) (cs:=[res.cells]) (objs:=[l]) (ys:= .one (.d (.v (dg b)))::ys) (rfs:= .one (.d (.v (dg b)))::rfs) (us:=dg b::us') (u:=jO (dg b::us')) h
  (λ x hx=>hx.elim .inl λ hx=> .inr ⟨hd.s,hd.j,res,0,hlk,hf,by simp only[b9,ji]at hx;rw[hx];exact hb⟩)
  (by simp only[aZ];exact⟨_,us',rfl,bI.2 ⟨rfl,rfl⟩,g2⟩) rfl (by simp[iO,pn,jq,h2]) (by simp only[dE];exact⟨⟨res,hg,hv,rfl⟩,trivial⟩) (by simp[gZ,h1])
  (by rw[hcs];simpa[eL,lg]using h3) (by simp only[cy];exact⟨λ res' hr=>hb,trivial⟩)
  (λ s j res' b' o hl hf' hv' hbase hm=>by simp only[b9,ji]at hm;subst hm;obtain⟨q1,q2⟩:=h.inj _ _ _ _ _ _ _ _ _ hl hf' hlk hf hbase hb;subst q1 q2;rw[hl]at hlk;cases hlk;rw[hv']at hv;cases hv)
 rw[hB]at this;exact this
theorem Aj (hT:bF P T) (hm:P.follows .mixedOrders=true) {f:FuncId} {fn:Func} {c:Code} {rvs:List ResultVar} {n:Nat} (hf:P.funcs[f]? =some fn) (hb:fn.body=some c)
  (hres:fn.results=rvs.toArray) (hn:fn.ntmps=n) (hcall:∀(us:Array Value) (w:World),(callFunc f us).run P w= .ok (.enter f us) w) {args:List Arg} {rfs:List RF} {l:List RO}
  (h:bQ T P c (cR n args) (wy T rvs λ x y=>x=rfs/\y=l)):gy P f args rfs l:=by
 refine⟨hcall,λ w A0 us hA ha=> ?_⟩;refine calls_of_wp hf hb ?_;have hob:bn args=[]:=by
  clear h;have:∀{args:List Arg} {k:Nat} {us:List Value},aW P w A0 (λ _=>False) (λ _=>⟨none,0⟩) k args [] us->bn args=[]:=by
   intro args;induction args with
   |nil=>intros;rfl
   |cons x xs ih=>
    intro k us ha;cases x with
    |f y=>simp only[aW]at ha;obtain⟨_,us',_,_,ha⟩:=ha;exact ih ha
    |obj _=>simp only[aW]at ha;obtain⟨_,_,_,_,_,_,e,_⟩:=ha;cases e
    |row _ _ _=>simp only[aW]at ha;obtain⟨_,_,_,_,e,_⟩:=ha;cases e
    |dC _ _ _ _ _=>simp only[aW]at ha;obtain⟨_,_,_,_,_,_,e,_⟩:=ha;cases e
  exact this ha
 have h0:=pE (n:=n) ha hA (λ b hb=>hb.elim) (by rw[hob];intro b hb;exact hb.elim) qF (by rw[hob];intro i j b o o' sz n ds bo sz' n' ds' bo' h1;simp at h1);have hend:∀g a w',cP (eZ P w A0 (λ _=>False) args []) g a w'->nh T rvs (λ x y=>x=rfs/\y=l) g->
   a.defers=[]/\∃v,(results fn a.tmps).run P w'= .ok v w'/\∃bs r objs u,(∃b,bs=[.cb b]/\r= .one (.d (.v (dg b)))::rfs/\objs=[l])/\Ending.returned v= .returned u/\(∀b∈b9 bs,w.heap.size≤b)/\
    dc w (λ b=>A0 b∨b∈b9 bs) (λ _=>False) w' bs r objs u:=by
  rintro⟨v,r⟩ a w' ⟨β,hh⟩ ⟨g1,g2⟩
  obtain⟨vs,k1,k2⟩:=pU (cx:=eZ P w A0 (λ _=>False) args []) hT hh g1;refine⟨hh.df,jO vs,rv hres k1, ?_⟩;simp only at g2;split at g2
  .rename_i y ys hys;rw[hys]at k2;unfold sE at g2;split at g2
   .rename_i hd;split at g2
    .rename_i res hg;split at g2
     .rename_i l' rfs' q1 q2;obtain⟨q3,q4,rfl,rfl⟩:=g2;obtain⟨b,hb0,hret⟩:=Mg hh rfl k2 hg q3 q1 q2 q4;exact⟨_,_,_,_,⟨b,rfl,rfl,rfl⟩,rfl,λ x hx=>by simp only[b9,ji]at hx;subst hx;exact hb0,hret⟩
     .exact g2.elim
    .exact g2.elim
   .exact g2.elim
  .exact g2.elim
 have hact:({tmps:=us.toArray++Array.replicate (fn.ntmps - us.toArray.size) undef,defers:=[]}:Act)={tmps:=us.toArray++Array.replicate (n - us.length) undef,defers:=[]}:=by rw[hn];simp
 rw[hact];refine oL (cx:=eZ P w A0 (λ _=>False) args []) hT hm c (cR n args) _ _ (λ e g a w' hh hq=> ?_) h _ _ ⟨_,h0⟩;cases e with
 |normal=>exact hend g a w' hh hq
 |ret=>exact hend g a w' hh hq
 |exit id=>exact hq.elim
 |panic x=>exact hq.elim
theorem gy.le {f:FuncId} {as as':List Arg} {rfs:List RF} {l:List RO} (h:gy P f as' rfs l) (hl:cV as as'):gy P f as rfs l:=
 ⟨h.1,λ w A0 us h1 h3=>h.2 w A0 us h1 (oj hl h3).1⟩
end
def eu (a b:RO):Prop:=
 match a,b with
 | .d x, .d y=>y=x
 | .d (.v (.slice none 0 0)), .own _ n ds _=>n=0/\ds=[]
 | .own sz n ds _, .own sz' n' ds' _=>sz'=sz/\n'=n/\ds'=ds
 |_,_=>False
def ea:List RO->List RO->Prop
 |[],[]=>True
 |a::l,b::m=>eu a b/\ea l m
 |_,_=>False
def eF (a b:RO):Prop:=
 b=a∨match a,b with
 | .d (.v (.slice none 0 0)), .own _ n ds _=>n=0/\ds=[]
 | .d (.v (.slice none 0 0)), .d (.sl n ds)=>n=0/\ds=[]
 | .own sz n ds _, .own sz' n' ds' bo'=>sz'=sz/\n'=n/\ds'=ds/\bo'=true
 |_,_=>False
def dv:List RO->List RO->Prop
 |[],[]=>True
 |a::l,b::m=>eF a b/\dv l m
 |_,_=>False
def wP:RF->RF->Prop
 | .one a, .one b=>eF a b
 | .agg l, .agg m=>dv l m
 |_,_=>False
def mC:List RF->List RF->Prop
 |[],[]=>True
 |a::l,b::m=>wP a b/\mC l m
 |_,_=>False
def eK:List (List RO)->List (List RO)->Prop
 |[],[]=>True
 |a::l,b::m=>dv a b/\eK l m
 |_,_=>False
theorem rN:∀{a:List RO},dv a a
 |[]=>trivial
 |x::a=>⟨.inl rfl,rN⟩
theorem AE {a:RF}:wP a a:=by cases a;exact .inl rfl;exact rN
theorem cm:∀{a:List RF},mC a a
 |[]=>trivial
 |x::a=>⟨AE,cm⟩
theorem dj:∀{a:List (List RO)},eK a a
 |[]=>trivial
 |x::a=>⟨rN,dj⟩
theorem rk:∀{a b c d:List RO},dv a b->dv c d->dv (a++c) (b++d)
 |[],[],_,_,_,h=>h
 |x::a,y::b,_,_,h,h'=>⟨h.1,rk h.2 h'⟩
 |[],_::_,_,_,h,_=>h.elim
 |_::_,[],_,_,h,_=>h.elim
theorem uH:∀{a b:List RF},mC a b->dv (a.flatMap RF.cells) (b.flatMap RF.cells)
 |[],[],_=>trivial
 |x::a,y::b,h=>by
  simp only[fm];refine rk ?_ (uH h.2);cases x with
  |one x=>cases y with
   |one y=>exact⟨h.1,trivial⟩
   |agg _=>exact h.1.elim
  |agg l=>cases y with
   |one y=>exact h.1.elim
   |agg m=>exact h.1
 |[],_::_,h=>h.elim
 |_::_,[],h=>h.elim
theorem yE:∀{a b:List (List RO)},eK a b->dv a.flatten b.flatten
 |[],[],_=>trivial
 |x::a,y::b,h=>by simp only[gC];exact rk h.1 (yE h.2)
 |[],_::_,h=>h.elim
 |_::_,[],h=>h.elim
theorem oC:∀{a b:List RO},dv a b->b.length=a.length
 |[],[],_=>rfl
 |x::a,y::b,h=>by simp[oC h.2]
 |[],_::_,h=>h.elim
 |_::_,[],h=>h.elim
theorem Ae:∀{a b:List RO} {i:Nat} {y:RO},dv a b->b[i]? =some y->∃x,a[i]? =some x/\eF x y
 |[],[],_,_,_,h=>by simp at h
 |x::a,y::b,0,z,h,hi=>by simp only[bZ,aQ]at hi;subst hi;exact⟨x,rfl,h.1⟩
 |x::a,y::b,i+1,z,h,hi=>by simpa using Ae (i:=i) h.2 (by simpa using hi)
 |[],_::_,_,_,h,_=>h.elim
 |_::_,[],_,_,h,_=>h.elim
theorem AU:∀{a b:List RO} {i:Nat} {y:RO},ea a b->b[i]? =some y->∃x,a[i]? =some x/\eu x y
 |[],[],_,_,_,h=>by simp at h
 |x::a,y::b,0,z,h,hi=>by simp only[bZ,aQ]at hi;subst hi;exact⟨x,rfl,h.1⟩
 |x::a,y::b,i+1,z,h,hi=>by simpa using AU (i:=i) h.2 (by simpa using hi)
 |[],_::_,_,_,h,_=>h.elim
 |_::_,[],_,_,h,_=>h.elim
section
variable {P:Program} {w:World} {A0 aL:Nat->Prop} {γ:Nat->Pl} {A A':Nat->Prop} {L:List RO}
theorem NY {x:RO} {sz n:Nat} {ds:List D} {bo:Bool} (h:eF x (.own sz n ds bo)):(∃bo',x= .own sz n ds bo'/\(bo=false->bo'=false))∨∃y,x= .d y:=by
 rcases h with h|h
 .exact .inl ⟨bo,h.symm,id⟩
 .split at h
  .exact .inr ⟨_,rfl⟩
  .rename_i q;cases q
  .rename_i sz0 n0 ds0 bo0 sz1 n1 ds1 bo1 q;cases q;obtain⟨rfl,rfl,rfl,rfl⟩:=h;exact .inl ⟨bo0,rfl,λ h=>by cases h⟩
  .exact h.elim
theorem CJ (hA:∀b,A' b->A b) {a b:RO} {u:Value} {i:Nat} (hi:L[i]? =some a) (h:eF a b) (hu:cA A w (γ i) a u):cA A' w (γN γ L i) b u:=by
 rcases h with rfl|h
 .exact pW hA hi hu
 .split at h
  .obtain⟨rfl,rfl⟩:=h;exact va hi hu
  .obtain⟨rfl,rfl⟩:=h;exact z8 hu
  .obtain⟨rfl,rfl,rfl,rfl⟩:=h;have:=pW (L:=L) (γ:=γ) hA hi hu;simp only[cA]at this⊢;exact this
  .exact h.elim
theorem NW {a b:RO} {u:Value} {i:Nat} (hi:L[i]? =some a) (h:eu a b) (hu:cA A w (γ i) a u):cA A w (γN γ L i) b u:=by
 unfold eu at h;split at h
 .subst h;exact pW (λ _ h=>h) hi hu
 .obtain⟨rfl,rfl⟩:=h;exact va hi hu
 .obtain⟨rfl,rfl,rfl⟩:=h;have:=pW (L:=L) (γ:=γ) (A':=A) (λ _ h=>h) hi hu;simp only[cA]at this⊢;exact this
 .exact h.elim
theorem sK (hA:∀b,A' b->A b):∀{a b:List RO} {k:Nat} {us:List Value},(∀i x,a[i]? =some x->L[k+i]? =some x)->dv a b->bP A w γ k a us->bP A' w (γN γ L) k b us
 |[],[],k,us,_,_,h=>h
 |x::a,y::b,k,us,hL,hl,h=>by
  simp only[bP]at h⊢;obtain⟨u,us',rfl,h1,h2⟩:=h;refine⟨u,us',rfl,CJ hA (hL 0 x rfl) hl.1 h1,sK hA (λ i x' hi=> ?_) hl.2 h2⟩;have:=hL (i+1) x' (by simpa using hi)
  rwa[show k+(i+1)=k+1+i by omega]at this
 |[],_::_,_,_,_,h,_=>h.elim
 |_::_,[],_,_,_,h,_=>h.elim
theorem Ca:∀{a b:List RO} {k:Nat} {us:List Value},(∀i x,a[i]? =some x->L[k+i]? =some x)->ea a b->bP A w γ k a us->bP A w (γN γ L) k b us
 |[],[],k,us,_,_,h=>h
 |x::a,y::b,k,us,hL,hl,h=>by
  simp only[bP]at h⊢;obtain⟨u,us',rfl,h1,h2⟩:=h;refine⟨u,us',rfl,NW (hL 0 x rfl) hl.1 h1,Ca (λ i x' hi=> ?_) hl.2 h2⟩;have:=hL (i+1) x' (by simpa using hi)
  rwa[show k+(i+1)=k+1+i by omega]at this
 |[],_::_,_,_,_,h,_=>h.elim
 |_::_,[],_,_,_,h,_=>h.elim
theorem B0 (hA:∀b,A' b->A b):∀{a b:List RF} {k:Nat} {us:List Value},(∀i x,(a.flatMap RF.cells)[i]? =some x->L[k+i]? =some x)->mC a b->dp A w γ k a us->dp A' w (γN γ L) k b us
 |[],[],k,us,_,_,h=>h
 |x::a,y::b,k,us,hL,hl,h=>by
  simp only[dp]at h⊢;obtain⟨u,us',rfl,h1,h2⟩:=h;have hlen:y.cells.length=x.cells.length:=by
   cases x with
   |one x=>cases y with
    |one y=>rfl
    |agg _=>exact hl.1.elim
   |agg l=>cases y with
    |one y=>exact hl.1.elim
    |agg m=>exact oC hl.1
  refine⟨u,us',rfl, ?_, ?_⟩
  .have hx:∀i z,x.cells[i]? =some z->L[k+i]? =some z:=λ i z hi=>hL i z (by rw[fm,cj (bJ.1 hi).1];exact hi)
   cases x with
   |one x=>cases y with
    |one y=>simp only[iG]at h1⊢;exact CJ hA (hx 0 x rfl) hl.1 h1
    |agg _=>exact hl.1.elim
   |agg l=>cases y with
    |one y=>exact hl.1.elim
    |agg m=>
     simp only[iG]at h1⊢;obtain⟨vs,e1,e2⟩:=h1;exact⟨vs,e1,sK hA hx hl.1 e2⟩
  .rw[hlen];refine B0 hA (λ i z hi=> ?_) hl.2 h2;have:=hL (x.cells.length+i) z (by rw[fm,ct (fD _ _)];simpa using hi)
   rwa[cS]
 |[],_::_,_,_,_,h,_=>h.elim
 |_::_,[],_,_,_,h,_=>h.elim
theorem vd (hA:∀b,A' b->A b):∀{ls ms:List (List RO)} {k:Nat} {bs:List cr},(∀i x,ls.flatten[i]? =some x->L[k+i]? =some x)->eK ls ms->eA A w γ k ls bs->eA A' w (γN γ L) k ms bs
 |[],[],k,bs,_,_,h=>by simpa[eA]using h
 |l::ls,m::ms,k,[],_,_,h=>by simp[eA]at h
 |l::ls,m::ms,k, .cb b::bs,hL,hl,h=>by
  simp only[eA]at h⊢;obtain⟨⟨c,e,h1,h2,h3⟩,h4⟩:=h;refine⟨⟨c,e,h1,sK hA (λ i x hi=>hL i x (by rw[gC,cj (bJ.1 hi).1];exact hi)) hl.1 h2,h3⟩, ?_⟩;rw[oC hl.1];refine vd hA (λ i x hi=> ?_) hl.2 h4;have:=hL (l.length+i) x (by rw[gC,ct (fD _ _)];simpa using hi)
  rwa[cS]
 |l::ls,m::ms,k, .val u::bs,hL,hl,h=>by
  simp only[eA]at h⊢;obtain⟨h1,h4⟩:=h;refine⟨?_, ?_⟩
  .rcases h1 with rfl|h1
   .left
    have:=oC hl.1;exact gT (by simpa using this)
   .right
    exact sK hA (λ i x hi=>hL i x (by rw[gC,cj (bJ.1 hi).1];exact hi)) hl.1 h1
  rw[oC hl.1];refine vd hA (λ i x hi=> ?_) hl.2 h4;have:=hL (l.length+i) x (by rw[gC,ct (fD _ _)];simpa using hi)
  rwa[cS]
 |[],_::_,_,_,_,h,_=>h.elim
 |_::_,[],_,_,_,h,_=>h.elim
theorem Ma {rfs rfs':List RF} {objs objs':List (List RO)} (h:mC rfs rfs') (ho:eK objs objs'):dv (cn rfs objs) (cn rfs' objs'):=rk (uH h) (yE ho)
theorem dc.le {w':World} {bs:List cr} {rfs rfs':List RF} {objs objs':List (List RO)} {u:Value} (h:dc w A0 aL w' bs rfs objs u) (hl:mC rfs rfs') (ho:eK objs objs'):dc w A0 aL w' bs rfs' objs' u:=by
 obtain⟨⟨γ,us,m1,m2,m3,m4,m5,m6⟩,h2,h3,h4,h5⟩:=h;have hle:=Ma hl ho;have hown:∀{i sz n b o:Nat} {ds:List D} {bo:Bool},(cn rfs' objs')[i]? =some (.own sz n ds bo)->(γN γ (cn rfs objs) i).base=some (b,o)->∃bo',(cn rfs objs)[i]? =some (.own sz n ds bo')/\(bo=false->bo'=false)/\(γ i).base=some (b,o):=λ {i sz n b o ds bo} hi hb=>by
  obtain⟨x,g1,g2⟩:=Ae hle hi;rcases NY g2 with⟨bo',rfl,hbo⟩|⟨y,rfl⟩
  .refine⟨bo',g1,hbo, ?_⟩;unfold γN at hb;rw[g1]at hb;exact hb
  .unfold γN at hb;rw[g1]at hb;cases hb
 have hNB:∀b,NB (γN γ (cn rfs objs)) 0 (cn rfs' objs') b->NB γ 0 (cn rfs objs) b:=λ b hb=>by obtain⟨i,sz,n,ds,bo,o,g1,g2⟩:=kI hb;rw[bC]at g2;obtain⟨bo',g3,_,g4⟩:=hown g1 g2;exact gx (k:=0) g3 (by rw[bC];exact g4)
 have hlen:(rfs'.flatMap RF.cells).length=(rfs.flatMap RF.cells).length:=oC (uH hl);refine⟨⟨γN γ (cn rfs objs),us,m1, ?_, ?_,λ b hb=>m4 b (hNB b hb),λ i sz n ds b o hi hb=> ?_,λ i j b o o' sz n ds bo sz' n' ds' bo' hi hj hbi hbj=> ?_⟩,h2,h3,h4,h5⟩
 .exact B0 (λ b hb=>hb.imp id (hNB b)) (λ i x hi=>by rw[bC];unfold cn;rw[cj (bJ.1 hi).1];exact hi) hl m2
 .rw[hlen];exact vd (λ b hb=>hb.imp id (hNB b)) (λ i x hi=>by unfold cn;rw[ct (fD _ _)];simpa using hi) ho m3
 .obtain⟨bo',g1,g0,g2⟩:=hown hi hb;rw[g0 rfl]at g1;exact m5 i sz n ds b o g1 g2
 .obtain⟨b1,g1,_,g2⟩:=hown hi hbi;obtain⟨b2,g3,_,g4⟩:=hown hj hbj;exact m6 i j b o o' sz n ds b1 sz' n' ds' b2 g1 g3 g2 g4
theorem ae.gp {f:FuncId} {as:List Arg} {rfs':List RF} {objs':List (List RO)} (h:ae P f as (λ r o=>mC r rfs'/\eK o objs')):ae P f as (λ r o=>r=rfs'/\o=objs'):=
 ⟨h.1,λ w A0 aL γ bs us h1 h2 h3 h4 h5 h6=>(h.2 w A0 aL γ bs us h1 h2 h3 h4 h5 h6).mono λ e w' ⟨r,o,u,⟨g1,g2⟩,g3,g4⟩=>⟨rfs',objs',u,⟨rfl,rfl⟩,g3,g4.le g1 g2⟩⟩
theorem gy.gp {f:FuncId} {as:List Arg} {rfs rfs':List RF} {l l':List RO} (h:gy P f as rfs l) (hr:mC rfs rfs') (hl:dv l l'):gy P f as rfs' l':=
 ⟨h.1,λ w A0 us h1 h2=>(h.2 w A0 us h1 h2).mono λ e w' ⟨bs,r,o,u,⟨b,g1,g2,g3⟩,g4,g5,g6⟩=>by subst g1 g2 g3;exact⟨_,_,_,u,⟨b,rfl,rfl,rfl⟩,g4,g5,g6.le ⟨AE,hr⟩ ⟨hl,trivial⟩⟩⟩
theorem As {γ γ':Nat->Pl}:∀{as:List Arg} {k k':Nat} {bs:List cr} {us:List Value},bn as=[]->(∀l,Arg.obj l ∉ as)->aW P w A0 aL γ k as bs us->aW P w A0 aL γ' k' as bs us
 |[],_,_,_,_,_,_,h=>h
 | .f x::as,k,k',bs,us,h0,h1,h=>by simp only[aW]at h⊢;obtain⟨u,us',e1,e2,e3⟩:=h;exact⟨u,us',e1,e2,As (by simpa[bn]using h0) (λ l hl=>h1 l (List.mem_cons_of_mem _ hl)) e3⟩
 | .obj l::as,_,_,_,_,_,h1,_=>absurd (List.mem_cons_self) (h1 l)
 | .row .. ::as,_,_,_,_,h0,_,_=>by simp[bn]at h0
def mr:List Arg->Bool
 |[]=>true
 | .f _::as=>mr as
 |_::_=>false
theorem Ax:∀{as:List Arg},mr as=true->bn as=[]/\∀l,Arg.obj l ∉ as
 |[],_=>⟨rfl,λ l h=>by simp at h⟩
 | .f x::as,h=>by
  obtain⟨h1,h2⟩:=Ax (as:=as) (by simpa[mr]using h)
  exact⟨by simpa[bn]using h1,λ l hl=>by
   rcases cL.1 hl with hl|hl
   .cases hl
   .exact h2 l hl⟩
 | .obj _::_,h=>by simp[mr]at h
 | .row .. ::_,h=>by simp[mr]at h
theorem ae.N8 {f:FuncId} {x y:List RO} {as:List Arg} {post:List RF->List (List RO)->Prop} (h:ae P f (.obj y::as) post) (hl:ea x y) (hn:mr as=true):ae P f (.obj x::as) post:=by
 obtain⟨hn1,hn2⟩:=Ax hn;refine⟨h.1,λ w A0 aL γ bs us h1 h2 h3 h4 h5 h6=> ?_⟩;have hx:bn (.obj x::as)=x:=by simp[bn,hn1]
 have hy:bn (.obj y::as)=y:=by simp[bn,hn1]
 rw[hx]at h4 h6;have hown:∀{i sz n b o:Nat} {ds:List D} {bo:Bool},y[i]? =some (.own sz n ds bo)->(γN γ x i).base=some (b,o)->∃sz' n' ds' bo',x[i]? =some (.own sz' n' ds' bo')/\(γ i).base=some (b,o):=λ {i sz n b o ds bo} hi hb=>by
  obtain⟨z,g1,g2⟩:=AU hl hi;cases z with
  |d z=>unfold γN at hb;rw[g1]at hb;cases hb
  |own sz' n' ds' bo'=>
   unfold γN at hb;rw[g1]at hb;exact⟨sz',n',ds',bo',g1,hb⟩
 refine h.2 w A0 aL (γN γ x) bs us h1 h2 ?_ ?_ h5 ?_
 .simp only[aW]at h3⊢;obtain⟨b,bs',us',c,e,e1,e2,e3,e4,e5,e6,e7⟩:=h3;exact⟨b,bs',us',c,e,e1,e2,e3,e4,Ca (L:=x) (λ i z hi=>by rw[bC];exact hi) hl e5,e6,As hn1 hn2 e7⟩
 .rw[hy];intro b hb;obtain⟨i,sz,n,ds,bo,o,g1,g2⟩:=kI hb;rw[bC]at g2;obtain⟨sz',n',ds',bo',g3,g4⟩:=hown g1 g2;exact h4 b (gx (k:=0) g3 (by rw[bC];exact g4))
 .rw[hy];intro i j b o o' sz n ds bo sz' n' ds' bo' hi hj hbi hbj;obtain⟨s1,n1,d1,b1,g1,g2⟩:=hown hi hbi;obtain⟨s2,n2,d2,b2,g3,g4⟩:=hown hj hbj;exact h6 i j b o o' s1 n1 d1 b1 s2 n2 d2 b2 g1 g3 g2 g4
theorem ae.N7 {f:FuncId} {x y:List RO} {as as':List Arg} {post:List RF->List (List RO)->Prop} (h:ae P f (.obj y::as') post) (hl:ea x y) (hn:mr as'=true) (ha:cV as as'):ae P f (.obj x::as) post:=
 (h.N8 hl hn).le ⟨rfl,ha⟩
end
section
variable {T:Nat->Option TI} {P:Program}
theorem fa {all:List Oper} {m:M} {rest:List Oper} {dst:Option Nat} {v:List AV} {r:Rs} {K:Ex->G->Prop} {n:FuncId} {x y:List RO} {ass as':List Arg} {mv:Mv} {aJ:List Nat} {rfs:List RF} {l':List RO}
  {f:Operand} {args:Array Operand} {a:Option (FuncId×List Arg)} (hc:dL 0 v r f args=some (n, .obj x::ass,mv,aJ)) (h:ae P n (.obj y::as') (λ r o=>r=rfs/\o=[l'])) (hr:ea x y) (hn:mr as'=true) (ha:cV ass as')
  (hs:bA r dst mv aJ l') (hk:aP T P all (fu dst mv.s m) rest (bz v dst (bindM r dst mv rfs l').1) (bindM r dst mv rfs l').2 K):mg T P all m rest dst v r K f args a:=
 jc 0 hc (h.N7 hr hn ha) hs hk
end
abbrev qE (l:List Int):List D:=l.flatMap λ n=>[iD n]
structure nM where
 bh:Int
 num:Int
 M5:Int
abbrev nM.enc (x:nM):List D:=[iD x.bh,iD x.num,iD x.M5]
abbrev tc (l:List nM):List D:=l.flatMap nM.enc
structure Lk where
 name:ByteArray
 Nq:Int
 token:Int
 line:List Int
abbrev Lk.enc (k:Lk):List D:=[sD k.name,iD k.Nq,iD k.token, .sl k.line.length (qE k.line)]
abbrev sO (l:List Lk):List D:=l.flatMap Lk.enc
structure bt where
 name:ByteArray
 token:Int
abbrev bt.enc (g:bt):List D:=[sD g.name,iD g.token]
abbrev ch (l:List bt):List D:=l.flatMap bt.enc
structure cB where
 code:Int
 aF:Int
 ahead:Int
 held:List bt
abbrev cB.enc (r:cB):List D:=[iD r.code,iD r.aF,iD r.ahead, .sl r.held.length (ch r.held)]
abbrev cB.aJ (r:cB):List C:=[di r.code,di r.aF,di r.ahead, .aJ r.held.length (ch r.held)]
structure cG where
 bh:Int
 seq:Int
 cf:cB
abbrev cG.enc (m:cG):List D:=iD m.bh::iD m.seq::m.cf.enc
abbrev cG.aJ (m:cG):List C:=di m.bh::di m.seq::m.cf.aJ
abbrev sS (l:List cG):List D:=l.flatMap cG.enc
structure St where
 time:Int
 num:Int
 token:Int
 tL:List nM
 mj:List Lk
 tv:List cG
abbrev St.aJ (s:St):List C:=[di s.time,di s.num,di s.token, .aJ s.tL.length (tc s.tL), .aJ s.mj.length (sO s.mj), .aJ s.tv.length (sS s.tv)]
abbrev St.rf (s:St):RF:= .agg [.d (iD s.time), .d (iD s.num), .d (iD s.token), .own 3 s.tL.length (tc s.tL) false, .own 4 s.mj.length (sO s.mj) false, .own 6 s.tv.length (sS s.tv) false]
theorem gL {l:List bt} {i:Nat} (hi:i<l.length):(ch l).drop (i*2)=l[i].enc++(ch (l.drop (i+1))):=sn _ 2 l i hi λ _=>rfl
theorem Lu {l:List Int}:(qE l).length=l.length*1:=oG _ 1 (λ _=>rfl) l
theorem JT {l:List Int}:(qE l).length=l.length:=by rw[Lu,oZ]
theorem en {l:List bt}:(ch l).length=l.length*2:=oG _ 2 (λ _=>rfl) l
theorem zf {l:List Int}:(qE l).take l.length=qE l:=dX (Nat.le_of_eq JT)
theorem yX {l:List nM}:(tc l).take (l.length*3)=tc l:=lq nM.enc 3 (λ _=>rfl) l
theorem yk {l:List Lk}:(sO l).take (l.length*4)=sO l:=lq Lk.enc 4 (λ _=>rfl) l
theorem pw {l:List bt}:(ch l).take (l.length*2)=ch l:=lq bt.enc 2 (λ _=>rfl) l
theorem xN {l:List cG}:(sS l).take (l.length*6)=sS l:=lq cG.enc 6 (λ _=>rfl) l
theorem ue {l:List bt} {r:bt}:ch (l++[r])=ch l++r.enc:=by simp[ch]
theorem H6:type_of% (I (I (I (HF) (I (@zf) (@yX))) (I (@yk) (I (@pw) (@xN)))) (I (I (Cp) (I (@fE.{0,0}) (@Option.map_none.{0,0}))) (I (I (oS) (Bool.not_false)) (I (@List.any_cons.{0}) (@List.any_nil.{0}))))):=I (I (I (HF) (I (@zf) (@yX))) (I (@yk) (I (@pw) (@xN)))) (I (I (Cp) (I (@fE.{0,0}) (@Option.map_none.{0,0}))) (I (I (oS) (Bool.not_false)) (I (@List.any_cons.{0}) (@List.any_nil.{0}))))
theorem Gh.CH {v:List AV} {r r':Rs} (i:Nat) {x:C} {d:D} (hi:v[i]? =some (.one x)) (hs:jj r x=some (d,r')):Gh ⟨v,r⟩ ⟨v.set i (.one (.d d)),r'⟩:=λ cx a w ⟨β,hh⟩=>by
 obtain⟨u,h1,h2⟩:=hh.sl i _ hi;simp only[aA]at h2;obtain⟨β1,k1,x1,hd1⟩:=At hh hs h2;refine⟨β1,{k1 with sz:=by simpa using k1.sz,sl:=λ j y hj=> ?_}⟩;simp only[kl]at hj;by_cases hij:i=j
 .subst hij;rw[ay rfl]at hj;split at hj
  .cases hj;exact⟨u,h1,by simp only[aA,aw];exact hd1⟩
  .cases hj
 .rw[ar hij]at hj;exact k1.sl j y hj
theorem sC {T:Nat->Option TI} {P:Program} {y:Code} {Q:Ex->G->Prop} {g g':G} (h:Gh g g') (hk:fG T P y Q .normal g'):fG T P y Q .normal g:=by
 rcases hk with⟨g1,h1,h2⟩|hk
 .exact .inl ⟨g1,λ cx a w hh=>h1 cx a w (h cx a w hh),h2⟩
 .exact .inr λ cx e R hR a w hh=>hk cx e R hR a w (h cx a w hh)
theorem qh {p:Prop} (h:p):Stop p:=h
theorem mW (n:Nat) {T:Nat->Option TI} {P:Program} {ops:Array Oper} {d:Bool} {Q:Ex->G->Prop} {g:G} (h:Stop (fG T P (.region n ops d) Q .normal g)):
  fG T P (.region n ops d) Q .normal g:=h
section
variable {T:Nat->Option TI} {P:Program}
theorem mX (n:Nat) {ops:Array Oper} {d:Bool} {x y:Code} {Q:Ex->G->Prop} {g:G} (h:Stop (fG T P (.seq (.seq (.region n ops d) x) y) Q .normal g)):
  fG T P (.seq (.seq (.region n ops d) x) y) Q .normal g:=h
theorem LR {x y:Code} {g:G} {Q:Ex->G->Prop} {τ:Type} (S:τ->G) (J:τ->Prop) (h1:∀t,J t->bQ T P y (S t) Q)
  (h2:∀K:G->Prop,(∀g t,Gh g (S t)->J t->K g)->bQ T P x g (lP K Q)):Stop (fG T P (.seq x y) Q .normal g):=
 qh (aa _ _ (Mo T P S J h1 h2))
end
theorem yw (b:ByteArray):∀(n i:Nat) (r:List UInt8),b.size - i=n->ByteArray.toList.loop b i r=r.reverse++b.data.toList.drop i
 |0,i,r,h=>by have hl:b.data.toList.length=b.size:=iM;rw[ByteArray.toList.loop.eq_1,ar (by omega),List.drop_of_length_le (by omega)];simp
 |n+1,i,r,h=>by
  have hi:i<b.size:=by omega
  rw[ByteArray.toList.loop.eq_1,ay hi,yw b n (i+1) _ (by omega)];have hi':i<b.data.toList.length:=by have hl:b.data.toList.length=b.size:=iM;omega
  rw[kn hi'];have:b.get! i=b.data.toList[i]:=by have h2:i<b.data.size:=hi;show b.data[i]! =_;rw[getElem!_pos b.data i h2,Array.getElem_toList]
  rw[this];simp
theorem xp (b:ByteArray):b.toList=b.data.toList:=by unfold ByteArray.toList;rw[yw b b.size 0 [] (by omega)];simp
theorem Gh.N1 {v:List AV} {r:Rs} {i s sz:Nat} (hi:v[i]? =some (.one (.d (.v (.slice none 0 0))))):
  Gh ⟨v,r⟩ ⟨v.set i (.one (.cZ ⟨s,1,aq r s⟩ 0 0 0)),aM s ⟨aq r s+1,[none,some {e:=aq r s,var:=false,fz:=false,sz,cells:=[]}]⟩ r⟩:=λ cx a w ⟨β,hh⟩=>by
 obtain⟨β',q1,q2,q3⟩:=hh.fresh (w':=w) (d:=s) (j0:=1) (L:=[none,some {e:=aq r s,var:=false,fz:=false,sz,cells:=[]}]) (pl0:=⟨none,0⟩) rfl
  (λ j res hj=>by
   match j with
   |0=>simp at hj
   |1=>rfl
   |j+2=>simp at hj) rfl rfl (λ b o hb=>by cases hb) (λ _ _=>rfl) (Nat.le_refl _)
  (λ β' hx hA=>lj (ds:=[]) rfl rfl rfl (by simp[b5]))
 obtain⟨u,g1,g2⟩:=hh.sl i _ hi;have hu:=(bI.1 g2).1;subst hu;refine⟨β',{q1 with sz:=by simpa using q1.sz,sl:=λ j x hj=> ?_}⟩;rw[kl]at hj;split at hj
 .rename_i e;subst e;split at hj
  .cases hj;refine⟨_,g1, ?_⟩;simp only[aA,aw];refine⟨rfl,by rw[c5,ay rfl];exact eX _,Nat.le_refl _,none,rfl,λ res hr=> ?_⟩;obtain⟨hl,_⟩:=bq hr;rw[dH,ay rfl]at hl;simp only[gS,bZ,aQ]at hl;subst hl;rw[q2];exact⟨rfl,rfl, .inl trivial⟩
  .cases hj
 .exact q1.sl j x hj
theorem zI {p:Prop} (h:p:=by
 ((try with_reducible refine sM ?_);first|(with_reducible rfl)|((with_reducible first|refine Ci ?_|refine Ai ?_|refine vO ?_);kernel_rfl)|(intros;omega)|(intro q p;rw[q,p];rfl)|(intro q;rw[q];rfl)|(intro q;simp only[cu,eo,kN]at q;omega)|(intros;simp[List.range,List.range.loop];done)|(intros;simp_all[List.range,List.range.loop];done)|fail)):p:=h
theorem zJ {p:Prop} (h:p:=by
 ((try with_reducible refine sM ?_);first|(with_reducible rfl)|((with_reducible first|refine Ci ?_|refine Ai ?_|refine vO ?_);kernel_rfl)|(intros;omega)|(intro q p;rw[q,p];rfl)|(intro q;rw[q];rfl)|(intro q;simp only[cu,eo,kN]at q;omega)|(intros;simp[List.range,List.range.loop];done)|fail)):p:=h
theorem zC {p:Prop} (h:p:=by first|(with_reducible exact True.intro)|(with_reducible refine vO ?_;kernel_rfl)|fail):p:=h
theorem zK {p:Prop} (h:p:=by(simp only[bN,bS,bW,bR,bT,bU,bV,bM,bO,bL,bH,bK,bX,D.v.injEq,bY];try(repeat'(first|rfl|omega|with_reducible apply And.intro)))):p:=h
theorem zM {p:Prop} (h:p:=by first|(simp[cV,dq,dw,dG];done)|fail):p:=h
structure Wr (p:Prop):Prop where
 h:p
section
variable {T:Nat->Option TI} {P:Program} {all:List Oper} {m:M} {rest:List Oper} {dst:Option Nat} {v:List AV} {r:Rs} {K:Ex->G->Prop} {n:FuncId} {as as':List Arg} {rfs:List RF} {f:Operand} {args:Array Operand} {post:List RF->List (List RO)->Prop} {j:Nat} {want c:Bool}
end
theorem r7 {P:Program} {ops:Array Oper} {Q:Exit->Act->List Frame->World->Prop} {cs:List Frame} (hno:∀a w,¬Q .outgrown a cs w):∀(l:List Nat) (a:Act) (w:World),wpOps P ops (λ e a w=>Q e a cs w) l a w->wpOpsS P ops Q l a cs w
 |[],a,w,h=>by simpa only[wpOps,wpOpsS]using h
 |i::rest,a,w,h=>by
  simp only[wpOps,wpOpsS]at h⊢;cases ho:ops[i]? with
  |none=>rw[ho]at h;exact r7 hno rest a w h
  |some o=>
   rw[ho]at h;simp only at h⊢;split
   .rename_i hw;rw[ay hw]at h;replace h:=h.resolve_right (λ h=>by obtain⟨_,a',w',hq⟩:=h;exact hno a' w' hq);unfold Oper.wp at h;split
    .rename_i w' hr;rw[hr]at h;exact h.elim
    .exact Oper.wp_mono (P:=P) (o:=o) (a:=a) (w:=w) (λ a w h=>r7 hno rest a w h) h
   .rename_i hw;rw[ar hw]at h;exact r7 hno rest _ w h
section
variable {P:Program} {T:Nat->Option TI}
def tI:FrameMode->Option (Value×FrameMode)
 | .panicking ({v,recovered:=false,goexit:=false}::older)=>some (v, .panicking ({v,recovered:=true}::older))
 |_=>none
def fO (l:List Value):List RO:=l.map λ x=> .d (.v x)
theorem xP {A:Nat->Prop} {w:World} {γ:Nat->Pl}:∀{l us:List Value} {k:Nat},bP A w γ k (fO l) us->us=l
 |[],us,k,h=>by simpa[fO,bP]using h
 |x::l,us,k,h=>by simp only[fO,cJ,bP,cA,Rd]at h;obtain⟨u,us',rfl,h1,h2⟩:=h;rw[h1.1,xP (l:=l) h2]
theorem xU {A:Nat->Prop} {w:World} {γ:Nat->Pl}:∀{l:List Value} {k:Nat},(∀u∈l,flat u=true)->bP A w γ k (fO l) l
 |[],k,h=>by simp[fO,bP]
 |x::l,k,h=>by simp only[fO,cJ,bP,cA,Rd];exact⟨x,l,rfl,⟨rfl,h x (by simp)⟩,xU λ u hu=>h u (by simp[hu])⟩
theorem J5 {l:List Value} {i sz n:Nat} {ds:List D} {bo:Bool}:(fO l)[i]? ≠some (.own sz n ds bo):=by simp only[fO,fl];cases l[i]? <;>simp
abbrev fZ (ls:List (List Value)):List Arg:=ls.map λ l=> .obj (fO l)
theorem xg:∀{ls:List (List Value)},bn (fZ ls)=fO ls.flatten
 |[]=>rfl
 |l::ls=>by simp only[fZ,cJ,bn,gC,fO,List.map_append];rw[←fO,←fO,←xg];rfl
theorem xE {w:World} {A0 aL:Nat->Prop} {γ:Nat->Pl}:∀{ls:List (List Value)} {bs:List Nat} {k:Nat},ls.length=bs.length->(∀b∈bs,aL b)->
  (∀(i:Nat) (l:List Value) (b:Nat),ls[i]? =some l->bs[i]? =some b->∃e,w.heap[b]? =some (.cells l.toArray e (0,0)))->(∀l∈ls,∀u∈l,flat u=true)->
  aW P w A0 aL γ k (fZ ls) (bs.map cr.cb) (bs.map dg)
 |[],[],k,_,_,_,_=>by simp[fZ,aW]
 |[],_::_,k,h,_,_,_=>by simp at h
 |_::_,[],k,h,_,_,_=>by simp at h
 |l::ls,b::bs,k,h,h1,h2,h3=>by
  simp only[fZ,cJ,aW];obtain⟨e,he⟩:=h2 0 l b rfl rfl
  exact⟨b,_,_,_,e,rfl,rfl,h1 b (by simp),he,by simpa using xU (h3 l (by simp)),by simpa using h3 l (by simp),
   xE (by simpa using h) (λ b hb=>h1 b (by simp[hb])) (λ i l b hi hb=>h2 (i+1) l b (by simpa using hi) (by simpa using hb)) (λ l hl=>h3 l (by simp[hl]))⟩
theorem Mp (hT:bF P T) {fn:Func} {rvs:List ResultVar} {args:List Arg} {w:World} {A0 aL:Nat->Prop} {γ:Nat->Pl} {bs:List cr} {us:List Value} {post:List RF->List (List RO)->Prop} (hres:fn.results=rvs.toArray)
  (ha:aW P w A0 aL γ 0 args bs us) {g:G} {a:Act} {w':World} (hh:cP (eZ P w A0 aL args bs) g a w') (hc:fM T rvs (aU 0 args) post g):
  a.defers=[]/\∃v,(results fn a.tmps).run P w'= .ok v w'/\∃rfs objs u,post rfs objs/\Ending.returned v= .returned u/\dc w A0 aL w' bs rfs objs u:=by
 obtain⟨v,r⟩:=g;obtain⟨β,hh⟩:=hh;obtain⟨g1,g2⟩:=hc;obtain⟨vs,k1,k2⟩:=pU (cx:=eZ P w A0 aL args bs) hT hh g1;refine⟨hh.df,jO vs,rv hres k1, ?_⟩;unfold oO at g2;split at g2
 .rename_i rfs cs q1 q2;split at g2
  .rename_i objs q3;refine⟨rfs,objs,jO vs,g2.2,rfl, ?_⟩;have hpos:cy (eZ P w A0 aL args bs) w' r β (aU 0 args) bs:=Ac ha (λ _ _ _=>trivial) (λ q b hm res hg=>(hh.ob q b hm).2 res hg) (λ q n u hm=>hh.rw q n u hm);refine sQ (cx:=eZ P w A0 aL args bs) hh (A1:=A0) (λ b hb=> .inl hb) k2 rfl q1 (pN q2) q3 g2.1 hpos (λ s j res b o hl hfz hv hbase hmem=> ?_);obtain⟨p,res',e1,e2,hbase'⟩:=pH (pN q2) hpos hmem;have hlk:=(bq e1).1;have hf':res'.fz=false:=by
    cases hq:res'.fz with
    |false=>rfl
    |true=>have:=hh.vz _ _ _ hlk hq;rw[e2]at this;cases this
   obtain⟨p1,p2⟩:=hh.inj _ _ _ _ _ _ _ _ _ hl hfz hlk hf' hbase hbase';subst p1 p2;rw[hl]at hlk;cases hlk;rw[hv]at e2;cases e2
  .exact g2.elim
 .exact g2.elim
theorem LD {bs:List Nat}:b9 (bs.map cr.cb)=bs:=by
 induction bs with
 |nil=>rfl
 |cons b bs ih=>simp[b9,ih]
theorem xr {A:Nat->Prop} {w:World} {γ:Nat->Pl}:∀{ls:List (List Value)} {bs:List Nat} {k:Nat},eA A w γ k (ls.map fO) (bs.map cr.cb)->
  ∀(i:Nat) (l:List Value) (b:Nat),ls[i]? =some l->bs[i]? =some b->∃e,w.heap[b]? =some (.cells l.toArray e (0,0))/\∀u∈l,flat u=true
 |[],_,_,_,i,l,b,h,_=>by simp at h
 |l0::ls,[],_,h,i,l,b,_,hb=>by simp at hb
 |l0::ls,b0::bs,k,h,i,l,b,hl,hb=>by
  simp only[cJ,eA]at h;obtain⟨⟨c,e,h1,h2,h3⟩,h4⟩:=h;cases i with
  |zero=>
   simp only[bZ,aQ]at hl hb;subst hl hb;have:=xP h2;refine⟨e, ?_,λ u hu=>h3 u (by rw[this];exact hu)⟩;rw[h1,←this]
  |succ i=>exact xr h4 i l b (by simpa using hl) (by simpa using hb)
theorem yG (hT:bF P T) (hm:P.follows .mixedOrders=true) {fc:FuncId} {fn:Func} {j0 n t6 t7 tA tF:Nat} {ops0:List Oper} {rest:Code} {o0 o1:Oper} {tl:List Oper} {ts:Array TypeId}
  (hf:P.funcs[fc]? =some fn) (hb:fn.body=some (.seq (.region j0 ops0.toArray false) rest)) (hres:fn.results= #[]) (hn:fn.ntmps=n) (hops:ops0=o0::o1::tl)
  (h0:o0.op= .call ⟨.builtin .recover, #[],ts⟩) (h0d:o0.dst=some t6) (h0g:o0.guard=none) (h1:o1.op= .typeAssert (.tmp t6) tA tF true) (h1d:o1.dst=some t7) (h1g:o1.guard=none) (ht6:t6<n)
  {args:List Arg} {post:List RF->List (List RO)->Prop} {u u1:FrameMode} {x6 y7:Value} {V7:AV} (hrec:tI u=some (x6,u1)∨(tI u=none/\x6= .nilIface/\u1=u))
  (hta:∀w,(Instr.typeAssert x6 tA tF true).run P w= .ok y7 w) (hV:∀cx w r β,aA cx w r β V7 y7) (hd6:(cR n args).v[t6]? =some (.one .dead))
  (h:aP T P ops0 ⟨none,[]⟩ tl ((cR n args).v.set t7 V7) (cR n args).r (fG T P rest (kp T [] (aU 0 args) post)))
  {A0 aL:Nat->Prop} {γ:Nat->Pl} {bs:List cr} {us:List Value} {w:World} (hA:∀b,A0 b->b<w.heap.size) (hB:∀b,aL b->A0 b) (ha:aW P w A0 aL γ 0 args bs us)
  (hnb:∀b,NB γ 0 (bn args) b->aL b/\b ∉ b9 bs) (hnd:(b9 bs).Nodup) (hap:mn γ (bn args)) (hle:us.length≤n):
  CallsD P fc us.toArray u w λ e u' w'=>u'=u1/\∃rfs objs uu,post rfs objs/\e= .returned uu/\dc w A0 aL w' bs rfs objs uu:=by
 refine callsD_of_wpS hf hb λ c₀ cs hu=> ?_
 have hop:=pE (n:=n) ha hA hB hnb hnd hap;have hact:({tmps:=us.toArray++Array.replicate (fn.ntmps - us.toArray.size) undef,defers:=[]}:Act)={tmps:=us.toArray++Array.replicate (n - us.length) undef,defers:=[]}:=by rw[hn];simp
 rw[hact];generalize ha0:({tmps:=us.toArray++Array.replicate (n - us.length) undef,defers:=[]}:Act)=a0 at hop;have hsz0:a0.tmps.size=n:=by rw[←ha0];simp;omega
 apply wpS_seq;apply wpS_region;have hrg:List.range ops0.toArray.size=0::1::List.range' 2 tl.length:=by rw[hops];simp only[qp,de,List.range_eq_range'];rfl
 rw[hrg];have hi0:ops0.toArray[0]? =some o0:=by rw[hops];rfl
 have hi1:ops0.toArray[1]? =some o1:=by rw[hops];rfl
 have hr0:∀(a:Act) (w:World),(execOp a.eval o0).run P w= .ok .recover w:=λ a w=>by simp[execOp,h0,resolve,invoke,builtin]
 have hr1:∀w,(execOp (a0.put (some t6) x6).eval o1).run P w= .ok (.value y7) w:=λ w=>by
  have:(a0.put (some t6) x6).eval (.tmp t6)=x6:=by simp[Act.eval,Act.put,hsz0,ht6]
  simp[execOp,h1,this,hta]
 have hw0:∀y,Region.wanted o0 y=true:=λ y=>n7 h0g
 have hw1:∀y,Region.wanted o1 y=true:=λ y=>n7 h1g
 -- what is asked to recover
 suffices hmain:wpOpsS P ops0.toArray (Exit.thenS (rest.wpS P (bodyPostS P fn c₀ cs λ e u' w'=>u'=u1/\∃rfs objs uu,post rfs objs/\e= .returned uu/\dc w A0 aL w' bs rfs objs uu)) (bodyPostS P fn c₀ cs λ e u' w'=>u'=u1/\∃rfs objs uu,post rfs objs/\e= .returned uu/\dc w A0 aL w' bs rfs objs uu)) (List.range' 2 tl.length) ((a0.put (some t6) x6).put (some t7) y7) ({c₀ with mode:=u1}::cs) w by
  have step1:∀cs',wpOpsS P ops0.toArray (Exit.thenS (rest.wpS P (bodyPostS P fn c₀ cs λ e u' w'=>u'=u1/\∃rfs objs uu,post rfs objs/\e= .returned uu/\dc w A0 aL w' bs rfs objs uu)) (bodyPostS P fn c₀ cs λ e u' w'=>u'=u1/\∃rfs objs uu,post rfs objs/\e= .returned uu/\dc w A0 aL w' bs rfs objs uu)) (List.range' 2 tl.length) ((a0.put (some t6) x6).put (some t7) y7) cs' w->
   wpOpsS P ops0.toArray (Exit.thenS (rest.wpS P (bodyPostS P fn c₀ cs λ e u' w'=>u'=u1/\∃rfs objs uu,post rfs objs/\e= .returned uu/\dc w A0 aL w' bs rfs objs uu)) (bodyPostS P fn c₀ cs λ e u' w'=>u'=u1/\∃rfs objs uu,post rfs objs/\e= .returned uu/\dc w A0 aL w' bs rfs objs uu)) (1::List.range' 2 tl.length) (a0.put (some t6) x6) cs' w:=λ cs' hh=>by
   rw[wpOpsS];simp only[hi1,hw1,fB,hr1,Oper.upon_value,h1d];exact hh
  rw[wpOpsS];simp only[hi0,hw0,fB,hr0];have hrec2:(recoverD (c₀::cs)=some (x6,{c₀ with mode:=u1}::cs))∨(recoverD (c₀::cs)=none/\x6= .nilIface/\u1=u):=by
   subst hu;rcases hrec with hrec|⟨hrec,e1,e2⟩
   .left
    unfold tI at hrec;unfold recoverD;simp only;split at hrec
    .rename_i v older hmode;cases hrec;simp only[hmode]
    .cases hrec
   .right
    refine⟨?_,e1,e2⟩;unfold tI at hrec;unfold recoverD;simp only;split at hrec
    .cases hrec
    .rename_i hno;split
     .rename_i v older hmode;exact absurd hmode (hno v older)
     .rfl
  rcases hrec2 with hr|⟨hr,e1,e2⟩
  .rw[hr,h0d];exact step1 _ hmain
  .rw[hr,h0d];have:({c₀ with mode:=u1}:Frame)=c₀:=by rw[e2,←hu]
   rw[this]at hmain;subst e1;exact step1 _ hmain
 -- the rest is code like any other
 have hold:cP (eZ P w A0 aL args bs) ⟨(cR n args).v.set t7 V7,(cR n args).r⟩ ((a0.put (some t6) x6).put (some t7) y7) w:=by
  have e6:=hop.put (some t6) (x:= .one .dead) (u:=x6) (by simp[aA,aw]);have hv6:(cR n args).v.set t6 (.one .dead)=(cR n args).v:=by
   apply oT;intro i;rw[kl];split
   .rename_i hi;subst hi;rw[hd6,ay (bJ.1 hd6).1]
   .rfl
  have ev6:(cR n args).put (some t6) (.one .dead)=cR n args:=by unfold G.put;simp only;rw[hv6]
  rw[ev6]at e6;exact⟨_,e6.put (some t7) (hV _ _ _ _)⟩
 refine r7 (λ a w hq=> ?_) _ _ _ ?_
 .obtain⟨_,_,_,_,_,_,hq1,_⟩:=hq;cases hq1
 refine rK (cx:=eZ P w A0 aL args bs) hT (λ e g a w' hh hq=> ?_) tl 2 _ _ _ _ _ (λ j=>by rw[hops,iz 2 j];rfl) h hold;have hend:∀{e:Ex} {g:G} {a:Act} {w':World},cP (eZ P w A0 aL args bs) g a w'->
   kp T [] (aU 0 args) post e g->
   bodyPostS P fn c₀ cs (λ e u' w'=>u'=u1/\∃rfs objs uu,post rfs objs/\e= .returned uu/\dc w A0 aL w' bs rfs objs uu) (nP e) a ({c₀ with mode:=u1}::cs) w':=λ {e g a w'} hh hq=>by
  have fin:fM T [] (aU 0 args) post g->a.defers=[]/\∃u',({c₀ with mode:=u1}::cs:List Frame)={c₀ with mode:=u'}::cs/\∃v,(results fn a.tmps).run P w'= .ok v w'/\
    (u'=u1/\∃rfs objs uu,post rfs objs/\Ending.returned v= .returned uu/\dc w A0 aL w' bs rfs objs uu):=λ hc=>by
   obtain⟨q1,v,q2,q3⟩:=Mp (rvs:=[]) hT (by rw[hres]) ha hh hc;exact⟨q1,u1,rfl,v,q2,rfl,q3⟩
  cases e with
  |normal=>exact fin hq
  |ret=>exact fin hq
  |exit id=>exact hq.elim
  |panic x=>exact hq.elim
 cases e with
 |normal=>
  rcases hq with⟨g',hg,hk⟩|hq
  .exact wpS_of_wp (oL (cx:=eZ P w A0 aL args bs) hT hm rest g' _ _ (λ e g a w' hh hq=>hend hh hq) hk _ _ (hg _ _ _ hh))
  .exact wpS_of_wp (hq (eZ P w A0 aL args bs) rfl _ (λ e g a w' hh hq=>hend hh hq) _ _ hh)
 |ret=>exact hend (e:= .ret) hh hq
 |exit id=>exact hq.elim
 |panic x=>exact hq.elim
theorem AX {w:World} {A0 aL:Nat->Prop} {w':World} {bs:List cr} {objs:List (List RO)} {u:Value} (h:dc w A0 aL w' bs [] objs u):u= .tuple #[]/\mE w aL w':=by obtain⟨⟨γ,us,m1,m2,_⟩,p1,p2,p3,p4⟩:=h;simp only[dp]at m2;subst m2;exact⟨m1,p1,p2,p3,p4⟩
theorem IM (hT:bF P T) (hm:P.follows .mixedOrders=true) {fc:FuncId} {fn:Func} {j0 n t6 t7 tA tF:Nat} {ops0:List Oper} {rest:Code} {o0 o1:Oper} {tl:List Oper} {ts:Array TypeId}
  (hf:P.funcs[fc]? =some fn) (hb:fn.body=some (.seq (.region j0 ops0.toArray false) rest)) (hres:fn.results= #[]) (hn:fn.ntmps=n) (hops:ops0=o0::o1::tl)
  (h0:o0.op= .call ⟨.builtin .recover, #[],ts⟩) (h0d:o0.dst=some t6) (h0g:o0.guard=none) (h1:o1.op= .typeAssert (.tmp t6) tA tF true) (h1d:o1.dst=some t7) (h1g:o1.guard=none) (ht6:t6<n)
  {ls ls':List (List Value)} {x6 y7:Value} {V7:AV} (hta:∀w,(Instr.typeAssert x6 tA tF true).run P w= .ok y7 w) (hV:∀cx w r β,aA cx w r β V7 y7) (hd6:(cR n (fZ ls)).v[t6]? =some (.one .dead))
  (h:aP T P ops0 ⟨none,[]⟩ tl ((cR n (fZ ls)).v.set t7 V7) (cR n (fZ ls)).r (fG T P rest (kp T [] (aU 0 (fZ ls)) (λ r o=>r=[]/\o=ls'.map fO))))
  {bs:List Nat} {w:World} (hle:ls.length≤n) (hlen:ls.length=bs.length) (hnd:bs.Nodup) (hblk:∀(i:Nat) (l:List Value) (b:Nat),ls[i]? =some l->bs[i]? =some b->∃e,w.heap[b]? =some (.cells l.toArray e (0,0)))
  (hfl:∀l∈ls,∀u∈l,flat u=true):
  CallsD P fc (bs.map dg).toArray (.panicking [{v:=x6,recovered:=false}]) w λ e u' w'=>e= .returned (.tuple #[])/\u'= .panicking [{v:=x6,recovered:=true}]/\mE w (λ b=>b∈bs) w'/\
   ∀(i:Nat) (l:List Value) (b:Nat),ls'[i]? =some l->bs[i]? =some b->∃e,w'.heap[b]? =some (.cells l.toArray e (0,0))/\∀u∈l,flat u=true:=by
 have ha:aW P w (λ b=>b∈bs) (λ b=>b∈bs) (λ _=>⟨none,0⟩) 0 (fZ ls) (bs.map cr.cb) (bs.map dg):=xE hlen (λ b h=>h) hblk hfl;have hlt:∀b∈bs,b<w.heap.size:=λ b hb'=>by obtain⟨i,hi,rfl⟩:=List.getElem_of_mem hb';obtain⟨e,he⟩:=hblk i ls[i] bs[i] (eC (by omega)) (eC hi);exact(Array.getElem?_eq_some_iff.1 he).1
 have hnone:∀(i sz m:Nat) (ds:List D) (bo:Bool),(bn (fZ ls))[i]? ≠some (.own sz m ds bo):=λ i sz m ds bo=>by rw[xg];exact J5
 refine(yG hT hm hf hb hres hn hops h0 h0d h0g h1 h1d h1g ht6 (u:= .panicking [{v:=x6,recovered:=false}]) (u1:= .panicking [{v:=x6,recovered:=true}]) (.inl rfl) hta hV hd6 h hlt (λ b h=>h) ha (λ b hN=>by exfalso;obtain⟨i,sz,m,ds,bo,o,e1,_⟩:=kI hN;exact hnone _ _ _ _ _ e1) (by rw[LD];exact hnd) (λ i j b o o' sz m ds bo sz' m' ds' bo' e1=>absurd e1 (hnone _ _ _ _ _)) (by simpa[←hlen]using hle)).mono ?_
 rintro e u' w' ⟨rfl,rfs,objs,uu,⟨rfl,rfl⟩,rfl,hr⟩
 obtain⟨e1,e2⟩:=AX hr;refine⟨by rw[e1],rfl,e2, ?_⟩;obtain⟨⟨γ',us',m1,m2,m3,_⟩,_⟩:=hr;exact xr m3
theorem yL {w:World} {A0 aL:Nat->Prop} {γ:Nat->Pl} {k:Nat}:∀{us:List Value},aW P w A0 aL γ k (us.map λ _=>Arg.f (.one .dead)) [] us
 |[]=>by simp[aW]
 |u::us=>by simp only[cJ,aW];exact⟨u,us,rfl,by simp[aA,aw],yL⟩
theorem xe {us:List Value}:bn (us.map λ _=>Arg.f (.one .dead))=[]:=by
 induction us with
 |nil=>rfl
 |cons u us ih=>simpa[bn]using ih
theorem ru (hT:bF P T) (hm:P.follows .mixedOrders=true) {fc:FuncId} {fn:Func} {j0 n t6 t7 tA tF:Nat} {ops0:List Oper} {rest:Code} {o0 o1:Oper} {tl:List Oper} {ts:Array TypeId}
  (hf:P.funcs[fc]? =some fn) (hb:fn.body=some (.seq (.region j0 ops0.toArray false) rest)) (hres:fn.results= #[]) (hn:fn.ntmps=n) (hops:ops0=o0::o1::tl)
  (h0:o0.op= .call ⟨.builtin .recover, #[],ts⟩) (h0d:o0.dst=some t6) (h0g:o0.guard=none) (h1:o1.op= .typeAssert (.tmp t6) tA tF true) (h1d:o1.dst=some t7) (h1g:o1.guard=none) (ht6:t6<n)
  {y7:Value} {V7:AV} (hta:∀w,(Instr.typeAssert .nilIface tA tF true).run P w= .ok y7 w) (hV:∀cx w r β,aA cx w r β V7 y7) {k:Nat} (hle:k≤n)
  (hd6:(cR n (List.replicate k (.f (.one .dead)))).v[t6]? =some (.one .dead))
  (h:aP T P ops0 ⟨none,[]⟩ tl ((cR n (List.replicate k (.f (.one .dead)))).v.set t7 V7) (cR n (List.replicate k (.f (.one .dead)))).r (fG T P rest (kp T [] (aU 0 (List.replicate k (.f (.one .dead)))) (λ r o=>r=[]/\o=[])))):
  oQ P fc k:=by
 intro us w hk;have hr:List.replicate k (Arg.f (.one .dead))=us.toList.map λ _=>Arg.f (.one .dead):=by rw[List.map_const'];simp[←hk]
 rw[hr]at hd6 h;have ha:aW P w (λ _=>False) (λ _=>False) (λ _=>⟨none,0⟩) 0 (us.toList.map λ _=>Arg.f (.one .dead)) [] us.toList:=yL;have:=yG hT hm hf hb hres hn hops h0 h0d h0g h1 h1d h1g ht6 (u:= .returning) (u1:= .returning) (.inr ⟨rfl,rfl,rfl⟩) hta hV hd6 h (w:=w) (λ b h=>h.elim) (λ b h=>h.elim) ha (by rw[xe];intro b hb;exact hb.elim) qF
  (by rw[xe];intro i j b o o' sz n ds bo sz' n' ds' bo' h1;simp at h1) (by simp[hk,hle])
 simp only[nD]at this;refine this.mono ?_
 rintro e u' w' ⟨rfl,rfs,objs,uu,⟨rfl,rfl⟩,rfl,hr⟩
 obtain⟨e1,e2⟩:=AX hr;exact⟨by rw[e1],rfl,e2⟩
theorem uM (hT:bF P T) (hm:P.follows .mixedOrders=true) {fc:FuncId} {fn:Func} {j0 n t6 t7 tA tF:Nat} {ops0:List Oper} {rest:Code} {o0 o1:Oper} {tl:List Oper} {ts:Array TypeId}
  (hf:P.funcs[fc]? =some fn) (hb:fn.body=some (.seq (.region j0 ops0.toArray false) rest)) (hres:fn.results= #[]) (hn:fn.ntmps=n) (hops:ops0=o0::o1::tl)
  (h0:o0.op= .call ⟨.builtin .recover, #[],ts⟩) (h0d:o0.dst=some t6) (h0g:o0.guard=none) (h1:o1.op= .typeAssert (.tmp t6) tA tF true) (h1d:o1.dst=some t7) (h1g:o1.guard=none) (ht6:t6<n)
  {ks:List Nat} {sz:Nat->Nat} {nw:Value->Nat->List Value} {Px:Value->Prop} (hnd:ks.Nodup) (hle:ks.length≤n)
  (hmain:∀x,Px x->∀ls:List (List Value),ls.length=ks.length->(∀(i k:Nat) (l:List Value),ks[i]? =some k->ls[i]? =some l->l.length=sz k)->∃y7 V7,(∀w,(Instr.typeAssert x tA tF true).run P w= .ok y7 w)/\
   (∀cx w r β,aA cx w r β V7 y7)/\(cR n (fZ ls)).v[t6]? =some (.one .dead)/\
   aP T P ops0 ⟨none,[]⟩ tl ((cR n (fZ ls)).v.set t7 V7) (cR n (fZ ls)).r (fG T P rest (kp T [] (aU 0 (fZ ls)) (λ r o=>r=[]/\o=(ks.map (nw x)).map fO)))):
  oJ P fc ks sz nw Px:=by
 intro x bl w hx hblk hinj
 let ce:Nat->List Value:=λ k=>match w.heap[bl k]? with|some (.cells c _ _)=>c.toList|_=>[]
 have hce:∀k∈ks,(∃e,w.heap[bl k]? =some (.cells (ce k).toArray e (0,0)))/\(ce k).length=sz k/\∀u∈ce k,flat u=true:=λ k hk=>by
  obtain⟨c,e,q1,q2,q3⟩:=hblk k hk;have:ce k=c.toList:=by simp only[ce];rw[q1]
  rw[this];exact⟨⟨e,by simpa using q1⟩,by simpa using q2,q3⟩
 obtain⟨y7,V7,g1,g2,g3,g4⟩:=hmain x hx (ks.map ce) (by simp) (λ i k l hk hl=>by rw[fl,hk]at hl;cases hl;exact(hce k (lH hk)).2.1)
 have hbs:(ks.map bl).Nodup:=by rw[List.nodup_iff_pairwise_ne,List.pairwise_map];refine hnd.imp_of_mem ?_;intro a b ha hb' hne he;exact hne (hinj a ha b hb' he)
 have hk2:(ks.map λ k=>dg (bl k))=(ks.map bl).map dg:=by rw[oW];rfl
 rw[hk2];refine(IM hT hm hf hb hres hn hops h0 h0d h0g h1 h1d h1g ht6 (ls:=ks.map ce) (ls':=ks.map (nw x)) g1 g2 g3 g4 (by simpa using hle) (by simp) hbs (λ i l b hl hb=> ?_) (λ l hl u hu=> ?_)).mono ?_
 .rw[fl]at hl hb;cases hk:ks[i]? with
  |none=>rw[hk]at hl;cases hl
  |some k=>
   rw[hk]at hl hb;cases hl;cases hb;exact(hce k (lH hk)).1
 .obtain⟨k,hk,rfl⟩:=kM.1 hl;exact(hce k hk).2.2 u hu
 .rintro e u' w' ⟨rfl,rfl,p,q⟩
  refine⟨rfl,rfl,p.size,λ b hb hn=>p.ba b hb λ hm=> ?_,λ k hk=> ?_,p.os,p.out⟩
  .obtain⟨k,hk,rfl⟩:=kM.1 hm;exact hn k hk rfl
  .obtain⟨i,hi,rfl⟩:=List.getElem_of_mem hk;exact q i (nw x ks[i]) (bl ks[i]) (by rw[fl,eC hi];rfl) (by rw[fl,eC hi];rfl)
end
def qf (r:Rs) (s k lo n:Nat):Rs:=
 match ah s r with
 |some rs=>(match rs.l[0]?,rs.l[k+1]? with
  |some (some V),some (some R)=>aM s ⟨rs.next+1,(rs.l.set (k+1) (some {R with e:=rs.next,cells:=R.cells.drop (lo*R.sz)})).set 0 (some {V with cells:=V.cells.set k (.own ⟨s,k+1,rs.next⟩ 0 n)})⟩ r
  |_,_=>r)
 |none=>r
def AH (r:Rs) (s k lo n:Nat):Prop:=
 match ah s r with
 |some rs=>(match rs.l[0]?,rs.l[k+1]? with
  |some (some V),some (some R)=>V.var=true/\R.var=false/\V.cells[k]? =some (.own ⟨s,k+1,R.e⟩ lo n)
  |_,_=>False)
 |none=>False
def lu (pl:Pl) (lo sz:Nat):Pl:=⟨pl.base.map λ q=>(q.1,q.2+lo*sz),pl.cap - lo⟩
theorem Gh.sR {v:List AV} {r:Rs} (s k lo n:Nat) (hok:AH r s k lo n):Gh ⟨v,r⟩ ⟨v,qf r s k lo n⟩:=λ cx a w ⟨β,hh⟩=>by
 unfold AH at hok;unfold qf;cases hf:ah s r with
 |none=>rw[hf]at hok;exact hok.elim
 |some rs=>
  rw[hf]at hok;simp only at hok⊢;split at hok
  case h_2=>exact hok.elim
  case h_1 V R h0 hk=>
   obtain⟨hv,hrv,hcell⟩:=hok
   try simp only[h0,hk]
   have hnx:aq r s=rs.next:=by unfold aq;rw[hf]
   have hklt:k+1<rs.l.length:=(bJ.1 hk).1
   let row:aY:={R with e:=rs.next,cells:=R.cells.drop (lo*R.sz)}
   let r1:Rs:=aM s ⟨rs.next+1,rs.l.set (k+1) (some row)⟩ r
   let β':Nat->Nat->Pl:=λ s' j'=>if s'=s/\j'=k+1 then lu (β s (k+1)) lo R.sz else β s' j'
   have hβ0:β' s (k+1)=lu (β s (k+1)) lo R.sz:=by simp[β']
   have hβ1:∀s' j',¬(s'=s/\j'=k+1)->β' s' j'=β s' j':=λ s' j' hn=>by simp[β',hn]
   have hlkR:aB r s (k+1)=some R:=by unfold aB;simp only[hf,hk]
   have hbs:∀b o,(lu (β s (k+1)) lo R.sz).base=some (b,o)->∃o',(β s (k+1)).base=some (b,o'):=λ b o hb=>by unfold lu at hb;simp only[gE]at hb;obtain⟨q,q1,q2⟩:=hb;cases q2;exact⟨q.2,q1⟩
   have hl:∀s' j' res,aB r1 s' j'=some res->(s'=s/\j'=k+1/\res=row)∨(¬(s'=s/\j'=k+1)/\aB r s' j'=some res):=λ s' j' res hl=>by
    simp only[r1]at hl;rw[dH]at hl;by_cases hs:s=s'
    .subst hs;rw[ay rfl]at hl;simp only[kl]at hl;by_cases hj:k+1=j'
     .subst hj;rw[ay rfl,ay hklt]at hl;simp only[aQ]at hl;exact .inl ⟨rfl,rfl,hl.symm⟩
     .rw[ar hj]at hl;refine .inr ⟨λ h=>hj h.2.symm, ?_⟩;unfold aB;rw[hf];exact hl
    .rw[ar hs]at hl;exact .inr ⟨λ h=>hs h.1.symm,hl⟩
   -- what the cell says
   have hlk0:aB r s 0=some V:=by unfold aB;simp only[hf,h0]
   have hok0:=(hh.rs _ _ _ hlk0).1;unfold bB at hok0;rw[ay hv]at hok0;obtain⟨p0,b,arr,e,p1,p2,p3,p4⟩:=hok0;obtain⟨u,hu1,hu2⟩:=gf p3 hcell;simp only[aw]at hu2;obtain⟨hfl,_,hown⟩:=hu2;obtain⟨_,ho1,ho2,a',ho3,ho4⟩:=hown R (ed hlkR rfl);have hx:Ext cx w r β w r1 β':=by
    refine⟨λ t=> ?_,λ hd res' hlt hg=> ?_,⟨λ _ _ _=>rfl,λ b _ hA=> ?_⟩,λ _ _ _=>rfl,rfl,rfl⟩
    .simp only[r1];rw[c5];split
     .rename_i e;subst e;rw[hnx];exact lN _
     .exact Nat.le_refl _
    .obtain⟨e1,e2⟩:=bq hg;rcases hl _ _ _ e1 with⟨q1,q2,q3⟩|⟨q1,q2⟩
     .subst q3;rw[q1,hnx]at hlt;simp only[row]at e2;omega
     .exact⟨res',ed q2 e2,hβ1 _ _ q1,rfl,rfl,Nat.le_refl _⟩
    .rcases hA with hA|⟨t,j,res,o,e1,e2,e3⟩
     .exact .inl hA
     .rcases hl _ _ _ e1 with⟨q1,q2,q3⟩|⟨q1,q2⟩
      .rw[q1,q2,hβ0]at e3;obtain⟨o',e3⟩:=hbs _ _ e3;rw[q3]at e2;exact .inr ⟨s,k+1,R,o',hlkR,e2,e3⟩
      .rw[hβ1 _ _ q1]at e3;exact .inr ⟨t,j,res,o,q2,e2,e3⟩
   have hrow:bB cx w r β (lu (β s (k+1)) lo R.sz) row:=by
    have hR:=(hh.rs _ _ _ hlkR).1;unfold bB at hR⊢;rw[ar (by rw[hrv];simp)]at hR;rw[ar (by show¬R.var=true;rw[hrv];simp)];obtain⟨ds,d1,d2,d3⟩:=hR;refine⟨ds.drop (lo*R.sz),by simp only[row];rw[d1,lF], ?_, ?_⟩
    .show b5 w _ (lu (β s (k+1)) lo R.sz) R.sz _;unfold b5 at d2⊢;unfold lu;cases hb:(β s (k+1)).base with
     |none=>
      rw[hb]at d2;simp only[Option.map_none];obtain⟨d4,d5⟩:=d2;exact⟨by rw[d4];simp,by rw[d5];simp⟩
     |some q=>
      obtain⟨b1,o1⟩:=q;rw[hb]at d2;simp only[fE];obtain⟨c,ec,f1,f2,f3,f4⟩:=d2;have hm:lo*R.sz+((β s (k+1)).cap - lo)*R.sz=(β s (k+1)).cap*R.sz:=by rw[←cQ];congr 1;omega
      refine⟨c,ec,f1,by omega,by rw[jE];omega,λ i d hd=> ?_⟩;rw[kR]at hd;obtain⟨u1,g1,g2⟩:=f4 _ _ hd;exact⟨u1,by rw[←g1];congr 1;omega,g2⟩
    .intro hz b1 o1 hb1;obtain⟨o',hb1⟩:=hbs _ _ hb1;exact d3 hz b1 o' hb1
   have h1:aH cx ⟨v,r1⟩ a w β':=hh.mk' hx (λ t j res e1=>by
     rcases hl _ _ _ e1 with⟨q1,q2,q3⟩|⟨q1,q2⟩
     .subst q1;subst q2;subst q3;rw[hβ0];refine⟨hrow.ext hx (λ _ _ _=>rfl) (λ b o hb=> ?_), ?_⟩
      .obtain⟨o',hb⟩:=hbs _ _ hb;exact(hh.rs _ _ _ hlkR).1.lt hb
      .simp only[r1];rw[c5,ay rfl];exact eX _
     .obtain⟨g1,g2⟩:=hh.rs _ _ _ q2;rw[hβ1 _ _ q1];exact⟨g1.ext hx (λ _ _ _=>rfl) (λ b o hb=>g1.lt hb),dI g2 (hx.nx t)⟩)
    (λ t j res t' j' res' b o o' e1 f1 e2 f2 b1 b2=>by
     rcases hl _ _ _ e1 with⟨q1,q2,q3⟩|⟨q1,q2⟩
     .rw[q1,q2,hβ0]at b1;obtain⟨oo,b1⟩:=hbs _ _ b1;rw[q3]at f1;rcases hl _ _ _ e2 with⟨p1,p2,p3⟩|⟨p1,p2⟩
      .exact⟨by rw[q1,p1],by rw[q2,p2]⟩
      .rw[hβ1 _ _ p1]at b2;have:=hh.inj _ _ _ _ _ _ _ _ _ hlkR f1 p2 f2 b1 b2;rw[q1,q2];exact this
     .rw[hβ1 _ _ q1]at b1;rcases hl _ _ _ e2 with⟨p1,p2,p3⟩|⟨p1,p2⟩
      .rw[p1,p2,hβ0]at b2;obtain⟨oo,b2⟩:=hbs _ _ b2;rw[p3]at f2;have:=hh.inj _ _ _ _ _ _ _ _ _ q2 f1 hlkR f2 b1 b2;rw[p1,p2];exact this
      .rw[hβ1 _ _ p1]at b2;exact hh.inj _ _ _ _ _ _ _ _ _ q2 f1 p2 f2 b1 b2)
    (λ t j res b o e1 f1 b1=>by
     rcases hl _ _ _ e1 with⟨q1,q2,q3⟩|⟨q1,q2⟩
     .rw[q1,q2,hβ0]at b1;obtain⟨oo,b1⟩:=hbs _ _ b1;rw[q3]at f1⊢;exact hh.fr s (k+1) R _ _ hlkR f1 b1
     .rw[hβ1 _ _ q1]at b1;exact hh.fr _ _ _ _ _ q2 f1 b1) (Nat.le_refl _)
   have hfr:ah s r1=some ⟨rs.next+1,rs.l.set (k+1) (some row)⟩:=by simp only[r1];rw[cp,ay rfl]
   obtain⟨β2,t1,t2,t3⟩:=h1.sV (next':=rs.next+1) (x:= .own ⟨s,k+1,rs.next⟩ 0 n) (V:=V) (k:=k) (b:=b) (cs:=arr) (e:=e) (u:=u) hfr
    (by simp only[il (show k+1≠0 by omega),h0]) hv (by rw[hβ1 s 0 (by omega)];exact p1) p2 (by simpa using hu1) (by
     simp only[aw];refine⟨hfl, ?_,λ res hr=> ?_⟩
     .simp only[r1];rw[c5,ay rfl];exact eX _
     .obtain⟨e1,e2⟩:=bq hr;rcases hl _ _ _ e1 with⟨q1,q2,q3⟩|⟨q1,q2⟩
      .subst q3;rw[hβ0];refine⟨hrv, ?_,by show 0+n≤(β s (k+1)).cap - lo;omega,a',ho3, ?_⟩
       .show 0*R.sz+n*R.sz≤(R.cells.drop (lo*R.sz)).length;rw[jE];omega
       .rcases ho4 with ho4|⟨b1,o1,g1,g2⟩
        .exact .inl ho4
        .refine .inr ⟨b1,o1+lo*R.sz, ?_, ?_⟩
         .show(lu (β s (k+1)) lo R.sz).base=_;unfold lu;simp only[g1,fE]
         .rw[g2,nK,eV]
      .exact absurd ⟨rfl,rfl⟩ q1) (Nat.le_refl _)
   refine⟨β2,t1.congr λ t=> ?_⟩;simp only[r1];rw[cp,cp,cp];split
   .rfl
   .rfl
section
variable {T:Nat->Option TI} {P:Program} {all:List Oper} {m:M} {rest:List Oper} {v:List AV} {r r':Rs} {K:Ex->G->Prop} {f:Operand} {args:Array Operand} {a:Option (FuncId×List Arg)}
end
section
variable {T:Nat->Option TI} {P:Program} {cx:Cx} {v:List AV} {r:Rs} {a:Act} {w:World} {β:Nat->Nat->Pl}
def OC {τ:Type} (S:τ->G) (J:τ->Prop) (g:G):Prop:=∀(cx:Cx) (a:Act) (w:World),cP cx g a w->∃t,J t/\cP cx (S t) a w
theorem LG {i j:Nat} {h:Hd} {n:Nat} {x:Value} (hi:v[i]? =some (.one (.d (.raw x)))) (hj:v[j]? =some (.one (.lk h n x))) (hh:cP cx ⟨v,r⟩ a w):cP cx ⟨v.set i (.one (.own h 0 n)),r⟩ a w:=by
 obtain⟨β,hh⟩:=hh;obtain⟨u,g1,g2⟩:=hh.sl i _ hi;obtain⟨u',_,g4⟩:=hh.sl j _ hj;simp only[aA,aw,Rd]at g2 g4;obtain⟨rfl,_⟩:=g2;refine⟨β,{hh with sz:=by simpa using hh.sz,sl:=λ k y hk=> ?_}⟩;simp only[kl]at hk;by_cases hki:i=k
 .subst hki;rw[ay rfl]at hk;split at hk
  .cases hk;exact⟨u,g1,by simp only[aA,aw];exact g4⟩
  .cases hk
 .rw[ar hki]at hk;exact hh.sl k y hk
theorem Gh.view {i j:Nat} {h:Hd} {n:Nat} {x:Value} (hi:v[i]? =some (.one (.d (.raw x)))) (hj:v[j]? =some (.one (.lk h n x))):Gh ⟨v,r⟩ ⟨v.set i (.one (.own h 0 n)),r⟩:=λ _ _ _ hh=>LG hi hj hh
def Oq (T:Nat->Option TI) (P:Program) (all:List Oper) (k:Nat) (z:Code) (Q:Ex->G->Prop) (e:Ex) (g:G):Prop:=
 match e with
 | .normal=>∃g',Gh g g'/\aP T P all ⟨none,[]⟩ (all.drop k) g'.v g'.r (fG T P z Q)
 |_=>False
def Ot (T:Nat->Option TI) (rvs:List ResultVar) (q n2:Nat) (J:Value->Prop) (R:Value->List RF) (L:List RO) (e:Ex) (g:G):Prop:=
 (e= .normal∨e= .ret)/\(gi T g.v g.r rvs).1/\∃(j:Nat) (x:Value),g.v[j]? =some (AV.one (C.lk ⟨q,1,0⟩ n2 x))/\J x/\iO g.r (gi T g.v g.r rvs).2=some (R x)/\cM g.r [C.own ⟨q,1,0⟩ 0 n2]=some L/\
  iV (eL g.r (dV (gi T g.v g.r rvs).2++ez [[C.own ⟨q,1,0⟩ 0 n2]]))=true
end
def Og:Op->Bool
 | .move _=>true
 | .binOp .. =>true
 | .convert .. =>true
 | .load .. =>true
 | .fieldAddr .. =>true
 | .indexAddr .. =>true
 | .index .. =>true
 | .field .. =>true
 | .slice .. =>true
 | .nilCheck _=>true
 | .extract .. =>true
 | .unOp .. =>true
 | .build .. =>true
 |_=>false
def D8 (o:Oper):Oper:={o with dst:=none,op:= .move (.const (.bool false)),guard:=none}
def Ol (p:Nat) (all:List Oper):List Oper:=all.zipIdx.map λ y=>if(y.2==p||((lv all).getD y.2 0).testBit p)=true then D8 y.1 else y.1
section
variable {T:Nat->Option TI} {P:Program} {cx:Cx} {K:Ex->G->Prop}
def On (P:Program) (f:Operand) (args:Array Operand) (x:Value) (g:G):Prop:=
 bf true g.v f/\cT true g.v args.toList/\∃n as,ni P n as x/\(cC g.v g.r f args=some (n,as)∨∃i mv aJ l',dL i g.v g.r f args=some (n,as,mv,aJ)/\bA g.r none mv aJ l')
def NO:List Bool->List Oper->List Oper
 |b::m,o::l=>(if b=true then D8 o else o)::NO m l
 |_,l=>l
def Ov (A B:Ex->G->Prop) (c:Bool):Ex->G->Prop:=match c with
 |true=>A
 |false=>B
def Oo {α:Type} (b:Bool) (y:α) (e:Int) (r:Except Int α):Prop:=match b with
 |true=>r= .ok y
 |false=>r= .error e
end
end Go.Pk
