import Derived.Test.YtliimajkpggbhaaGreatK7
import Derived.Laws.Externs
import Derived.Lib.Bytealg
import Derived.Recover
set_option linter.unusedVariables false
set_option linter.unusedSimpArgs false
set_option linter.unusedSectionVars false
namespace Go.Pk
def mM (Z:List Nat) (s e:Nat):Nat:=if Z.contains s=true then e else 1
mutual
def jM (Z:List Nat):C->C
 | .own h lo n=> .own ⟨h.s,h.j,mM Z h.s h.e⟩ lo n
 | .ptr h off=> .ptr ⟨h.s,h.j,mM Z h.s h.e⟩ off
 | .fx f caps=> .fx f (qx Z caps)
 | .d x=> .d x
 | .aC n ds=> .aC n ds
 | .fJ ds=> .fJ ds
 | .ab=> .ab
 | .dead=> .dead
 | .ib cs=> .ib (qx Z cs)
 | .eX _ _ _ _=> .dead
 | .lk h n x=> .lk ⟨h.s,h.j,mM Z h.s h.e⟩ n x
def qx (Z:List Nat):List C->List C
 |[]=>[]
 |c::cs=>jM Z c::qx Z cs
end
mutual
def ma (Z:List Nat):AV->AV
 | .one x=> .one (jM Z x)
 | .agg l=> .agg (qx Z l)
 | .ig l=> .ig (ng Z l)
 | .gd c x=> .gd c (ma Z x)
def ng (Z:List Nat):List AV->List AV
 |[]=>[]
 |c::cs=>ma Z c::ng Z cs
end
def jz (Z:List Nat) (s:Nat) (res:bV):bV:=if res.var=true then {res with e:=mM Z s res.e,cells:=qx Z res.cells}else {res with e:=mM Z s res.e}
def Em (Z:List Nat) (s:Nat) (rs:RS):RS:=⟨if Z.contains s=true then rs.next else 2,rs.l.map λ x=>x.map (jz Z s)⟩
def me (Z:List Nat):Rs->Rs
 |[]=>[]
 |(s,rs)::l=>(s,Em Z s rs)::me Z l
def tL (Z:List Nat) (r:Rs) (h:Hd):Bool:=
 Z.contains h.s||match aF r h.s h.j with
 |some res=>res.e==h.e
 |none=>true
mutual
def nV (Z:List Nat) (r:Rs):C->Bool
 | .own h _ _=>tL Z r h
 | .ptr h _=>tL Z r h
 | .fx _ caps=>uU Z r caps
 | .d _=>true
 | .aC _ _=>true
 | .fJ _=>true
 | .ab=>true
 | .dead=>true
 | .ib cs=>uU Z r cs
 | .eX _ _ _ _=>true
 | .lk h _ _=>tL Z r h
def uU (Z:List Nat) (r:Rs):List C->Bool
 |[]=>true
 |c::cs=>nV Z r c&&uU Z r cs
end
mutual
def mc (Z:List Nat) (r:Rs):AV->Bool
 | .one x=>nV Z r x
 | .agg l=>uU Z r l
 | .ig l=>rI Z r l
 | .gd _ x=>mc Z r x
def rI (Z:List Nat) (r:Rs):List AV->Bool
 |[]=>true
 |c::cs=>mc Z r c&&rI Z r cs
end
def BD (Z:List Nat) (r:Rs):Option bV->Bool
 |some res=> !res.var||uU Z r res.cells
 |none=>true
def jN (Z:List Nat) (r:Rs):List (Option bV)->Bool
 |[]=>true
 |x::l=>BD Z r x&&jN Z r l
def Bt (Z:List Nat) (r:Rs):Rs->Bool
 |[]=>true
 |(s,rs)::l=>jN Z r rs.l&&Bt Z r l
theorem Gz {Z:List Nat}:∀{r:Rs} {s:Nat},ao s (me Z r)=(ao s r).map (Em Z s)
 |[],s=>rfl
 |(t,rs)::l,s=>by
  simp only[me,ao];by_cases h:t=s
  .subst h;rw[aj rfl,aj rfl];rfl
  .rw[aa h,aa h,Gz]
theorem De {Z:List Nat} {r:Rs} {s j:Nat}:aF (me Z r) s j=(aF r s j).map (jz Z s):=by
 unfold aF;rw[Gz];cases ao s r with
 |none=>rfl
 |some rs=>
  simp only[im,Em,ji];cases rs.l[j]? with
  |none=>rfl
  |some x=>cases x<;>rfl
theorem Hk {Z:List Nat} {r:Rs} {s:Nat}:ar (me Z r) s=if Z.contains s=true then ar r s else(if(ao s r).isSome then 2 else 0):=by
 unfold ar;rw[Gz];cases ao s r with
 |none=>simp
 |some rs=>simp[Em]
theorem vI {Z:List Nat} {s:Nat} {res:bV}:(jz Z s res).fz=res.fz:=by unfold jz;split<;>rfl
theorem Ji {Z:List Nat} {s:Nat} {res:bV}:(jz Z s res).var=res.var:=by unfold jz;split<;>rfl
theorem K3 {Z:List Nat} {s:Nat} {res:bV}:(jz Z s res).sz=res.sz:=by unfold jz;split<;>rfl
theorem WC {Z:List Nat} {s:Nat} {res:bV}:(jz Z s res).dR=res.dR:=by unfold jz;split<;>rfl
theorem Dj {Z:List Nat} {s:Nat} {res:bV}:(jz Z s res).e=mM Z s res.e:=by unfold jz;split<;>rfl
theorem KV {Z:List Nat}:∀{l:List C},(qx Z l).length=l.length
 |[]=>rfl
 |x::l=>by simp only[qx,cL,KV]
theorem V' {Z:List Nat} {s:Nat} {res:bV}:(jz Z s res).cells.length=res.cells.length:=by unfold jz;split<;>simp[KV]
section
variable {cx:Cx} {w:World} {r:Rs} {β:Nat->Nat->Pl} {Z:List Nat}
theorem acw {b:Nat}:OB (me Z r) β b↔OB r β b:=by
 constructor
 .rintro⟨s,j,res,o,h1,h2,h3⟩
  rw[De]at h1;cases hl:aF r s j with
  |none=>rw[hl]at h1;cases h1
  |some res0=>
   rw[hl]at h1;simp only[im,bn]at h1;subst h1;exact⟨s,j,res0,o,hl,by rwa[vI]at h2,h3⟩
 .rintro⟨s,j,res,o,h1,h2,h3⟩
  exact⟨s,j,jz Z s res,o,by rw[De,h1];rfl,by rw[vI];exact h2,h3⟩
theorem xN:Av cx (me Z r) β=Av cx r β:=by funext b;simp only[Av,acw]
theorem Ha {h:Hd} {res':bV} (hc:tL Z r h=true) (hg:aQ (me Z r) ⟨h.s,h.j,mM Z h.s h.e⟩=some res'):
  ∃res,aQ r h=some res/\res'=jz Z h.s res:=by
 obtain⟨h1,h2⟩:=cp hg;rw[De]at h1;simp only at h1 h2;cases hl:aF r h.s h.j with
 |none=>rw[hl]at h1;cases h1
 |some res=>
  rw[hl]at h1;simp only[im,bn]at h1;subst h1;refine⟨res,gu hl ?_,rfl⟩;unfold tL at hc;rw[Dj]at h2;by_cases hz:Z.contains h.s=true
  .simp only[mM,aj hz]at h2;exact h2
  .rw[hl]at hc;simp only[hz,lR,iz]at hc;exact hc
theorem DR {h:Hd} (hlt:h.e<ar r h.s):mM Z h.s h.e<ar (me Z r) h.s:=by
 rw[Hk];unfold mM;split
 .exact hlt
 .have:(ao h.s r).isSome=true:=by
   unfold ar at hlt;cases hf:ao h.s r with
   |none=>rw[hf]at hlt;simp at hlt
   |some _=>rfl
  rw[aj this];decide
theorem Hn {pl:Pl} {s:Nat} {res:bV} {lo n:Nat} {u:Value} (h:pG pl res lo n u):pG pl (jz Z s res) lo n u:=
 h.same Ji K3 (Nat.le_of_eq V'.symm)
mutual
theorem MX:∀{c:C} {u:Value},nV Z r c=true->ay cx w r β c u->ay cx w (me Z r) β (jM Z c) u
 | .d _,_,_,h=>by simp only[jM,ay,xN]at h⊢;exact h
 | .aC n ds,_,_,h=>by simp only[jM,ay,xN]at h⊢;exact h
 | .own hd lo n,u,hc,h=>by simp only[jM,ay,nV]at h hc⊢;obtain⟨h1,h2,h3⟩:=h;refine⟨h1,DR h2,λ res' hr=> ?_⟩;obtain⟨res,g1,rfl⟩:=Ha hc hr;exact Hn (h3 res g1)
 | .ptr hd off,u,hc,h=>by simp only[jM,ay,nV]at h hc⊢;obtain⟨h1,h2,h3⟩:=h;refine⟨h1,DR h2,λ res' hr=> ?_⟩;obtain⟨res,g1,rfl⟩:=Ha hc hr;exact h3 res g1
 | .fJ ds,_,_,h=>by simp only[jM,ay,xN]at h⊢;exact h
 | .fx f caps,_,hc,h=>by simp only[jM,ay,nV]at h hc⊢;obtain⟨us,h1,h2⟩:=h;exact⟨us,h1,Al hc h2⟩
 | .ab,_,_,h=>by simpa only[jM,ay]using h
 | .dead,_,_,_=>by simp[jM,ay]
 | .ib cs,_,hc,h=>by simp only[jM,ay]at h⊢;obtain⟨b,o,us,h1,h2,h3,h4,h5⟩:=h;exact⟨b,o,us,h1,h2,by rw[xN];exact h3,h4,Al hc h5⟩
 | .eX _ _ _ _,_,_,_=>by simp[jM,ay]
 | .lk hd n x,u,hc,h=>by simp only[jM,ay,nV]at h hc⊢;obtain⟨h1,h2,h3⟩:=h;refine⟨h1,DR h2,λ res' hr=> ?_⟩;obtain⟨res,g1,rfl⟩:=Ha hc hr;exact Hn (h3 res g1)
theorem Al:∀{c:List C} {u:List Value},uU Z r c=true->aH cx w r β c u->aH cx w (me Z r) β (qx Z c) u
 |[],_,_,h=>by simpa[qx,aH]using h
 |c::cs,_,hc,h=>by simp only[qx,aH,uU,bM]at h hc⊢;obtain⟨u,us,h1,h2,h3⟩:=h;exact⟨u,us,h1,MX hc.1 h2,Al hc.2 h3⟩
end
mutual
theorem Hm:∀{c:AV} {u:Value},mc Z r c=true->aE cx w r β c u->aE cx w (me Z r) β (ma Z c) u
 | .one _,_,hc,h=>by simp only[ma,aE,mc]at h hc⊢;exact MX hc h
 | .agg l,_,hc,h=>by simp only[ma,aE,mc]at h hc⊢;obtain⟨us,h1,h2⟩:=h;exact⟨us,h1,Al hc h2⟩
 | .ig l,_,hc,h=>by simp only[ma,aE,mc]at h hc⊢;obtain⟨us,h1,h2⟩:=h;exact⟨us,h1,Ls hc h2⟩
 | .gd c y,_,hc,h=>by simp only[ma,aE,mc]at h hc⊢;exact⟨λ he=>Hm hc (h.1 he),h.2⟩
theorem Ls:∀{c:List AV} {u:List Value},rI Z r c=true->bU cx w r β c u->bU cx w (me Z r) β (ng Z c) u
 |[],_,_,h=>by simpa[ng,bU]using h
 |c::cs,_,hc,h=>by simp only[ng,bU,rI,bM]at h hc⊢;obtain⟨u,us,h1,h2,h3⟩:=h;exact⟨u,us,h1,Hm hc.1 h2,Ls hc.2 h3⟩
end
theorem Mg:∀{l:List (Option bV)} {j:Nat} {res:bV},jN Z r l=true->l[j]? =some (some res)->BD Z r (some res)=true
 |[],_,_,_,h=>by simp at h
 |x::l,0,res,h,hj=>by simp only[c9,bn]at hj;subst hj;simp only[jN,bM]at h;exact h.1
 |x::l,j+1,res,h,hj=>by simp only[jN,bM]at h;exact Mg h.2 (by simpa using hj)
theorem KJ:∀{l:Rs} {s:Nat} {rs:RS},Bt Z r l=true->ao s l=some rs->jN Z r rs.l=true
 |[],_,_,_,h=>by simp[ao]at h
 |(t,rs')::l,s,rs,h,hf=>by
  simp only[Bt,bM]at h;simp only[ao]at hf;split at hf
  .cases hf;exact h.1
  .exact KJ h.2 hf
theorem Xj {pl:Pl} {s:Nat} {res:bV} (hc:BD Z r (some res)=true) (h:cJ cx w r β pl res):cJ cx w (me Z r) β pl (jz Z s res):=by
 unfold cJ at h⊢;rw[Ji];by_cases hv:res.var=true
 .rw[aj hv]at h⊢;simp only[BD,hv,dx,lR]at hc;obtain⟨h0,b,c,e,h1,h2,h3,h4⟩:=h;exact⟨by rw[vI];exact h0,b,c,e,h1,h2,by unfold jz;rw[aj hv];exact Al hc h3,h4⟩
 .rw[aa hv]at h⊢;obtain⟨ds,h1,h2,h3⟩:=h;refine⟨ds,by unfold jz;rw[aa hv];exact h1,by rw[K3,xN];exact h2, ?_⟩;rw[vI,xN];exact h3
end
theorem Gh.can (Z:List Nat) {v:List AV} {r:Rs} (hv:rI Z r v=true) (hr:Bt Z r r=true):Gh ⟨v,r⟩ ⟨ng Z v,me Z r⟩:=λ cx a w ⟨β,hh⟩=>by
 have hlk:∀{s j:Nat} {res:bV},aF (me Z r) s j=some res->∃res0,aF r s j=some res0/\res=jz Z s res0:=λ {s j res} hl=>by
  rw[De]at hl;cases h0:aF r s j with
  |none=>rw[h0]at hl;cases hl
  |some res0=>rw[h0]at hl;simp only[im,bn]at hl;exact⟨res0,rfl,hl.symm⟩
 have hO:∀{s j:Nat} {res:bV},aF r s j=some res->BD Z r (some res)=true:=λ {s j res} hl=>by
  unfold aF at hl;split at hl
  .rename_i rs hf;split at hl
   .rename_i res' hj;cases hl;exact Mg (KJ hr hf) hj
   .cases hl
  .cases hl
 have hlen:∀(l:List AV),(ng Z l).length=l.length:=λ l=>by induction l with
  |nil=>rfl
  |cons x l ih=>simp only[ng,cL,ih]
 have hget:∀(l:List AV) (i:Nat) (y:AV),rI Z r l=true->(ng Z l)[i]? =some y->∃x,l[i]? =some x/\y=ma Z x/\mc Z r x=true:=λ l=>by
  induction l with
  |nil=>intro i y _ h;simp[ng]at h
  |cons x l ih=>
   intro i y hc h;simp only[rI,bM]at hc;cases i with
   |zero=>simp only[ng,c9,bn]at h;exact⟨x,rfl,h.symm,hc.1⟩
   |succ i=>simpa using ih i y hc.2 (by simpa[ng]using h)
 refine⟨β, ?_⟩
 refine {sz:=by rw[hh.sz];exact(hlen v).symm,df:=hh.df,sl:=λ i y hi=> ?_,rs:=λ s j res hl=> ?_,inj:=λ s j res s' j' res' b o o' h1 f1 h2 f2 hb1 hb2=> ?_,
          fr:=λ s j res b o hl hf hb=> ?_,n0:=hh.n0,bZ:=hh.bZ,a0:=hh.a0,dR:=hh.dR,ob:=λ p b hm=> ?_,rw:=λ p n u hm=> ?_,os:=hh.os,out:=hh.out}
 .obtain⟨x,h1,rfl,h3⟩:=hget v i y hv hi;obtain⟨u,g1,g2⟩:=hh.sl i x h1;exact⟨u,g1,Hm h3 g2⟩
 .obtain⟨res0,h0,rfl⟩:=hlk hl;obtain⟨g1,g2⟩:=hh.rs s j res0 h0;refine⟨Xj (hO h0) g1, ?_⟩;rw[Dj];exact DR (h:=⟨s,j,res0.e⟩) g2
 .obtain⟨r1,e1,rfl⟩:=hlk h1;obtain⟨r2,e2,rfl⟩:=hlk h2;exact hh.inj _ _ _ _ _ _ _ _ _ e1 (by rwa[vI]at f1) e2 (by rwa[vI]at f2) hb1 hb2
 .obtain⟨r1,e1,rfl⟩:=hlk hl;rw[vI]at hf;rw[WC];exact hh.fr _ _ _ _ _ e1 hf hb
 .obtain⟨h1,h2⟩:=hh.ob p b hm;refine⟨?_,λ res hg=> ?_⟩
  .rw[Hk];split
   .exact h1
   .have:(ao p r).isSome=true:=by
     unfold ar at h1;cases hf:ao p r with
     |none=>rw[hf]at h1;simp at h1
     |some _=>rfl
    rw[aj this];decide
  .obtain⟨e1,e2⟩:=cp hg;obtain⟨r1,e3,rfl⟩:=hlk e1;rw[Dj]at e2;simp only at e2;unfold mM at e2;split at e2
   .exact h2 r1 (gu e3 e2)
   .simp at e2
 .have:=hh.rw p n u hm;simp only[ay]at this⊢;obtain⟨h1,h2,h3⟩:=this;refine⟨h1, ?_,λ res hg=> ?_⟩
  .rw[Hk];split
   .exact h2
   .have:(ao p r).isSome=true:=by
     unfold ar at h2;cases hf:ao p r with
     |none=>rw[hf]at h2;simp at h2
     |some _=>rfl
    rw[aj this];decide
  .obtain⟨e1,e2⟩:=cp hg;obtain⟨r1,e3,rfl⟩:=hlk e1;rw[Dj]at e2;simp only at e2;unfold mM at e2;split at e2
   .exact Hn (h3 r1 (gu e3 e2))
   .simp at e2
def fk (Z:List Nat) (r:Rs):List AV->List AV->Prop
 |[],[]=>True
 |x::xs,y::ys=>(y= .one .dead∨(mc Z r x=true/\ma Z x=y))/\fk Z r xs ys
 |_,_=>False
theorem lE {Z:List Nat} {r:Rs}:fk Z r [] []=True:=rfl
theorem lB {Z:List Nat} {r:Rs} {x:AV} {xs ys:List AV}:fk Z r (x::xs) (.one .dead::ys)=fk Z r xs ys:=by simp[fk]
theorem lH {Z:List Nat} {r:Rs} {x y:D} {xs ys:List AV}:fk Z r (.one (.d x)::xs) (.one (.d y)::ys)=(x=y/\fk Z r xs ys):=by simp[fk,ma,jM,mc,nV]
theorem lA {Z:List Nat} {r:Rs} {n:Nat} {x:List D} {xs ys:List AV}:fk Z r (.one (.aC n x)::xs) (.one (.aC n x)::ys)=fk Z r xs ys:=by simp[fk,ma,jM,mc,nV]
theorem lF {Z:List Nat} {r:Rs} {h h':Hd} {o:Nat} {xs ys:List AV}:fk Z r (.one (.ptr h o)::xs) (.one (.ptr h' o)::ys)=((tL Z r h=true/\(⟨h.s,h.j,mM Z h.s h.e⟩:Hd)=h')/\fk Z r xs ys):=by simp[fk,ma,jM,mc,nV]
theorem lG {Z:List Nat} {r:Rs} {h h':Hd} {o n m:Nat} {xs ys:List AV}:fk Z r (.one (.own h o n)::xs) (.one (.own h' o m)::ys)=((tL Z r h=true/\(⟨h.s,h.j,mM Z h.s h.e⟩:Hd)=h'/\n=m)/\fk Z r xs ys):=by simp[fk,ma,jM,mc,nV]
theorem ND {Z:List Nat} {r:Rs} {h h':Hd} {n m:Nat} {x y:Value} {xs ys:List AV}:fk Z r (.one (.lk h n x)::xs) (.one (.lk h' m y)::ys)=((tL Z r h=true/\(⟨h.s,h.j,mM Z h.s h.e⟩:Hd)=h'/\n=m/\x=y)/\fk Z r xs ys):=by simp[fk,ma,jM,mc,nV]
theorem C8 {Z:List Nat} {r:Rs} {x y:AV} {xs ys:List AV} (h1:mc Z r x=true) (h2:ma Z x=y):fk Z r (x::xs) (y::ys)=fk Z r xs ys:=by simp[fk,h1,h2]
theorem Np {Z:List Nat} {r:Rs}:∀{v v':List AV},fk Z r v v'->∃v1,fB v v1/\rI Z r v1=true/\ng Z v1=v'
 |[],[],_=>⟨[],trivial,rfl,rfl⟩
 |x::xs,y::ys,h=>by
  obtain⟨h1,h2⟩:=h;obtain⟨v1,g1,g2,g3⟩:=Np h2;rcases h1 with rfl|⟨h1,rfl⟩
  .exact⟨.one .dead::v1,⟨.inl rfl,g1⟩,by simp[rI,mc,nV,g2],by simp[ng,ma,jM,g3]⟩
  .exact⟨x::v1,⟨.inr rfl,g1⟩,by simp[rI,h1,g2],by simp[ng,g3]⟩
 |[],_::_,h=>h.elim
 |_::_,[],h=>h.elim
theorem Gh.canon (fj adds Z:List Nat) {v v':List AV} {r r':Rs} (h:fk Z (nH fj r++adds.map λ s=>(s,(⟨0,[]⟩:RS))) v v')
  (hc:Bt Z (nH fj r++adds.map λ s=>(s,(⟨0,[]⟩:RS))) (nH fj r++adds.map λ s=>(s,(⟨0,[]⟩:RS)))=true)
  (hr:me Z (nH fj r++adds.map λ s=>(s,(⟨0,[]⟩:RS)))=r'):Gh ⟨v,r⟩ ⟨v',r'⟩:=by
 obtain⟨v1,h1,h2,h3⟩:=Np h;subst hr h3;exact(Gh.fj fj adds h1 rfl).trans (Gh.can Z h2 hc)
def Ok (r:Rs) (s k sz:Nat):Rs:=
 match ao s r with
 |some rs=>(match rs.l[0]? with
  |some (some V)=>aN s ⟨rs.next+1,(rs.l.set (k+1) (some {e:=rs.next,var:=false,fz:=false,sz,cells:=[]})).set 0 (some {V with cells:=V.cells.set k (.own ⟨s,k+1,rs.next⟩ 0 0)})⟩ r
  |_=>r)
 |none=>r
def HB:Option C->Bool
 |some (.d (.v (.slice none 0 0)))=>true
 |_=>false
def N7 (r:Rs) (s k:Nat):Bool:=
 match ao s r with
 |some rs=>(match rs.l[0]?,rs.l[k+1]? with
  |some (some V),some none=>V.var&&HB V.cells[k]?
  |_,_=>false)
 |none=>false
theorem Xx {x:Option C} (h:HB x=true):x=some (.d (.v (.slice none 0 0))):=by
 unfold HB at h;split at h
 .rfl
 .cases h
theorem Gh.mI {v:List AV} {r:Rs} (s k sz:Nat) (hok:N7 r s k=true):Gh ⟨v,r⟩ ⟨v,Ok r s k sz⟩:=λ cx a w ⟨β,hh⟩=>by
 unfold N7 at hok;unfold Ok;cases hf:ao s r with
 |none=>rw[hf]at hok;cases hok
 |some rs=>
  rw[hf]at hok;simp only at hok⊢;split at hok
  case h_2=>cases hok
  case h_1 V h0 hk=>
   simp only[bM]at hok;obtain⟨hv,hn⟩:=hok;have hn:=Xx hn;simp only[h0];have hnx:ar r s=rs.next:=by unfold ar;rw[hf]
   have hklt:k+1<rs.l.length:=(cG.1 hk).1
   let row:bV:={e:=rs.next,var:=false,fz:=false,sz,cells:=[]}
   let r1:Rs:=aN s ⟨rs.next+1,rs.l.set (k+1) (some row)⟩ r
   let β':Nat->Nat->Pl:=λ s' j'=>if s'=s/\j'=k+1 then⟨none,0⟩else β s' j'
   have hβ0:β' s (k+1)=⟨none,0⟩:=by simp[β']
   have hβ1:∀s' j',¬(s'=s/\j'=k+1)->β' s' j'=β s' j':=λ s' j' hn=>by simp[β',hn]
   have hl:∀s' j' res,aF r1 s' j'=some res->(s'=s/\j'=k+1/\res=row)∨(¬(s'=s/\j'=k+1)/\aF r s' j'=some res):=λ s' j' res hl=>by
    simp only[r1]at hl;rw[fQ]at hl;by_cases hs:s=s'
    .subst hs;rw[aj rfl]at hl;simp only[nr]at hl;by_cases hj:k+1=j'
     .subst hj;rw[aj rfl,aj hklt]at hl;simp only[bn]at hl;exact .inl ⟨rfl,rfl,hl.symm⟩
     .rw[aa hj]at hl;refine .inr ⟨λ h=>hj h.2.symm, ?_⟩;unfold aF;rw[hf];exact hl
    .rw[aa hs]at hl;exact .inr ⟨λ h=>hs h.1.symm,hl⟩
   have hx:Ext cx w r β w r1 β':=by
    refine⟨λ t=> ?_,λ hd res' hlt hg=> ?_,⟨λ _ _ _=>rfl,λ b _ hA=> ?_⟩,λ _ _ _=>rfl,rfl,rfl⟩
    .simp only[r1];rw[fo];split
     .rename_i e;subst e;rw[hnx];exact uJ _
     .exact Nat.le_refl _
    .obtain⟨e1,e2⟩:=cp hg;rcases hl _ _ _ e1 with⟨q1,q2,q3⟩|⟨q1,q2⟩
     .subst q3;rw[q1,hnx]at hlt;simp only[row]at e2;omega
     .exact⟨res',gu q2 e2,hβ1 _ _ q1,rfl,rfl,Nat.le_refl _⟩
    .rcases hA with hA|⟨t,j,res,o,e1,e2,e3⟩
     .exact .inl hA
     .rcases hl _ _ _ e1 with⟨q1,q2,q3⟩|⟨q1,q2⟩
      .rw[q1,q2,hβ0]at e3;cases e3
      .rw[hβ1 _ _ q1]at e3;exact .inr ⟨t,j,res,o,q2,e2,e3⟩
   have h1:aL cx ⟨v,r1⟩ a w β':=hh.mk' hx (λ t j res e1=>by
     rcases hl _ _ _ e1 with⟨q1,q2,q3⟩|⟨q1,q2⟩
     .subst q1;subst q2;subst q3;rw[hβ0];refine⟨sw (ds:=[]) rfl rfl rfl (by simp[dm]), ?_⟩;simp only[r1];rw[fo,aj rfl];exact jJ _
     .obtain⟨g1,g2⟩:=hh.rs _ _ _ q2;rw[hβ1 _ _ q1];exact⟨g1.ext hx (λ _ _ _=>rfl) (λ b o hb=>g1.lt hb),gI g2 (hx.nx t)⟩)
    (λ t j res t' j' res' b o o' e1 f1 e2 f2 b1 b2=>by
     rcases hl _ _ _ e1 with⟨q1,q2,q3⟩|⟨q1,q2⟩
     .rw[q1,q2,hβ0]at b1;cases b1
     .rcases hl _ _ _ e2 with⟨p1,p2,p3⟩|⟨p1,p2⟩
      .rw[p1,p2,hβ0]at b2;cases b2
      .rw[hβ1 _ _ q1]at b1;rw[hβ1 _ _ p1]at b2;exact hh.inj _ _ _ _ _ _ _ _ _ q2 f1 p2 f2 b1 b2)
    (λ t j res b o e1 f1 b1=>by
     rcases hl _ _ _ e1 with⟨q1,q2,q3⟩|⟨q1,q2⟩
     .rw[q1,q2,hβ0]at b1;cases b1
     .rw[hβ1 _ _ q1]at b1;exact hh.fr _ _ _ _ _ q2 f1 b1) (Nat.le_refl _)
   have hlk0:aF r s 0=some V:=by unfold aF;simp only[hf,h0]
   have hok0:=(hh.rs _ _ _ hlk0).1;unfold cJ at hok0;rw[aj hv]at hok0;obtain⟨p0,b,arr,e,p1,p2,p3,p4⟩:=hok0;obtain⟨u,hu1,hu2⟩:=kg p3 hn;have hu:=(iG.1 hu2).1;subst hu;have hfr:ao s r1=some ⟨rs.next+1,rs.l.set (k+1) (some row)⟩:=by simp only[r1];rw[dz,aj rfl]
   obtain⟨β2,t1,t2,t3⟩:=h1.AO (next':=rs.next+1) (x:= .own ⟨s,k+1,rs.next⟩ 0 0) (V:=V) (k:=k) (b:=b) (cs:=arr) (e:=e) (u:= .slice none 0 0) hfr
    (by simp only[nk (show k+1≠0 by omega),h0]) hv (by rw[hβ1 s 0 (by omega)];exact p1) p2 (by simpa using hu1) (by
     simp only[ay];refine⟨rfl, ?_,λ res hr=> ?_⟩
     .simp only[r1];rw[fo,aj rfl];exact jJ _
     .obtain⟨e1,e2⟩:=cp hr;rcases hl _ _ _ e1 with⟨q1,q2,q3⟩|⟨q1,q2⟩
      .subst q3;rw[hβ0];exact⟨rfl,by simp,Nat.le_refl _,none,rfl, .inl rfl⟩
      .exact absurd ⟨rfl,rfl⟩ q1) (Nat.le_refl _)
   refine⟨β2,t1.congr λ t=> ?_⟩;simp only[r1];rw[dz,dz,dz];split
   .rfl
   .rfl
def DV (r:Rs) (s k:Nat) (x:C):Rs:=
 match nn r x with
 |some (d,r')=>(match ao s r' with
  |some rs=>(match rs.l[0]? with
   |some (some V)=>aN s ⟨rs.next,rs.l.set 0 (some {V with cells:=V.cells.set k (.d d)})⟩ r'
   |_=>r)
  |none=>r)
 |none=>r
def Dy (r:Rs) (s k:Nat) (x:C):Prop:=
 match nn r x with
 |some (_,r')=>(match ao s r' with
  |some rs=>(match rs.l[0]? with
   |some (some V)=>V.var=true/\V.cells[k]? =some x
   |_=>False)
  |none=>False)
 |none=>False
theorem Gh.gH {v:List AV} {r:Rs} (s k:Nat) (x:C) (hok:Dy r s k x):Gh ⟨v,r⟩ ⟨v,DV r s k x⟩:=λ cx a w ⟨β,hh⟩=>by
 unfold Dy at hok;unfold DV;cases hs:nn r x with
 |none=>rw[hs]at hok;exact hok.elim
 |some p=>
  obtain⟨d,r'⟩:=p;rw[hs]at hok;simp only at hok⊢;cases hf:ao s r' with
  |none=>rw[hf]at hok;exact hok.elim
  |some rs=>
   rw[hf]at hok;simp only at hok⊢;split at hok
   case h_2=>exact hok.elim
   case h_1 V h0=>
    obtain⟨hv,hk⟩:=hok
    try simp only[h0]
    have hlk':aF r' s 0=some V:=by unfold aF;simp only[hf,h0]
    have hlk:∃V0,aF r s 0=some V0/\V0.var=true/\V0.cells=V.cells/\V0.e=V.e:=by
     have hlk2:=hlk';unfold nn at hs;split at hs
     .cases hs;exact⟨V,hlk',hv,rfl,rfl⟩
     .rename_i hd lo n;split at hs
      .rename_i res rs0 g1 g2;split at hs
       .cases hs
       .split at hs
        .cases hs;rw[fQ]at hlk2;by_cases hss:hd.s=s
         .rw[aj hss]at hlk2;simp only[nr]at hlk2;by_cases hj:hd.j=0
          .rw[aj hj]at hlk2;obtain⟨e1,e2⟩:=cp g1;have e3:=ug e1 g2;have hlt:hd.j<rs0.l.length:=(cG.1 e3).1;rw[aj (by omega)]at hlk2;simp only[bn]at hlk2;refine⟨res,by rw[←hss,←hj];exact e1,by rw[←hlk2]at hv;exact hv,by rw[←hlk2],by rw[←hlk2]⟩
          .rw[aa hj]at hlk2;refine⟨V, ?_,hv,rfl,rfl⟩;unfold aF;rw[←hss,g2];exact hlk2
         .rw[aa hss]at hlk2;exact⟨V,hlk2,hv,rfl,rfl⟩
        .cases hs
      .cases hs
     .cases hs
    obtain⟨V0,q1,q2,q3,q4⟩:=hlk;obtain⟨hok0,hlt0⟩:=hh.rs _ _ _ q1;unfold cJ at hok0;rw[aj q2]at hok0;obtain⟨p0,b,arr,e,p1,p2,p3,p4⟩:=hok0;rw[q3]at p3;obtain⟨u,hu1,hu2⟩:=kg p3 hk;obtain⟨β1,h1,x1,hd1⟩:=GV hh hs hu2;obtain⟨_,_,hβ,_⟩:=x1.bZ ⟨s,0,V.e⟩ V (by rw[←q4];exact hlt0) (gu hlk' rfl)
    obtain⟨β2,t1,t2,t3⟩:=h1.AO (next':=rs.next) (x:= .d d) (V:=V) (k:=k) (b:=b) (cs:=arr) (e:=e) (u:=u) hf h0 hv (by rw[show β1 s 0=β s 0 from hβ];exact p1) p2 (by simpa using hu1) (by simp only[ay];exact hd1) (Nat.le_refl _)
    exact⟨β2,t1⟩
abbrev iD (n:Int):D:= .v (.int .i64 n)
abbrev uD (n:Int):D:= .v (.int .u8 n)
abbrev bD (b:Bool):D:= .v (.bool b)
abbrev sD (s:ByteArray):D:= .v (.string s)
abbrev di (n:Int):C:= .d (.v (.int .i64 n))
abbrev db (n:Bool):C:= .d (.v (.bool n))
abbrev dS (s:ByteArray):C:= .d (.v (.string s))
abbrev ai (n:Int):AV:= .one (.d (.v (.int .i64 n)))
abbrev au (n:Int):AV:= .one (.d (.v (.int .u8 n)))
abbrev kG (s:ByteArray):AV:= .one (.d (.v (.string s)))
abbrev ab (b:Bool):AV:= .one (.d (.v (.bool b)))
abbrev rb (b:Bool):RF:= .one (.d (.v (.bool b)))
abbrev ri (n:Int):RF:= .one (.d (.v (.int .i64 n)))
abbrev dd:AV:= .one .dead
def dM (l:List AV):List AV:=dd::dd::l
def jt (l:List AV):List AV:=dd::dM l
def js (l:List AV):List AV:=dd::jt l
def pT (l:List AV):List AV:=dd::js l
def lq (l:List AV):List AV:=dd::pT l
def r9 (l:List AV):List AV:=dd::lq l
def yJ (l:List AV):List AV:=dd::r9 l
def r8 (l:List AV):List AV:=dd::yJ l
def nz (l:List AV):List AV:=dd::r8 l
def yy (l:List AV):List AV:=dd::nz l
def nT (l:List AV):List AV:=dd::yy l
def qN (l:List AV):List AV:=dd::nT l
def wJ (l:List AV):List AV:=dd::qN l
def yH (l:List AV):List AV:=dd::wJ l
def EF (l:List AV):List AV:=dd::yH l
def tT (l:List AV):List AV:=dd::EF l
def rZ (l:List AV):List AV:=dd::tT l
def vc (l:List AV):List AV:=dd::rZ l
def qM (l:List AV):List AV:=dd::vc l
def mH (l:List AV):List AV:=dd::qM l
def wB (l:List AV):List AV:=dd::mH l
def Br (l:List AV):List AV:=dd::wB l
def yG (l:List AV):List AV:=dd::Br l
def vd (l:List AV):List AV:=dd::yG l
def rY (l:List AV):List AV:=dd::vd l
def BC (l:List AV):List AV:=dd::rY l
def tY (l:List AV):List AV:=dd::BC l
def wU (l:List AV):List AV:=dd::tY l
def tZ (l:List AV):List AV:=dd::wU l
def yz (l:List AV):List AV:=dd::tZ l
def rV (l:List AV):List AV:=dd::yz l
def EG (l:List AV):List AV:=dd::rV l
def EL (l:List AV):List AV:=dd::EG l
def wQ (l:List AV):List AV:=dd::EL l
def HV (l:List AV):List AV:=dd::wQ l
def EC (l:List AV):List AV:=dd::HV l
def Bp (l:List AV):List AV:=dd::EC l
def wS (l:List AV):List AV:=dd::Bp l
def b8 (l:List AV):List AV:=dd::wS l
def cd (s:Nat):AV:= .one (.ptr ⟨s,0,1⟩ 0)
def aW (e:Nat) (cs:List C):Option bV:=some {e:=e,var:=true,fz:=false,sz:=0,cells:=cs}
def b9 (e sz:Nat) (ds:List D):Option bV:=some {e:=e,var:=false,fz:=false,sz:=sz,cells:=ds.map C.d}
theorem dT:(∀l,dM l=dd::dd::l)/\(∀l,jt l=dd::dM l)/\(∀l,js l=dd::jt l)/\(∀l,pT l=dd::js l)/\(∀l,lq l=dd::pT l)/\(∀l,r9 l=dd::lq l)/\(∀l,yJ l=dd::r9 l)/\(∀l,r8 l=dd::yJ l)/\(∀l,nz l=dd::r8 l)/\(∀l,yy l=dd::nz l)/\(∀l,nT l=dd::yy l)/\(∀l,qN l=dd::nT l)/\(∀l,wJ l=dd::qN l)/\(∀l,yH l=dd::wJ l)/\(∀l,EF l=dd::yH l)/\(∀l,tT l=dd::EF l)/\(∀l,rZ l=dd::tT l)/\(∀l,vc l=dd::rZ l)/\(∀l,qM l=dd::vc l)/\(∀l,mH l=dd::qM l)/\(∀l,wB l=dd::mH l)/\(∀l,Br l=dd::wB l)/\(∀l,yG l=dd::Br l)/\(∀l,vd l=dd::yG l)/\(∀l,rY l=dd::vd l)/\(∀l,BC l=dd::rY l)/\(∀l,tY l=dd::BC l)/\(∀l,wU l=dd::tY l)/\(∀l,tZ l=dd::wU l)/\(∀l,yz l=dd::tZ l)/\(∀l,rV l=dd::yz l)/\(∀l,EG l=dd::rV l)/\(∀l,EL l=dd::EG l)/\(∀l,wQ l=dd::EL l)/\(∀l,HV l=dd::wQ l)/\(∀l,EC l=dd::HV l)/\(∀l,Bp l=dd::EC l)/\(∀l,wS l=dd::Bp l)/\(∀l,b8 l=dd::wS l)/\(∀s,cd s= .one (.ptr ⟨s,0,1⟩ 0))/\(∀e cs,aW e cs=some {e:=e,var:=true,fz:=false,sz:=0,cells:=cs})/\(∀e sz ds,b9 e sz ds=some {e:=e,var:=false,fz:=false,sz:=sz,cells:=ds.map C.d}):=
 ⟨λ _=>rfl,λ _=>rfl,λ _=>rfl,λ _=>rfl,λ _=>rfl,λ _=>rfl,λ _=>rfl,λ _=>rfl,λ _=>rfl,λ _=>rfl,λ _=>rfl,λ _=>rfl,λ _=>rfl,λ _=>rfl,λ _=>rfl,λ _=>rfl,λ _=>rfl,λ _=>rfl,λ _=>rfl,λ _=>rfl,λ _=>rfl,λ _=>rfl,λ _=>rfl,λ _=>rfl,λ _=>rfl,λ _=>rfl,λ _=>rfl,λ _=>rfl,λ _=>rfl,λ _=>rfl,λ _=>rfl,λ _=>rfl,λ _=>rfl,λ _=>rfl,λ _=>rfl,λ _=>rfl,λ _=>rfl,λ _=>rfl,λ _=>rfl,λ _=>rfl,λ _ _=>rfl,λ _ _ _=>rfl⟩
abbrev adM:AV:= .one (.d (.v (.slice none 0 0)))
abbrev al (n:Nat) (ds:List D):AV:= .one (.aC n ds)
abbrev bj:Int:=2305843009213693952
def i64 (n:Int):Prop:= -9223372036854775808≤n/\n<9223372036854775808
structure aX where
 af:Int
 seq:Int
 kind:Int
 br:Int
 name:ByteArray
abbrev aX.enc (r:aX):List D:=[iD r.af,iD r.seq,iD r.kind,iD r.br,sD r.name]
def aX.ok (r:aX):Prop:=i64 r.af/\i64 r.seq/\i64 r.kind/\i64 r.br/\r.name.size<2^62
structure oJ where
 view:Int
 slot:Int
 deriving DecidableEq
structure Batch where
 fill:Bool
 view:Int
 bB:oJ
 time:Int
 reqs:List aX
abbrev dw (l:List aX):List D:=l.flatMap aX.enc
abbrev Batch.enc (b:Batch):List D:=[bD b.fill,iD b.view,iD b.bB.view,iD b.bB.slot,iD b.time, .sl b.reqs.length (dw b.reqs)]
abbrev Batch.aC (b:Batch):List C:=[db b.fill,di b.view,di b.bB.view,di b.bB.slot,di b.time, .aC b.reqs.length (dw b.reqs)]
def Batch.ok (b:Batch):Prop:=i64 b.view/\i64 b.bB.view/\i64 b.bB.slot/\i64 b.time/\b.reqs.length<2^42/\∀r∈b.reqs,r.ok
structure ep where
 slot:Int
 aA:Int
 batch:Batch
abbrev ep.enc (v:ep):List D:=iD v.slot::iD v.aA::v.batch.enc
def ep.ok (v:ep):Prop:=i64 v.slot/\i64 v.aA/\v.batch.ok
structure cr where
 src:Int
 done:Int
 bB:oJ
 time:Int
 aM:List ep
abbrev eI (l:List ep):List D:=l.flatMap ep.enc
abbrev cr.enc (p:cr):List D:=[iD p.src,iD p.done,iD p.bB.view,iD p.bB.slot,iD p.time, .sl p.aM.length (eI p.aM)]
abbrev cr.aC (p:cr):List C:=[di p.src,di p.done,di p.bB.view,di p.bB.slot,di p.time, .aC p.aM.length (eI p.aM)]
def cr.ok (p:cr):Prop:=i64 p.src/\i64 p.done/\i64 p.bB.view/\i64 p.bB.slot/\i64 p.time/\p.aM.length<2^42/\∀v∈p.aM,v.ok
abbrev KO (l:List cr):List D:=l.flatMap cr.enc
abbrev L3 (l:List Batch):List D:=l.flatMap Batch.enc
theorem qg {l:List aX} {i:Nat} (hi:i<l.length):(dw l).drop (i*5)=l[i].enc++(dw (l.drop (i+1))):=p' _ 5 l i hi λ _=>rfl
theorem vM {l:List ep} {i:Nat} (hi:i<l.length):(eI l).drop (i*8)=l[i].enc++(eI (l.drop (i+1))):=p' _ 8 l i hi λ _=>rfl
theorem cQ {l:List aX}:(dw l).length=l.length*5:=mn _ 5 (λ _=>rfl) l
theorem dg {l:List ep}:(eI l).length=l.length*8:=mn _ 8 (λ _=>rfl) l
theorem R9 {n:Nat}:sub 0 0 n []=[]:=by simp[sub]
theorem NL {x0:C}:sub 0 1 1 [x0]=[x0]:=rfl
theorem NS {x0 x1:C}:sub 0 1 2 [x0,x1]=[x0,x1]:=rfl
theorem NW {x0 x1 x2:C}:sub 0 1 3 [x0,x1,x2]=[x0,x1,x2]:=rfl
theorem N6 {x0 x1 x2 x3:C}:sub 0 1 4 [x0,x1,x2,x3]=[x0,x1,x2,x3]:=rfl
theorem NG {x0 x1 x2 x3 x4:C}:sub 0 1 5 [x0,x1,x2,x3,x4]=[x0,x1,x2,x3,x4]:=rfl
theorem Oa {x0 x1 x2 x3 x4 x5:C}:sub 0 1 6 [x0,x1,x2,x3,x4,x5]=[x0,x1,x2,x3,x4,x5]:=rfl
theorem NA {x0 x1 x2 x3 x4 x5 x6:C}:sub 0 1 7 [x0,x1,x2,x3,x4,x5,x6]=[x0,x1,x2,x3,x4,x5,x6]:=rfl
theorem NQ {x0 x1 x2 x3 x4 x5 x6 x7:C}:sub 0 1 8 [x0,x1,x2,x3,x4,x5,x6,x7]=[x0,x1,x2,x3,x4,x5,x6,x7]:=rfl
theorem Cs {l:List aX} {r:aX}:dw (l++[r])=dw l++r.enc:=by simp[dw]
theorem B4 {l:List ep} {r:ep}:eI (l++[r])=eI l++r.enc:=by simp[eI]
theorem o8 {α β:Type} (enc:α->List β) (sz:Nat) (h:∀x,(enc x).length=sz) (l:List α):(l.flatMap enc).take (l.length*sz)=l.flatMap enc:=dk (Nat.le_of_eq (mn enc sz h l))
theorem sx {l:List aX}:(dw l).take (l.length*5)=dw l:=o8 aX.enc 5 (λ _=>rfl) l
theorem uj {l:List ep}:(eI l).take (l.length*8)=eI l:=o8 ep.enc 8 (λ _=>rfl) l
theorem Ik {l:List cr}:(KO l).take (l.length*6)=KO l:=o8 cr.enc 6 (λ _=>rfl) l
theorem Ix {l:List Batch}:(L3 l).take (l.length*6)=L3 l:=o8 Batch.enc 6 (λ _=>rfl) l
section
variable {T:Nat->Option TI} {P:Program}
theorem fC {x y:Code} {g:G} {Q:Ex->G->Prop} (h:cH T P x g Q):A8 T P (.one (.d (.v (.bool true)))) True x y g Q:=⟨trivial,λ _=>h,λ h=>(by cases h)⟩
theorem fD {x y:Code} {g:G} {Q:Ex->G->Prop} (h:cH T P y g Q):A8 T P (.one (.d (.v (.bool false)))) True x y g Q:=⟨trivial,λ h=>(by cases h),λ _=>h⟩
end
theorem NX:Go.Pk.aZ.x= .one .dead:=rfl
theorem SC:type_of% (I (I (I (I (@R9) (I (i7) (@sx))) (I (@uj) (I (@Ik) (@Ix)))) (I (I (Bool.true_beq) (I (Bool.false_beq) (@je))) (I (@mU) (I (rU) (yh))))) (I (I (I (qu) (I (@cC.{0}) (@bE.{0,0}))) (I (@NL) (I (@NS) (@NW)))) (I (I (@N6) (I (@NG) (@Oa))) (I (I (@NA) (@NQ)) (I (Int.toNat_zero) (Int.toNat_one)))))):=I (I (I (I (@R9) (I (i7) (@sx))) (I (@uj) (I (@Ik) (@Ix)))) (I (I (Bool.true_beq) (I (Bool.false_beq) (@je))) (I (@mU) (I (rU) (yh))))) (I (I (I (qu) (I (@cC.{0}) (@bE.{0,0}))) (I (@NL) (I (@NS) (@NW)))) (I (I (@N6) (I (@NG) (@Oa))) (I (I (@NA) (@NQ)) (I (Int.toNat_zero) (Int.toNat_one)))))
def Stop (p:Prop):Prop:=p
theorem gA (n:Nat) {T:Nat->Option TI} {P:Program} {ops:Array Oper} {d:Bool} {y:Code} {Q:Ex->G->Prop} {g:G} (h:Stop (gZ T P (.seq (.region n ops d) y) Q .normal g)):
  gZ T P (.seq (.region n ops d) y) Q .normal g:=h
theorem Mi {T:Nat->Option TI} {P:Program} {y:Code} {Q:Ex->G->Prop} {g g':G} (h:Gh g g') (hk:cH T P y g' Q):Stop (gZ T P y Q .normal g):= .inl ⟨g',h,hk⟩
def ry (n:Nat):Code->Option Code
 | .seq (.region m ops d) y=>if m==n then some (.seq (.region m ops d) y)else ry n y
 | .seq a y=>(ry n a).or (ry n y)
 | .cond _ a b=>(ry n a).or (ry n b)
 | .block _ b=>ry n b
 | .loop b=>ry n b
 | .scope b=>ry n b
 |_=>none
theorem uq {s:Sh} {ss:List Sh} {dss:List (List D)} (h:wa (s::ss) dss):∃d ds,dss=d::ds/\eY s d/\wa ss ds:=by
 cases dss with
 |nil=>exact h.elim
 |cons d ds=>exact⟨d,ds,rfl,h.1,h.2⟩
theorem YR {dss:List (List D)} (h:wa [] dss):dss=[]:=by
 cases dss with
 |nil=>rfl
 |cons d ds=>exact h.elim
section
variable {T:Nat->Option TI}
end
theorem Rd.sub {w:World} {A A':Nat->Prop} (h:∀b,A' b->A b) {d:D} {u:Value} (hd:Rd w A d u):Rd w A' d u:=
 hd.dy (⟨λ _ _ _=>rfl,λ b _ hb=>h b hb⟩:mi w A w A')
theorem dm.take {w:World} {A A':Nat->Prop} (h:∀b,A' b->A b) {pl:Pl} {sz:Nat} {ds xs:List D} (hm:dm w A pl sz (ds++xs)):dm w A' pl sz ds:=by
 unfold dm at*;split at hm
 .exact⟨(List.append_eq_nil_iff.1 hm.1).1,hm.2⟩
 .obtain⟨c,e,h1,h2,h3,h4⟩:=hm;refine⟨c,e,h1,h2,by rw[aG]at h3;omega,λ k d hk=> ?_⟩;obtain⟨u,g1,g2⟩:=h4 k d (by rw[dA (cG.1 hk).1];exact hk);exact⟨u,g1,g2.sub h⟩
theorem ah.wk {P:Program} {f:FuncId} {sz0 n0 sz n:Nat} {ds0 DS:List D} {rest:List Arg}
  (h:ah P f (.row sz0 n0 ds0::rest) (λ r o=>∃X bo,r=[.one (.own sz n (DS++X) bo)]/\(o=[[]]∨∃y,o=[[y]]))) (hl:n*sz≤DS.length):
  ah P f (.row sz0 n0 ds0::rest) (λ r o=>r=[.one (.own sz n DS true)]/\o=[[]]):=by
 refine⟨h.1,λ w A0 aS γ bs us h1 h2 h3 h4 h5 h6=> ?_⟩;have h3':=h3;simp only[bP]at h3';obtain⟨u0,bs',us',_,hbs,_,_⟩:=h3';refine(h.2 w A0 aS γ bs us h1 h2 h3 h4 h5 h6).mono λ e w' ⟨rfs,objs,u,⟨X,bo,hr,ho⟩,he,hret⟩=> ?_
 refine⟨_,_,u,⟨rfl,rfl⟩,he, ?_⟩;obtain⟨⟨γ',vs,m1,m2,m3,m4,m5,m6⟩,s1,s2,s3,s4⟩:=hret;subst hr;have hnb:∀b,NB γ' 0 (cX [.one (.own sz n DS true)] [[]]) b->NB γ' 0 (cX [.one (.own sz n (DS++X) bo)] objs) b:=λ b hb=>by
  simp only[cX,fv,qB,RF.cells,jK,yi,fe,NB]at hb;rcases hb with hb|hb
  .simp only[cX,fv,qB,RF.cells,fe,dW,c5,NB];exact .inl hb
  .exact hb.elim
 refine⟨⟨γ',vs,m1, ?_, ?_,λ b hb=>m4 b (hnb b hb),λ i sz' n' ds' b o hi=> ?_, ?_⟩,s1,s2,s3,s4⟩
 .simp only[eW,lp,RF.cells]at m2⊢;obtain⟨x,xs,g1,g2,g3⟩:=m2;refine⟨x,xs,g1, ?_,g3⟩;simp only[d9]at g2⊢;obtain⟨k1,k2,k3,k4⟩:=g2;exact⟨hl,k2,k3.take λ b hb=>hb.imp id (hnb b),k4⟩
 .subst hbs;rcases ho with rfl|⟨y,rfl⟩
  .simp only[gG]at m3⊢;exact⟨.inl trivial,m3.2⟩
  .simp only[gG]at m3⊢;exact⟨.inl trivial,m3.2⟩
 .intro _;simp only[cX,fv,qB,RF.cells,jK,yi,fe]at hi;cases i with
  |zero=>simp at hi
  |succ i=>simp at hi
 .intro i j b o o' sz1 n1 d1 b1 sz2 n2 d2 b2 hi hj;simp only[cX,fv,qB,RF.cells,jK,yi,fe]at hi hj;intro _ _;cases i<;>cases j<;>simp at hi hj;rfl
def abb (r:Rs) (y:AV) (ys:List AV) (post:List RF->List RO->Prop):Prop:=
 match y with
 | .one (.ptr hd 0)=>match aQ r hd with
  |some res=>match eS r res.cells,pt r ys with
   |some l,some rfs=>res.var=true/\oN (jg r (iE ys++res.cells))=true/\post rfs l
   |_,_=>False
  |none=>False
 |_=>False
def N8 (T:Nat->Option TI) (rvs:List ResultVar) (post:List RF->List RO->Prop) (g:G):Prop:=
 (kX T g.v g.r rvs).1/\match (kX T g.v g.r rvs).2 with
  |y::ys=>abb g.r y ys post
  |[]=>False
def adJ (T:Nat->Option TI) (rvs:List ResultVar) (post:List RF->List RO->Prop) (e:Ex) (g:G):Prop:=
 match e with
 | .normal=>N8 T rvs post g
 | .ret=>N8 T rvs post g
 | .exit _=>False
 | .panic _=>False
section
variable {P:Program} {cx:Cx} {T:Nat->Option TI} {v:List AV} {r:Rs} {a:Act} {w:World} {β:Nat->Nat->Pl}
theorem uK.le {f:FuncId} {as as':List Arg} {rfs:List RF} {l:List RO} (h:uK P f as' rfs l) (hl:ow as as'):uK P f as rfs l:=
 ⟨h.1,λ w A0 us h1 h3=>h.2 w A0 us h1 (xv hl h3).1⟩
end
def BJ (a b:RO):Prop:=
 match a,b with
 | .d x, .d y=>y=x
 | .d (.v (.slice none 0 0)), .own _ n ds _=>n=0/\ds=[]
 | .own sz n ds _, .own sz' n' ds' _=>sz'=sz/\n'=n/\ds'=ds
 |_,_=>False
def vf:List RO->List RO->Prop
 |[],[]=>True
 |a::l,b::m=>BJ a b/\vf l m
 |_,_=>False
def BK (a b:RO):Prop:=
 b=a∨match a,b with
 | .d (.v (.slice none 0 0)), .own _ n ds _=>n=0/\ds=[]
 | .d (.v (.slice none 0 0)), .d (.sl n ds)=>n=0/\ds=[]
 | .own sz n ds _, .own sz' n' ds' bo'=>sz'=sz/\n'=n/\ds'=ds/\bo'=true
 |_,_=>False
def nX:List RO->List RO->Prop
 |[],[]=>True
 |a::l,b::m=>BK a b/\nX l m
 |_,_=>False
def SI:RF->RF->Prop
 | .one a, .one b=>BK a b
 | .agg l, .agg m=>nX l m
 |_,_=>False
def wT:List RF->List RF->Prop
 |[],[]=>True
 |a::l,b::m=>SI a b/\wT l m
 |_,_=>False
def xZ:List (List RO)->List (List RO)->Prop
 |[],[]=>True
 |a::l,b::m=>nX a b/\xZ l m
 |_,_=>False
theorem JT:∀{a:List RO},nX a a
 |[]=>trivial
 |x::a=>⟨.inl rfl,JT⟩
theorem Y7 {a:RF}:SI a a:=by cases a;exact .inl rfl;exact JT
theorem B2:∀{a b c d:List RO},nX a b->nX c d->nX (a++c) (b++d)
 |[],[],_,_,_,h=>h
 |x::a,y::b,_,_,h,h'=>⟨h.1,B2 h.2 h'⟩
 |[],_::_,_,_,h,_=>h.elim
 |_::_,[],_,_,h,_=>h.elim
theorem FL:∀{a b:List RF},wT a b->nX (a.flatMap RF.cells) (b.flatMap RF.cells)
 |[],[],_=>trivial
 |x::a,y::b,h=>by
  simp only[fv];refine B2 ?_ (FL h.2);cases x with
  |one x=>cases y with
   |one y=>exact⟨h.1,trivial⟩
   |agg _=>exact h.1.elim
  |agg l=>cases y with
   |one y=>exact h.1.elim
   |agg m=>exact h.1
 |[],_::_,h=>h.elim
 |_::_,[],h=>h.elim
theorem I2:∀{a b:List (List RO)},xZ a b->nX a.flatten b.flatten
 |[],[],_=>trivial
 |x::a,y::b,h=>by simp only[jK];exact B2 h.1 (I2 h.2)
 |[],_::_,h=>h.elim
 |_::_,[],h=>h.elim
theorem xK:∀{a b:List RO},nX a b->b.length=a.length
 |[],[],_=>rfl
 |x::a,y::b,h=>by simp[xK h.2]
 |[],_::_,h=>h.elim
 |_::_,[],h=>h.elim
theorem LP:∀{a b:List RO} {i:Nat} {y:RO},nX a b->b[i]? =some y->∃x,a[i]? =some x/\BK x y
 |[],[],_,_,_,h=>by simp at h
 |x::a,y::b,0,z,h,hi=>by simp only[c9,bn]at hi;subst hi;exact⟨x,rfl,h.1⟩
 |x::a,y::b,i+1,z,h,hi=>by simpa using LP (i:=i) h.2 (by simpa using hi)
 |[],_::_,_,_,h,_=>h.elim
 |_::_,[],_,_,h,_=>h.elim
theorem Lg:∀{a b:List RO} {i:Nat} {y:RO},vf a b->b[i]? =some y->∃x,a[i]? =some x/\BJ x y
 |[],[],_,_,_,h=>by simp at h
 |x::a,y::b,0,z,h,hi=>by simp only[c9,bn]at hi;subst hi;exact⟨x,rfl,h.1⟩
 |x::a,y::b,i+1,z,h,hi=>by simpa using Lg (i:=i) h.2 (by simpa using hi)
 |[],_::_,_,_,h,_=>h.elim
 |_::_,[],_,_,h,_=>h.elim
section
variable {P:Program} {w:World} {A0 aS:Nat->Prop} {γ:Nat->Pl} {A A':Nat->Prop} {L:List RO}
theorem acY {x:RO} {sz n:Nat} {ds:List D} {bo:Bool} (h:BK x (.own sz n ds bo)):(∃bo',x= .own sz n ds bo'/\(bo=false->bo'=false))∨∃y,x= .d y:=by
 rcases h with h|h
 .exact .inl ⟨bo,h.symm,id⟩
 .split at h
  .exact .inr ⟨_,rfl⟩
  .rename_i q;cases q
  .rename_i sz0 n0 ds0 bo0 sz1 n1 ds1 bo1 q;cases q;obtain⟨rfl,rfl,rfl,rfl⟩:=h;exact .inl ⟨bo0,rfl,λ h=>by cases h⟩
  .exact h.elim
theorem Ol (hA:∀b,A' b->A b) {a b:RO} {u:Value} {i:Nat} (hi:L[i]? =some a) (h:BK a b) (hu:d9 A w (γ i) a u):d9 A' w (γN γ L i) b u:=by
 rcases h with rfl|h
 .exact Aq hA hi hu
 .split at h
  .obtain⟨rfl,rfl⟩:=h;exact GX hi hu
  .obtain⟨rfl,rfl⟩:=h;exact Lr hu
  .obtain⟨rfl,rfl,rfl,rfl⟩:=h;have:=Aq (L:=L) (γ:=γ) hA hi hu;simp only[d9]at this⊢;exact this
  .exact h.elim
theorem ac2 {a b:RO} {u:Value} {i:Nat} (hi:L[i]? =some a) (h:BJ a b) (hu:d9 A w (γ i) a u):d9 A w (γN γ L i) b u:=by
 unfold BJ at h;split at h
 .subst h;exact Aq (λ _ h=>h) hi hu
 .obtain⟨rfl,rfl⟩:=h;exact GX hi hu
 .obtain⟨rfl,rfl,rfl⟩:=h;have:=Aq (L:=L) (γ:=γ) (A':=A) (λ _ h=>h) hi hu;simp only[d9]at this⊢;exact this
 .exact h.elim
theorem DQ (hA:∀b,A' b->A b):∀{a b:List RO} {k:Nat} {us:List Value},(∀i x,a[i]? =some x->L[k+i]? =some x)->nX a b->cU A w γ k a us->cU A' w (γN γ L) k b us
 |[],[],k,us,_,_,h=>h
 |x::a,y::b,k,us,hL,hl,h=>by
  simp only[cU]at h⊢;obtain⟨u,us',rfl,h1,h2⟩:=h;refine⟨u,us',rfl,Ol hA (hL 0 x rfl) hl.1 h1,DQ hA (λ i x' hi=> ?_) hl.2 h2⟩;have:=hL (i+1) x' (by simpa using hi)
  rwa[show k+(i+1)=k+1+i by omega]at this
 |[],_::_,_,_,_,h,_=>h.elim
 |_::_,[],_,_,_,h,_=>h.elim
theorem Ns:∀{a b:List RO} {k:Nat} {us:List Value},(∀i x,a[i]? =some x->L[k+i]? =some x)->vf a b->cU A w γ k a us->cU A w (γN γ L) k b us
 |[],[],k,us,_,_,h=>h
 |x::a,y::b,k,us,hL,hl,h=>by
  simp only[cU]at h⊢;obtain⟨u,us',rfl,h1,h2⟩:=h;refine⟨u,us',rfl,ac2 (hL 0 x rfl) hl.1 h1,Ns (λ i x' hi=> ?_) hl.2 h2⟩;have:=hL (i+1) x' (by simpa using hi)
  rwa[show k+(i+1)=k+1+i by omega]at this
 |[],_::_,_,_,_,h,_=>h.elim
 |_::_,[],_,_,_,h,_=>h.elim
theorem NR (hA:∀b,A' b->A b):∀{a b:List RF} {k:Nat} {us:List Value},(∀i x,(a.flatMap RF.cells)[i]? =some x->L[k+i]? =some x)->wT a b->eW A w γ k a us->eW A' w (γN γ L) k b us
 |[],[],k,us,_,_,h=>h
 |x::a,y::b,k,us,hL,hl,h=>by
  simp only[eW]at h⊢;obtain⟨u,us',rfl,h1,h2⟩:=h;have hlen:y.cells.length=x.cells.length:=by
   cases x with
   |one x=>cases y with
    |one y=>rfl
    |agg _=>exact hl.1.elim
   |agg l=>cases y with
    |one y=>exact hl.1.elim
    |agg m=>exact xK hl.1
  refine⟨u,us',rfl, ?_, ?_⟩
  .have hx:∀i z,x.cells[i]? =some z->L[k+i]? =some z:=λ i z hi=>hL i z (by rw[fv,dA (cG.1 hi).1];exact hi)
   cases x with
   |one x=>cases y with
    |one y=>simp only[lp]at h1⊢;exact Ol hA (hx 0 x rfl) hl.1 h1
    |agg _=>exact hl.1.elim
   |agg l=>cases y with
    |one y=>exact hl.1.elim
    |agg m=>
     simp only[lp]at h1⊢;obtain⟨vs,e1,e2⟩:=h1;exact⟨vs,e1,DQ hA hx hl.1 e2⟩
  .rw[hlen];refine NR hA (λ i z hi=> ?_) hl.2 h2;have:=hL (x.cells.length+i) z (by rw[fv,dL (j5 _ _)];simpa using hi)
   rwa[ey]
 |[],_::_,_,_,_,h,_=>h.elim
 |_::_,[],_,_,_,h,_=>h.elim
theorem GC (hA:∀b,A' b->A b):∀{ls ms:List (List RO)} {k:Nat} {bs:List dQ},(∀i x,ls.flatten[i]? =some x->L[k+i]? =some x)->xZ ls ms->gG A w γ k ls bs->gG A' w (γN γ L) k ms bs
 |[],[],k,bs,_,_,h=>by simpa[gG]using h
 |l::ls,m::ms,k,[],_,_,h=>by simp[gG]at h
 |l::ls,m::ms,k, .dI b::bs,hL,hl,h=>by
  simp only[gG]at h⊢;obtain⟨⟨c,e,h1,h2,h3⟩,h4⟩:=h;refine⟨⟨c,e,h1,DQ hA (λ i x hi=>hL i x (by rw[jK,dA (cG.1 hi).1];exact hi)) hl.1 h2,h3⟩, ?_⟩;rw[xK hl.1];refine GC hA (λ i x hi=> ?_) hl.2 h4;have:=hL (l.length+i) x (by rw[jK,dL (j5 _ _)];simpa using hi)
  rwa[ey]
 |l::ls,m::ms,k, .val u::bs,hL,hl,h=>by
  simp only[gG]at h⊢;obtain⟨h1,h4⟩:=h;refine⟨?_, ?_⟩
  .rcases h1 with rfl|h1
   .left
    have:=xK hl.1;exact nu (by simpa using this)
   .right
    exact DQ hA (λ i x hi=>hL i x (by rw[jK,dA (cG.1 hi).1];exact hi)) hl.1 h1
  rw[xK hl.1];refine GC hA (λ i x hi=> ?_) hl.2 h4;have:=hL (l.length+i) x (by rw[jK,dL (j5 _ _)];simpa using hi)
  rwa[ey]
 |[],_::_,_,_,_,h,_=>h.elim
 |_::_,[],_,_,_,h,_=>h.elim
theorem aaC {rfs rfs':List RF} {objs objs':List (List RO)} (h:wT rfs rfs') (ho:xZ objs objs'):nX (cX rfs objs) (cX rfs' objs'):=B2 (FL h) (I2 ho)
theorem fl.le {w':World} {bs:List dQ} {rfs rfs':List RF} {objs objs':List (List RO)} {u:Value} (h:fl w A0 aS w' bs rfs objs u) (hl:wT rfs rfs') (ho:xZ objs objs'):fl w A0 aS w' bs rfs' objs' u:=by
 obtain⟨⟨γ,us,m1,m2,m3,m4,m5,m6⟩,h2,h3,h4,h5⟩:=h;have hle:=aaC hl ho;have hown:∀{i sz n b o:Nat} {ds:List D} {bo:Bool},(cX rfs' objs')[i]? =some (.own sz n ds bo)->(γN γ (cX rfs objs) i).base=some (b,o)->∃bo',(cX rfs objs)[i]? =some (.own sz n ds bo')/\(bo=false->bo'=false)/\(γ i).base=some (b,o):=λ {i sz n b o ds bo} hi hb=>by
  obtain⟨x,g1,g2⟩:=LP hle hi;rcases acY g2 with⟨bo',rfl,hbo⟩|⟨y,rfl⟩
  .refine⟨bo',g1,hbo, ?_⟩;unfold γN at hb;rw[g1]at hb;exact hb
  .unfold γN at hb;rw[g1]at hb;cases hb
 have hNB:∀b,NB (γN γ (cX rfs objs)) 0 (cX rfs' objs') b->NB γ 0 (cX rfs objs) b:=λ b hb=>by obtain⟨i,sz,n,ds,bo,o,g1,g2⟩:=rz hb;rw[cc]at g2;obtain⟨bo',g3,_,g4⟩:=hown g1 g2;exact lL (k:=0) g3 (by rw[cc];exact g4)
 have hlen:(rfs'.flatMap RF.cells).length=(rfs.flatMap RF.cells).length:=xK (FL hl);refine⟨⟨γN γ (cX rfs objs),us,m1, ?_, ?_,λ b hb=>m4 b (hNB b hb),λ i sz n ds b o hi hb=> ?_,λ i j b o o' sz n ds bo sz' n' ds' bo' hi hj hbi hbj=> ?_⟩,h2,h3,h4,h5⟩
 .exact NR (λ b hb=>hb.imp id (hNB b)) (λ i x hi=>by rw[cc];unfold cX;rw[dA (cG.1 hi).1];exact hi) hl m2
 .rw[hlen];exact GC (λ b hb=>hb.imp id (hNB b)) (λ i x hi=>by unfold cX;rw[dL (j5 _ _)];simpa using hi) ho m3
 .obtain⟨bo',g1,g0,g2⟩:=hown hi hb;rw[g0 rfl]at g1;exact m5 i sz n ds b o g1 g2
 .obtain⟨b1,g1,_,g2⟩:=hown hi hbi;obtain⟨b2,g3,_,g4⟩:=hown hj hbj;exact m6 i j b o o' sz n ds b1 sz' n' ds' b2 g1 g3 g2 g4
theorem ah.leR {f:FuncId} {as:List Arg} {rfs':List RF} {objs':List (List RO)} (h:ah P f as (λ r o=>wT r rfs'/\xZ o objs')):ah P f as (λ r o=>r=rfs'/\o=objs'):=
 ⟨h.1,λ w A0 aS γ bs us h1 h2 h3 h4 h5 h6=>(h.2 w A0 aS γ bs us h1 h2 h3 h4 h5 h6).mono λ e w' ⟨r,o,u,⟨g1,g2⟩,g3,g4⟩=>⟨rfs',objs',u,⟨rfl,rfl⟩,g3,g4.le g1 g2⟩⟩
theorem uK.leR {f:FuncId} {as:List Arg} {rfs rfs':List RF} {l l':List RO} (h:uK P f as rfs l) (hr:wT rfs rfs') (hl:nX l l'):uK P f as rfs' l':=
 ⟨h.1,λ w A0 us h1 h2=>(h.2 w A0 us h1 h2).mono λ e w' ⟨bs,r,o,u,⟨b,g1,g2,g3⟩,g4,g5,g6⟩=>by subst g1 g2 g3;exact⟨_,_,_,u,⟨b,rfl,rfl,rfl⟩,g4,g5,g6.le ⟨Y7,hr⟩ ⟨hl,trivial⟩⟩⟩
theorem LS {γ γ':Nat->Pl}:∀{as:List Arg} {k k':Nat} {bs:List dQ} {us:List Value},cn as=[]->(∀l,Arg.obj l ∉ as)->bP P w A0 aS γ k as bs us->bP P w A0 aS γ' k' as bs us
 |[],_,_,_,_,_,_,h=>h
 | .f x::as,k,k',bs,us,h0,h1,h=>by simp only[bP]at h⊢;obtain⟨u,us',e1,e2,e3⟩:=h;exact⟨u,us',e1,e2,LS (by simpa[cn]using h0) (λ l hl=>h1 l (jI _ hl)) e3⟩
 | .obj l::as,_,_,_,_,_,h1,_=>absurd (nQ) (h1 l)
 | .row .. ::as,_,_,_,_,h0,_,_=>by simp[cn]at h0
def te:List Arg->Bool
 |[]=>true
 | .f _::as=>te as
 |_::_=>false
theorem Lj:∀{as:List Arg},te as=true->cn as=[]/\∀l,Arg.obj l ∉ as
 |[],_=>⟨rfl,λ l h=>by simp at h⟩
 | .f x::as,h=>by
  obtain⟨h1,h2⟩:=Lj (as:=as) (by simpa[te]using h)
  exact⟨by simpa[cn]using h1,λ l hl=>by
   rcases cF.1 hl with hl|hl
   .cases hl
   .exact h2 l hl⟩
 | .obj _::_,h=>by simp[te]at h
 | .row .. ::_,h=>by simp[te]at h
theorem ah.leO {f:FuncId} {x y:List RO} {as:List Arg} {post:List RF->List (List RO)->Prop} (h:ah P f (.obj y::as) post) (hl:vf x y) (hn:te as=true):ah P f (.obj x::as) post:=by
 obtain⟨hn1,hn2⟩:=Lj hn;refine⟨h.1,λ w A0 aS γ bs us h1 h2 h3 h4 h5 h6=> ?_⟩;have hx:cn (.obj x::as)=x:=by simp[cn,hn1]
 have hy:cn (.obj y::as)=y:=by simp[cn,hn1]
 rw[hx]at h4 h6;have hown:∀{i sz n b o:Nat} {ds:List D} {bo:Bool},y[i]? =some (.own sz n ds bo)->(γN γ x i).base=some (b,o)->∃sz' n' ds' bo',x[i]? =some (.own sz' n' ds' bo')/\(γ i).base=some (b,o):=λ {i sz n b o ds bo} hi hb=>by
  obtain⟨z,g1,g2⟩:=Lg hl hi;cases z with
  |d z=>unfold γN at hb;rw[g1]at hb;cases hb
  |own sz' n' ds' bo'=>
   unfold γN at hb;rw[g1]at hb;exact⟨sz',n',ds',bo',g1,hb⟩
 refine h.2 w A0 aS (γN γ x) bs us h1 h2 ?_ ?_ h5 ?_
 .simp only[bP]at h3⊢;obtain⟨b,bs',us',c,e,e1,e2,e3,e4,e5,e6,e7⟩:=h3;exact⟨b,bs',us',c,e,e1,e2,e3,e4,Ns (L:=x) (λ i z hi=>by rw[cc];exact hi) hl e5,e6,LS hn1 hn2 e7⟩
 .rw[hy];intro b hb;obtain⟨i,sz,n,ds,bo,o,g1,g2⟩:=rz hb;rw[cc]at g2;obtain⟨sz',n',ds',bo',g3,g4⟩:=hown g1 g2;exact h4 b (lL (k:=0) g3 (by rw[cc];exact g4))
 .rw[hy];intro i j b o o' sz n ds bo sz' n' ds' bo' hi hj hbi hbj;obtain⟨s1,n1,d1,b1,g1,g2⟩:=hown hi hbi;obtain⟨s2,n2,d2,b2,g3,g4⟩:=hown hj hbj;exact h6 i j b o o' s1 n1 d1 b1 s2 n2 d2 b2 g1 g3 g2 g4
theorem ah.leM {f:FuncId} {x y:List RO} {as as':List Arg} {post:List RF->List (List RO)->Prop} (h:ah P f (.obj y::as') post) (hl:vf x y) (hn:te as'=true) (ha:ow as as'):ah P f (.obj x::as) post:=
 (h.leO hl hn).le ⟨rfl,ha⟩
end
section
variable {T:Nat->Option TI} {P:Program}
theorem Xk {all:List Oper} {m:M} {rest:List Oper} {dst:Option Nat} {v:List AV} {r:Rs} {K:Ex->G->Prop} {n:FuncId} {x y:List RO} {ass as':List Arg} {mv:Mv} {aC:List Nat} {rfs:List RF} {l':List RO}
  {f:Operand} {args:Array Operand} {a:Option (FuncId×List Arg)} (hc:fF 0 v r f args=some (n, .obj x::ass,mv,aC)) (h:ah P n (.obj y::as') (λ r o=>r=rfs/\o=[l'])) (hr:vf x y) (hn:te as'=true) (ha:ow ass as')
  (hs:fA r dst mv aC l') (hk:bS T P all (jO dst mv.s m) rest (cq v dst (bindM r dst mv rfs l').1) (bindM r dst mv rfs l').2 K):pC T P all m rest dst v r K f args a:=
 ZO 0 hc (h.leM hr hn ha) hs hk
end
theorem Kk {α β:Type} (enc:α->List β) (l:List α) (k:Nat):l.flatMap enc=(l.take k).flatMap enc++(l.drop k).flatMap enc:=by rw[←v7,lN]
theorem CV {α β:Type} (enc:α->List β) (sz:Nat) (h:∀x,(enc x).length=sz) {l:List α} {k:Nat} (hk:k≤l.length):(l.flatMap enc).take (k*sz)=(l.take k).flatMap enc:=by rw[Kk enc l k];exact List.take_left' (by rw[mn enc sz h,cu];congr 1;omega)
theorem Xh {α β:Type} (enc:α->List β) (sz:Nat) (h:∀x,(enc x).length=sz) {l:List α} {k:Nat} (hk:k≤l.length):(l.flatMap enc).drop (k*sz)=(l.drop k).flatMap enc:=by rw[Kk enc l k];exact List.drop_left' (by rw[mn enc sz h,cu];congr 1;omega)
abbrev bt (l:List Int):List D:=l.flatMap λ n=>[iD n]
structure bg where
 af:Int
 num:Int
 dp:Int
abbrev bg.enc (x:bg):List D:=[iD x.af,iD x.num,iD x.dp]
abbrev bT (l:List bg):List D:=l.flatMap bg.enc
structure Lk where
 name:ByteArray
 bh:Int
 token:Int
 line:List Int
abbrev Lk.enc (k:Lk):List D:=[sD k.name,iD k.bh,iD k.token, .sl k.line.length (bt k.line)]
abbrev aU (l:List Lk):List D:=l.flatMap Lk.enc
structure dO where
 name:ByteArray
 token:Int
abbrev dO.enc (g:dO):List D:=[sD g.name,iD g.token]
abbrev dV (l:List dO):List D:=l.flatMap dO.enc
structure eh where
 code:Int
 br:Int
 ahead:Int
 held:List dO
abbrev eh.enc (r:eh):List D:=[iD r.code,iD r.br,iD r.ahead, .sl r.held.length (dV r.held)]
abbrev eh.aC (r:eh):List C:=[di r.code,di r.br,di r.ahead, .aC r.held.length (dV r.held)]
structure bN where
 af:Int
 seq:Int
 bd:eh
abbrev bN.enc (m:bN):List D:=iD m.af::iD m.seq::m.bd.enc
abbrev bN.aC (m:bN):List C:=di m.af::di m.seq::m.bd.aC
abbrev ct (l:List bN):List D:=l.flatMap bN.enc
structure St where
 time:Int
 num:Int
 token:Int
 ax:List bg
 ae:List Lk
 aI:List bN
abbrev St.aC (s:St):List C:=[di s.time,di s.num,di s.token, .aC s.ax.length (bT s.ax), .aC s.ae.length (aU s.ae), .aC s.aI.length (ct s.aI)]
abbrev St.rf (s:St):RF:= .agg [.d (iD s.time), .d (iD s.num), .d (iD s.token), .own 3 s.ax.length (bT s.ax) false, .own 4 s.ae.length (aU s.ae) false, .own 6 s.aI.length (ct s.aI) false]
theorem Mt {l:List Int} {i:Nat} (hi:i<l.length):(bt l).drop (i*1)=[iD l[i]]++(bt (l.drop (i+1))):=p' _ 1 l i hi λ _=>rfl
theorem mm {l:List Int} {i:Nat} (hi:i<l.length):(bt l).drop i=[iD l[i]]++(bt (l.drop (i+1))):=by have:=Mt hi;rwa[qu]at this
theorem hU {l:List bg} {i:Nat} (hi:i<l.length):(bT l).drop (i*3)=l[i].enc++(bT (l.drop (i+1))):=p' _ 3 l i hi λ _=>rfl
theorem f8 {l:List Lk} {i:Nat} (hi:i<l.length):(aU l).drop (i*4)=l[i].enc++(aU (l.drop (i+1))):=p' _ 4 l i hi λ _=>rfl
theorem oU {l:List dO} {i:Nat} (hi:i<l.length):(dV l).drop (i*2)=l[i].enc++(dV (l.drop (i+1))):=p' _ 2 l i hi λ _=>rfl
theorem nE {l:List bN} {i:Nat} (hi:i<l.length):(ct l).drop (i*6)=l[i].enc++(ct (l.drop (i+1))):=p' _ 6 l i hi λ _=>rfl
theorem LM {l:List Int}:(bt l).length=l.length*1:=mn _ 1 (λ _=>rfl) l
theorem eu {l:List Int}:(bt l).length=l.length:=by rw[LM,qu]
theorem ca {l:List bg}:(bT l).length=l.length*3:=mn _ 3 (λ _=>rfl) l
theorem bK {l:List Lk}:(aU l).length=l.length*4:=mn _ 4 (λ _=>rfl) l
theorem cI {l:List dO}:(dV l).length=l.length*2:=mn _ 2 (λ _=>rfl) l
theorem cN {l:List bN}:(ct l).length=l.length*6:=mn _ 6 (λ _=>rfl) l
theorem Cz {l:List Int}:(bt l).take l.length=bt l:=dk (Nat.le_of_eq eu)
theorem oS {l:List bg}:(bT l).take (l.length*3)=bT l:=o8 bg.enc 3 (λ _=>rfl) l
theorem gv {l:List Lk}:(aU l).take (l.length*4)=aU l:=o8 Lk.enc 4 (λ _=>rfl) l
theorem vu {l:List dO}:(dV l).take (l.length*2)=dV l:=o8 dO.enc 2 (λ _=>rfl) l
theorem n9 {l:List bN}:(ct l).take (l.length*6)=ct l:=o8 bN.enc 6 (λ _=>rfl) l
theorem Ca {l:List Int} {r:Int}:bt (l++[r])=bt l++[iD r]:=by simp[bt]
theorem xg {l:List bg} {r:bg}:bT (l++[r])=bT l++r.enc:=by simp[bT]
theorem BW {l:List dO} {r:dO}:dV (l++[r])=dV l++r.enc:=by simp[dV]
theorem xa {l:List bN} {r:bN}:ct (l++[r])=ct l++r.enc:=by simp[ct]
theorem Ul:type_of% (I (I (I (SC) (I (@Cz) (@oS))) (I (@gv) (I (@vu) (@n9)))) (I (I (NX) (I (@im.{0,0}) (@Option.map_none.{0,0}))) (I (I (dx) (eR)) (I (@pB.{0}) (@rS.{0}))))):=I (I (I (SC) (I (@Cz) (@oS))) (I (@gv) (I (@vu) (@n9)))) (I (I (NX) (I (@im.{0,0}) (@Option.map_none.{0,0}))) (I (I (dx) (eR)) (I (@pB.{0}) (@rS.{0}))))
theorem Gh.HP {v:List AV} {r r':Rs} (i:Nat) {x:C} {d:D} (hi:v[i]? =some (.one x)) (hs:nn r x=some (d,r')):Gh ⟨v,r⟩ ⟨v.set i (.one (.d d)),r'⟩:=λ cx a w ⟨β,hh⟩=>by
 obtain⟨u,h1,h2⟩:=hh.sl i _ hi;simp only[aE]at h2;obtain⟨β1,k1,x1,hd1⟩:=GV hh hs h2;refine⟨β1,{k1 with sz:=by simpa using k1.sz,sl:=λ j y hj=> ?_}⟩;simp only[nr]at hj;by_cases hij:i=j
 .subst hij;rw[aj rfl]at hj;split at hj
  .cases hj;exact⟨u,h1,by simp only[aE,ay];exact hd1⟩
  .cases hj
 .rw[aa hij]at hj;exact k1.sl j y hj
theorem gB {T:Nat->Option TI} {P:Program} {y:Code} {Q:Ex->G->Prop} {g g':G} (h:Gh g g') (hk:gZ T P y Q .normal g'):gZ T P y Q .normal g:=by
 rcases hk with⟨g1,h1,h2⟩|hk
 .exact .inl ⟨g1,λ cx a w hh=>h1 cx a w (h cx a w hh),h2⟩
 .exact .inr λ cx e R hR a w hh=>hk cx e R hR a w (h cx a w hh)
theorem gK {p:Prop} (h:p):Stop p:=h
theorem gz (n:Nat) {T:Nat->Option TI} {P:Program} {ops:Array Oper} {d:Bool} {Q:Ex->G->Prop} {g:G} (h:Stop (gZ T P (.region n ops d) Q .normal g)):
  gZ T P (.region n ops d) Q .normal g:=h
section
variable {T:Nat->Option TI} {P:Program}
theorem gy (n:Nat) {ops:Array Oper} {d:Bool} {x y:Code} {Q:Ex->G->Prop} {g:G} (h:Stop (gZ T P (.seq (.seq (.region n ops d) x) y) Q .normal g)):
  gZ T P (.seq (.seq (.region n ops d) x) y) Q .normal g:=h
end
theorem Jq (b:ByteArray):∀(n i:Nat) (r:List UInt8),b.size - i=n->ByteArray.toList.loop b i r=r.reverse++b.data.toList.drop i
 |0,i,r,h=>by have hl:b.data.toList.length=b.size:=mC;rw[ByteArray.toList.loop.eq_1,aa (by omega),List.drop_of_length_le (by omega)];simp
 |n+1,i,r,h=>by
  have hi:i<b.size:=by omega
  rw[ByteArray.toList.loop.eq_1,aj hi,Jq b n (i+1) _ (by omega)];have hi':i<b.data.toList.length:=by have hl:b.data.toList.length=b.size:=mC;omega
  rw[cB hi'];have:b.get! i=b.data.toList[i]:=by have h2:i<b.data.size:=hi;show b.data[i]! =_;rw[getElem!_pos b.data i h2,Array.getElem_toList]
  rw[this];simp
theorem yW (b:ByteArray):b.toList=b.data.toList:=by unfold ByteArray.toList;rw[Jq b b.size 0 [] (by omega)];simp
theorem Gh.adh {v:List AV} {r:Rs} {i s sz:Nat} (hi:v[i]? =some (.one (.d (.v (.slice none 0 0))))):
  Gh ⟨v,r⟩ ⟨v.set i (.one (.eX ⟨s,1,ar r s⟩ 0 0 0)),aN s ⟨ar r s+1,[none,some {e:=ar r s,var:=false,fz:=false,sz,cells:=[]}]⟩ r⟩:=λ cx a w ⟨β,hh⟩=>by
 obtain⟨β',q1,q2,q3⟩:=hh.fresh (w':=w) (d:=s) (j0:=1) (L:=[none,some {e:=ar r s,var:=false,fz:=false,sz,cells:=[]}]) (pl0:=⟨none,0⟩) rfl
  (λ j res hj=>by
   match j with
   |0=>simp at hj
   |1=>rfl
   |j+2=>simp at hj) rfl rfl (λ b o hb=>by cases hb) (λ _ _=>rfl) (Nat.le_refl _)
  (λ β' hx hA=>sw (ds:=[]) rfl rfl rfl (by simp[dm]))
 obtain⟨u,g1,g2⟩:=hh.sl i _ hi;have hu:=(cR.1 g2).1;subst hu;refine⟨β',{q1 with sz:=by simpa using q1.sz,sl:=λ j x hj=> ?_}⟩;rw[nr]at hj;split at hj
 .rename_i e;subst e;split at hj
  .cases hj;refine⟨_,g1, ?_⟩;simp only[aE,ay];refine⟨rfl,by rw[fo,aj rfl];exact jJ _,Nat.le_refl _,none,rfl,λ res hr=> ?_⟩;obtain⟨hl,_⟩:=cp hr;rw[fQ,aj rfl]at hl;simp only[lQ,c9,bn]at hl;subst hl;rw[q2];exact⟨rfl,rfl, .inl trivial⟩
  .cases hj
 .exact q1.sl j x hj
theorem zI {p:Prop} (h:p:=by
 ((try with_reducible refine DX ?_);first|(with_reducible rfl)|((with_reducible first|refine NN ?_|refine Db ?_|refine HD ?_);kernel_rfl)|(intros;omega)|(intro q p;rw[q,p];rfl)|(intro q;rw[q];rfl)|(intro q;simp only[bM,dX,iz]at q;omega)|(intros;simp[List.range,List.range.loop];done)|(intros;simp_all[List.range,List.range.loop];done)|fail)):p:=h
theorem zJ {p:Prop} (h:p:=by
 ((try with_reducible refine DX ?_);first|(with_reducible rfl)|((with_reducible first|refine NN ?_|refine Db ?_|refine HD ?_);kernel_rfl)|(intros;omega)|(intro q p;rw[q,p];rfl)|(intro q;rw[q];rfl)|(intro q;simp only[bM,dX,iz]at q;omega)|(intros;simp[List.range,List.range.loop];done)|fail)):p:=h
theorem zC {p:Prop} (h:p:=by first|(with_reducible exact True.intro)|(with_reducible refine HD ?_;kernel_rfl)|fail):p:=h
theorem zK {p:Prop} (h:p:=by(simp only[dT,lB,lH,lA,lE,lF,lG,iO,kV,jj,jo,fV,l5,D.v.injEq,l9];try(repeat'(first|rfl|omega|with_reducible apply And.intro)))):p:=h
theorem zM {p:Prop} (h:p:=by first|(simp[ow,ud,ve,yQ];done)|fail):p:=h
structure Wr (p:Prop):Prop where
 h:p
theorem lu {α β:Type} {f:α->β} {l:List α} {i:Nat}:(l.map f).drop i=(l.drop i).map f:=la.symm
theorem ac6 {α β:Type} {f:α->β} {l:List α} {i:Nat}:(l.map f).take i=(l.take i).map f:=tj.symm
section
variable {T:Nat->Option TI} {P:Program} {all:List Oper} {m:M} {rest:List Oper} {dst:Option Nat} {v:List AV} {r:Rs} {K:Ex->G->Prop} {n:FuncId} {as as':List Arg} {rfs:List RF} {f:Operand} {args:Array Operand} {post:List RF->List (List RO)->Prop} {j:Nat} {want c:Bool}
theorem zc (z:ah P n as' post) (hk:bS T P all m rest (cq v dst (eT r dst rfs).1) (eT r dst rfs).2 K)
  (k:ah P n as' post->ah P n as (λ r o=>r=rfs/\o=[]):=by(intro z;first|exact z|(refine ah.le z ?_;exact zM)|fail)):pC T P all m rest dst v r K f args (some (n,as)):=eb (k z) hk
theorem zg (z:ah P n as' post) (hk:bS T P all m rest (cq v dst (.gd c (kZ (jf 0 0 0 rfs)))) r K)
  (k:ah P n as' post->ah P n as (λ r o=>r=rfs/\o=[]):=by(intro z;first|exact z|(refine ah.le z ?_;exact zM)|fail)) (hn:jF (rfs.flatMap RF.cells)=true:=by rfl):AH T P all m rest c dst v r K f args j want (some (n,as)):=fm (λ _=>k z) hn hk
end
theorem zx {P:Program} {n:FuncId} {as':List Arg} {post:List RF->List (List RO)->Prop} {p q:Prop} (z:ah P n as' post) (h:q)
  (k:ah P n as' post->Wr q->p:=by(intro z h;first|(refine zc z ?_;exact h.h)|(refine zg z ?_;exact h.h)|fail)):p:=k z ⟨h⟩
theorem bw:type_of% (I @dW.{0} @c5.{0}):=I @dW.{0} @c5.{0}
theorem CF {P:Program} {ops:Array Oper} {Q:Exit->Act->List Frame->World->Prop} {cs:List Frame} (hno:∀a w,¬Q .outgrown a cs w):∀(l:List Nat) (a:Act) (w:World),wpOps P ops (λ e a w=>Q e a cs w) l a w->wpOpsS P ops Q l a cs w
 |[],a,w,h=>by simpa only[wpOps,wpOpsS]using h
 |i::rest,a,w,h=>by
  simp only[wpOps,wpOpsS]at h⊢;cases ho:ops[i]? with
  |none=>rw[ho]at h;exact CF hno rest a w h
  |some o=>
   rw[ho]at h;simp only at h⊢;split
   .rename_i hw;rw[aj hw]at h;replace h:=h.resolve_right (λ h=>by obtain⟨_,a',w',hq⟩:=h;exact hno a' w' hq);unfold Oper.wp at h;split
    .rename_i w' hr;rw[hr]at h;exact h.elim
    .exact Oper.wp_mono (P:=P) (o:=o) (a:=a) (w:=w) (λ a w h=>CF hno rest a w h) h
   .rename_i hw;rw[aa hw]at h;exact CF hno rest _ w h
section
variable {P:Program} {T:Nat->Option TI}
def EA:FrameMode->Option (Value×FrameMode)
 | .panicking ({v,recovered:=false,goexit:=false}::older)=>some (v, .panicking ({v,recovered:=true}::older))
 |_=>none
def jA (l:List Value):List RO:=l.map λ x=> .d (.v x)
theorem Jn {A:Nat->Prop} {w:World} {γ:Nat->Pl}:∀{l us:List Value} {k:Nat},cU A w γ k (jA l) us->us=l
 |[],us,k,h=>by simpa[jA,cU]using h
 |x::l,us,k,h=>by simp only[jA,b7,cU,d9,Rd]at h;obtain⟨u,us',rfl,h1,h2⟩:=h;rw[h1.1,Jn (l:=l) h2]
theorem JP {A:Nat->Prop} {w:World} {γ:Nat->Pl}:∀{l:List Value} {k:Nat},(∀u∈l,flat u=true)->cU A w γ k (jA l) l
 |[],k,h=>by simp[jA,cU]
 |x::l,k,h=>by simp only[jA,b7,cU,d9,Rd];exact⟨x,l,rfl,⟨rfl,h x (by simp)⟩,JP λ u hu=>h u (by simp[hu])⟩
theorem Xf {l:List Value} {i sz n:Nat} {ds:List D} {bo:Bool}:(jA l)[i]? ≠some (.own sz n ds bo):=by simp only[jA,ji];cases l[i]? <;>simp
abbrev jV (ls:List (List Value)):List Arg:=ls.map λ l=> .obj (jA l)
theorem Ii:∀{ls:List (List Value)},cn (jV ls)=jA ls.flatten
 |[]=>rfl
 |l::ls=>by simp only[jV,b7,cn,jK,jA,fU];rw[←jA,←jA,←Ii];rfl
theorem IF {w:World} {A0 aS:Nat->Prop} {γ:Nat->Pl}:∀{ls:List (List Value)} {bs:List Nat} {k:Nat},ls.length=bs.length->(∀b∈bs,aS b)->
  (∀(i:Nat) (l:List Value) (b:Nat),ls[i]? =some l->bs[i]? =some b->∃e,w.heap[b]? =some (.cells l.toArray e (0,0)))->(∀l∈ls,∀u∈l,flat u=true)->
  bP P w A0 aS γ k (jV ls) (bs.map dQ.dI) (bs.map gY)
 |[],[],k,_,_,_,_=>by simp[jV,bP]
 |[],_::_,k,h,_,_,_=>by simp at h
 |_::_,[],k,h,_,_,_=>by simp at h
 |l::ls,b::bs,k,h,h1,h2,h3=>by
  simp only[jV,b7,bP];obtain⟨e,he⟩:=h2 0 l b rfl rfl
  exact⟨b,_,_,_,e,rfl,rfl,h1 b (by simp),he,by simpa using JP (h3 l (by simp)),by simpa using h3 l (by simp),
   IF (by simpa using h) (λ b hb=>h1 b (by simp[hb])) (λ i l b hi hb=>h2 (i+1) l b (by simpa using hi) (by simpa using hb)) (λ l hl=>h3 l (by simp[hl]))⟩
theorem aa0 (hT:cl P T) {fn:Func} {rvs:List ResultVar} {args:List Arg} {w:World} {A0 aS:Nat->Prop} {γ:Nat->Pl} {bs:List dQ} {us:List Value} {post:List RF->List (List RO)->Prop} (hres:fn.results=rvs.toArray)
  (ha:bP P w A0 aS γ 0 args bs us) {g:G} {a:Act} {w':World} (hh:dJ (iX P w A0 aS args bs) g a w') (hc:km T rvs (bF 0 args) post g):
  a.defers=[]/\∃v,(results fn a.tmps).run P w'= .ok v w'/\∃rfs objs u,post rfs objs/\Ending.returned v= .returned u/\fl w A0 aS w' bs rfs objs u:=by
 obtain⟨v,r⟩:=g;obtain⟨β,hh⟩:=hh;obtain⟨g1,g2⟩:=hc;obtain⟨vs,k1,k2⟩:=Ag (cx:=iX P w A0 aS args bs) hT hh g1;refine⟨hh.df,qP vs,B1 hres k1, ?_⟩;unfold xM at g2;split at g2
 .rename_i rfs cs q1 q2;split at g2
  .rename_i objs q3;refine⟨rfs,objs,qP vs,g2.2,rfl, ?_⟩;have hpos:ed (iX P w A0 aS args bs) w' r β (bF 0 args) bs:=L2 ha (λ _ _ _=>trivial) (λ q b hm res hg=>(hh.ob q b hm).2 res hg) (λ q n u hm=>hh.rw q n u hm);refine D2 (cx:=iX P w A0 aS args bs) hh (A1:=A0) (λ b hb=> .inl hb) k2 rfl q1 (z8 q2) q3 g2.1 hpos (λ s j res b o hl hfz hv hbase hmem=> ?_);obtain⟨p,res',e1,e2,hbase'⟩:=zQ (z8 q2) hpos hmem;have hlk:=(cp e1).1;have hf':res'.fz=false:=by
    cases hq:res'.fz with
    |false=>rfl
    |true=>have:=hh.vz _ _ _ hlk hq;rw[e2]at this;cases this
   obtain⟨p1,p2⟩:=hh.inj _ _ _ _ _ _ _ _ _ hl hfz hlk hf' hbase hbase';subst p1 p2;rw[hl]at hlk;cases hlk;rw[hv]at e2;cases e2
  .exact g2.elim
 .exact g2.elim
theorem Zi {bs:List Nat}:cW (bs.map dQ.dI)=bs:=by
 induction bs with
 |nil=>rfl
 |cons b bs ih=>simp[cW,ih]
theorem Iv {A:Nat->Prop} {w:World} {γ:Nat->Pl}:∀{ls:List (List Value)} {bs:List Nat} {k:Nat},gG A w γ k (ls.map jA) (bs.map dQ.dI)->
  ∀(i:Nat) (l:List Value) (b:Nat),ls[i]? =some l->bs[i]? =some b->∃e,w.heap[b]? =some (.cells l.toArray e (0,0))/\∀u∈l,flat u=true
 |[],_,_,_,i,l,b,h,_=>by simp at h
 |l0::ls,[],_,h,i,l,b,_,hb=>by simp at hb
 |l0::ls,b0::bs,k,h,i,l,b,hl,hb=>by
  simp only[b7,gG]at h;obtain⟨⟨c,e,h1,h2,h3⟩,h4⟩:=h;cases i with
  |zero=>
   simp only[c9,bn]at hl hb;subst hl hb;have:=Jn h2;refine⟨e, ?_,λ u hu=>h3 u (by rw[this];exact hu)⟩;rw[h1,←this]
  |succ i=>exact Iv h4 i l b (by simpa using hl) (by simpa using hb)
theorem Ja (hT:cl P T) (hm:P.follows .mixedOrders=true) {fc:FuncId} {fn:Func} {j0 n t6 t7 tA tF:Nat} {ops0:List Oper} {rest:Code} {o0 o1:Oper} {tl:List Oper} {ts:Array TypeId}
  (hf:P.funcs[fc]? =some fn) (hb:fn.body=some (.seq (.region j0 ops0.toArray false) rest)) (hres:fn.results= #[]) (hn:fn.ntmps=n) (hops:ops0=o0::o1::tl)
  (h0:o0.op= .call ⟨.builtin .recover, #[],ts⟩) (h0d:o0.dst=some t6) (h0g:o0.guard=none) (h1:o1.op= .typeAssert (.tmp t6) tA tF true) (h1d:o1.dst=some t7) (h1g:o1.guard=none) (ht6:t6<n)
  {args:List Arg} {post:List RF->List (List RO)->Prop} {u u1:FrameMode} {x6 y7:Value} {V7:AV} (hrec:EA u=some (x6,u1)∨(EA u=none/\x6= .nilIface/\u1=u))
  (hta:∀w,(Instr.typeAssert x6 tA tF true).run P w= .ok y7 w) (hV:∀cx w r β,aE cx w r β V7 y7) (hd6:(eg n args).v[t6]? =some (.one .dead))
  (h:bS T P ops0 ⟨none,[]⟩ tl ((eg n args).v.set t7 V7) (eg n args).r (gZ T P rest (ja T [] (bF 0 args) post)))
  {A0 aS:Nat->Prop} {γ:Nat->Pl} {bs:List dQ} {us:List Value} {w:World} (hA:∀b,A0 b->b<w.heap.size) (hB:∀b,aS b->A0 b) (ha:bP P w A0 aS γ 0 args bs us)
  (hnb:∀b,NB γ 0 (cn args) b->aS b/\b ∉ cW bs) (hnd:(cW bs).Nodup) (hap:uZ γ (cn args)) (hle:us.length≤n):
  CallsD P fc us.toArray u w λ e u' w'=>u'=u1/\∃rfs objs uu,post rfs objs/\e= .returned uu/\fl w A0 aS w' bs rfs objs uu:=by
 refine callsD_of_wpS hf hb λ c₀ cs hu=> ?_
 have hop:=zr (n:=n) ha hA hB hnb hnd hap;have hact:({tmps:=us.toArray++Array.replicate (fn.ntmps - us.toArray.size) undef,defers:=[]}:Act)={tmps:=us.toArray++Array.replicate (n - us.length) undef,defers:=[]}:=by rw[hn];simp
 rw[hact];generalize ha0:({tmps:=us.toArray++Array.replicate (n - us.length) undef,defers:=[]}:Act)=a0 at hop;have hsz0:a0.tmps.size=n:=by rw[←ha0];simp;omega
 apply wpS_seq;apply wpS_region;have hrg:List.range ops0.toArray.size=0::1::List.range' 2 tl.length:=by rw[hops];simp only[AZ,cL,AU];rfl
 rw[hrg];have hi0:ops0.toArray[0]? =some o0:=by rw[hops];rfl
 have hi1:ops0.toArray[1]? =some o1:=by rw[hops];rfl
 have hr0:∀(a:Act) (w:World),(execOp a.eval o0).run P w= .ok .recover w:=λ a w=>by simp[execOp,h0,resolve,invoke,builtin]
 have hr1:∀w,(execOp (a0.put (some t6) x6).eval o1).run P w= .ok (.value y7) w:=λ w=>by
  have:(a0.put (some t6) x6).eval (.tmp t6)=x6:=by simp[Act.eval,Act.put,hsz0,ht6]
  simp[execOp,h1,this,hta]
 have hw0:∀y,Region.wanted o0 y=true:=λ y=>uh h0g
 have hw1:∀y,Region.wanted o1 y=true:=λ y=>uh h1g
 -- what is asked to recover
 suffices hmain:wpOpsS P ops0.toArray (Exit.thenS (rest.wpS P (bodyPostS P fn c₀ cs λ e u' w'=>u'=u1/\∃rfs objs uu,post rfs objs/\e= .returned uu/\fl w A0 aS w' bs rfs objs uu)) (bodyPostS P fn c₀ cs λ e u' w'=>u'=u1/\∃rfs objs uu,post rfs objs/\e= .returned uu/\fl w A0 aS w' bs rfs objs uu)) (List.range' 2 tl.length) ((a0.put (some t6) x6).put (some t7) y7) ({c₀ with mode:=u1}::cs) w by
  have step1:∀cs',wpOpsS P ops0.toArray (Exit.thenS (rest.wpS P (bodyPostS P fn c₀ cs λ e u' w'=>u'=u1/\∃rfs objs uu,post rfs objs/\e= .returned uu/\fl w A0 aS w' bs rfs objs uu)) (bodyPostS P fn c₀ cs λ e u' w'=>u'=u1/\∃rfs objs uu,post rfs objs/\e= .returned uu/\fl w A0 aS w' bs rfs objs uu)) (List.range' 2 tl.length) ((a0.put (some t6) x6).put (some t7) y7) cs' w->
   wpOpsS P ops0.toArray (Exit.thenS (rest.wpS P (bodyPostS P fn c₀ cs λ e u' w'=>u'=u1/\∃rfs objs uu,post rfs objs/\e= .returned uu/\fl w A0 aS w' bs rfs objs uu)) (bodyPostS P fn c₀ cs λ e u' w'=>u'=u1/\∃rfs objs uu,post rfs objs/\e= .returned uu/\fl w A0 aS w' bs rfs objs uu)) (1::List.range' 2 tl.length) (a0.put (some t6) x6) cs' w:=λ cs' hh=>by
   rw[wpOpsS];simp only[hi1,hw1,cS,hr1,Oper.upon_value,h1d];exact hh
  rw[wpOpsS];simp only[hi0,hw0,cS,hr0];have hrec2:(recoverD (c₀::cs)=some (x6,{c₀ with mode:=u1}::cs))∨(recoverD (c₀::cs)=none/\x6= .nilIface/\u1=u):=by
   subst hu;rcases hrec with hrec|⟨hrec,e1,e2⟩
   .left
    unfold EA at hrec;unfold recoverD;simp only;split at hrec
    .rename_i v older hmode;cases hrec;simp only[hmode]
    .cases hrec
   .right
    refine⟨?_,e1,e2⟩;unfold EA at hrec;unfold recoverD;simp only;split at hrec
    .cases hrec
    .rename_i hno;split
     .rename_i v older hmode;exact absurd hmode (hno v older)
     .rfl
  rcases hrec2 with hr|⟨hr,e1,e2⟩
  .rw[hr,h0d];exact step1 _ hmain
  .rw[hr,h0d];have:({c₀ with mode:=u1}:Frame)=c₀:=by rw[e2,←hu]
   rw[this]at hmain;subst e1;exact step1 _ hmain
 -- the rest is code like any other
 have hold:dJ (iX P w A0 aS args bs) ⟨(eg n args).v.set t7 V7,(eg n args).r⟩ ((a0.put (some t6) x6).put (some t7) y7) w:=by
  have e6:=hop.put (some t6) (x:= .one .dead) (u:=x6) (by simp[aE,ay]);have hv6:(eg n args).v.set t6 (.one .dead)=(eg n args).v:=by
   apply xY;intro i;rw[nr];split
   .rename_i hi;subst hi;rw[hd6,aj (cG.1 hd6).1]
   .rfl
  have ev6:(eg n args).put (some t6) (.one .dead)=eg n args:=by unfold G.put;simp only;rw[hv6]
  rw[ev6]at e6;exact⟨_,e6.put (some t7) (hV _ _ _ _)⟩
 refine CF (λ a w hq=> ?_) _ _ _ ?_
 .obtain⟨_,_,_,_,_,_,hq1,_⟩:=hq;cases hq1
 refine xk (cx:=iX P w A0 aS args bs) hT (λ e g a w' hh hq=> ?_) tl 2 _ _ _ _ _ (λ j=>by rw[hops,kT 2 j];rfl) h hold;have hend:∀{e:Ex} {g:G} {a:Act} {w':World},dJ (iX P w A0 aS args bs) g a w'->
   ja T [] (bF 0 args) post e g->
   bodyPostS P fn c₀ cs (λ e u' w'=>u'=u1/\∃rfs objs uu,post rfs objs/\e= .returned uu/\fl w A0 aS w' bs rfs objs uu) (qG e) a ({c₀ with mode:=u1}::cs) w':=λ {e g a w'} hh hq=>by
  have fin:km T [] (bF 0 args) post g->a.defers=[]/\∃u',({c₀ with mode:=u1}::cs:List Frame)={c₀ with mode:=u'}::cs/\∃v,(results fn a.tmps).run P w'= .ok v w'/\
    (u'=u1/\∃rfs objs uu,post rfs objs/\Ending.returned v= .returned uu/\fl w A0 aS w' bs rfs objs uu):=λ hc=>by
   obtain⟨q1,v,q2,q3⟩:=aa0 (rvs:=[]) hT (by rw[hres]) ha hh hc;exact⟨q1,u1,rfl,v,q2,rfl,q3⟩
  cases e with
  |normal=>exact fin hq
  |ret=>exact fin hq
  |exit id=>exact hq.elim
  |panic x=>exact hq.elim
 cases e with
 |normal=>
  rcases hq with⟨g',hg,hk⟩|hq
  .exact wpS_of_wp (uG (cx:=iX P w A0 aS args bs) hT hm rest g' _ _ (λ e g a w' hh hq=>hend hh hq) hk _ _ (hg _ _ _ hh))
  .exact wpS_of_wp (hq (iX P w A0 aS args bs) rfl _ (λ e g a w' hh hq=>hend hh hq) _ _ hh)
 |ret=>exact hend (e:= .ret) hh hq
 |exit id=>exact hq.elim
 |panic x=>exact hq.elim
theorem L5 {w:World} {A0 aS:Nat->Prop} {w':World} {bs:List dQ} {objs:List (List RO)} {u:Value} (h:fl w A0 aS w' bs [] objs u):u= .tuple #[]/\vh w aS w':=by obtain⟨⟨γ,us,m1,m2,_⟩,p1,p2,p3,p4⟩:=h;simp only[eW]at m2;subst m2;exact⟨m1,p1,p2,p3,p4⟩
theorem Vj (hT:cl P T) (hm:P.follows .mixedOrders=true) {fc:FuncId} {fn:Func} {j0 n t6 t7 tA tF:Nat} {ops0:List Oper} {rest:Code} {o0 o1:Oper} {tl:List Oper} {ts:Array TypeId}
  (hf:P.funcs[fc]? =some fn) (hb:fn.body=some (.seq (.region j0 ops0.toArray false) rest)) (hres:fn.results= #[]) (hn:fn.ntmps=n) (hops:ops0=o0::o1::tl)
  (h0:o0.op= .call ⟨.builtin .recover, #[],ts⟩) (h0d:o0.dst=some t6) (h0g:o0.guard=none) (h1:o1.op= .typeAssert (.tmp t6) tA tF true) (h1d:o1.dst=some t7) (h1g:o1.guard=none) (ht6:t6<n)
  {ls ls':List (List Value)} {x6 y7:Value} {V7:AV} (hta:∀w,(Instr.typeAssert x6 tA tF true).run P w= .ok y7 w) (hV:∀cx w r β,aE cx w r β V7 y7) (hd6:(eg n (jV ls)).v[t6]? =some (.one .dead))
  (h:bS T P ops0 ⟨none,[]⟩ tl ((eg n (jV ls)).v.set t7 V7) (eg n (jV ls)).r (gZ T P rest (ja T [] (bF 0 (jV ls)) (λ r o=>r=[]/\o=ls'.map jA))))
  {bs:List Nat} {w:World} (hle:ls.length≤n) (hlen:ls.length=bs.length) (hnd:bs.Nodup) (hblk:∀(i:Nat) (l:List Value) (b:Nat),ls[i]? =some l->bs[i]? =some b->∃e,w.heap[b]? =some (.cells l.toArray e (0,0)))
  (hfl:∀l∈ls,∀u∈l,flat u=true):
  CallsD P fc (bs.map gY).toArray (.panicking [{v:=x6,recovered:=false}]) w λ e u' w'=>e= .returned (.tuple #[])/\u'= .panicking [{v:=x6,recovered:=true}]/\vh w (λ b=>b∈bs) w'/\
   ∀(i:Nat) (l:List Value) (b:Nat),ls'[i]? =some l->bs[i]? =some b->∃e,w'.heap[b]? =some (.cells l.toArray e (0,0))/\∀u∈l,flat u=true:=by
 have ha:bP P w (λ b=>b∈bs) (λ b=>b∈bs) (λ _=>⟨none,0⟩) 0 (jV ls) (bs.map dQ.dI) (bs.map gY):=IF hlen (λ b h=>h) hblk hfl;have hlt:∀b∈bs,b<w.heap.size:=λ b hb'=>by obtain⟨i,hi,rfl⟩:=oA hb';obtain⟨e,he⟩:=hblk i ls[i] bs[i] (dG (by omega)) (dG hi);exact(Array.getElem?_eq_some_iff.1 he).1
 have hnone:∀(i sz m:Nat) (ds:List D) (bo:Bool),(cn (jV ls))[i]? ≠some (.own sz m ds bo):=λ i sz m ds bo=>by rw[Ii];exact Xf
 refine(Ja hT hm hf hb hres hn hops h0 h0d h0g h1 h1d h1g ht6 (u:= .panicking [{v:=x6,recovered:=false}]) (u1:= .panicking [{v:=x6,recovered:=true}]) (.inl rfl) hta hV hd6 h hlt (λ b h=>h) ha (λ b hN=>by exfalso;obtain⟨i,sz,m,ds,bo,o,e1,_⟩:=rz hN;exact hnone _ _ _ _ _ e1) (by rw[Zi];exact hnd) (λ i j b o o' sz m ds bo sz' m' ds' bo' e1=>absurd e1 (hnone _ _ _ _ _)) (by simpa[←hlen]using hle)).mono ?_
 rintro e u' w' ⟨rfl,rfs,objs,uu,⟨rfl,rfl⟩,rfl,hr⟩
 obtain⟨e1,e2⟩:=L5 hr;refine⟨by rw[e1],rfl,e2, ?_⟩;obtain⟨⟨γ',us',m1,m2,m3,_⟩,_⟩:=hr;exact Iv m3
theorem KK {w:World} {A0 aS:Nat->Prop} {γ:Nat->Pl} {k:Nat}:∀{us:List Value},bP P w A0 aS γ k (us.map λ _=>Arg.f (.one .dead)) [] us
 |[]=>by simp[bP]
 |u::us=>by simp only[b7,bP];exact⟨u,us,rfl,by simp[aE,ay],KK⟩
theorem H' {us:List Value}:cn (us.map λ _=>Arg.f (.one .dead))=[]:=by
 induction us with
 |nil=>rfl
 |cons u us ih=>simpa[cn]using ih
theorem yX (hT:cl P T) (hm:P.follows .mixedOrders=true) {fc:FuncId} {fn:Func} {j0 n t6 t7 tA tF:Nat} {ops0:List Oper} {rest:Code} {o0 o1:Oper} {tl:List Oper} {ts:Array TypeId}
  (hf:P.funcs[fc]? =some fn) (hb:fn.body=some (.seq (.region j0 ops0.toArray false) rest)) (hres:fn.results= #[]) (hn:fn.ntmps=n) (hops:ops0=o0::o1::tl)
  (h0:o0.op= .call ⟨.builtin .recover, #[],ts⟩) (h0d:o0.dst=some t6) (h0g:o0.guard=none) (h1:o1.op= .typeAssert (.tmp t6) tA tF true) (h1d:o1.dst=some t7) (h1g:o1.guard=none) (ht6:t6<n)
  {y7:Value} {V7:AV} (hta:∀w,(Instr.typeAssert .nilIface tA tF true).run P w= .ok y7 w) (hV:∀cx w r β,aE cx w r β V7 y7) {k:Nat} (hle:k≤n)
  (hd6:(eg n (List.replicate k (.f (.one .dead)))).v[t6]? =some (.one .dead))
  (h:bS T P ops0 ⟨none,[]⟩ tl ((eg n (List.replicate k (.f (.one .dead)))).v.set t7 V7) (eg n (List.replicate k (.f (.one .dead)))).r (gZ T P rest (ja T [] (bF 0 (List.replicate k (.f (.one .dead)))) (λ r o=>r=[]/\o=[])))):
  v5 P fc k:=by
 intro us w hk;have hr:List.replicate k (Arg.f (.one .dead))=us.toList.map λ _=>Arg.f (.one .dead):=by rw[List.map_const'];simp[←hk]
 rw[hr]at hd6 h;have ha:bP P w (λ _=>False) (λ _=>False) (λ _=>⟨none,0⟩) 0 (us.toList.map λ _=>Arg.f (.one .dead)) [] us.toList:=KK;have:=Ja hT hm hf hb hres hn hops h0 h0d h0g h1 h1d h1g ht6 (u:= .returning) (u1:= .returning) (.inr ⟨rfl,rfl,rfl⟩) hta hV hd6 h (w:=w) (λ b h=>h.elim) (λ b h=>h.elim) ha (by rw[H'];intro b hb;exact hb.elim) Bh
  (by rw[H'];intro i j b o o' sz n ds bo sz' n' ds' bo' h1;simp at h1) (by simp[hk,hle])
 simp only[wA]at this;refine this.mono ?_
 rintro e u' w' ⟨rfl,rfs,objs,uu,⟨rfl,rfl⟩,rfl,hr⟩
 obtain⟨e1,e2⟩:=L5 hr;exact⟨by rw[e1],rfl,e2⟩
theorem zF (hT:cl P T) (hm:P.follows .mixedOrders=true) {fc:FuncId} {fn:Func} {j0 n t6 t7 tA tF:Nat} {ops0:List Oper} {rest:Code} {o0 o1:Oper} {tl:List Oper} {ts:Array TypeId}
  (hf:P.funcs[fc]? =some fn) (hb:fn.body=some (.seq (.region j0 ops0.toArray false) rest)) (hres:fn.results= #[]) (hn:fn.ntmps=n) (hops:ops0=o0::o1::tl)
  (h0:o0.op= .call ⟨.builtin .recover, #[],ts⟩) (h0d:o0.dst=some t6) (h0g:o0.guard=none) (h1:o1.op= .typeAssert (.tmp t6) tA tF true) (h1d:o1.dst=some t7) (h1g:o1.guard=none) (ht6:t6<n)
  {ks:List Nat} {sz:Nat->Nat} {nw:Value->Nat->List Value} {Px:Value->Prop} (hnd:ks.Nodup) (hle:ks.length≤n)
  (hmain:∀x,Px x->∀ls:List (List Value),ls.length=ks.length->(∀(i k:Nat) (l:List Value),ks[i]? =some k->ls[i]? =some l->l.length=sz k)->∃y7 V7,(∀w,(Instr.typeAssert x tA tF true).run P w= .ok y7 w)/\
   (∀cx w r β,aE cx w r β V7 y7)/\(eg n (jV ls)).v[t6]? =some (.one .dead)/\
   bS T P ops0 ⟨none,[]⟩ tl ((eg n (jV ls)).v.set t7 V7) (eg n (jV ls)).r (gZ T P rest (ja T [] (bF 0 (jV ls)) (λ r o=>r=[]/\o=(ks.map (nw x)).map jA)))):
  vZ P fc ks sz nw Px:=by
 intro x bl w hx hblk hinj
 let ce:Nat->List Value:=λ k=>match w.heap[bl k]? with|some (.cells c _ _)=>c.toList|_=>[]
 have hce:∀k∈ks,(∃e,w.heap[bl k]? =some (.cells (ce k).toArray e (0,0)))/\(ce k).length=sz k/\∀u∈ce k,flat u=true:=λ k hk=>by
  obtain⟨c,e,q1,q2,q3⟩:=hblk k hk;have:ce k=c.toList:=by simp only[ce];rw[q1]
  rw[this];exact⟨⟨e,by simpa using q1⟩,by simpa using q2,q3⟩
 obtain⟨y7,V7,g1,g2,g3,g4⟩:=hmain x hx (ks.map ce) (by simp) (λ i k l hk hl=>by rw[ji,hk]at hl;cases hl;exact(hce k (rQ hk)).2.1)
 have hbs:(ks.map bl).Nodup:=by rw[List.nodup_iff_pairwise_ne,rP];refine hnd.imp_of_mem ?_;intro a b ha hb' hne he;exact hne (hinj a ha b hb' he)
 have hk2:(ks.map λ k=>gY (bl k))=(ks.map bl).map gY:=by rw[rT];rfl
 rw[hk2];refine(Vj hT hm hf hb hres hn hops h0 h0d h0g h1 h1d h1g ht6 (ls:=ks.map ce) (ls':=ks.map (nw x)) g1 g2 g3 g4 (by simpa using hle) (by simp) hbs (λ i l b hl hb=> ?_) (λ l hl u hu=> ?_)).mono ?_
 .rw[ji]at hl hb;cases hk:ks[i]? with
  |none=>rw[hk]at hl;cases hl
  |some k=>
   rw[hk]at hl hb;cases hl;cases hb;exact(hce k (rQ hk)).1
 .obtain⟨k,hk,rfl⟩:=kx.1 hl;exact(hce k hk).2.2 u hu
 .rintro e u' w' ⟨rfl,rfl,p,q⟩
  refine⟨rfl,rfl,p.size,λ b hb hn=>p.bZ b hb λ hm=> ?_,λ k hk=> ?_,p.os,p.out⟩
  .obtain⟨k,hk,rfl⟩:=kx.1 hm;exact hn k hk rfl
  .obtain⟨i,hi,rfl⟩:=oA hk;exact q i (nw x ks[i]) (bl ks[i]) (by rw[ji,dG hi];rfl) (by rw[ji,dG hi];rfl)
end
def adz (r:Rs) (s k lo n:Nat):Rs:=
 match ao s r with
 |some rs=>(match rs.l[0]?,rs.l[k+1]? with
  |some (some V),some (some R)=>aN s ⟨rs.next+1,(rs.l.set (k+1) (some {R with e:=rs.next,cells:=R.cells.drop (lo*R.sz)})).set 0 (some {V with cells:=V.cells.set k (.own ⟨s,k+1,rs.next⟩ 0 n)})⟩ r
  |_,_=>r)
 |none=>r
def adw (r:Rs) (s k lo n:Nat):Prop:=
 match ao s r with
 |some rs=>(match rs.l[0]?,rs.l[k+1]? with
  |some (some V),some (some R)=>V.var=true/\R.var=false/\V.cells[k]? =some (.own ⟨s,k+1,R.e⟩ lo n)
  |_,_=>False)
 |none=>False
def adx (pl:Pl) (lo sz:Nat):Pl:=⟨pl.base.map λ q=>(q.1,q.2+lo*sz),pl.cap - lo⟩
section
variable {T:Nat->Option TI} {P:Program} {all:List Oper} {m:M} {rest:List Oper} {v:List AV} {r r':Rs} {K:Ex->G->Prop} {f:Operand} {args:Array Operand} {a:Option (FuncId×List Arg)}
theorem KG (i:Nat) {h:Hd} {lo n k:Nat} {ds:List D} {dst:Option Nat} {nf:FuncId} {ars:List Arg} {rfs:List RF} (hm:m.fp=none) (hi:v[i]? =some (.one (.own h lo n)))
  (hg:Gh ⟨v,r⟩ ⟨v.set i (.one (.d (.sl k ds))),r'⟩) (h1:bX true (v.set i (.one (.d (.sl k ds)))) f) (h2:en true (v.set i (.one (.d (.sl k ds)))) args.toList) (hc:dY (v.set i (.one (.d (.sl k ds)))) r' f args=some (nf,ars))
  (hp:ah P nf ars (λ r o=>r=rfs/\o=[])) (hk:bS T P all m rest (cq (v.set i (.one (.d (.sl k ds)))) dst (eT r' dst rfs).1) (eT r' dst rfs).2 K):
  pC T P all m rest dst v r K f args a:=
 .inr (.inr (.inr (.inr (.inr ⟨hm,i,h,lo,n,k,ds,r',hi,hg,h1,h2, .inl (by unfold lM;rw[hc];exact⟨rfs,λ _=>hp,hk⟩)⟩))))
end
section
variable {T:Nat->Option TI} {P:Program} {cx:Cx} {v:List AV} {r:Rs} {a:Act} {w:World} {β:Nat->Nat->Pl}
theorem CB {all:List Oper} {Q:Exit->Act->World->Prop} {K:Ex->G->Prop} (hT:cl cx.P T) (hp:∀x g a w,dJ cx g a w->K (.panic x) g->Q (qG (.panic x)) a w) (l2:List Oper):
  ∀(l1:List Oper) (k:Nat) (m:M) (v:List AV) (r:Rs) (a:Act) (w:World),(∀j,(l1++l2)[j]? =all[k+j]?)->bS T cx.P all m l1 v r K->
   (∀g a w,dJ cx g a w->K .normal g->wpOps cx.P all.toArray Q (List.range' (k+l1.length) l2.length) a w)->dJ cx ⟨v,r⟩ a w->wpOps cx.P all.toArray Q (List.range' k (l1.length+l2.length)) a w
 |[],k,m,v,r,a,w,_,hk,hN,h=>by have:=hN ⟨v,r⟩ a w h hk.2;simpa using this
 |o::rest,k,m,v,r,a,w,hall,hk,hN,h=>by
  have ho:all.toArray[k]? =some o:=by simpa using(hall 0).symm
  obtain⟨β,h⟩:=h;have hN':∀g a w,dJ cx g a w->K .normal g->wpOps cx.P all.toArray Q (List.range' (k+1+rest.length) l2.length) a w:=λ g a w hh hq=>by
   have:=hN g a w hh hq
   rwa[cL,show k+(rest.length+1)=k+1+rest.length by omega]at this
  have hall':∀j,(rest++l2)[j]? =all[k+1+j]? :=λ j=>by have:=hall (j+1);simpa[ey,kT 1 j]using this
  rw[cL,show rest.length+1+l2.length=(rest.length+l2.length)+1 by omega,List.range'_succ,wpOps_cons];rcases Hp hT hk with⟨fp,x,r1,⟨h1,h2⟩,_,_,h3⟩|⟨_,hp'|⟨v',r',fp,x,r1,off',himp,⟨h1,h2⟩,h3⟩⟩
  case inr.inl=>exact hp' a w β h k Q _ ho (λ x g a w hg hk=>hp x g a w hg hk)
  case inr.inr=>
   obtain⟨β',h'⟩:=himp _ _ _ ⟨β,h⟩;refine wpOp_mono (λ a' w' hd=> ?_) (h2 v' r' (λ _ _=>rfl) (λ _ _ _=>rfl) (λ _ _=>rfl) a w β' h' k Q ho);obtain⟨r1',g1,g2,g3⟩:=hd;refine CB hT hp l2 rest (k+1) _ _ _ a' w' hall' h3 hN' (g1.congr λ s=> ?_);by_cases hs:s∈fp.w
   .exact g2 s hs
   .rw[g3 s hs,h1 s hs]
  refine wpOp_mono (λ a' w' hd=> ?_) (h2 v r (λ _ _=>rfl) (λ _ _ _=>rfl) (λ _ _=>rfl) a w β h k Q ho);obtain⟨r1',g1,g2,g3⟩:=hd;refine CB hT hp l2 rest (k+1) _ _ _ a' w' hall' h3 hN' (g1.congr λ s=> ?_);by_cases hs:s∈fp.w
  .exact g2 s hs
  .rw[g3 s hs,h1 s hs]
theorem MQ (hT:cl cx.P T) (hm:cx.P.follows .mixedOrders=true) {z:Code} {Q:Ex->G->Prop} {R:Exit->Act->World->Prop} (hR:∀e g a w,dJ cx g a w->Q e g->R (qG e) a w) {e:Ex} {g:G}
  (h:dJ cx g a w) (hq:gZ T cx.P z Q e g):Exit.then (z.wp cx.P R) R (qG e) a w:=by
 cases e with
 |normal=>
  rcases hq with⟨g',h1,h2⟩|hq
  .exact uG hT hm z g' Q R hR h2 a w (h1 _ _ _ h)
  .exact hq cx rfl R hR a w h
 |exit id=>exact hR (.exit id) g a w h hq
 |ret=>exact hR .ret g a w h hq
 |panic x=>exact hR (.panic x) g a w h hq
def Tr {τ:Type} (S:τ->G) (J:τ->Prop) (g:G):Prop:=∀(cx:Cx) (a:Act) (w:World),dJ cx g a w->∃t,J t/\dJ cx (S t) a w
theorem acn (hT:cl P T) (hm:P.follows .mixedOrders=true) {τ:Type} (S:τ->G) (J:τ->Prop) {y:Code} {g:G} {Q:Ex->G->Prop} (h1:Tr S J g) (h2:∀t,J t->cH T P y (S t) Q):wL P y g Q:=
 λ cx hP R hR a w hh=>by subst hP;obtain⟨t,hJ,ht⟩:=h1 cx a w hh;exact uG hT hm y _ Q R hR (h2 t hJ) a w ht
theorem XM (hT:cl P T) (hm:P.follows .mixedOrders=true) (k:Nat) {id d q nf sz N sz2 n2:Nat} {all:List Oper} {z:Code} {g:G} {Q:Ex->G->Prop} {o:Oper} {f:Operand} {args:Array Operand} {ts:Array TypeId}
  {v1:List AV} {r1:Rs} {as:List Arg} {J:Value->Prop} {cells:Value->List D} {ds2:List D}
  (ho:all[k]? =some o) (hop:o.op= .call ⟨.value f,args,ts⟩) (hg:o.guard=none) (hd:o.dst=some d)
  (h1:∀K:Ex->G->Prop,K .normal ⟨v1,r1⟩->bS T P all ⟨none,[]⟩ (all.take k) g.v g.r K)
  (s1:bX true v1 f) (s2:en true v1 args.toList) (hc:dY v1 r1 f args=some (nf,as))
  (hok:AS P nf as (λ bs r o=>∃x,J x/\bs=[.val x]/\r=[.one (.own sz N (cells x) false)]/\o=[[.own sz2 n2 ds2 false]]))
  (hq:v1[q]? =some (.one .dead)) (hqd:q≠d)
  (h2:∀x,J x->bS T P all ⟨none,[]⟩ (all.drop (k+1)) ((v1.set d (.one (.own ⟨d,1,ar r1 d⟩ 0 N))).set q (.one (.lk ⟨d,2,ar r1 d⟩ n2 x)))
   (aN d {next:=ar r1 d+1,l:=[none,some {e:=ar r1 d,var:=false,fz:=false,sz:=sz,cells:=(cells x).map C.d},some {e:=ar r1 d,var:=false,fz:=false,sz:=sz2,cells:=ds2.map C.d}]} r1) (gZ T P z Q)):
  wL P (.seq (.region id all.toArray false) z) g Q:=λ cx hP R hR a w hh=>by
 subst hP;refine wp_seq (wp_region ?_);have hk:k<all.length:=(cG.1 ho).1;have hlen:(all.take k).length+(all.drop k).length=all.length:=by rw[←aG,lN]
 have:=CB (cx:=cx) (all:=all) (Q:=Exit.then (z.wp cx.P R) R) (K:=λ e g'=>match e with| .normal=>g'=⟨v1,r1⟩|_=>False) hT (λ x g a w _ hq=>hq.elim) (all.drop k) (all.take k) 0 ⟨none,[]⟩ g.v g.r a w
  (λ j=>by rw[lN,cc]) (h1 _ rfl) (λ g' a' w' hh' hf=> ?_) hh
 .rw[hlen]at this;simpa[AU]using this
 .have hf:g'=⟨v1,r1⟩:=hf;subst hf;obtain⟨β,hh'⟩:=hh';have hdl:(all.drop k).length=(all.drop (k+1)).length+1:=by rw[iM,iM];omega
  rw[cc,cu,Nat.min_eq_left (Nat.le_of_lt hk),hdl,List.range'_succ,wpOps_cons];have hoa:all.toArray[k]? =some o:=by simpa using ho
  refine n8 hoa (uh hg) ?_;obtain⟨us,g1,g2⟩:=LX (c:=true) hh' hop rfl s1 s2 hc hok;unfold Oper.wp;rw[g1,yk];refine g2.mono λ e w2 ⟨bs,rfs,objs,u,⟨x,hJ,e1,e2,e3⟩,e4,_,e6⟩=> ?_
  subst e1 e2 e3 e4;have hret:fl w' (Av cx r1 β) jP w2 [] [.one (.own sz N (cells x) false), .one (.own sz2 n2 ds2 false)] [] (.tuple #[u,x]):=by
   obtain⟨⟨γ,us',m1,m2,m3,m4,m5,m6⟩,p1,p2,p3,p4⟩:=e6;have hA:∀b,(Av cx r1 β b∨b∈cW [.val x])↔Av cx r1 β b:=λ b=>by simp[cW]
   have hA':(λ b=>Av cx r1 β b∨b∈cW [.val x])=Av cx r1 β:=funext λ b=>propext (hA b)
   have hal:cX [.one (.own sz N (cells x) false)] [[.own sz2 n2 ds2 false]]=cX [.one (.own sz N (cells x) false), .one (.own sz2 n2 ds2 false)] []:=rfl;rw[hal]at m2 m3 m4 m5 m6;have hA2:(λ b=>(Av cx r1 β b∨b∈cW [.val x])∨NB γ 0 (cX [.one (.own sz N (cells x) false), .one (.own sz2 n2 ds2 false)] []) b)=(λ b=>Av cx r1 β b∨NB γ 0 (cX [.one (.own sz N (cells x) false), .one (.own sz2 n2 ds2 false)] []) b):=funext λ b=>by rw[propext (hA b)]
   rw[hA2]at m2 m3;simp only[eW,lp,gG,fv,qB,RF.cells,fe,cL,fN]at m2 m3;obtain⟨u0,us0,rfl,t1,rfl⟩:=m2;obtain⟨t2,_⟩:=m3;rcases t2 with t2|t2
   .cases t2
   .simp only[cU]at t2;obtain⟨x0,xs0,t3,t4,rfl⟩:=t2;cases t3;refine⟨⟨γ,[u0,x],by rw[m1], ?_,by simp[gG],λ b hb=>⟨(m4 b hb).1,by simp[cW]⟩,m5,m6⟩,p1,p2,p3,p4⟩;simp only[eW,lp,RF.cells,cL,fN];exact⟨u0,[x],rfl,t1,x,[],rfl,t4,rfl⟩
  obtain⟨β2,q1,q2⟩:=NK hh' hret (some d);simp only[eT,kh,fv,qB,RF.cells,fe,dW,c5,jF,lU,cE,jf,yn,fT,kZ,fM,pE,cL,fN,cc]at q1 q2;simp only[aE,bU]at q2;obtain⟨us3,f1,u3,us4,f0,f2,u5,us6,f00,f3,f000⟩:=q2;simp only[Value.tuple.injEq]at f1;subst f1 f00 f000;simp only[List.cons.injEq,jj]at f0;obtain⟨rfl,rfl⟩:=f0;refine xk (K:=gZ T cx.P z Q) hT (λ e g a w hg hq=>MQ hT hm hR hg hq) (all.drop (k+1)) (k+1) ⟨none,[]⟩ _ _ _ w2 (λ j=>by rw[pr]) (h2 x hJ) ?_;rw[hd];refine⟨β2, ?_⟩;have hp:=aL.put q1 (some d) (x:= .one (.own ⟨d,1,ar r1 d⟩ 0 N)) (u:=u) (by simpa only[aE]using f2);simp only[G.put]at hp;have hsz:=hp.sz;refine {hp with sz:=by simpa using hsz,sl:=λ i y hi=> ?_};simp only[nr]at hi;by_cases hqi:q=i
  .subst hqi;rw[aj rfl]at hi;split at hi
   .cases hi;rename_i hlt;have hlt':q<(a'.put (some d) u).tmps.size:=by rw[hsz];simpa using hlt
    refine⟨(a'.put (some d) u).tmps[q],D3 hlt', ?_⟩;simp only[aE,ay]at f3⊢;exact f3
   .cases hi
  .rw[aa hqi]at hi;exact hp.sl i y (by simpa[nr]using hi)
theorem ab0 {x y:Code} {id:Nat} {g:G} {Q:Ex->G->Prop} {τ:Type} (S:τ->G) (J:τ->Prop) (h1:∀t,J t->cH T P y (S t) Q)
  (h2:∀K:G->Prop,(∀g t,Gh g (S t)->J t->K g)->yf T P x g (wR id (tM K Q))):yf T P x g (wR id (gZ T P y Q)):=by
 have:=h2 (λ g=>gZ T P y Q .normal g) λ g t h3 h4=> .inl ⟨_,h3,h1 t h4⟩
 have he:tM (λ g=>gZ T P y Q .normal g) Q=gZ T P y Q:=by funext e g;cases e<;>rfl
 rwa[he]at this
theorem Zh {i j:Nat} {h:Hd} {n:Nat} {x:Value} (hi:v[i]? =some (.one (.d (.raw x)))) (hj:v[j]? =some (.one (.lk h n x))) (hh:dJ cx ⟨v,r⟩ a w):dJ cx ⟨v.set i (.one (.own h 0 n)),r⟩ a w:=by
 obtain⟨β,hh⟩:=hh;obtain⟨u,g1,g2⟩:=hh.sl i _ hi;obtain⟨u',_,g4⟩:=hh.sl j _ hj;simp only[aE,ay,Rd]at g2 g4;obtain⟨rfl,_⟩:=g2;refine⟨β,{hh with sz:=by simpa using hh.sz,sl:=λ k y hk=> ?_}⟩;simp only[nr]at hk;by_cases hki:i=k
 .subst hki;rw[aj rfl]at hk;split at hk
  .cases hk;exact⟨u,g1,by simp only[aE,ay];exact g4⟩
  .cases hk
 .rw[aa hki]at hk;exact hh.sl k y hk
theorem WU {s k k' e j q n:Nat} {rs:RS} {V res:bV} (h1:ao s r=some rs) (h2:rs.l[0]? =some (some V)) (hv:V.var=true) (h3:V.cells[k]? =some (.own ⟨s,k',e⟩ 0 n))
  (h4:aQ r ⟨s,k',e⟩=some res) (h5:res.fz=false) (hk0:k'≠0) (h6:ao q r=none) (h7:v[j]? =some (.one .dead)):
  Tr (λ x:Option Addr×Nat=>⟨v.set j (.one (.lk ⟨q,1,0⟩ n (.slice x.1 n x.2))),aN q ⟨1,[none,some {res with e:=0}]⟩
   (aN s ⟨rs.next,(rs.l.set k' none).set 0 (some {V with cells:=V.cells.set k (.d (.raw (.slice x.1 n x.2)))})⟩ r)⟩) (λ _=>True) ⟨v,r⟩:=by
 rintro cx a w ⟨β,hh⟩
 have hsq:s≠q:=λ e=>by rw[e,h6]at h1;cases h1
 have hlkV:aF r s 0=some V:=by unfold aF;simp only[h1,h2]
 obtain⟨hok0,hlt0⟩:=hh.rs _ _ _ hlkV;unfold cJ at hok0;rw[aj hv]at hok0;obtain⟨p0,b,arr,ee,p1,p2,p3,p4⟩:=hok0;obtain⟨u,hu1,hu2⟩:=kg p3 h3;have hu2':=hu2;simp only[ay]at hu2;obtain⟨c1,c2,c3⟩:=hu2;obtain⟨d1,d2,d3,ad,d4,d5⟩:=c3 res h4;obtain⟨cap,hcap⟩:∃cap,cap=(β s k').cap - 0:=⟨_,rfl⟩;rw[←hcap]at d4;refine⟨(ad,cap),trivial, ?_⟩;simp only;rw[←d4]
 -- the cell
 obtain⟨β1,t1,t2,t3⟩:=hh.AO (next':=rs.next) (x:= .d (.raw u)) (V:=V) (k:=k) (b:=b) (cs:=arr) (e:=ee) (u:=u) h1 h2 hv p1 p2 (by simpa using hu1) (by simp only[ay,Rd];exact⟨trivial,c1⟩) (Nat.le_refl _);have hu3:=hu2'.ext t3
 -- a home
 generalize hr1:aN s ⟨rs.next,rs.l.set 0 (some {V with cells:=V.cells.set k (.d (.raw u))})⟩ r=r1 at*;have hq1:ao q r1=none:=by rw[←hr1,dz,aa hsq];exact h6
 have hlk2:∀s' j',aF (aN q ⟨0,[none,none]⟩ r1) s' j'=aF r1 s' j':=λ s' j'=>by
  rw[fQ];split
  .rename_i e1;subst e1;unfold aF;rw[hq1];simp only
   match j' with
   |0=>rfl
   |1=>rfl
   |(x+2)=>rfl
  .rfl
 have hnx2:∀s',ar (aN q ⟨0,[none,none]⟩ r1) s'=ar r1 s':=λ s'=>by
  rw[fo];split
  .rename_i e1;subst e1;unfold ar;rw[hq1]
  .rfl
 obtain⟨g1,gx⟩:=t1.ghost (r':=aN q ⟨0,[none,none]⟩ r1) (β':=β1) (λ s'=>by rw[hnx2];exact Nat.le_refl _)
  (λ s' j' res' hl=>by rw[hlk2]at hl;exact⟨by rw[hnx2];exact(t1.rs _ _ _ hl).2,s',j',res',hl,rfl,rfl⟩)
  (λ s1 j1 iC s2 j2 res2 s0 j0 q1 q2 q3 q4 q5=>by
   rw[hlk2]at q1 q2;cases hbb:(β1 s0 j0).base with
   |none=>exact .inl rfl
   |some pp=>
    by_cases f1:iC.fz=true
    .exact .inr (.inr (.inl f1))
    .by_cases f2:res2.fz=true
     .exact .inr (.inr (.inr f2))
     .exact .inr (.inl (t1.inj s1 j1 iC s2 j2 res2 pp.1 pp.2 pp.2 q1 (by simpa using f1) q2 (by simpa using f2) (by rw[q3,hbb]) (by rw[q4,hbb]))))
  (λ hd res' hlt hg=>by obtain⟨e1,e2⟩:=cp hg;rw[hlk2]at e1;exact⟨gu e1 e2,rfl⟩)
 have hu4:=hu3.ext gx;generalize hr2:aN q ⟨0,[none,none]⟩ r1=r2 at*;have hs2:ao s r2=some ⟨rs.next,rs.l.set 0 (some {V with cells:=V.cells.set k (.d (.raw u))})⟩:=by rw[←hr2,dz,aa (fu hsq),←hr1,dz,aj rfl]
 have hg2:aQ r2 ⟨s,k',e⟩=some res:=by obtain⟨e1,e2⟩:=cp h4;refine gu ?_ e2;unfold aF;rw[hs2];simp only[nk (fu hk0)];unfold aF at e1;rw[h1]at e1;exact e1
 obtain⟨β3,m1,m2,m3⟩:=g1.move (d:=q) (j:=1) (rd:=⟨0,[none,none]⟩) hg2 h5 hsq hs2 (by rw[←hr2,dz,aj rfl]) rfl;have hu5:=m3 0 n u hu4;refine⟨β3,{(m1.congr (r':=aN q ⟨1,[none,some {res with e:=0}]⟩ (aN s ⟨rs.next,(rs.l.set k' none).set 0 (some {V with cells:=V.cells.set k (.d (.raw u))})⟩ r)) λ s'=> ?_)with sz:=by have:=m1.sz;simpa using this,sl:=λ i y hi=> ?_}⟩
 .simp only[dz];by_cases e1:q=s'
  .simp[e1]
  .simp only[aa e1];by_cases e2:s=s'
   .simp only[aj e2];congr 2;rw[List.set_comm _ _ (fu hk0)]
   .simp only[aa e2,←hr2,dz,aa e1,←hr1]
 .have hcg:∀s',ao s' (aN q ⟨0+1,[none,none].set 1 (some {res with e:=0})⟩ (aN s ⟨rs.next,(rs.l.set 0 (some {V with cells:=V.cells.set k (.d (.raw u))})).set k' none⟩ r2))=
    ao s' (aN q ⟨1,[none,some {res with e:=0}]⟩ (aN s ⟨rs.next,(rs.l.set k' none).set 0 (some {V with cells:=V.cells.set k (.d (.raw u))})⟩ r)):=λ s'=>by
   simp only[dz];by_cases e1:q=s'
   .simp[e1]
   .simp only[aa e1];by_cases e2:s=s'
    .simp only[aj e2];congr 2;rw[List.set_comm _ _ (fu hk0)]
    .simp only[aa e2,←hr2,dz,aa e1,←hr1]
  have hm:=m1.congr hcg;simp only[nr]at hi;by_cases hji:j=i
  .subst hji;rw[aj rfl]at hi;split at hi
   .cases hi;rename_i hlt;obtain⟨u',w1,w2⟩:=hm.sl j _ h7;refine⟨u',w1, ?_⟩;have hm2:=hm.sl;simp only[aE,ay]at hu5⊢;refine⟨hu5.1, ?_,λ res' hr=> ?_⟩
    .have:ar (aN q ⟨0+1,[none,none].set 1 (some {res with e:=0})⟩ (aN s ⟨rs.next,(rs.l.set 0 (some {V with cells:=V.cells.set k (.d (.raw u))})).set k' none⟩ r2)) q=ar (aN q ⟨1,[none,some {res with e:=0}]⟩ (aN s ⟨rs.next,(rs.l.set k' none).set 0 (some {V with cells:=V.cells.set k (.d (.raw u))})⟩ r)) q:=by unfold ar;rw[hcg]
     rw[←this];exact hu5.2.1
    .refine hu5.2.2 res' ?_;unfold aQ aF at hr⊢;rw[hcg];exact hr
   .cases hi
  .rw[aa hji]at hi;exact hm.sl i y hi
theorem Gh.view {i j:Nat} {h:Hd} {n:Nat} {x:Value} (hi:v[i]? =some (.one (.d (.raw x)))) (hj:v[j]? =some (.one (.lk h n x))):Gh ⟨v,r⟩ ⟨v.set i (.one (.own h 0 n)),r⟩:=λ _ _ _ hh=>Zh hi hj hh
theorem Gh.Nc (s j:Nat) {rs:RS} (h1:ao s r=some rs):Gh ⟨v,r⟩ ⟨v,aN s {next:=rs.next,l:=rs.l.set j none} r⟩:=λ cx a w ⟨β,hh⟩=>by
 have hlk:∀s' j' res,aF (aN s {next:=rs.next,l:=rs.l.set j none} r) s' j'=some res->aF r s' j'=some res:=λ s' j' res hl=>by
  rw[fQ]at hl;split at hl
  .rename_i e;subst e;unfold aF;simp only[h1];simp only[nr]at hl;by_cases hj:j=j'
   .rw[aj hj]at hl;split at hl
    .rename_i he;split at he
     .cases he
     .cases he
    .cases hl
   .rw[aa hj]at hl;exact hl
  .exact hl
 have hnx:∀s',ar (aN s {next:=rs.next,l:=rs.l.set j none} r) s'=ar r s':=λ s'=>by
  rw[fo];split
  .rename_i e;subst e;unfold ar;rw[h1]
  .rfl
 obtain⟨g1,_⟩:=hh.ghost (r':=aN s {next:=rs.next,l:=rs.l.set j none} r) (β':=β) (λ s'=>by rw[hnx];exact Nat.le_refl _)
  (λ s' j' res' hl=>⟨by rw[hnx];exact(hh.rs _ _ _ (hlk _ _ _ hl)).2,s',j',res',hlk _ _ _ hl,rfl,rfl⟩)
  (λ s1 j1 iC s2 j2 res2 s0 j0 q1 q2 q3 q4 q5=>by
   have q1:=hlk _ _ _ q1;have q2:=hlk _ _ _ q2;cases hbb:(β s0 j0).base with
   |none=>exact .inl rfl
   |some pp=>
    by_cases f1:iC.fz=true
    .exact .inr (.inr (.inl f1))
    .by_cases f2:res2.fz=true
     .exact .inr (.inr (.inr f2))
     .exact .inr (.inl (hh.inj s1 j1 iC s2 j2 res2 pp.1 pp.2 pp.2 q1 (by simpa using f1) q2 (by simpa using f2) (by rw[q3,hbb]) (by rw[q4,hbb]))))
  (λ hd res' hlt hg=>by obtain⟨e1,e2⟩:=cp hg;exact⟨gu (hlk _ _ _ e1) e2,rfl⟩)
 exact⟨β,g1⟩
def ac5 (T:Nat->Option TI) (P:Program) (all:List Oper) (k:Nat) (z:Code) (Q:Ex->G->Prop) (e:Ex) (g:G):Prop:=
 match e with
 | .normal=>∃g',Gh g g'/\bS T P all ⟨none,[]⟩ (all.drop k) g'.v g'.r (gZ T P z Q)
 |_=>False
theorem Ll (hT:cl P T) (hm:P.follows .mixedOrders=true) (k:Nat) {id:Nat} {all:List Oper} {z:Code} {g:G} {Q:Ex->G->Prop}
  (h:bS T P all ⟨none,[]⟩ (all.take k) g.v g.r (ac5 T P all k z Q)):wL P (.seq (.region id all.toArray false) z) g Q:=λ cx hP R hR a w hh=>by
 subst hP;refine wp_seq (wp_region ?_);have hlen:(all.take k).length+(all.drop k).length=all.length:=by rw[←aG,lN]
 have:=CB (cx:=cx) (all:=all) (Q:=Exit.then (z.wp cx.P R) R) hT (λ x g a w _ hq=>hq.elim) (all.drop k) (all.take k) 0 ⟨none,[]⟩ g.v g.r a w
  (λ j=>by rw[lN,cc]) h (λ g' a' w' hh' hf=> ?_) hh
 .rw[hlen]at this;simpa[AU]using this
 .obtain⟨g2,hg,h2⟩:=hf;refine xk hT (λ e g a w hg hq=>MQ hT hm hR hg hq) (all.drop k) _ ⟨none,[]⟩ g2.v g2.r a' w' (λ j=> ?_) h2 (hg _ _ _ hh');rw[cc,pr];rcases Nat.le_total k all.length with hk|hk
  .rw[cu,Nat.min_eq_left hk]
  .rw[cu,Nat.min_eq_right hk,uW (by omega),uW (by omega)]
def PV (T:Nat->Option TI) (rvs:List ResultVar) (q n2:Nat) (J:Value->Prop) (R:Value->List RF) (L:List RO) (e:Ex) (g:G):Prop:=
 (e= .normal∨e= .ret)/\(kX T g.v g.r rvs).1/\∃(j:Nat) (x:Value),g.v[j]? =some (AV.one (C.lk ⟨q,1,0⟩ n2 x))/\J x/\pt g.r (kX T g.v g.r rvs).2=some (R x)/\eS g.r [C.own ⟨q,1,0⟩ 0 n2]=some L/\
  oN (jg g.r (iE (kX T g.v g.r rvs).2++i4 [[C.own ⟨q,1,0⟩ 0 n2]]))=true
theorem Y6 (hT:cl P T) (hm:P.follows .mixedOrders=true) {f:FuncId} {fn:Func} {c:Code} {rvs:List ResultVar} {n q n2:Nat} (hf:P.funcs[f]? =some fn) (hb:fn.body=some c)
  (hres:fn.results=rvs.toArray) (hn:fn.ntmps=n) (hcall:∀(us:Array Value) (w:World),(callFunc f us).run P w= .ok (.enter f us) w) {args:List Arg} {J:Value->Prop} {R:Value->List RF} {L:List RO}
  (h:cH T P c (eg n args) (PV T rvs q n2 J R L)):AS P f args (λ bs r o=>∃x,J x/\bs=[.val x]/\r=R x/\o=[L]):=by
 refine⟨hcall,λ w A0 us hA ha=> ?_⟩;refine calls_of_wp hf hb ?_;have hob:cn args=[]:=by
  clear h;have:∀{args:List Arg} {k:Nat} {us:List Value},bP P w A0 (λ _=>False) (λ _=>⟨none,0⟩) k args [] us->cn args=[]:=by
   intro args;induction args with
   |nil=>intros;rfl
   |cons x xs ih=>
    intro k us ha;cases x with
    |f y=>simp only[bP]at ha;obtain⟨_,us',_,_,ha⟩:=ha;exact ih ha
    |obj _=>simp only[bP]at ha;obtain⟨_,_,_,_,_,_,e,_⟩:=ha;cases e
    |row _ _ _=>simp only[bP]at ha;obtain⟨_,_,_,_,e,_⟩:=ha;cases e
    |fW _ _ _ _ _=>simp only[bP]at ha;obtain⟨_,_,_,_,_,_,e,_⟩:=ha;cases e
  exact this ha
 have h0:=zr (n:=n) ha hA (λ b hb=>hb.elim) (by rw[hob];intro b hb;exact hb.elim) Bh (by rw[hob];intro i j b o o' sz n ds bo sz' n' ds' bo' h1;simp at h1);have hend:∀e g a w',dJ (iX P w A0 (λ _=>False) args []) g a w'->PV T rvs q n2 J R L e g->
   a.defers=[]/\∃v,(results fn a.tmps).run P w'= .ok v w'/\∃bs r objs u,(∃x,J x/\bs=[.val x]/\r=R x/\objs=[L])/\Ending.returned v= .returned u/\(∀b∈cW bs,w.heap.size≤b)/\
    fl w (λ b=>A0 b∨b∈cW bs) (λ _=>False) w' bs r objs u:=by
  rintro e ⟨v,r⟩ a w' ⟨β,hh⟩ ⟨_,g1,j,x,g2,g3,g4,g5,g6⟩
  obtain⟨vs,k1,k2⟩:=Ag (cx:=iX P w A0 (λ _=>False) args []) hT hh g1;refine⟨hh.df,qP vs,B1 hres k1,[.val x],R x,[L],qP vs,⟨x,g3,rfl,rfl,rfl⟩,rfl,λ b hb=>by simp[cW]at hb, ?_⟩;obtain⟨u',_,w2⟩:=hh.sl j _ g2;simp only[aE,ay]at w2;exact D2 (cx:=iX P w A0 (λ _=>False) args []) (A1:=λ b=>A0 b∨b∈cW [.val x]) (ps:=[.r q n2]) (bs:=[.val x]) (cs:=[[C.own ⟨q,1,0⟩ 0 n2]]) hh (λ b hb=>hb.elim .inl λ hb=>by simp[cW]at hb) k2 rfl g4
   (by simp only[fZ];exact⟨.inr trivial,trivial⟩) (by simp only[my];rw[g5]) g6 (by simp only[ed,ay];exact⟨w2,trivial⟩) (λ s j res b o _ _ _ _ hm=>by simp[cW]at hm)
 have hact:({tmps:=us.toArray++Array.replicate (fn.ntmps - us.toArray.size) undef,defers:=[]}:Act)={tmps:=us.toArray++Array.replicate (n - us.length) undef,defers:=[]}:=by rw[hn];simp
 rw[hact];refine uG (cx:=iX P w A0 (λ _=>False) args []) hT hm c (eg n args) _ _ (λ e g a w' hh hq=> ?_) h _ _ ⟨_,h0⟩;have hq':=hq;obtain⟨he,_⟩:=hq';rcases he with rfl|rfl
 .exact hend _ g a w' hh hq
 .exact hend _ g a w' hh hq
end
def vX:Op->Bool
 | .move _=>true
 | .binOp .. =>true
 | .convert .. =>true
 | .load .. =>true
 | .fieldAddr .. =>true
 | .indexAddr .. =>true
 | .index .. =>true
 | .field .. =>true
 | .slice .. =>true
 | .nilCheck _=>true
 | .extract .. =>true
 | .unOp .. =>true
 | .build .. =>true
 |_=>false
def HU (o:Oper):Oper:={o with dst:=none,op:= .move (.const (.bool false)),guard:=none}
def ky (p:Nat) (all:List Oper):List Oper:=all.zipIdx.map λ y=>if(y.2==p||((qc all).getD y.2 0).testBit p)=true then HU y.1 else y.1
theorem Gs {p:Nat} {all:List Oper} {j:Nat}:(ky p all)[j]? =(all[j]?).map λ o=>if(j==p||((qc all).getD j 0).testBit p)=true then HU o else o:=by unfold ky;rw[ji,List.getElem?_zipIdx];cases all[j]? <;>simp
theorem M7 {op:Op} (h:vX op=true) {v:List AV} {dst:Option Nat}:(dt v dst op).w=[]:=by cases op<;>first|rfl|simp[vX]at h
section
variable {T:Nat->Option TI} {P:Program} {cx:Cx} {K:Ex->G->Prop}
theorem MD (hT:cl cx.P T) {all:List Oper}:∀(rest:List Oper) (k:Nat) (m:M) (v:List AV) (r:Rs),(∀o∈rest,o.guard=none/\vX o.op=true)->bS T cx.P all m rest v r K->
  ∃(St:Nat->G) (X:Nat->AV) (F:List FP),St k=⟨v,r⟩/\K .normal (St (k+rest.length))/\(∀f∈F,f.w=[])/\F.length=rest.length/\
   ∀j o,rest[j]? =some o->∃fp,mq cx all o (St (k+j)).v (St (k+j)).r fp (X (k+j)) (St (k+j+1)).r/\(St (k+j+1)).v=cq (St (k+j)).v o.dst (X (k+j))/\
    F[j]? =some fp/\∀s∈fp.w,s∈fp.t
 |[],k,m,v,r,_,hk=>⟨λ _=>⟨v,r⟩,λ _=> .one .dead,[],rfl,hk.2,by simp,rfl,λ j o h=>by simp at h⟩
 |o::rest,k,m,v,r,hq,hk=>by
  obtain⟨q1,q2⟩:=hq o (by simp);have hk2:(aB T true v r o.dst o.op).sc/\bS T cx.P all (dK m v o.dst o.op) rest (cq v o.dst (aB T true v r o.dst o.op).x) (aB T true v r o.dst o.op).r K:=by
   unfold bS at hk;split at hk
   .split at hk
    .rename_i f args ts ho;rw[ho]at q2;simp[vX]at q2
    .rename_i y ho;rw[ho]at q2;simp[vX]at q2
    .exact hk
   .rename_i hg;rw[q1]at hg;cases hg
  obtain⟨s1,s2⟩:=hk2;obtain⟨St,X,F,g1,g2,g3,g4,g5⟩:=MD hT rest (k+1) _ _ _ (λ o ho=>hq o (by simp[ho])) s2;refine⟨λ i=>if i=k then⟨v,r⟩else St i,λ i=>if i=k then(aB T true v r o.dst o.op).x else X i,dt v o.dst o.op::F,by simp, ?_, ?_,by simp[g4],λ j o' hj=> ?_⟩
  .simp only[cL];rw[aa (by omega),show k+(rest.length+1)=k+1+rest.length from by omega];exact g2
  .intro f hf;rcases cF.1 hf with rfl|hf
   .exact M7 q2
   .exact g3 f hf
  .cases j with
   |zero=>
    simp only[c9,bn]at hj;subst hj;simp only[iy,cS];rw[aa (by omega),g1];exact⟨_,Ku hT q1 s1,rfl,by simp,λ s hs=>by rw[M7 q2]at hs;cases hs⟩
   |succ j=>
    have:=g5 j o' (by simpa using hj);simp only[aa (show k+(j+1)≠k from by omega),aa (show k+(j+1)+1≠k from by omega)];rw[show k+(j+1)=k+1+j from by omega];simpa using this
theorem Yt {all:List Oper} {F:List FP} (h:∀f∈F,f.w=[]):tm all F=true:=by
 unfold tm;refine jh.2 λ y hy=>jh.2 λ x hx=> ?_
 have h1:=h y.1 (List.fst_mem_of_mem_zipIdx hy);have h2:=h x.1 (List.fst_mem_of_mem_zipIdx hx);simp[FP.apart,yI,h1,h2]
theorem B0 {L α:Type} {b0:L->α} {Wr:Nat->L->Option α} {S:Nat->Bool} {l:L}:∀{n:Nat},(∀k,k<n->Wr k l≠none->S k=true)->fI b0 Wr S n l=fI b0 Wr (λ _=>true) n l
 |0,_=>rfl
 |n+1,h=>by
  simp only[fI,cS];rw[B0 (n:=n) λ k hk=>h k (by omega)];cases hw:Wr n l with
  |none=>simp
  |some y=>rw[h n (by omega) (by rw[hw];simp)];simp
theorem Jz {all:List Oper} (ho:yF all=true) {listed:Array Bool} (hr:Region.ready .any all.toArray listed=[]) (hsz:listed.size=all.length):∀n j,j<n->j<all.length->listed.getD j false=true
 |0,_,h,_=>absurd h (tH _)
 |n+1,j,hj,hjl=>by
  obtain⟨_,o2,_⟩:=xt ho;have ho':all[j]? =some all[j]:=dG hjl;cases hl:listed.getD j true with
  |true=>simpa[hsz,hjl]using hl
  |false=>
   have:j∈Region.ready .any all.toArray listed:=by rw[mem_ready];refine⟨hl,all[j],by simp,λ e he hb=> ?_⟩;have hlt:=o2 j _ ho' e he hb;exact Jz ho hr hsz n e.on (by omega) (by omega)
   rw[hr]at this;cases this
theorem YH {Q:Exit->Act->World->Prop} {all all':List Oper} {j:Nat} {o:Oper} {R:Act->World->Prop} {a:Act} {w:World} (h1:all[j]? =some o) (h2:all'[j]? =some o) (hg:o.guard=none)
  (h:wpOp P all'.toArray Q j R a w):wpOp P all.toArray Q j R a w:=by
 unfold wpOp at h⊢;have e1:all.toArray[j]? =some o:=by simpa using h1
 have e2:all'.toArray[j]? =some o:=by simpa using h2
 simp only[e1,e2,uh hg,cS]at h⊢;refine h.imp id λ h=> ?_
 exact h
def EE (P:Program) (f:Operand) (args:Array Operand) (x:Value) (g:G):Prop:=
 bX true g.v f/\en true g.v args.toList/\∃n as,gF P n as x/\(dY g.v g.r f args=some (n,as)∨∃i mv aC l',fF i g.v g.r f args=some (n,as,mv,aC)/\fA g.r none mv aC l')
theorem Wb (hT:cl cx.P T) (hm:cx.P.follows .mixedOrders=true) {ops:List Oper} {p:Nat} {o:Oper} {f:Operand} {args:Array Operand} {ts:Array TypeId} {x:Value} {g:G} {Q:Exit->Act->World->Prop} {id:Nat}
  (hop:ops[p]? =some o) (ho:o.op= .call ⟨.value f,args,ts⟩) (hg:o.guard=none) (h1:uQ ops) (h2:uQ (ky p ops)) (h3:((ky p ops).all λ o=>o.guard.isNone&&vX o.op)=true)
  (hQ:∀g a w,dJ cx g a w->Q (qG (.panic x)) a w)
  (hw:bS T cx.P (ky p ops) ⟨none,[]⟩ (ky p ops) g.v g.r λ _ g'=>EE cx.P f args x g') {a:Act} {w:World} (h:dJ cx g a w):(Code.region id ops.toArray true).wp cx.P Q a w:=by
 obtain⟨St,X,F,g1,g2,g3,g4,g5⟩:=MD hT (ky p ops) 0 _ _ _ (λ y hy=>by have:=jh.1 h3 y hy;simp only[bM,Option.isNone_iff_eq_none]at this;exact this) hw
 rw[cc]at g2;have hf:Found cx (ky p ops) St X F:=⟨g4,λ j o hj=>by simpa using g5 j o hj,h2,Yt g3⟩;obtain⟨_,o2,o3⟩:=xt h1;have hpl:p<ops.length:=(cG.1 hop).1;have hrr:∀S n s,fI (λ s=>ao s (St 0).r) (uc F St) S n s=ao s (St 0).r:=λ S n s=>by
  rw[B0 (S:=S) λ k _ hw=> ?_,←B0 (S:=λ _=>false) λ k _ hw=> ?_,zP λ k _=>rfl]
  all_goals
   obtain⟨f',hf1,hf2⟩:=DY hw;rw[g3 f' (rQ hf1)]at hf2;cases hf2
 have key:∀(fuel:Nat) (listed:Array Bool) (a:Act) (w:World),listed.size=ops.length->pU ops.length listed≤fuel->uF ops (λ i=>listed.getD i false)->listed.getD p false=false->
   Inv cx (ky p ops) St X F (λ i=>listed.getD i false) a w->wpAny cx.P .any ops.toArray Q fuel listed a w:=by
  intro fuel;induction fuel with
  |zero=>
   intro listed a w hsz hu hc hp hI;exfalso;have:p∈(List.range ops.length).filter λ i=> !listed.getD i true:=by
    have:listed.getD p true=false:=by simp[hsz,hpl]at hp⊢;exact hp
    simp only[yj,tx,hpl,this,eR,and_self]
   have:=List.length_pos_of_mem this;unfold pU at hu;omega
  |succ fuel ih=>
   intro listed a w hsz hu hc hp hI;refine⟨λ hr=> ?_,λ j hj=> ?_⟩
   .have:=Jz h1 hr hsz (p+1) p (by omega) hpl;rw[hp]at this;cases this
   .obtain⟨q1,oj,hoj,hall⟩:=mem_ready.1 hj;have hoj':ops[j]? =some oj:=by simpa using hoj
    have hjl:j<ops.length:=(cG.1 hoj').1;have hjf:listed.getD j false=false:=by simp[hsz,hjl]at q1⊢;exact q1
    by_cases hjp:j=p
    .subst hjp;rw[hop]at hoj';cases hoj';obtain⟨v,r,⟨β,hH⟩,hl,hv,hr⟩:=hI;have hlook:∀d∈o.looksAt ops.toArray,v[d]? =(St (ky j ops).length).v[d]? :=λ d hd=>by
      rw[hv d,←hf.EB d _ (Nat.le_refl _)];refine B0 λ k hk hw=> ?_
      obtain⟨y,hy,hyd,_⟩:=D0 hw;rw[Gs]at hy;cases hok:ops[k]? with
      |none=>rw[hok]at hy;cases hy
      |some z=>
       rw[hok]at hy;simp only[im,bn]at hy;split at hy
       .subst hy;cases hyd
       .rename_i hns;subst hy;simp only[pv,iz,kY]at hns;rcases iw k j with hkj|hkj
        .rcases o3 k j z o hok hop hkj with h|h
         .exact hc.t9 o2 (j+1) j (by omega) o hop hall k h
         .exact absurd hd ((A4 h).1 d hyd)
        .rcases o3 j k o z hop hok (by omega)with h|h
         .exact absurd h (by simpa using hns.2)
         .exact absurd hd ((A4 h).2.2 d hyd)
     have hrf:∀s,ao s r=ao s (St (ky j ops).length).r:=λ s=>by rw[hr s,hrr,←hf.Ey s _ (Nat.le_refl _),hrr]
     obtain⟨β,hH⟩:=dJ.congr ⟨β,hH⟩ hrf;have hge:∀y∈o.op.operands.toList,b6 v y=b6 (St (ky j ops).length).v y:=λ y hy=>N' λ t ht=>hlook t (by subst ht;exact tg _ (List.mem_filterMap.2 ⟨.tmp t,hy,rfl⟩))
     have hgf:b6 v f=b6 (St (ky j ops).length).v f:=hge f (by rw[ho];simp[Op.operands,Call.operands]);have hga:∀y∈args.toList,b6 v y=b6 (St (ky j ops).length).v y:=λ y hy=>hge y (by rw[ho];simp[Op.operands,Call.operands];simp at hy;simp[hy])
     obtain⟨s1,s2,n,as,s3,s4⟩:=g2;refine(L8 (cx:=cx) (all:=ops) (m:=⟨none,[]⟩) (K:=λ e _=>e= .panic x) ho (G5 hg) (by rw[ml hgf];exact s1) (by rw[pX hga];exact s2) ⟨rfl,n,as,x,s3, ?_⟩).2 a w β hH j Q _ (by simpa using hop) λ x' g a w hg' hx=>by cases hx;exact hQ g a w hg'
     rcases s4 with s4|⟨i,mv,aC,l',s4,s5⟩
     .exact .inl ⟨by rw[Ht hgf hga];exact s4,rfl⟩
     .exact .inr ⟨i,mv,aC,l',by rw[MR hgf hga];exact s4,s5,rfl⟩
    .have hnb:¬((qc ops).getD j 0).testBit p=true:=λ hb=>by have:=hc.t9 o2 (j+1) j (by omega) oj hoj' hall p hb;rw[hp]at this;cases this
     have htj:(ky p ops)[j]? =some oj:=by rw[Gs,hoj'];simp only[im];rw[aa (by simp[hjp];simpa using hnb)]
     have hset:(listed.setIfInBounds j true).getD j false=true:=by simp[hsz,hjl]
     have hset2:∀k,k≠j->(listed.setIfInBounds j true).getD k false=listed.getD k false:=λ k hk=>getD_set_ne false (fu hk)
     have hct:uF (ky p ops) λ i=>listed.getD i false:=λ k y hk hS e he hb=>by
      rw[Gs]at hk;cases hok:ops[k]? with
      |none=>rw[hok]at hk;cases hk
      |some z=>
       rw[hok]at hk;simp only[im,bn]at hk;refine hc k z hok hS e ?_ hb;subst hk;split at he
       .exact he
       .exact he
     have hgn:oj.guard=none:=by have:=jh.1 h3 oj (rQ htj);simp only[bM,Option.isNone_iff_eq_none]at this;exact this.1
     refine YH hoj' htj hgn (wpOp_mono (λ a' w' hI'=>ih (listed.setIfInBounds j true) a' w' (by simp[hsz]) ?_ ?_ ?_ hI') (hf.LO (S':=λ i=>(listed.setIfInBounds j true).getD i false) hI hct htj hjf hall hset hset2))
     .have:pU ops.length (listed.setIfInBounds j true)<pU ops.length listed:=by
       unfold pU;refine filter_lt (λ x hx hp=> ?_) ⟨j,by simp[hjl],by rw[q1];rfl,by simp[hsz,hjl]⟩;by_cases hxj:x=j
       .subst hxj;rw[q1];rfl
       .rwa[getD_set_ne true (fu hxj)]at hp
      omega
     .intro k ok hk hSk e he hb;by_cases hkj:k=j
      .subst hkj;rw[hoj']at hk;cases hk;exact getD_set_true (hall e he hb)
      .simp only[hset2 k hkj]at hSk;exact getD_set_true (hc k ok hk hSk e he hb)
     .rw[hset2 p (λ h=>hjp h.symm)];exact hp
 refine wp_region_any hm ?_;have hz:∀i,(Array.replicate ops.length false).getD i false=false:=λ i=>by simp only[D5,Array.getElem?_replicate];split<;>rfl
 obtain⟨β,h⟩:=h;have:=key ops.length (Array.replicate ops.length false) a {w with drawn:=w.drawn+1} (by simp)
  (by unfold pU;exact i6 (tr _ _) (by simp)) (λ j o _ hS=>by have hS':=hz j;simp only at hS;rw[hS']at hS;cases hS) (hz p)
  ⟨g.v,g.r,⟨β,h.drew⟩,by rw[g1],λ d=>by rw[zP (λ k _=>hz k),g1],λ s=>by rw[zP (λ k _=>hz k),g1]⟩
 simpa using this
def tG:List Bool->List Oper->List Oper
 |b::m,o::l=>(if b=true then HU o else o)::tG m l
 |_,l=>l
theorem G8 {m:List Bool} {o:Oper} {l:List Oper}:tG (false::m) (o::l)=o::tG m l:=rfl
theorem G9 {m:List Bool} {d:Option Nat} {op:Op} {ty:Nat} {pos:String} {after:Array Edge} {g:Option (Nat×Bool)} {l:List Oper}:
  tG (true::m) (⟨d,op,ty,pos,after,g⟩::l)=⟨none, .move (.const (.bool false)),ty,pos,after,none⟩::tG m l:=rfl
theorem F6 {l:List Oper}:tG [] l=l:=by cases l<;>rfl
theorem GU (hT:cl P T) (hm:P.follows .mixedOrders=true) (p:Nat) (mask:List Bool) {b id:Nat} {ops:List Oper} {z:Code} {g:G} {Q:Ex->G->Prop} {o:Oper} {f:Operand} {args:Array Operand} {ts:Array TypeId} (x:Value)
  (hQ:∀g,Q (.panic x) g) (hw:bS T P (tG mask ops) ⟨none,[]⟩ (tG mask ops) g.v g.r λ _ g'=>EE P f args x g')
  (hop:ops[p]? =some o:=by rfl) (ho:o.op= .call ⟨.value f,args,ts⟩:=by rfl) (hg:o.guard=none:=by rfl) (h1:uQ ops:=by(refine Db ?_;kernel_rfl)) (h2:uQ (ky p ops):=by(refine Db ?_;kernel_rfl))
  (h3:((ky p ops).all λ o=>o.guard.isNone&&vX o.op)=true:=by kernel_rfl) (hmk:ky p ops=tG mask ops:=by kernel_rfl):wL P (.seq (.block b (.region id ops.toArray true)) z) g Q:=λ cx hP R hR a w hh=>by
 subst hP;refine wp_seq (wp_block (Wb hT hm hop ho hg h1 h2 h3 (λ g a w hg'=> ?_) (by rw[hmk];exact hw) hh));exact hR (.panic x) g a w hg' (hQ g)
theorem abz (i:Nat) {f:Operand} {args:Array Operand} {x:Value} {v:List AV} {r:Rs} {n:FuncId} {as:List Arg} {mv:Mv} {aC:List Nat} (l':List RO) (hc:fF i v r f args=some (n,as,mv,aC)) (h:gF P n as x)
  (hs:fA r none mv aC l') (s1:bX true v f) (s2:en true v args.toList):EE P f args x ⟨v,r⟩:=⟨s1,s2,n,as,h, .inr ⟨i,mv,aC,l',hc,hs⟩⟩
def EH (A B:Ex->G->Prop) (c:Bool):Ex->G->Prop:=match c with
 |true=>A
 |false=>B
theorem pa {A B:Ex->G->Prop} {e:Ex} {g:G}:EH A B true e g=A e g:=rfl
theorem bY {A B:Ex->G->Prop} {e:Ex} {g:G}:EH A B false e g=B e g:=rfl
theorem aaq (hT:cl P T) (hm:P.follows .mixedOrders=true) {f:FuncId} {fn:Func} {c:Code} {rvs:List ResultVar} {n:Nat} (hf:P.funcs[f]? =some fn) (hb:fn.body=some c)
  (hres:fn.results=rvs.toArray) (hn:fn.ntmps=n) (hcall:∀(us:Array Value) (w:World),(callFunc f us).run P w= .ok (.enter f us) w) {args:List Arg} {post:List RF->List (List RO)->Prop} {x:Value} {b:Bool}
  (h:cH T P c (eg n args) (EH (ja T rvs (bF 0 args) post) (BE x) b)):(b=true->ah P f args post)/\(b=false->gF P f args x):=
 ⟨λ hb'=>vD hT hm hf hb hres hn hcall (by subst hb';exact h),λ hb'=>JU hT hm hf hb hn hcall (by subst hb';exact h)⟩
def lj {α:Type} (b:Bool) (y:α) (e:Int) (r:Except Int α):Prop:=match b with
 |true=>r= .ok y
 |false=>r= .error e
theorem ea {α:Type} {b:Bool} {y:α} {e x:Int} (h:lj b y e (.error x)):b=false/\e=x:=by
 cases b with
 |true=>cases h
 |false=>cases h;exact⟨rfl,rfl⟩
theorem o9 {α:Type} {b:Bool} {y z:α} {e:Int} (h:lj b y e (.ok z)):b=true/\y=z:=by
 cases b with
 |true=>cases h;exact⟨rfl,rfl⟩
 |false=>cases h
end
end Go.Pk
