import Derived.Test.YtjdbaocjeeficaaGreatK2
set_option linter.unusedVariables false
set_option linter.unusedSimpArgs false
set_option linter.unusedSectionVars false
namespace Go.Pk
section
variable {cx:Cx} {v:List AV} {r:Rs} {a:Act} {w:World} {β:Nat->Nat->Pl} {T:Nat->Option TI} {c:Bool}
theorem pF {d:Nat}:∀(cs:List C) (E k:Nat) (r:Rs),(b8 d E k cs r).1.length=cs.length/\(b8 d E k cs r).2.1.length=cs.length
 |[],_,_,_=>⟨rfl,rfl⟩
 |x::cs,E,k,r=>by simp only[b8,dK];have:=pF (d:=d) cs (E+1) (k+1) (dL d E k x r).2.2;exact⟨by rw[this.1],by rw[this.2]⟩
theorem pI {α:Type}:∀(xs pre aP:List α) (i:Nat),pre.length=i->aP.length=xs.length->bz i xs (pre++aP)=pre++xs
 |[],pre,aP,i,_,h=>by have:aP=[]:=fW (by simpa using h);simp[bz,this]
 |x::xs,pre,[],i,_,h=>by simp at h
 |x::xs,pre,y::aP,i,hi,h=>by
  simp only[bz];have:(pre++y::aP).set i x=(pre++[x])++aP:=by rw[List.set_append_right _ _ (by omega),hi,Nat.sub_self];simp
  rw[this,pI xs (pre++[x]) aP (i+1) (by simp[hi]) (by simpa using h)];simp
theorem BN {w1 w2 w3:World} {r1 r2 r3:Rs} {β1 β2 β3:Nat->Nat->Pl} (x:Ext cx w1 r1 β1 w2 r2 β2) (y:Ext cx w2 r2 β2 w3 r3 β3) (hs:w1.heap.size≤w2.heap.size) (hn:cx.n0≤w1.heap.size):
  Ext cx w1 r1 β1 w3 r3 β3:=by
 refine⟨λ s=>eR (x.nx s) (y.nx s),λ hd res' hlt hg=> ?_,⟨λ b hb hA=> ?_,λ b hb hA=> ?_⟩,λ b hb hn=> ?_,y.os.trans x.os,y.out.trans x.out⟩
 .obtain⟨m1,m2,m3,m4,m5,m6⟩:=y.aP hd res' (c9 hlt (x.nx _)) hg;obtain⟨n1,n2,n3,n4,n5,n6⟩:=x.aP hd m1 hlt m2;exact⟨n1,n2,by rw[m3,n3],by rw[m4,n4],by rw[m5,n5],eR n6 m6⟩
 .rw[y.st.hp b (by omega) (λ hA'=>hA (x.st.av b hb hA')),x.st.hp b hb hA]
 .exact x.st.av b hb (y.st.av b (by omega) hA)
 .rw[y.tp b hb hn,x.tp b hb hn]
variable (hT:bx cx.P T) (h:aw cx ⟨v,r⟩ a w β) (hc:c=true) {o:Oper}
include h hc
theorem EE {t:TypeId} {x:Operand} (ho:o.op= .box t x) (hs:(ah T c v r o.dst o.op).sc):
  cd cx v a w (execOp a.eval o) (ah T c v r o.dst o.op).x (ah T c v r o.dst o.op).r:=by
 simp only[ho,ah]at hs⊢;split at hs
 .rename_i ti d h1 h2
  try simp only[h1,h2]
  obtain⟨s1,s2,s3,s4⟩:=hs;have e1:=bH h hc s1;have hne:cellsOf (ev v x)≠[]:=λ hn=>by rw[hn]at s2;exact s3 s2.symm
  have hcs:=jE e1 hne;have hfl:=nH hcs s4;generalize hl:cellsOf (ev v x)=l at*;obtain⟨β1,q1,q2,q3⟩:=h.fresh (d:=d) (j0:=0) (L:=some {e:=af r d,var:=true,fz:=false,sz:=0,cells:=l}::List.replicate l.length none)
   (pl0:=⟨some (w.heap.size,0),0⟩) (w':=w.alloc (.cells (a.eval x).cells t (0,0))) rfl
   (λ j res hj=>by
    cases j with
    |zero=>rfl
    |succ j=>
     simp only[fI,o6]at hj;split at hj<;>cases hj) rfl rfl
   (λ b o hb=>by cases hb;rfl) (λ b hb=>il w _ hb) (by simp)
   (λ β' hx hA=>by unfold bn;rw[ao rfl];exact⟨rfl,w.heap.size,(a.eval x).cells,t,rfl,lq w _,hcs.ext hx,λ u hu=>hfl u hu⟩)
  obtain⟨β2,R2,t1,t2,t3,t4,t5⟩:=p8 l 0 (af r d+1) (az d {next:=af r d,l:=[]} r) _ β1 (some {e:=af r d,var:=true,fz:=false,sz:=0,cells:=l}::List.replicate l.length none) _ q1
   (λ s hs=>by rw[eX hs,eX hs]) gj rfl rfl (λ i y hy=>⟨by simpa using hy,by have:i<l.length:=(bq.1 hy).1;rw[bu,gW 1 i];simp[this]⟩)
  have hlen:=pF (d:=d) l (af r d+1) 0 (az d {next:=af r d,l:=[]} r)
  have hfin:aa d R2=some ⟨af r d+1+l.length,some {e:=af r d,var:=true,fz:=false,sz:=0,cells:=(b8 d (af r d+1) 0 l (az d {next:=af r d,l:=[]} r)).1}::
    (b8 d (af r d+1) 0 l (az d {next:=af r d,l:=[]} r)).2.1⟩:=by
   rw[t5];have e2:=pI (b8 d (af r d+1) 0 l (az d {next:=af r d,l:=[]} r)).1 [] l 0 rfl hlen.1.symm;simp only[kx]at e2;simp only[cm,e2];have e3:=pI (b8 d (af r d+1) 0 l (az d {next:=af r d,l:=[]} r)).2.1
    [some {e:=af r d,var:=true,fz:=false,sz:=0,cells:=(b8 d (af r d+1) 0 l (az d {next:=af r d,l:=[]} r)).1}] (List.replicate l.length none) 1 rfl (by simp[hlen.2])
   rw[show(0+1:Nat)=1 from rfl];simpa using e3
  have hfind:∀s,aa s R2=aa s (az d ⟨af r d+1+l.length,some {e:=af r d,var:=true,fz:=false,sz:=0,cells:=(b8 d (af r d+1) 0 l (az d {next:=af r d,l:=[]} r)).1}::
    (b8 d (af r d+1) 0 l (az d {next:=af r d,l:=[]} r)).2.1⟩ (b8 d (af r d+1) 0 l (az d {next:=af r d,l:=[]} r)).2.2):=λ s=>by
   by_cases hsd:s=d
   .subst hsd;rw[hfin,gj]
   .rw[eX hsd,t4 s hsd]
  refine⟨_,_,β2, .pointer (some ⟨w.heap.size,0,none⟩), ?_, .inl rfl,t1.congr hfind, ?_⟩
  .simp[execOp,ho,Instr.box,newVar,newRow]
  .simp only[ak,ae];refine⟨rfl,by rw[c6,ao rfl];simp only;omega,λ res hr=>⟨w.heap.size,0,by rw[t3,q2],by simp⟩⟩
 .exact hs.elim
omit h hc in
theorem Dn {d:Nat} {y:AV} {u:Value} (hy:ak cx w r β y u) (hc:jw r d y):ak cx w r β (jc d y) u:=by
 unfold jw at hc;split at hc
 .rename_i hd lo n k;simp only[jc];split at hc
  .rename_i e;rw[ao e];exact hy
  .rename_i e;rw[aj e];split at hc
   .rename_i res g;simp only[ak,ae]at hy⊢;obtain⟨h1,h2,h3,ad,rfl,h5⟩:=hy;refine⟨h1,h2,λ res' hr=> ?_⟩;rw[g]at hr;cases hr;obtain⟨q1,q2,q3⟩:=h5 res g;refine⟨q1,by rw[←cV];exact hc,by rw[q2];exact h3,ad,by rw[q2], ?_⟩;rw[q2];exact q3
   .exact hc.elim
 .rename_i hne;unfold jc;split
  .exact absurd rfl (hne _ _ _ _)
  .exact hy
theorem BR {x:Operand} (ho:o.op= .assign x) (hs:(ah T c v r o.dst o.op).sc):
  cd cx v a w (execOp a.eval o) (ah T c v r o.dst o.op).x (ah T c v r o.dst o.op).r:=by
 simp only[ho,ah]at hs⊢;split at hs
 .rename_i d hd
  try simp only[hd]
  have e1:=Dn (bH h hc hs.1) hs.2;have hrun:(execOp a.eval o).run cx.P w= .ok (.value (a.eval x)) w:=by simp[execOp,ho]
  unfold iX;split
  .rename_i h' lo n h1;rw[h1]at e1;split
   .exact .val h hrun e1
   .rename_i hne;split
    .rename_i res g1;split
     .exact .val h hrun e1
     .rename_i hfz;split
      .rename_i rs g2;have e2:=ck.1 e1
       obtain⟨q1,q2⟩:=h.drop (d:=d) (L:=[none,none]) (λ j res hj=>by
        match j with
        |0=>simp at hj
        |1=>simp at hj
        |j+2=>simp at hj) (af r d) (Nat.le_refl _)
       have g1':ax (az d ⟨af r d,[none,none]⟩ r) h'=some res:=by rw[s9 (d:=d) (λ s hs=>eX hs) hne];exact g1
       have g2':aa h'.s (az d ⟨af r d,[none,none]⟩ r)=some rs:=by rw[eX hne];exact g2
       obtain⟨β2,t1,t2,t3⟩:=q1.move (j:=1) g1' (by simpa using hfz) hne g2' gj rfl;have hfind:∀s,aa s (az d ⟨af r d+1,[none,none].set 1 (some {res with e:=af r d})⟩ (az h'.s ⟨rs.next,rs.l.set h'.j none⟩ (az d ⟨af r d,[none,none]⟩ r)))=
         aa s (az d {next:=af r d+1,l:=[none,some {res with e:=af r d}]} (az h'.s {rs with l:=rs.l.set h'.j none} r)):=λ s=>by
        by_cases hsd:s=d
        .subst hsd;rw[gj,gj];rfl
        .rw[eX hsd,eX hsd];by_cases hs2:s=h'.s
         .subst hs2;rw[gj,gj]
         .rw[eX hs2,eX hs2,eX hsd]
       refine⟨_,w,β2,a.eval x,hrun, .inl rfl,t1.congr hfind, ?_⟩;have e3:=t3 lo n _ (e2.ext q2);exact ck.2 (e3.ext (pZ hfind))
      .exact .val h hrun (by simp[ak,ae])
    .exact .val h hrun (by simp[ak,ae])
  .exact .val h hrun e1
 .exact hs.elim
end
section
variable {cx:Cx} {v:List AV} {r:Rs} {a:Act} {w:World} {β:Nat->Nat->Pl} {T:Nat->Option TI} {c:Bool}
theorem ig {α:Type}:∀(xs:List α) (i:Nat) (l:List α),(bz i xs l).length=l.length
 |[],_,_=>rfl
 |x::xs,i,l=>by simp[bz,ig xs]
theorem gl {α:Type}:∀(xs:List α) (i k:Nat) (l:List α),k<i->(bz i xs l)[k]? =l[k]?
 |[],_,_,_,_=>rfl
 |x::xs,i,k,l,h=>by simp only[bz];rw[gl xs (i+1) k _ (by omega),fV (by omega)]
theorem gF {α:Type}:∀(xs:List α) (i k:Nat) (l:List α),i+xs.length≤k->(bz i xs l)[k]? =l[k]?
 |[],_,_,_,_=>rfl
 |x::xs,i,k,l,h=>by simp only[bz];simp only[dK]at h;rw[gF xs (i+1) k _ (by omega),fV (by omega)]
theorem gk {α:Type}:∀(xs:List α) (i k:Nat) (l:List α),k<xs.length->i+xs.length≤l.length->(bz i xs l)[i+k]? =xs[k]?
 |[],_,_,_,h,_=>by simp at h
 |x::xs,i,0,l,_,hl=>by simp only[bz,eo,dK]at*;rw[gl xs (i+1) i _ (by omega),lI (by omega)];rfl
 |x::xs,i,k+1,l,h,hl=>by simp only[bz,dK]at*;have:=gk xs (i+1) k (l.set i x) (by omega) (by simp;omega);rw[show i+(k+1)=i+1+k by omega,this];rfl
theorem oi:∀{l:List C} {us:List Value},l.length=us.length->(∀(k:Nat) (x:C),l[k]? =some x->∃u,us[k]? =some u/\ae cx w r β x u)->ar cx w r β l us
 |[],[],_,_=>by simp[ar]
 |[],u::us,h,_=>by simp at h
 |x::l,[],h,_=>by simp at h
 |x::l,u::us,h,hk=>by simp only[ar];obtain⟨u',h1,h2⟩:=hk 0 x (by simp);simp only[bG,aF]at h1;subst h1;exact⟨u,us,rfl,h2,oi (by simpa using h) λ k y hy=>by simpa using hk (k+1) y (by simpa using hy)⟩
theorem rV {α:Type} (xs ys:List α) (i:Nat) (l:List α) (h:ys.length=xs.length) (hl:i+xs.length≤l.length):bz i xs (bz i ys l)=bz i xs l:=by
 apply lD;intro k;by_cases h1:k<i
 .rw[gl _ _ _ _ h1,gl _ _ _ _ h1,gl _ _ _ _ h1]
 .by_cases h2:i+xs.length≤k
  .rw[gF _ _ _ _ h2,gF _ _ _ _ (by omega),gF _ _ _ _ h2]
  .obtain⟨j,rfl⟩:∃j,k=i+j:=⟨k - i,by omega⟩;rw[gk _ _ _ _ (by omega) (by rw[ig];exact hl),gk _ _ _ _ (by omega) hl]
variable (hT:bx cx.P T) (h:aw cx ⟨v,r⟩ a w β) (hc:c=true) {o:Oper}
include h hc
omit hc in
theorem Cw {hd:Hd} {off:Nat} {y:AV} {u:Value} {p:Value} {res:aM} {rs:RS} (hp:ae cx w r β (.ptr hd off) p) (hy:ak cx w r β y u) (hg:ax r hd=some res) (hv:res.var=true)
  (hrs:aa hd.s r=some rs) (hn:cellsOf y≠[]) (hoff:off+(cellsOf y).length≤res.cells.length) (hl2:off+(cellsOf y).length<rs.l.length) (hj:hd.j=0) (hlive:gP (cellsOf y)=true):
  ∃ad w' β',p= .pointer (some ad)/\(storeCells ad u.cells.toList).run cx.P w= .ok () w'/\
   aw cx ⟨v,az hd.s {next:=rs.next+(cellsOf y).length,l:=bz (off+1) (b8 hd.s rs.next off (cellsOf y) r).2.1 (rs.l.set 0 (some {res with cells:=bz off (b8 hd.s rs.next off (cellsOf y) r).1 res.cells}))} (b8 hd.s rs.next off (cellsOf y) r).2.2⟩ a w' β':=by
 have hcs:=jE hy hn;have hfl:=nH hcs hlive;have hlen:=gp hcs;generalize hl:cellsOf y=l at*;obtain⟨hlk,hee⟩:=bh hg;rw[hj]at hlk;have h0:=kc hlk hrs;have hok:=h.rs _ _ _ hlk;have hok0:=hok.1;unfold bn at hok0;rw[ao hv]at hok0;obtain⟨p0,b,arr,e,p1,p2,p3,p4⟩:=hok0;simp only[ae]at hp;obtain⟨_,hlt,hp⟩:=hp;obtain⟨b',o',g1,g2⟩:=hp res hg;rw[hj,p1]at g1;cases g1;have harr:arr.size=res.cells.length:=by have:=gp p3;simpa using this
 have hns:af r hd.s=rs.next:=by unfold af;simp only[hrs]
 -- the rows that stood there are forgotten
 obtain⟨q1,q2⟩:=h.drop (d:=hd.s) (L:=bz (off+1) (List.replicate l.length none) rs.l) (λ j q hq=>by
  by_cases k1:j<off+1
  .rw[gl _ _ _ _ k1]at hq;unfold aq;simp only[hrs,hq]
  .by_cases k2:off+1+l.length≤j
   .rw[gF _ _ _ _ (by simpa using k2)]at hq;unfold aq;simp only[hrs,hq]
   .obtain⟨k,rfl⟩:∃k,j=off+1+k:=⟨j - (off+1),by omega⟩;rw[gk _ _ _ _ (by simp;omega) (by simp;omega)]at hq;simp only[o6]at hq;split at hq<;>cases hq) rs.next (by rw[hns];exact Nat.le_refl _)
 have hrd:aa hd.s (az hd.s ⟨rs.next,bz (off+1) (List.replicate l.length none) rs.l⟩ r)=some ⟨rs.next,bz (off+1) (List.replicate l.length none) rs.l⟩:=gj;have h0':(bz (off+1) (List.replicate l.length none) rs.l)[0]? =some (some res):=by rw[gl _ _ _ _ (by omega)];exact h0
 -- the cells are written
 obtain⟨w',arr',t1,t2,t3,t4,t5,t6,t7⟩:=ka (P:=cx.P) u.cells.toList w off 0 arr p2 (by rw[hlen,harr];omega) hfl;obtain⟨β2,m1,m2,m3,m4⟩:=q1.j8 (w':=w') (hos:=t7.2) (res':={res with cells:=bz off l res.cells}) (pl':=β hd.s 0) (next':=rs.next) hrd h0' (Nat.le_refl _)
  (by have:=hok.2;rw[hns]at this;exact this) rfl (.inl ⟨rfl,rfl,rfl,rfl,by simp[ig]⟩) (λ hf=>hf) (λ b' o' hb'=> .inl ⟨o',hb'⟩)
  (λ b' hb' hor=>t6 b' (λ e=>by
   subst e;rcases hor with hor|hor
   .exact hor 0 p1
   .rw[p0]at hor;cases hor)) (by omega)
  (λ β' e1 e2 e3=>by
   have x2:=BN q2 e2 (Nat.le_refl _) h.n0;unfold bn;rw[ao (by exact hv)];refine⟨p0,b,arr',e,p1,t2,oi (by rw[ig,js,t3,harr]) (λ k x hx=> ?_),λ u' hu'=> ?_⟩
   .by_cases k1:k<off
    .rw[gl _ _ _ _ k1]at hx;obtain⟨u1,f1,f2⟩:=eL p3 hx;refine⟨u1, ?_,f2.ext x2⟩;rw[gw,t5 k (.inl (by omega))];simpa using f1
    .by_cases k2:off+l.length≤k
     .rw[gF _ _ _ _ k2]at hx;obtain⟨u1,f1,f2⟩:=eL p3 hx;refine⟨u1, ?_,f2.ext x2⟩;rw[gw,t5 k (.inr (by rw[hlen];omega))];simpa using f1
     .obtain⟨j,rfl⟩:∃j,k=off+j:=⟨k - off,by omega⟩;rw[gk _ _ _ _ (by omega) hoff]at hx;obtain⟨u1,f1,f2⟩:=eL hcs hx;refine⟨u1, ?_,f2.ext x2⟩;have:=t4 j (by rw[hlen];omega);rw[gw];rw[eo]at this;rw[this,f1]
   .obtain⟨k,hk⟩:=Array.getElem?_of_mem (by simpa using hu':u'∈arr');by_cases k1:k<off∨off+l.length≤k
    .rw[t5 k (by rw[hlen];omega)]at hk;exact p4 u' (by simpa using Array.mem_of_getElem? hk)
    .obtain⟨j,rfl⟩:∃j,k=off+j:=⟨k - off,by omega⟩;have:=t4 j (by rw[hlen];omega);rw[eo,hk]at this;exact hfl u' (kF this.symm))
 obtain⟨β3,R3,n1,n2,n3,n4,n5⟩:=p8 l off rs.next r _ β2 _ {res with cells:=bz off l res.cells} m1 (λ s hs=>by rw[eX hs,eX hs]) gj
  (by rw[lI (by rw[ig];exact(bq.1 h0).1)]) hv (λ i x hx=>by have hi:i<l.length:=(bq.1 hx).1;refine⟨by simp only;rw[gk _ _ _ _ hi hoff];exact hx, ?_⟩;rw[fV (by omega),gk _ _ _ _ (by simpa using hi) (by simp;omega)];simp[hi])
 have hlens:=pF (d:=hd.s) l rs.next off r;refine⟨⟨b,0+off,none⟩,w',β3,g2,by rw[bu];exact t1,n1.congr λ s=> ?_⟩;by_cases hs:s=hd.s
 .subst hs;rw[n5,gj];congr 2;rw[List.set_set];simp only;rw[rV (b8 hd.s rs.next off l r).1 l off res.cells hlens.1.symm (by rw[hlens.1];exact hoff)];rw[pH _ _ _ _ _ (by omega),pH _ _ _ _ _ (by omega)];rw[rV (b8 hd.s rs.next off l r).2.1 (List.replicate l.length none) (off+1) rs.l (by simp[hlens.2]) (by rw[hlens.2];omega)]
 .rw[eX hs,n4 s hs]
omit hc in
theorem Bx {hd:Hd} {off:Nat} {y:AV} {u:Value} {p:Value} {res:aM} {rs:RS} (hp:ae cx w r β (.ptr hd off) p) (hy:ak cx w r β y u) (hg:ax r hd=some res) (hv:res.var=true)
  (hrs:aa hd.s r=some rs) (hn:cellsOf y≠[]) (hoff:off+(cellsOf y).length≤res.cells.length) (hj:hd.j=0) (hlive:gP (cellsOf y)=true):
  ∃ad w' β',p= .pointer (some ad)/\(storeCells ad u.cells.toList).run cx.P w= .ok () w'/\
   aw cx ⟨v,az hd.s {rs with l:=rs.l.set 0 (some {res with cells:=bz off (cellsOf y) res.cells})} r⟩ a w' β':=by
 have hcs:=jE hy hn;have hfl:=nH hcs hlive;have hlen:=gp hcs;generalize hl:cellsOf y=l at*;obtain⟨hlk,hee⟩:=bh hg;rw[hj]at hlk;have h0:=kc hlk hrs;have hok:=h.rs _ _ _ hlk;have hok0:=hok.1;unfold bn at hok0;rw[ao hv]at hok0;obtain⟨p0,b,arr,e,p1,p2,p3,p4⟩:=hok0;simp only[ae]at hp;obtain⟨_,hlt,hp⟩:=hp;obtain⟨b',o',g1,g2⟩:=hp res hg;rw[hj,p1]at g1;cases g1;have harr:arr.size=res.cells.length:=by have:=gp p3;simpa using this
 have hns:af r hd.s=rs.next:=by unfold af;simp only[hrs]
 obtain⟨w',arr',t1,t2,t3,t4,t5,t6,t7⟩:=ka (P:=cx.P) u.cells.toList w off 0 arr p2 (by rw[hlen,harr];omega) hfl;obtain⟨β2,m1,m2,m3,m4⟩:=h.j8 (w':=w') (hos:=t7.2) (res':={res with cells:=bz off l res.cells}) (pl':=β hd.s 0) (next':=rs.next) hrs h0 (Nat.le_refl _)
  (by have:=hok.2;rw[hns]at this;exact this) rfl (.inl ⟨rfl,rfl,rfl,rfl,by simp[ig]⟩) (λ hf=>hf) (λ b' o' hb'=> .inl ⟨o',hb'⟩)
  (λ b' hb' hor=>t6 b' (λ e=>by
   subst e;rcases hor with hor|hor
   .exact hor 0 p1
   .rw[p0]at hor;cases hor)) (by omega)
  (λ β' e1 e2 e3=>by
   unfold bn;rw[ao (by exact hv)];refine⟨p0,b,arr',e,p1,t2,oi (by rw[ig,js,t3,harr]) (λ k x hx=> ?_),λ u' hu'=> ?_⟩
   .by_cases k1:k<off
    .rw[gl _ _ _ _ k1]at hx;obtain⟨u1,f1,f2⟩:=eL p3 hx;refine⟨u1, ?_,f2.ext e2⟩;rw[gw,t5 k (.inl (by omega))];simpa using f1
    .by_cases k2:off+l.length≤k
     .rw[gF _ _ _ _ k2]at hx;obtain⟨u1,f1,f2⟩:=eL p3 hx;refine⟨u1, ?_,f2.ext e2⟩;rw[gw,t5 k (.inr (by rw[hlen];omega))];simpa using f1
     .obtain⟨j,rfl⟩:∃j,k=off+j:=⟨k - off,by omega⟩;rw[gk _ _ _ _ (by omega) hoff]at hx;obtain⟨u1,f1,f2⟩:=eL hcs hx;refine⟨u1, ?_,f2.ext e2⟩;have:=t4 j (by rw[hlen];omega);rw[gw];rw[eo]at this;rw[this,f1]
   .obtain⟨k,hk⟩:=Array.getElem?_of_mem (by simpa using hu':u'∈arr');by_cases k1:k<off∨off+l.length≤k
    .rw[t5 k (by rw[hlen];omega)]at hk;exact p4 u' (by simpa using Array.mem_of_getElem? hk)
    .obtain⟨j,rfl⟩:∃j,k=off+j:=⟨k - off,by omega⟩;have:=t4 j (by rw[hlen];omega);rw[eo,hk]at this;exact hfl u' (kF this.symm))
 exact⟨⟨b,0+off,none⟩,w',β2,g2,by rw[bu];exact t1,m1⟩
omit hc in
theorem BU {hd:Hd} {off:Nat} {y:AV} {u:Value} {p:Value} {res:aM} {rs:RS} {ds:List D} {r':Rs} (hp:ae cx w r β (.ptr hd off) p) (hy:ak cx w r β y u)
  (hse:eG r (cellsOf y)=some (ds,r')) (hg:ax r' hd=some res) (hv:res.var=false)
  (hrs:aa hd.s r'=some rs) (hn:cellsOf y≠[]) (hoff:off+(cellsOf y).length≤res.cells.length) (hfz:res.fz=false):
  ∃ad w' β',p= .pointer (some ad)/\(storeCells ad u.cells.toList).run cx.P w= .ok () w'/\
   aw cx ⟨v,az hd.s {rs with l:=rs.l.set hd.j (some {res with cells:=bz off (ds.map C.d) res.cells})} r'⟩ a w' β':=by
 have hcs:=jE hy hn;have hlen:=gp hcs;obtain⟨β1,q1,q2,q3,q4⟩:=nZ h hse hcs;have hp':=hp.ext q2;simp only[ae]at hp';obtain⟨_,hlt,hp'⟩:=hp';obtain⟨b,o',g1,g2⟩:=hp' res hg;obtain⟨hlk,hee⟩:=bh hg;have h0:=kc hlk hrs;have hok:=q1.rs _ _ _ hlk;obtain⟨ds0,k1,k2,k3⟩:=hok.1.row hv;have hns:af r' hd.s=rs.next:=by unfold af;simp only[hrs]
 have k2':=k2;simp only[bL,g1]at k2;obtain⟨arr,e,r1,r2,r3,r4⟩:=k2;have hfl:∀u'∈u.cells.toList,flat u'=true:=λ u' hu'=>by
  obtain⟨k,hk⟩:=List.getElem?_of_mem hu';have hklt:k<ds.length:=by rw[q3];exact(bq.1 hk).1
  obtain⟨u2,f1,f2⟩:=q4 k _ (gy hklt);rw[hk]at f1;cases f1;exact f2.flat
 have hcl:res.cells.length=ds0.length:=by rw[k1,fG]
 obtain⟨w',arr',t1,t2,t3,t4,t5,t6,t7⟩:=ka (P:=cx.P) u.cells.toList w (o'+off) 0 arr r1 (by rw[hlen];omega) hfl;obtain⟨β2,m1,m2,m3,m4⟩:=q1.j8 (w':=w') (hos:=t7.2) (res':={res with cells:=bz off (ds.map C.d) res.cells}) (pl':=β1 hd.s hd.j) (next':=rs.next) hrs h0 (Nat.le_refl _)
  (by have:=hok.2;rw[hns]at this;exact this) rfl (.inl ⟨rfl,rfl,rfl,rfl,by simp[ig]⟩) (λ hf=>hf) (λ b' o' hb'=> .inl ⟨o',hb'⟩)
  (λ b' hb' hor=>t6 b' (λ e=>by
   subst e;rcases hor with hor|hor
   .exact hor o' g1
   .rw[hfz]at hor;cases hor)) (by omega)
  (λ β' e1 e2 e3=>by
   refine jH (ds:=bz off ds ds0) hv ?_ hfz ?_
   .simp only;rw[k1];apply lD;intro k;rw[eK];by_cases h1:k<off
    .rw[gl _ _ _ _ h1,gl _ _ _ _ h1,eK]
    .by_cases h2:off+ds.length≤k
     .rw[gF _ _ _ _ (by simpa using h2),gF _ _ _ _ h2,eK]
     .obtain⟨j,rfl⟩:∃j,k=off+j:=⟨k - off,by omega⟩;rw[gk _ _ _ _ (by simp;omega) (by simp;omega),gk _ _ _ _ (by omega) (by omega),eK]
   .simp only[bL,g1];refine⟨arr',e,t2,by rw[t3];exact r2,by rw[ig];exact r3,λ k d hk=> ?_⟩;by_cases h1:k<off
    .rw[gl _ _ _ _ h1]at hk;obtain⟨u1,f1,f2⟩:=r4 k d hk;exact⟨u1,by rw[t5 _ (.inl (by omega))];exact f1,f2.bC e2.st⟩
    .by_cases h2:off+ds.length≤k
     .rw[gF _ _ _ _ h2]at hk;obtain⟨u1,f1,f2⟩:=r4 k d hk;exact⟨u1,by rw[t5 _ (.inr (by omega))];exact f1,f2.bC e2.st⟩
     .obtain⟨j,rfl⟩:∃j,k=off+j:=⟨k - off,by omega⟩;rw[gk _ _ _ _ (by omega) (by omega)]at hk;obtain⟨u1,f1,f2⟩:=q4 j d hk;refine⟨u1, ?_,f2.bC e2.st⟩;have:=t4 j (by omega);rw[f1]at this;rw[←this];congr 1;omega)
 exact⟨_,w',β2,g2,t1,m1⟩
theorem C6 (hT:bx cx.P T) {t:TypeId} {ad x:Operand} (ho:o.op= .store t ad x) (hs:(ah T c v r o.dst o.op).sc):
  cd cx v a w (execOp a.eval o) (ah T c v r o.dst o.op).x (ah T c v r o.dst o.op).r:=by
 simp only[ho,ah,Out.with]at hs⊢;obtain⟨⟨s1,s2⟩,hs⟩:=hs;have e1:=bH h hc s1;have e2:=bH h hc s2;have hrun:∀{ti ad' w'},T t=some ti->(cellsOf (ev v x)).length=ti.size->cellsOf (ev v x)≠[]->a.eval ad= .pointer (some ad')->(storeCells ad' (a.eval x).cells.toList).run cx.P w= .ok () w'->
   (execOp a.eval o).run cx.P w= .ok .skip w':=by
  intro ti ad' w' ht hl hn hp hr;have hlen:=gp (jE e2 hn);have hsz:(a.eval x).cells.size=ti.size:=by rw[←hl,←hlen];simp
  have e3:=(hT t ti ht).1.run_sizeOf w;simp[execOp,ho,Instr.storeAt,Instr.sureAddr,hp,storeVar,hsz,e3,hr]
 unfold iy at hs⊢;split at hs
 .rename_i ti hd off h1 h2;rw[h2]at e1;have e1:=ck.1 e1;split at hs
  .rename_i res g1;split at hs
   .rename_i hv;simp only[g1,ao hv];split at hs
    .rename_i rs g2
     try simp only[g2]
     split at hs
     .rename_i hsm
      try simp only[hsm]
      obtain⟨q1,q2,q3,q5,q6⟩:=hs;have hn:cellsOf (ev v x)≠[]:=λ hn=>by rw[hn]at q1;exact q2 q1.symm
      obtain⟨ad',w',β',m1,m2,m3⟩:=Bx h e1 e2 g1 hv g2 hn (by rw[q1];exact q3) q5 q6;exact⟨_,w',β',undef,hrun h1 q1 hn m1 m2, .inr ⟨rfl,rfl⟩,m3,by simp[ak,ae]⟩
     rename_i hsm
     try simp only[hsm]
     obtain⟨q1,q2,q3,q4,q5,q6⟩:=hs;have hn:cellsOf (ev v x)≠[]:=λ hn=>by rw[hn]at q1;exact q2 q1.symm
     obtain⟨ad',w',β',m1,m2,m3⟩:=Cw h e1 e2 g1 hv g2 hn (by rw[q1];exact q3) (by rw[q1];exact q4) q5 q6;exact⟨_,w',β',undef,hrun h1 q1 hn m1 m2, .inr ⟨rfl,rfl⟩,m3,by simp[ak,ae]⟩
    .exact hs.elim
   .rename_i hv;simp only[g1,aj hv];split at hs
    .rename_i ds r' g2;split at hs
     .rename_i res' rs g3 g4;simp only[g2,g3,g4];obtain⟨q1,q2,q3,q4⟩:=hs;have hn:cellsOf (ev v x)≠[]:=λ hn=>by rw[hn]at q1;exact q2 q1.symm
      obtain⟨β1,f1,f2,f3,f4⟩:=nZ h g2 (jE e2 hn);have hv':res'.var=false:=by have hp':=e1.ext f2;simp only[ae]at e1;obtain⟨res0,y1,y2,y3,y4,y5⟩:=f2.aP hd res' e1.2.1 g3;rw[g1]at y1;cases y1;rw[y3];simpa using hv
      obtain⟨ad',w',β',m1,m2,m3⟩:=BU h e1 e2 g2 g3 hv' g4 hn (by rw[q1];exact q3) q4;exact⟨_,w',β',undef,hrun h1 q1 hn m1 m2, .inr ⟨rfl,rfl⟩,m3,by simp[ak,ae]⟩
     .exact hs.elim
    .exact hs.elim
  .exact hs.elim
 .exact hs.elim
end
section
variable {cx:Cx} {v:List AV} {r:Rs} {a:Act} {w:World} {β:Nat->Nat->Pl} {T:Nat->Option TI} {c:Bool}
theorem sF:∀(cs:List Value) (k off:Nat) (arr:Array Value),
  ((cs.zipIdx k).foldl (λ (x:Array Value) (y:Value×Nat)=>x.setIfInBounds (off+y.2) y.1) arr).toList=bz (off+k) cs arr.toList
 |[],_,_,_=>rfl
 |c::cs,k,off,arr=>by simp only[List.zipIdx_cons,lE,bz];rw[sF cs (k+1) off];simp[cq]
theorem tV {us:Array Value} {off:Nat} {arr:Array Value}:
  (us.zipIdx.foldl (λ (x:Array Value) (y:Value×Nat)=>x.setIfInBounds (off+y.2) y.1) arr).toList=bz off us.toList arr.toList:=by
 have:=sF us.toList 0 off arr;rw[←Array.foldl_toList,Array.toList_zipIdx];simpa using this
theorem A2 {l m:List C} {us vs:List Value} {i:Nat} (h1:ar cx w r β l us) (h2:ar cx w r β m vs) (hi:i+l.length≤m.length):
  ar cx w r β (bz i l m) (bz i us vs):=by
 have e1:=gp h1;have e2:=gp h2;refine oi (by rw[ig,ig,e2]) λ k x hx=> ?_
 by_cases k1:k<i
 .rw[gl _ _ _ _ k1]at hx⊢;exact eL h2 hx
 .by_cases k2:i+l.length≤k
  .rw[gF _ _ _ _ k2]at hx;rw[gF _ _ _ _ (by omega)];exact eL h2 hx
  .obtain⟨j,rfl⟩:∃j,k=i+j:=⟨k - i,by omega⟩;rw[gk _ _ _ _ (by omega) hi]at hx;rw[gk _ _ _ _ (by omega) (by omega)];exact eL h1 hx
theorem tD {α β:Type} {f:α->Sem β} {g:α->β} {P:Program} {w:World}:∀(l:List α),(∀x∈l,(f x).run P w= .ok (g x) w)->(l.mapM f).run P w= .ok (l.map g) w
 |[],_=>by simp
 |x::l,h=>by rw[List.mapM_cons];simp[h x (by simp),tD l (λ y hy=>h y (by simp[hy]))]
theorem uX:∀{fs:List (Nat×Nat)},j2 T fs=true->∀p∈fs,∃fi,T p.2=some fi
 |[],_,p,hp=>by simp at hp
 |(o,ft)::l,h,p,hp=>by
  simp only[j2,cg]at h;rcases dw.1 hp with rfl|hp
  .have:=h.1;split at this
   .rename_i fi hfi;exact⟨fi,hfi⟩
   .cases this
  .exact uX h.2 p hp
theorem AU (hT:bx cx.P T) {t:Nat} {ti:TI} (ht:T t=some ti) (hb:mw T t=true) (w:World):
  ∃place:Nat->Option (Nat×Nat),(∀i o n,kl T t i=some (o,n)->place i=some (o,n))/\
   ∀(parts:Array (Nat×Value)) (z:Value) (arr:Array Value),(zeroValue t).run cx.P w= .ok z w->Instr.fill place z.cells parts.toList=some arr->
    (Instr.build t parts).run cx.P w= .ok (.agg arr) w:=by
 unfold mw at hb;simp only[ht]at hb;obtain⟨d,e1,e2,_⟩:=(hT t ti ht).1.eC w;split at hb
 .rename_i fs hfs;rw[hfs]at e2;cases d with
  |struct fields=>
   simp only[cK,TD.struct.injEq]at e2;have hmem:=uX hb;have hmap:(fields.mapM λ f=>do pure (f.offset,←sizeOf f.type):Sem (Array (Nat×Nat))).run cx.P w=
     .ok (fields.map λ f=>(f.offset,((T f.type).map (·.size)).getD 0)) w:=by
    rw[Array.mapM_eq_mapM_toList];simp only[Sem.run_map]
    rw[tD (g:=λ f=>(f.offset,((T f.type).map (·.size)).getD 0)) fields.toList (λ f hf=>by obtain⟨fi,hfi⟩:=hmem (f.offset,f.type) (by rw[←e2];exact List.mem_map.2 ⟨f,hf,rfl⟩);have:=(hT _ _ hfi).1.run_sizeOf w;simp only at hfi;simp[this,hfi])]
    simp only[dZ];congr 1;apply er;simp
   refine⟨λ i=>(fields.map λ f=>(f.offset,((T f.type).map (·.size)).getD 0))[i]?,λ i o n hi=> ?_,λ parts z arr hz hf=> ?_⟩
   .unfold kl at hi;simp only[ht,hfs]at hi;split at hi
    .rename_i o' ft hfi;split at hi
     .rename_i fi hft;cases hi;rw[←e2,eK]at hfi;obtain⟨f,hf,hf2⟩:=fj.1 hfi;cases hf2;have hf':fields[i]? =some f:=by simpa using hf
      simp[hf',hft]
     .cases hi
    .cases hi
   .simp only[Instr.build,eS,hz,e1,dZ,hmap];simp only[hf];rfl
  |_=>simp[cK]at e2
 .rename_i m e hfs;rw[hfs]at e2;cases d with
  |array m' e'=>
   simp only[cK,TD.array.injEq]at e2;obtain⟨rfl,rfl⟩:=e2;cases hte:T e' with
   |none=>rw[hte]at hb;cases hb
   |some ei=>
    have e3:=(hT _ _ hte).1.run_sizeOf w;refine⟨λ i=>some (i*ei.size,ei.size),λ i o n hi=> ?_,λ parts z arr hz hf=> ?_⟩
    .unfold kl at hi;simp only[ht,hfs,hte]at hi;exact hi
    .simp only[Instr.build,eS,hz,e1,dZ,e3];simp only[hf];rfl
  |_=>simp[cK]at e2
 .cases hb
theorem uf {t:Nat} {place:Nat->Option (Nat×Nat)} (hp:∀i o n,kl T t i=some (o,n)->place i=some (o,n)):
  ∀(ps:List (Nat×AV)) (us:List Value) (l l':List C) (arr:Array Value),jj T t ps l=some l'->aL cx w r β (ps.map (·.2)) us->ar cx w r β l arr.toList->
   ∃arr',Instr.fill place arr ((ps.map (·.1)).zip us)=some arr'/\ar cx w r β l' arr'.toList
 |[],us,l,l',arr,hb,_,hl=>by simp only[jj,aF]at hb;subst hb;exact⟨arr,by simp[Instr.fill],hl⟩
 |(i,y)::ps,us,l,l',arr,hb,hu,hl=>by
  simp only[jj]at hb;simp only[fF,aL]at hu;obtain⟨u,us',rfl,g1,g2⟩:=hu;split at hb
  .rename_i o n hpl;split at hb
   .rename_i hcond;obtain⟨c1,c0,c2⟩:=hcond;have hne:cellsOf y≠[]:=λ he=>by rw[he]at c1;exact c0 c1.symm
    have hcs:=jE g1 hne;have hlen:=gp hcs;have hl2:=gp hl;have hsz:u.cells.size=n:=by rw[←c1,←hlen];simp
    have hsz2:arr.size=l.length:=by rw[←hl2];simp
    obtain⟨arr',f1,f2⟩:=uf hp ps us' _ l' (u.cells.zipIdx.foldl (λ (x:Array Value) (y:Value×Nat)=>x.setIfInBounds (o+y.2) y.1) arr) hb g2
     (by rw[tV];exact A2 hcs hl (by omega))
    refine⟨arr', ?_,f2⟩;simp only[fF,List.zip_cons_cons,Instr.fill,hp _ _ _ hpl];rw[aj (by simp[hsz];omega)];exact f1
   .cases hb
  .cases hb
variable (hT:bx cx.P T) (h:aw cx ⟨v,r⟩ a w β) (hc:c=true) {o:Oper}
include h hc
include hT in
theorem Di {t:TypeId} {ps:Array (Nat×Operand)} (ho:o.op= .build t ps) (hs:(ah T c v r o.dst o.op).sc):
  cd cx v a w (execOp a.eval o) (ah T c v r o.dst o.op).x (ah T c v r o.dst o.op).r:=by
 simp only[ho,ah]at hs⊢;split at hs
 .rename_i ti h1
  try simp only[h1]
  split at hs
  .rename_i l h2;simp only[h2];obtain⟨s1,s2⟩:=hs;have e1:=iw h hc s1;obtain⟨z,e2,e3⟩:=(hT t ti h1).1.lj w;obtain⟨place,p1,p2⟩:=AU hT h1 s2 w;have hz:ar cx w r β (lN ti) z.cells.toList:=by rw[e3];exact pQ (hT t ti h1).1.flat
   have hlenv:(cj v (ps.toList.map (·.2))).length=(ps.toList.map (·.1)).length:=by
    have:∀l:List Operand,(cj v l).length=l.length:=λ l=>by induction l<;>simp_all[cj]
    rw[this];simp
   have hm1:((ps.toList.map (·.1)).zip (cj v (ps.toList.map (·.2)))).map (·.2)=cj v (ps.toList.map (·.2)):=by rw[List.map_snd_zip];omega
   have hm2:((ps.toList.map (·.1)).zip (cj v (ps.toList.map (·.2)))).map (·.1)=ps.toList.map (·.1):=by rw[List.map_fst_zip];omega
   obtain⟨arr,f1,f2⟩:=uf p1 _ ((ps.toList.map (·.2)).map a.eval) _ l z.cells h2 (by rw[hm1];exact e1) hz;rw[hm2]at f1;have hparts:(ps.map λ (i,x)=>(i,a.eval x)).toList=(ps.toList.map (·.1)).zip ((ps.toList.map (·.2)).map a.eval):=by rw[lG,List.map_map,List.zip_map',List.map_congr_left];intro x _;rfl
   have:=p2 (ps.map λ (i,x)=>(i,a.eval x)) z arr e2 (by rw[hparts];exact f1);refine .val h (u:= .agg arr) (by simp[execOp,ho,this]) (ec.2 ⟨arr,rfl,f2⟩)
  .exact hs.elim
 .exact hs.elim
end
section
variable {cx:Cx} {v:List AV} {r:Rs} {a:Act} {w:World} {β:Nat->Nat->Pl} {T:Nat->Option TI} {c:Bool}
theorem B9 {r r':Rs} {x:C} {d:D} (hs:gV r x=some (d,r')) (s:Nat):af r' s=af r s:=by
 unfold gV at hs;split at hs
 .cases hs;rfl
 .split at hs
  .rename_i res rs g1 g2;split at hs
   .cases hs
   .split at hs
    .cases hs;rw[c6];split
     .rename_i e;subst e;unfold af;simp only[g2]
     .rfl
    .cases hs
  .cases hs
 .cases hs
theorem tz:∀{xs:List C} {ds:List D} {r r':Rs},eG r xs=some (ds,r')->∀s,af r' s=af r s
 |[],ds,r,r',hs,s=>by simp only[eG,aF,gU]at hs;obtain⟨_,rfl⟩:=hs;rfl
 |x::xs,ds,r,r',hs,s=>by
  simp only[eG]at hs;split at hs
  .rename_i d r1 g1;split at hs
   .rename_i ds' r2 g2;simp only[aF,gU]at hs;obtain⟨_,rfl⟩:=hs;rw[tz g2 s,B9 g1 s]
   .cases hs
  .cases hs
theorem sW {size:Nat}:∀(us:List Value) (i:Nat) (arr:Array Value) (pre rest:List Value),arr.toList=pre++rest->pre.length=i*size->rest.length=us.length*size->
  (∀u∈us,u.cells.size=size)->∃arr',Instr.fill (λ i=>some (i*size,size)) arr ((List.range' i us.length).zip us)=some arr'/\arr'.toList=pre++us.flatMap (·.cells.toList)
 |[],i,arr,pre,rest,h1,_,h3,_=>⟨arr,by simp[Instr.fill],by have:rest=[]:=fW (by simpa using h3);simp[h1,this]⟩
 |u::us,i,arr,pre,rest,h1,h2,h3,h4=>by
  have hu:=h4 u (by simp);simp only[dK,cV,Nat.one_mul]at h3;have hsz:arr.size=i*size+(us.length*size+size):=by rw[←js,h1,eh,h2,h3]
  have hsplit:rest=rest.take size++rest.drop size:=(lK _ _).symm;have harr:(u.cells.zipIdx.foldl (λ (x:Array Value) (y:Value×Nat)=>x.setIfInBounds (i*size+y.2) y.1) arr).toList=(pre++u.cells.toList)++rest.drop size:=by
   rw[tV,h1,hsplit,←i6];have e1:∀(xs p aP q:List Value) (k:Nat),p.length=k->aP.length=xs.length->bz k xs (p++aP++q)=p++xs++q:=by
    intro xs;induction xs with
    |nil=>
     intro p aP q k _ ho;have:aP=[]:=fW (by simpa using ho);simp[bz,this]
    |cons x xs ih=>
     intro p aP q k hp ho;cases aP with
     |nil=>simp at ho
     |cons y aP=>
      simp only[bz];have:(p++y::aP++q).set k x=(p++[x])++aP++q:=by rw[i6,List.set_append_right _ _ (by omega),hp,Nat.sub_self];simp
      rw[this,ih (p++[x]) aP q (k+1) (by simp[hp]) (by simpa using ho)];simp
   rw[e1 _ _ _ _ _ h2 (by rw[jn,h3];simp[hu]),List.drop_left' (by rw[jn,h3];omega)]
  obtain⟨arr',f1,f2⟩:=sW us (i+1) (u.cells.zipIdx.foldl (λ (x:Array Value) (y:Value×Nat)=>x.setIfInBounds (i*size+y.2) y.1) arr) (pre++u.cells.toList) (rest.drop size) harr
   (by simp[h2,hu,cV]) (by rw[lC,h3];omega) (λ u' hu'=>h4 u' (by simp[hu']))
  refine⟨arr', ?_,by rw[f2];simp⟩;simp only[dK,List.range'_succ,List.zip_cons_cons,Instr.fill];rw[aj (by simp[hu];omega)];exact f1
theorem tt:∀{ys:List AV} {us:List Value} {size:Nat},aL cx w r β ys us->(∀y∈ys,(cellsOf y).length=size)->size≠0->
  ar cx w r β (ys.flatMap cellsOf) (us.flatMap (·.cells.toList))/\(∀u∈us,u.cells.size=size)/\us.length=ys.length
 |[],us,_,h,_,_=>by simp only[aL]at h;subst h;simp[ar]
 |y::ys,us,size,h,hl,hs=>by
  simp only[aL]at h;obtain⟨u,us',rfl,h1,h2⟩:=h;have hy:=hl y (by simp);have hcs:=jE h1 (λ he=>by rw[he]at hy;exact hs hy.symm);have hlen:=gp hcs;obtain⟨g1,g2,g3⟩:=tt h2 (λ y' hy'=>hl y' (by simp[hy'])) hs;refine⟨by simp only[dA];exact pv hcs g1,λ u' hu'=> ?_,by simp[g3]⟩;rcases dw.1 hu' with rfl|hu'
  .rw[←hy,←hlen];simp
  .exact g2 u' hu'
variable (hT:bx cx.P T) (h:aw cx ⟨v,r⟩ a w β) (hc:c=true) {o:Oper}
include h hc
include hT in
theorem AP {t:TypeId} {n:Nat} {ps:Array (Nat×Operand)} (ho:o.op= .buildSlice t n ps) (hs:(ah T c v r o.dst o.op).sc):
  cd cx v a w (execOp a.eval o) (ah T c v r o.dst o.op).x (ah T c v r o.dst o.op).r:=by
 simp only[ho,ah]at hs⊢;split at hs
 .rename_i e ei d h1 h2
  try simp only[h1,h2]
  split at hs
  .rename_i ds r' h3;simp only[h3];obtain⟨s1,s2,s3,s4,s5⟩:=hs;have e1:=iw h hc s1;obtain⟨g1,g2,hty,_⟩:=fv hT h1 w;obtain⟨z,g3,g4⟩:=hty.lj w;obtain⟨q1,q2⟩:=h.drop (d:=d) (L:=[]) (λ j res hj=>by simp at hj) (af r d) (Nat.le_refl _);obtain⟨f1,f2,f3⟩:=tt e1 s5 s3;obtain⟨β1,k1,k2,k3,k4⟩:=nZ q1 h3 (f1.ext q2);have hlenv:∀l:List Operand,(cj v l).length=l.length:=λ l=>by induction l<;>simp_all[cj]
   have hn:((ps.toList.map (·.2)).map a.eval).length=n:=by
    have:(ps.toList.map (·.1)).length=n:=by rw[s2];simp
    simpa using this
   have hflen:(((ps.toList.map (·.2)).map a.eval).flatMap (·.cells.toList)).length=n*ei.size:=by
    have:∀us:List Value,(∀u∈us,u.cells.size=ei.size)->(us.flatMap (·.cells.toList)).length=us.length*ei.size:=by
     intro us;induction us with
     |nil=>simp
     |cons u us ih=>
      intro hu;simp only[dA,eh,js,hu u (by simp),ih (λ u' hu'=>hu u' (by simp[hu'])),dK,cV,Nat.one_mul];omega
    rw[this _ f2,hn]
   have hnx:af r' d=af r d:=by rw[tz h3 d,c6,ao rfl]
   obtain⟨arr,m1,m2⟩:=sW ((ps.toList.map (·.2)).map a.eval) 0 ((Array.range (n*ei.size)).map λ i=>(if n*ei.size=0 then #[]else z.cells)[i % (if n*ei.size=0 then #[]else z.cells).size]!) [] _ rfl (by simp)
    (by simp[hn];rw[←hn];simp) f2
   rw[hn,←List.range_eq_range',←s2]at m1;simp only[kx]at m2;have hparts:(ps.map λ (i,x)=>(i,a.eval x)).toList=(ps.toList.map (·.1)).zip ((ps.toList.map (·.2)).map a.eval):=by rw[lG,List.map_map,List.zip_map',List.map_congr_left];intro x _;rfl
   obtain⟨β2,t1,t2⟩:=mc k1 hc (d:=d) (n:=n) (sz:=ei.size) (ds:=ds) (pl0:=⟨some (w.heap.size,0),n⟩) (w':=w.alloc (.cells arr e (0,0)))
    (λ b o hb=>by cases hb;rfl) (λ b hb'=>il w _ hb') (by simp) (by rw[k3,hflen];exact Nat.le_refl _) (Nat.le_refl _) (λ A' hA=>by
     have harr:arr=(((ps.toList.map (·.2)).map a.eval).flatMap (·.cells.toList)).toArray:=by apply er;simpa using m2
     rw[harr]
     exact vn k3 hflen (λ k d' hk=>by obtain⟨u,y1,y2⟩:=k4 k d' hk;exact⟨u,y1,y2.bC ⟨λ b hb' _=>il w _ hb',hA⟩⟩))
   rw[hnx]at t1 t2;refine⟨_,_,β2,_, ?_, .inl rfl,t1,t2⟩;have hbig:¬(16777216<n*ei.size):=by omega
   by_cases hz:n*ei.size=0
   .have hp:List.map (λ x=>(x.fst,a.eval x.snd)) ps.toList=(ps.toList.map (·.1)).zip ((ps.toList.map (·.2)).map a.eval):=by rw[lG]at hparts;exact hparts
    have h0:(Array.map (λ (_:Nat)=>(default:Value)) (Array.range 0))= #[]:=by apply er;simp
    have h0':(Array.map (λ i=>(#[]:Array Value)[i % (#[]:Array Value).size]!) (Array.range 0))= #[]:=by apply er;simp
    simp only[hz,ao]at m1;rw[h0']at m1;simp[execOp,ho,Instr.buildSlice,g1,g2,hz,newRow];rw[hp];simp only[h0,m1];simp
   .have hp:List.map (λ x=>(x.fst,a.eval x.snd)) ps.toList=(ps.toList.map (·.1)).zip ((ps.toList.map (·.2)).map a.eval):=by rw[lG]at hparts;exact hparts
    simp only[aj hz]at m1;simp[execOp,ho,Instr.buildSlice,g1,g2,g3,hz,hbig,newRow];rw[hp];simp only[m1];simp
  .exact hs.elim
 .exact hs.elim
end
section
variable {cx:Cx} {v:List AV} {r:Rs} {a:Act} {w:World} {β:Nat->Nat->Pl} {T:Nat->Option TI} {c:Bool}
theorem vV {y:AV} {u:Value} {hd:Hd} {lo n:Nat} {res:aM} (hy:ak cx w r β y u) (hd0:jU y=some (hd,lo,n)) (hg:ax r hd=some res):
  ∃ad,u= .slice ad n ((β hd.s hd.j).cap - lo)/\res.var=false/\lo+n≤(β hd.s hd.j).cap/\
   ((β hd.s hd.j).cap - lo=0∨∃b o,(β hd.s hd.j).base=some (b,o)/\ad=some ⟨b,o+lo*res.sz,none⟩):=by
 unfold jU at hd0;split at hd0
 .cases hd0;simp only[ak,ae]at hy;obtain⟨p1,_,p3,ad,p4,p5⟩:=hy.2.2 res hg;exact⟨ad,p4,p1,p3,p5⟩
 .cases hd0;simp only[ak,ae]at hy;obtain⟨_,_,p3,ad,p4,p5⟩:=hy;obtain⟨q1,q2,q3⟩:=p5 res hg;rw[q2];exact⟨ad,p4,q1,p3,q3⟩
 .cases hd0
theorem wu (h:aw cx ⟨v,r⟩ a w β) {hd:Hd} {lo n:Nat} {res:aM} {r':Rs} {ad:Option Addr} {ds:List D} {us:List Value} (hg:ax r hd=some res) (hp:ji r hd lo ds=some r')
  (hv:res.var=false) (hle:lo+n≤(β hd.s hd.j).cap) (hb:(β hd.s hd.j).cap - lo=0∨∃b o,(β hd.s hd.j).base=some (b,o)/\ad=some ⟨b,o+lo*res.sz,none⟩) (hfz:res.fz=false)
  (hcov:lo*res.sz≤res.cells.length) (hl:us.length=ds.length) (hn:us.length≤n*res.sz)
  (hr:∀(k:Nat) (d:D),ds[k]? =some d->∃u,us[k]? =some u/\Rd w (Av cx r β) d u) (hf:∀u∈us,flat u=true):
  ∃w' β',(match ad with|some x=>storeCells x us|none=>pure ()).run cx.P w= .ok () w'/\aw cx ⟨v,r'⟩ a w' β':=by
 obtain⟨hlk,hee⟩:=bh hg;unfold ji at hp;rw[hg]at hp;cases hrs:aa hd.s r with
 |none=>rw[hrs]at hp;simp at hp
 |some rs=>
  rw[hrs]at hp;simp only[aF]at hp;subst hp;have hj:=kc hlk hrs;have hok:=h.rs _ _ _ hlk;have hns:af r hd.s=rs.next:=by unfold af;simp only[hrs]
  obtain⟨ds0,k1,k2,k3⟩:=hok.1.row hv;by_cases hds:ds=[]
  .subst hds;have hus:us=[]:=fW (by rw[hl];rfl);subst hus;refine⟨w,β,by cases ad<;>simp[storeCells],h.congr λ s=> ?_⟩;rw[bX];split
   .rename_i e;subst e;rw[hrs];congr 1;have:{res with cells:=res.cells.take (lo*res.sz)++([]:List D).map C.d++res.cells.drop (lo*res.sz+([]:List D).length)}=res:=by simp
    rw[this,qj hj]
   .rfl
  .have hlen:0<ds.length:=List.length_pos_iff.2 hds
   obtain⟨b,o,hbase,rfl⟩:=hb.resolve_left (λ hz=>by
    have h0:n=0:=by omega
    rw[h0]at hn;omega)
   have k2':=k2;simp only[bL,hbase]at k2;obtain⟨cs,et,r1,r2,r3,r4⟩:=k2;rw[k1,fG]at hcov;have hfit:o+lo*res.sz+0+us.length≤cs.size:=by have h1:(lo+n)*res.sz≤(β hd.s hd.j).cap*res.sz:=fk _ hle;rw[cV]at h1;omega
   obtain⟨w',cs',t1,t2,t3,t4,t5,t6,t7⟩:=ka (P:=cx.P) us w (o+lo*res.sz) 0 cs r1 hfit hf;have hcells:res.cells.take (lo*res.sz)++ds.map C.d++res.cells.drop (lo*res.sz+ds.length)=(ds0.take (lo*res.sz)++ds++ds0.drop (lo*res.sz+ds.length)).map C.d:=by rw[k1];simp[List.map_take,List.map_drop]
   have hl0:ds0.length≤(ds0.take (lo*res.sz)++ds++ds0.drop (lo*res.sz+ds.length)).length:=by simp only[eh,jn,lC];omega
   obtain⟨β',m1,m2,m3,m4⟩:=h.j8 (w':=w') (res':={res with cells:=(ds0.take (lo*res.sz)++ds++ds0.drop (lo*res.sz+ds.length)).map C.d}) (pl':=β hd.s hd.j)
    (next':=rs.next) hrs hj (Nat.le_refl _) (by have:=hok.2;rw[hns]at this;exact this) rfl (.inl ⟨rfl,rfl,rfl,rfl,by simp only[fG,k1];exact hl0⟩) (λ hf=>hf)
    (λ b' o' hb'=> .inl ⟨o',hb'⟩) (λ b' hb' hor=>by
     rcases hor with hor|hor
     .exact t6 b' (λ e=>hor o (e▸hbase))
     .rw[hfz]at hor;cases hor) (by omega)
    (λ β' e1 e2 e3=>by
     refine jH (ds:=ds0.take (lo*res.sz)++ds++ds0.drop (lo*res.sz+ds.length)) hv rfl hfz ?_;simp only[bL,hbase];refine⟨cs',et,t2,by rw[t3];exact r2, ?_,λ j d hj=> ?_⟩
     .have h1:(lo+n)*res.sz≤(β hd.s hd.j).cap*res.sz:=fk _ hle;rw[cV]at h1;simp only[eh,jn,lC];omega
     .have htk:(ds0.take (lo*res.sz)).length=lo*res.sz:=by rw[jn];omega
      by_cases hj1:j<lo*res.sz
      .rw[i6,bJ (by rw[htk];exact hj1),List.getElem?_take_of_lt hj1]at hj;obtain⟨u,f1,f2⟩:=r4 _ _ hj;exact⟨u,by rw[t5 _ (.inl (by omega))];exact f1,f2.bC e2.st⟩
      .by_cases hj2:j<lo*res.sz+ds.length
       .rw[i6,bT (by rw[htk];omega),htk,bJ (by omega)]at hj;obtain⟨u,f1,f2⟩:=hr _ _ hj;have hlt:j - lo*res.sz<us.length:=(bq.1 f1).1;refine⟨u, ?_,f2.bC e2.st⟩;have:=t4 _ hlt;rw[f1]at this;rw[←this];congr 1;omega
       .rw[bT (by rw[eh,htk];omega),eh,htk,kG]at hj;rw[show lo*res.sz+ds.length+(j - (lo*res.sz+ds.length))=j by omega]at hj;obtain⟨u,f1,f2⟩:=r4 _ _ hj;exact⟨u,by rw[t5 _ (.inr (by omega))];exact f1,f2.bC e2.st⟩) t7.2
   rw[←hcells]at m1;exact⟨w',β',t1,m1⟩
variable (h:aw cx ⟨v,r⟩ a w β) (hc:c=true) {o:Oper}
include h hc
theorem CR (hT:bx cx.P T) {ts:Array TypeId} {as:Array Operand} (ho:o.op= .call ⟨.builtin .clear,as,ts⟩) (hs:(ah T c v r o.dst o.op).sc):
  cd cx v a w (execOp a.eval o) (ah T c v r o.dst o.op).x (ah T c v r o.dst o.op).r:=by
 simp only[ho,ah]at hs⊢;split at hs
 .rename_i y h0
  try simp only[h0]
  simp only[Out.with]at hs⊢;obtain⟨s1,hs⟩:=hs;have e1:=bH h hc s1;have hmap:as.map a.eval= #[a.eval y]:=by
   have:as= #[y]:=by rw[←lJ (xs:=as),h0]
   rw[this];simp
  unfold ir at hs⊢;split at hs
  .rename_i e ei hd lo n h1 h2;split at hs
   .rename_i res r' g1 g2;simp only[g1,g2];obtain⟨q1,q2,q3,q4⟩:=hs;obtain⟨t,ht,he⟩:=ky.1 h1;obtain⟨f1,f2,hty,_⟩:=fv hT he w;obtain⟨z,f3,f4⟩:=hty.lj w;obtain⟨ad,rfl',p1,p2,p3⟩:=vV e1 h2 g1;obtain⟨z1,z2,z3⟩:=l9 (w:=w) (A:=Av cx r β) hty f4 (n:=n);obtain⟨w',β',m1,m2⟩:=wu h g1 g2 p1 p2 p3 q3 q4 (by rw[z1,nK,hty.len]) (by rw[z1,q2];exact Nat.le_refl _) z2 z3;refine⟨_,w',β', .tuple #[], ?_, .inl rfl,m2,by simp[ak,ae]⟩;have hclear:(Builtin.clear_ ts o.type #[a.eval y]).run cx.P w= .ok (.tuple #[]) w':=by
     rw[rfl'];cases ad with
     |none=>
      simp only[iJ]at m1;cases m1;simp[Builtin.clear_,ht,f1]
     |some ad=>
      cases n with
      |zero=>
       have hzn:(Builtin.zeroCells z.cells 0).toList=[]:=fW (by rw[z1];simp);rw[hzn]at m1;simp only[storeCells,iJ]at m1;cases m1;simp[Builtin.clear_,ht,f1]
      |succ n=>
       simp[Builtin.clear_,ht,f1,f3];simp at m1;simp[m1]
    simp[execOp,ho,resolve,hmap,invoke,builtin,hclear]
   .exact hs.elim
  .exact hs.elim
 .exact hs.elim
theorem DU (hT:bx cx.P T) {ts:Array TypeId} {as:Array Operand} (ho:o.op= .call ⟨.builtin .copy,as,ts⟩) (hs:(ah T c v r o.dst o.op).sc):
  cd cx v a w (execOp a.eval o) (ah T c v r o.dst o.op).x (ah T c v r o.dst o.op).r:=by
 simp only[ho,ah]at hs⊢;split at hs
 .rename_i y x h0
  try simp only[h0]
  simp only[Out.with]at hs⊢;obtain⟨⟨s1,s2⟩,hs⟩:=hs;have e1:=bH h hc s1;have e2:=bH h hc s2;have hmap:as.map a.eval= #[a.eval y,a.eval x]:=by
   have:as= #[y,x]:=by rw[←lJ (xs:=as),h0]
   rw[this];simp
  unfold iI at hs⊢;split at hs
  .rename_i e ei hd lo n m ds2 h1 h2 h3;split at hs
   .rename_i res r' g1 g2;simp only[g1,g2];obtain⟨q1,q2,q3,q5,q4⟩:=hs;obtain⟨t,ht,he⟩:=ky.1 h1;obtain⟨f1,f2,hty,_⟩:=fv hT he w;obtain⟨ad,rfl',p1,p2,p3⟩:=vV e1 h2 g1;unfold ku at h3;split at h3
    .rename_i xc hxc;rw[hxc]at e2;obtain⟨ad2,cap2,rfl2,r1,r2⟩:=kX h (ck.1 e2) h3;have hlt:(ds2.take (min m n*ei.size)).length=min m n*ei.size:=by rw[jn];exact Nat.min_eq_left q5
     obtain⟨us,u1,u2,u3,u4⟩:=mb (P:=cx.P) (n:=m) (cap:=cap2) (r2.take (k:=min m n*ei.size)) hlt;obtain⟨w',β',m1,m2⟩:=wu h g1 g2 p1 p2 p3 q3 q4 u1 (by rw[u1,hlt,q2];exact fk _ (Nat.min_le_right _ _)) u3 u4;have hm:Nat.min m n=min m n:=rfl;refine⟨_,w',β', .int .i64 (min m n:Nat), ?_, .inl rfl,m2,bj.2 ⟨rfl,rfl⟩⟩;have hcopy:(Builtin.copy_ ts o.type #[a.eval y,a.eval x]).run cx.P w= .ok (.int .i64 (min m n:Nat)) w':=by
      rw[rfl',rfl2];cases ad with
      |none=>
       simp only[iJ]at m1;cases m1;simp[Builtin.copy_,Builtin.lenOf,ht,f1,f2,u2,hm,goInt]
      |some ad=>
       simp only at m1;simp[Builtin.copy_,Builtin.lenOf,ht,f1,f2,u2,hm,goInt,m1]
     simp[execOp,ho,resolve,hmap,invoke,builtin,hcopy]
    .cases h3
   .exact hs.elim
  .exact hs.elim
 .exact hs.elim
end
end Go.Pk
