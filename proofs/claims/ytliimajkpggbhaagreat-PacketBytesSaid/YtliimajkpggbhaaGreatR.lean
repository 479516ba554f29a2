import Derived.Test.YtliimajkpggbhaaGreatI
set_option maxHeartbeats 8000000
namespace Go.Proofs.YtliimajkpggbhaaGreat
open Go.Pk Tryz
set_option maxRecDepth 100000
set_option linter.unusedSimpArgs false
set_option linter.unusedVariables false
theorem Z3 {l:List Int} {v:Int}:dc l v=true↔v∈l:=by unfold dc;simp[wb]
theorem uo {l:List Int} {v:Int}:dc l v=false↔v ∉ l:=by rw[←Bb,Z3]
theorem vv {l:List bg} {c:Int}:(bC l c).isSome=true↔∃x∈l,x.af=c:=by unfold bC;simp
theorem Ae {α:Type} {r:α->α->Prop} {l:List α} {x:α} {k:Nat} (hl:l.Pairwise r) (h1:∀y∈l.take k,r y x) (h2:∀y∈l.drop k,r x y):(l.take k++x::l.drop k).Pairwise r:=by
 rw[←lN k l]at hl;obtain⟨a,b,c⟩:=List.pairwise_append.1 hl;refine List.pairwise_append.2 ⟨a,oE.2 ⟨h2,b⟩,λ y hy z hz=> ?_⟩;rcases cF.1 hz with rfl|hz
 .exact h1 y hy
 .exact c y hy z hz
theorem Gn {α:Type} {p:α->Bool} {l:List α} {y:α} (h:y∈l.take (nU p l)):p y=true:=by rw[wq]at h;obtain⟨j,hj,rfl⟩:=h;exact DG (by omega) (by omega)
theorem Gj {α:Type} {p:α->Bool} {l:List α} {y:α} (hm:yC p l) (h:y∈l.drop (nU p l)):p y=false:=by obtain⟨j,hj,rfl⟩:=oA h;rw[List.getElem_drop];exact Ds _ hm (by omega)
theorem DA {α β:Type} {f:α->β} {l:List α} {j:Nat} {x:α} (hj:j<l.length) (h:f x=f l[j]):(l.set j x).map f=l.map f:=by
 rw[List.map_set,h];apply wv (by simp);intro k h1 h2;rw[uI];split
 .rename_i e;subst e;simp
 .rfl
theorem mem_set {α:Type} {l:List α} {j:Nat} {x y:α} (h:y∈l.set j x):y=x∨y∈l:=by
 rcases Bf h with h|h
 .exact .inr h
 .exact .inl h
theorem Nq {l:List bg}:SS l↔(l.map bg.af).Pairwise (·<·):=by unfold SS;rw[rP]
theorem D1 {l:List Lk}:SL l↔(l.map Lk.name).Pairwise (λ a b=>jk a b=true):=by unfold SL;rw[rP]
theorem DT {l:List bN}:SM l↔(l.map bN.af).Pairwise (·<·):=by unfold SM;rw[rP]
theorem zb (gone:List Int) (token:Int):∀(l:List Lk) (g:Int),0≤g->
  (g≤(eK gone token l g).2/\(eK gone token l g).2≤g+l.length)/\((eK gone token l g).1.map Lk.name).Sublist (l.map Lk.name)/\
  (∀k∈(eK gone token l g).1,(k∈l/\dc gone k.bh=false)∨(token+g<k.token/\k.token≤token+(eK gone token l g).2/\∃k0∈l,k0.name=k.name/\k0.line=k.bh::k.line))/\
  ((∀k∈l,k.token≤token)->(l.Pairwise λ a b=>a.token≠b.token)->(eK gone token l g).1.Pairwise λ a b=>a.token≠b.token)
 |[],g,hg=>by simp[eK]
 |k::r,g,hg=>by
  cases hk:dc gone k.bh
  .obtain⟨⟨a1,a2⟩,b,c,d⟩:=zb gone token r g hg;have e:eK gone token (k::r) g=(k::(eK gone token r g).1,(eK gone token r g).2):=by rw[eK,aa (by simp[hk])]
   rw[e];refine⟨⟨a1,by simp only[cL];omega⟩,b.cons_cons _,λ x hx=> ?_,λ ht hp=> ?_⟩
   .rcases cF.1 hx with rfl|hx
    .exact .inl ⟨nQ ..,hk⟩
    .rcases c x hx with⟨h1,h2⟩|⟨h1,h2,k0,h3,h4⟩
     .exact .inl ⟨jI _ h1,h2⟩
     .exact .inr ⟨h1,h2,k0,jI _ h3,h4⟩
   .have hp':=oE.1 hp;have hkt:=ht k (nQ ..);refine oE.2 ⟨λ x hx=> ?_,d (λ x hx=>ht x (jI _ hx)) hp'.2⟩;rcases c x hx with⟨h1,h2⟩|⟨h1,h2,k0,h3,h4⟩
    .exact hp'.1 x h1
    .omega
  .cases hl:k.line with
   |nil=>
    obtain⟨⟨a1,a2⟩,b,c,d⟩:=zb gone token r g hg;have e:eK gone token (k::r) g=eK gone token r g:=by rw[eK,aj hk,hl]
    rw[e];refine⟨⟨a1,by simp only[cL];omega⟩,b.cons _,λ x hx=> ?_,λ ht hp=> ?_⟩
    .rcases c x hx with⟨h1,h2⟩|⟨h1,h2,k0,h3,h4⟩
     .exact .inl ⟨jI _ h1,h2⟩
     .exact .inr ⟨h1,h2,k0,jI _ h3,h4⟩
    .exact d (λ x hx=>ht x (jI _ hx)) (oE.1 hp).2
   |cons c0 rest=>
    obtain⟨⟨a1,a2⟩,b,c,d⟩:=zb gone token r (g+1) (by omega);have e:eK gone token (k::r) g=(⟨k.name,c0,token+g+1,rest⟩::(eK gone token r (g+1)).1,(eK gone token r (g+1)).2):=by rw[eK,aj hk,hl]
    rw[e];refine⟨⟨by simp only;omega,by simp only[cL];omega⟩,b.cons_cons _,λ x hx=> ?_,λ ht hp=> ?_⟩
    .rcases cF.1 hx with rfl|hx
     .exact .inr ⟨by simp only;omega,by simp only;omega,k,nQ ..,rfl,hl⟩
     .rcases c x hx with⟨h1,h2⟩|⟨h1,h2,k0,h3,h4⟩
      .exact .inl ⟨jI _ h1,h2⟩
      .exact .inr ⟨by omega,h2,k0,jI _ h3,h4⟩
    .have hp':=oE.1 hp;refine oE.2 ⟨λ x hx=> ?_,d (λ x hx=>ht x (jI _ hx)) hp'.2⟩;simp only;rcases c x hx with⟨h1,h2⟩|⟨h1,h2,k0,h3,h4⟩
     .have:=ht x (jI _ h1);omega
     .omega
theorem oY {k:Lk}:ny k=true↔fb k.name=true/\(0≤k.bh/\k.bh<8)/\1≤k.token/\k.token≤bj:=by
 unfold ny;simp only[bM,ir,gg];constructor
 .rintro⟨⟨⟨⟨a,b⟩,c⟩,d⟩,e⟩;exact⟨a,⟨by omega,by omega⟩,by omega,by omega⟩
 .rintro⟨a,⟨b,c⟩,d,e⟩;exact⟨⟨⟨⟨a,by omega⟩,by omega⟩,by omega⟩,by omega⟩
theorem yV {c:Int}:fq c=true↔0≤c/\c<8:=by unfold fq;simp
theorem BZ {l gone:List Int} {c:Int}:c∈iF l gone↔c∈l/\dc gone c=false:=by unfold iF;simp
theorem Ig {s:St} (h:cZ s) (gone:List Int) (hT:s.token+4≤bj):cZ (mP s gone)/\s.token≤(mP s gone).token/\(mP s gone).token≤s.token+4:=by
 obtain⟨⟨a1,a2⟩,b,c,d⟩:=zb gone s.token (s.ae.map (eZ gone)) 0 (Int.le_refl _);have hlen:((s.ae.map (eZ gone)).length:Int)≤4:=by rw[bE];have:=h.ll;omega
 have hl1:∀k∈s.ae.map (eZ gone),ny k=true/\k.token≤s.token/\iQ k.line=true/\dc k.line k.bh=false/\(∀c∈k.line,dc gone c=false)/\(bC s.ax k.bh).isSome=true/\∀c∈k.line,(bC s.ax c).isSome=true:=by
  intro k hk;obtain⟨k0,hk0,rfl⟩:=kx.1 hk;obtain⟨e1,e2,e3,e4⟩:=h.ju k0 hk0;obtain⟨f1,f2⟩:=h.mb k0 hk0;obtain⟨g1,g2,g3⟩:=nC.1 e3;refine⟨e1,e2,nC.2 ⟨?_,λ c hc=>g2 c (BZ.1 hc).1, ?_⟩, ?_,λ c hc=>(BZ.1 hc).2,f1,λ c hc=>f2 c (BZ.1 hc).1⟩
  .exact i6 (tr ..) g1
  .exact g3.sublist (List.filter_sublist ..)
  .rw[uo]at e4⊢;exact λ hc=>e4 (BZ.1 hc).1
 have hfind:∀c,(bC s.ax c).isSome=true->dc gone c=false->(bC (s.ax.filter λ x=> !dc gone x.af) c).isSome=true:=by intro c hc hg;obtain⟨x,hx,rfl⟩:=vv.1 hc;exact vv.2 ⟨x,yj.2 ⟨hx,by simp[hg]⟩,rfl⟩
 have hok:∀k∈(jC s.ae gone s.token).1,ny k=true/\k.token≤s.token+(jC s.ae gone s.token).2/\iQ k.line=true/\dc k.line k.bh=false/\(dc gone k.bh=false/\∀c∈k.line,dc gone c=false)/\(bC s.ax k.bh).isSome=true/\∀c∈k.line,(bC s.ax c).isSome=true:=by
  intro k hk;rcases c k hk with⟨h1,h2⟩|⟨h1,h2,k0,h3,h4,h5⟩
  .obtain⟨e1,e2,e3,e4,e5,e6,e7⟩:=hl1 k h1;refine⟨e1, ?_,e3,e4,⟨h2,e5⟩,e6,e7⟩;have:0≤(jC s.ae gone s.token).2:=a1;omega
  .obtain⟨e1,e2,e3,e4,e5,e6,e7⟩:=hl1 k0 h3;rw[h5]at e3 e5 e7;obtain⟨g1,g2,g3⟩:=nC.1 e3;have g3':=uS.1 g3;have i1:=oY.1 e1;have i2:=yV.1 (g2 k.bh (nQ ..));have a2':(jC s.ae gone s.token).2≤4:=by have:(jC s.ae gone s.token).2=(eK gone s.token (s.ae.map (eZ gone)) 0).2:=rfl;omega
   have h2':k.token≤s.token+(jC s.ae gone s.token).2:=h2;have:=h.token;refine⟨oY.2 ⟨h4▸i1.1,i2,by omega,by omega⟩,h2',nC.2 ⟨?_,λ c hc=>g2 c (jI _ hc),g3'.2⟩,uo.2 g3'.1,⟨e5 _ (nQ ..),λ c hc=>e5 c (jI _ hc)⟩,e7 _ (nQ ..),λ c hc=>e7 c (jI _ hc)⟩;simp only[cL]at g1;omega
 have hnm:(s.ae.map (eZ gone)).map Lk.name=s.ae.map Lk.name:=by rw[rT];rfl
 have a2':(jC s.ae gone s.token).2≤4:=by have:(jC s.ae gone s.token).2=(eK gone s.token (s.ae.map (eZ gone)) 0).2:=rfl;omega
 have a1':0≤(jC s.ae gone s.token).2:=a1;have hT0:=h.token;refine⟨⟨h.time,h.num,⟨by simp only[mP];omega,by simp only[mP];omega⟩, ?_, ?_, ?_, ?_, ?_, ?_, ?_, ?_,h.ms,h.lx, ?_⟩,by simp only[mP];omega,by simp only[mP];omega⟩
 .exact ym (List.filter_sublist ..) h.ss
 .exact λ x hx=>h.jS x (yj.1 hx).1
 .exact ym (List.filter_sublist ..) h.snd
 .exact i6 (tr ..) h.sl
 .rw[D1];rw[hnm]at b;exact ym b (D1.1 h.ls)
 .exact λ k hk=>⟨(hok k hk).1,(hok k hk).2.1,(hok k hk).2.2.1,(hok k hk).2.2.2.1⟩
 .refine d (λ k hk=>(hl1 k hk).2.1) ?_;rw[rP];exact h.sd
 .have:=b.length_le;rw[hnm,bE,bE]at this;exact i6 this h.ll
 .intro k hk;obtain⟨_,_,_,_,⟨g1,g2⟩,f1,f2⟩:=hok k hk;exact⟨hfind _ f1 g1,λ c hc=>hfind c (f2 c hc) (g2 c hc)⟩
theorem Il {s:St} (h:cZ s) (time lease:Int) (hT:s.token+4≤bj):
  cZ (ou s time lease)/\s.token≤(ou s time lease).token/\(ou s time lease).token≤s.token+4/\(ou s time lease).num=s.num/\s.time≤(ou s time lease).time:=by
 have ht:s.time≤j9 s time/\j9 s time≤bj:=by
  have:=h.time;unfold j9;split
  .rename_i hc;simp at hc;omega
  .omega
 have h':cZ {s with time:=j9 s time}:=⟨⟨by have:=h.time;simp only;omega,ht.2⟩,h.num,h.token,h.ss,h.jS,h.snd,h.sl,h.ls,h.ju,h.sd,h.ll,h.ms,h.lx,h.mb⟩;obtain⟨a,b,c⟩:=Ig h' (qH s.ax (j9 s time) (max lease 1)) hT;exact⟨a,b,c,rfl,ht.1⟩
theorem At {α:Type} {l:List α} {k:Nat} {x y:α}:y∈l.take k++x::l.drop k↔y=x∨y∈l:=by
 rw[dN,cF];constructor
 .rintro(h|h|h)
  .exact .inr (jm h)
  .exact .inl h
  .exact .inr (oD h)
 .rintro(h|h)
  .exact .inr (.inl h)
  .rw[←lN k l]at h;rcases dN.1 h with h|h
   .exact .inl h
   .exact .inr (.inr h)
theorem Nf {α:Type} {l:List α} {k:Nat} {x:α}:(l.take k++x::l.drop k).length=l.length+1:=by simp only[aG,cu,cL,iM];omega
theorem qZ {x:bg}:rv x=true↔fq x.af=true/\(1≤x.num/\x.num≤bj)/\0≤x.dp/\x.dp≤bj:=by
 unfold rv;simp only[bM,ir,gg];constructor
 .rintro⟨⟨⟨⟨a,b⟩,c⟩,d⟩,e⟩;exact⟨a,⟨by omega,by omega⟩,by omega,by omega⟩
 .rintro⟨a,⟨b,c⟩,d,e⟩;exact⟨⟨⟨⟨a,by omega⟩,by omega⟩,by omega⟩,by omega⟩
theorem Ie {s:St} (h:cZ s):mQ s.ax (s.num+1)=false:=by unfold mQ;rw[wj];intro x hx;have:=(h.jS x hx).2;simp;omega
theorem LL {s:St} (h:cZ s) {c:Int} (hc:fq c=true) (hN:s.num+1≤bj) (hf:bC s.ax c=none):
  iN s.ax c (s.num+1) s.time=if s.ax.length≥5 then([],5)else(s.ax.take (f6 s.ax c)++⟨c,s.num+1,s.time⟩::s.ax.drop (f6 s.ax c),0):=by
 unfold iN;have h1:=h.num;have h2:=h.time
 rw[aa (by
  rw[Ie h,hc,hf];have e1:decide (s.num+1<1)=false:=by simp;omega
  have e2:decide (s.num+1>bj)=false:=by simp;omega
  have e3:decide (s.time<0)=false:=by simp;omega
  have e4:decide (s.time>bj)=false:=by simp;omega
  rw[e1,e2,e3,e4];simp),aa (by rw[hf];simp)]
 by_cases h5:s.ax.length≥5
 .rw[aj (by simp;omega),aj h5]
 .rw[aa (by simp;omega),aa h5]
theorem W0 {s:St} (h:cZ s) {c:Int} (hc:fq c=true) (hN:s.num+1≤bj) (hf:bC s.ax c=none) (h5:s.ax.length<5):
  cZ {s with ax:=s.ax.take (f6 s.ax c)++⟨c,s.num+1,s.time⟩::s.ax.drop (f6 s.ax c),num:=s.num+1}:=by
 have h1:=h.num;have h2:=h.time;have hne:∀y∈s.ax,y.af≠c:=by intro y hy he;have:(bC s.ax c).isSome=true:=vv.2 ⟨y,hy,he⟩;rw[hf]at this;cases this
 refine⟨h.time,⟨by simp only;omega,hN⟩,h.token, ?_, ?_, ?_, ?_,h.ls,h.ju,h.sd,h.ll,h.ms,h.lx, ?_⟩
 .refine Ae h.ss (λ y hy=> ?_) (λ y hy=> ?_)
  .simpa using Gn hy
  .have:=Gj (Hb h.ss c) hy;have:=hne y (oD hy);simp at*;omega
 .intro x hx;rcases At.1 hx with rfl|hx
  .exact⟨qZ.2 ⟨hc,⟨by simp only;omega,hN⟩,h2⟩,Int.le_refl _⟩
  .exact⟨(h.jS x hx).1,by have:=(h.jS x hx).2;simp only;omega⟩
 .refine Ae h.snd (λ y hy=> ?_) (λ y hy=> ?_)
  .have:=(h.jS y (jm hy)).2;simp only;omega
  .have:=(h.jS y (oD hy)).2;simp only;omega
 .simp only[Nf];omega
 .intro k hk;have:∀c',(bC s.ax c').isSome=true->(bC (s.ax.take (f6 s.ax c)++⟨c,s.num+1,s.time⟩::s.ax.drop (f6 s.ax c)) c').isSome=true:=λ c' hc'=>by obtain⟨x,hx,e⟩:=vv.1 hc';exact vv.2 ⟨x,At.2 (.inr hx),e⟩
  exact⟨this _ (h.mb k hk).1,λ c' hc'=>this _ ((h.mb k hk).2 c' hc')⟩
theorem CN {s:St} (h:cZ s) {c:Int} {x:bg} (hf:bC s.ax c=some x):jy s.ax c s.time=(s.ax.set (f6 s.ax c) ⟨x.af,x.num,max x.dp s.time⟩,0):=by have:=h.time;unfold jy;rw[aa (by simp;omega),hf]
theorem Gr {s:St} (h:cZ s) {c:Int} {x:bg} (hf:bC s.ax c=some x):
  (s.ax.set (f6 s.ax c) ⟨x.af,x.num,max x.dp s.time⟩).map bg.af=s.ax.map bg.af/\(s.ax.set (f6 s.ax c) ⟨x.af,x.num,max x.dp s.time⟩).map bg.num=s.ax.map bg.num:=by
 obtain⟨⟨hi,he⟩,_⟩:=GN h.ss hf;exact⟨DA hi (by rw[he]),DA hi (by rw[he])⟩
theorem C9 {l m:List bg} (h:l.map bg.af=m.map bg.af) (c:Int):(bC l c).isSome=(bC m c).isSome:=by
 have key:∀l:List bg,(bC l c).isSome=(l.map bg.af).any λ x=>x==c:=λ l=>by rw[List.any_map,nK,vv,wb];simp
 rw[key,key,h]
theorem IK {s:St} (h:cZ s) {c:Int} {x:bg} (hf:bC s.ax c=some x):cZ {s with ax:=(jy s.ax c s.time).1}:=by
 rw[CN h hf];simp only;obtain⟨⟨hi,he⟩,hxc⟩:=GN h.ss hf;obtain⟨m1,m2⟩:=Gr h hf;have hx:x∈s.ax:=he▸cb hi;refine⟨h.time,h.num,h.token, ?_, ?_, ?_, ?_,h.ls,h.ju,h.sd,h.ll,h.ms,h.lx, ?_⟩
 .rw[Nq,m1];exact Nq.1 h.ss
 .intro y hy;rcases mem_set hy with rfl|hy
  .obtain⟨a,b⟩:=h.jS x hx;obtain⟨a1,a2,a3,a4⟩:=qZ.1 a;have:=h.time;exact⟨qZ.2 ⟨a1,a2,by simp only;omega,by simp only;omega⟩,b⟩
  .exact h.jS y hy
 .have:((s.ax.set (f6 s.ax c) ⟨x.af,x.num,max x.dp s.time⟩).map bg.num).Pairwise (·≠·):=by rw[m2,rP];exact h.snd
  rwa[rP]at this
 .simp only[u6];exact h.sl
 .intro k hk;exact⟨by simp only;rw[C9 m1];exact(h.mb k hk).1,λ c' hc'=>by simp only;rw[C9 m1];exact(h.mb k hk).2 c' hc'⟩
theorem Fg {s:St} (h:cZ s) {L:List Lk} {t:Int} (ht:s.token≤t/\t≤bj) (h1:SL L) (h2:∀k∈L,ny k=true/\k.token≤t/\iQ k.line=true/\dc k.line k.bh=false) (h3:L.Pairwise λ a b=>a.token≠b.token)
  (h4:L.length≤4) (h5:∀k∈L,(bC s.ax k.bh).isSome=true/\∀c∈k.line,(bC s.ax c).isSome=true):cZ {s with ae:=L,token:=t}:=
 ⟨h.time,h.num,⟨by have:=h.token;simp only;omega,ht.2⟩,h.ss,h.jS,h.snd,h.sl,h1,h2,h3,h4,h.ms,h.lx,h5⟩
theorem F9 {s:St} (h:cZ s) {j:Nat} (hj:j<s.ae.length) {k:Lk} {t:Int} (ht:s.token≤t/\t≤bj) (hn:k.name=s.ae[j].name) (hk:ny k=true/\k.token≤t/\iQ k.line=true/\dc k.line k.bh=false)
  (hd:k.token=s.ae[j].token∨s.token<k.token) (hs:(bC s.ax k.bh).isSome=true/\∀c∈k.line,(bC s.ax c).isSome=true):cZ {s with ae:=s.ae.set j k,token:=t}:=by
 refine Fg h ht ?_ ?_ ?_ ?_ ?_
 .rw[D1,DA hj hn];exact D1.1 h.ls
 .intro x hx;rcases mem_set hx with rfl|hx
  .exact hk
  .obtain⟨a,b,c⟩:=h.ju x hx;exact⟨a,by omega,c⟩
 .rw[nt];intro i m hi hm him;have hi':i<s.ae.length:=by simpa using hi
  have hm':m<s.ae.length:=by simpa using hm
  have hp:=nt.1 h.sd;have hb:∀q (hq:q<s.ae.length),s.ae[q].token≤s.token:=λ q hq=>(h.ju _ (cb hq)).2.1
  rw[uI,uI];split
  .rename_i e;subst e;rw[aa (by omega)];have:=hb m hm';rcases hd with hd|hd
   .rw[hd];exact hp j m hj hm' him
   .omega
  .split
   .rename_i e;subst e;have:=hb i hi';rcases hd with hd|hd
    .rw[hd];exact hp i j hi' hj him
    .omega
   .exact hp i m hi' hm' him
 .rw[u6];exact h.ll
 .intro x hx;rcases mem_set hx with rfl|hx
  .exact hs
  .exact h.mb x hx
theorem Vv {s:St} (h:cZ s) (j:Nat):cZ {s with ae:=s.ae.eraseIdx j,token:=s.token}:=by have hsub:(s.ae.eraseIdx j).Sublist s.ae:=List.eraseIdx_sublist ..;refine Fg h ⟨Int.le_refl _,h.token.2⟩ (ym hsub h.ls) (λ k hk=>h.ju k (hsub.subset hk)) (ym hsub h.sd) (i6 hsub.length_le h.ll) (λ k hk=>h.mb k (hsub.subset hk))
theorem JA {s:St} (h:cZ s) {name:ByteArray} {c:Int} {w:Bool} (hnm:fb name=true) (hc:fq c=true) (hf:(bC s.ax c).isSome=true) (hT:s.token+4≤bj):
  ((cD s.ae name c s.token w).2.2=0->cZ {s with ae:=(cD s.ae name c s.token w).1,token:=s.token+1})/\
  ((cD s.ae name c s.token w).2.2=10->cZ {s with ae:=(cD s.ae name c s.token w).1,token:=s.token})/\
  (0≤(cD s.ae name c s.token w).2.2/\(cD s.ae name c s.token w).2.2≤10)/\(0≤(cD s.ae name c s.token w).2.1/\(cD s.ae name c s.token w).2.1≤3):=by
 have hT0:=h.token;unfold cD;cases hl:ix s.ae name with
 |none=>
  simp only;split
  .refine⟨λ h=>by simp at h,λ h=>by simp at h,⟨by simp only;decide,by simp only;decide⟩,⟨by simp only;decide,by simp only;decide⟩⟩
  .rename_i h4;simp only[dX]at h4;refine⟨λ _=> ?_,λ h=>by simp at h,⟨by simp only;decide,by simp only;decide⟩,⟨by simp only;decide,by simp only;decide⟩⟩;have hne:∀y∈s.ae,gr name y=false:=by intro y hy;have:=tJ.1 hl y hy;simpa using this
   refine Fg h ⟨by omega,by omega⟩ ?_ ?_ ?_ ?_ ?_
   .refine Ae h.ls (λ y hy=>Gn (p:=λ x:Lk=>jk x.name name) hy) (λ y hy=> ?_);have h1:=Gj (Hc h.ls name) hy;have h2:=hne y (oD hy);cases h3:jk name y.name
    .have:=HH h1 h3;rw[gr,this]at h2;simp at h2
    .rfl
   .intro x hx;rcases At.1 hx with rfl|hx
    .exact⟨oY.2 ⟨hnm,yV.1 hc,by simp only;omega,by simp only;omega⟩,Int.le_refl _,by simp[iQ,eD],rfl⟩
    .obtain⟨a,b,d⟩:=h.ju x hx;exact⟨a,by omega,d⟩
   .refine Ae h.sd (λ y hy=> ?_) (λ y hy=> ?_)
    .have:=(h.ju y (jm hy)).2.1;simp only;omega
    .have:=(h.ju y (oD hy)).2.1;simp only;omega
   .rw[Nf];omega
   .intro x hx;rcases At.1 hx with rfl|hx
    .exact⟨hf,λ c hc=>by simp at hc⟩
    .exact h.mb x hx
 |some k=>
  simp only;obtain⟨⟨hi,he⟩,hn⟩:=sF h.ls hl;have hk:k∈s.ae:=he▸cb hi;have hlk:=h.ju k hk;split
  .refine⟨λ h=>by simp at h,λ h=>by simp at h,⟨by simp only;decide,by simp only;decide⟩,⟨by simp only;decide,by simp only;decide⟩⟩
  .rename_i hh;split
   .refine⟨λ h=>by simp at h,λ h=>by simp at h,⟨by simp only;decide,by simp only;decide⟩,⟨by simp only;decide,by simp only;decide⟩⟩
   .split
    .rename_i hin;obtain⟨g1,g2,g3⟩:=nC.1 hlk.2.2.1;refine⟨λ h=>by simp at h,λ _=>h,⟨by simp only;decide,by simp only;decide⟩, ?_⟩;unfold AP;rcases C7 (λ x=>c==x) k.line 0 with⟨q1,q2⟩|⟨q,hq,q1,_⟩
     .rw[show((0:Nat):Int)=0 from rfl]at q2;rw[q2];simp
     .rw[show((0:Nat):Int)=0 from rfl]at q1;rw[q1];simp;omega
    .rename_i hin;split
     .rename_i hj;unfold qt at hj⊢;rw[aa (by simp[hc]),aa (by simpa using hin)]at*;split
      .refine⟨λ h=>by simp at h,λ h=>by simp at h,⟨by simp only;decide,by simp only;decide⟩,⟨by simp only;decide,by simp only;decide⟩⟩
      .rename_i h3;rw[aa h3]at hj;simp at hj
     .rename_i hj;have h3:¬decide ((k.line.length:Int)≥3)=true:=by intro h3;unfold qt at hj;rw[aa (by simp[hc]),aa (by simpa using hin),aj h3]at hj;simp at hj
      have ej:qt k.line c=(k.line++[c],(k.line.length:Int),0):=by unfold qt;rw[aa (by simp[hc]),aa (by simpa using hin),aa h3]
      rw[ej];simp only[dX]at h3;refine⟨λ h=>by simp at h,λ _=> ?_,⟨by simp only;decide,by simp only;decide⟩,⟨by simp only;omega,by simp only;omega⟩⟩;obtain⟨g1,g2,g3⟩:=nC.1 hlk.2.2.1;have hin':c ∉ k.line:=uo.1 (by simpa using hin);refine F9 h hi ⟨Int.le_refl _,hT0.2⟩ (by simp only;rw[he]) ⟨?_,hlk.2.1,nC.2 ⟨?_, ?_, ?_⟩, ?_⟩ (.inl (by simp only;rw[he])) ⟨(h.mb k hk).1, ?_⟩
      .have:=oY.1 hlk.1;exact oY.2 this
      .simp only[aG,bG];omega
      .intro x hx;rcases dN.1 hx with hx|hx
       .exact g2 x hx
       .rw[jE]at hx;subst hx;exact hc
      .rw[List.nodup_append];refine⟨g3,by simp,λ a ha b hb=> ?_⟩;rw[jE]at hb;subst hb;exact λ e=>hin' (e▸ha)
      .rw[uo];intro hx;rcases dN.1 hx with hx|hx
       .exact uo.1 hlk.2.2.2 hx
       .rw[jE]at hx;rw[hx]at hh;simp at hh
      .intro x hx;rcases dN.1 hx with hx|hx
       .exact(h.mb k hk).2 x hx
       .rw[jE]at hx;subst hx;exact hf
theorem VT {α:Type} {l:List α} {j:Nat} {x:α} (h:x∈l.eraseIdx j):x∈l:=(List.eraseIdx_sublist ..).subset h
theorem V6 {s:St} (h:cZ s) {name:ByteArray} {c:Int} (hT:s.token+4≤bj):
  ((ek s.ae name c s.token).2.2=0->cZ {s with ae:=(ek s.ae name c s.token).1,token:=s.token+(ek s.ae name c s.token).2.1})/\
  (0≤(ek s.ae name c s.token).2.2/\(ek s.ae name c s.token).2.2≤10)/\(0≤(ek s.ae name c s.token).2.1/\(ek s.ae name c s.token).2.1≤1):=by
 have hT0:=h.token;unfold ek;cases hl:ix s.ae name with
 |none=>exact⟨λ h=>by simp at h,⟨by simp only;decide,by simp only;decide⟩,⟨by simp only;decide,by simp only;decide⟩⟩
 |some k=>
  simp only;obtain⟨⟨hi,he⟩,hn⟩:=sF h.ls hl;have hk:k∈s.ae:=he▸cb hi;have hlk:=h.ju k hk;obtain⟨g1,g2,g3⟩:=nC.1 hlk.2.2.1;split
  .unfold np;split
   .refine⟨λ _=> ?_,⟨by simp only;decide,by simp only;decide⟩,⟨by simp only;decide,by simp only;decide⟩⟩;simp only[Int.add_zero];exact Vv h _
   .rename_i c0 rest hline;rw[hline]at g1 g2 g3;refine⟨λ _=> ?_,⟨by simp only;decide,by simp only;decide⟩,⟨by simp only;decide,by simp only;decide⟩⟩;have g3':=uS.1 g3;have hs:=(h.mb k hk).2;rw[hline]at hs;simp only[cL]at g1;refine F9 h hi ⟨by simp only;omega,by simp only;omega⟩ (by simp only;rw[he]) ⟨oY.2 ⟨(oY.1 hlk.1).1,yV.1 (g2 _ (nQ ..)),by simp only;omega,by simp only;omega⟩,Int.le_refl _,nC.2 ⟨by simp only[cL]at g1⊢;omega,λ x hx=>g2 x (jI _ hx),g3'.2⟩,uo.2 g3'.1⟩ (.inr (by simp only;omega)) ⟨hs _ (nQ ..),λ x hx=>hs x (jI _ hx)⟩
  .split
   .refine⟨λ _=> ?_,⟨by simp only;decide,by simp only;decide⟩,⟨by simp only;decide,by simp only;decide⟩⟩;simp only[Int.add_zero];have hle:∀x∈(sU k.line c).1,x∈k.line:=by
     intro x hx;unfold sU at hx;split at hx
     .exact hx
     .exact VT hx
    have hsub:(sU k.line c).1.Sublist k.line:=by
     unfold sU;split
     .exact List.Sublist.refl _
     .exact List.eraseIdx_sublist ..
    refine F9 h hi ⟨Int.le_refl _,hT0.2⟩ (by simp only;rw[he]) ⟨oY.2 (oY.1 hlk.1),hlk.2.1,nC.2 ⟨i6 hsub.length_le g1,λ x hx=>g2 x (hle x hx),g3.sublist hsub⟩, ?_⟩ (.inl (by simp only;rw[he])) ⟨(h.mb k hk).1,λ x hx=>(h.mb k hk).2 x (hle x hx)⟩;rw[uo];exact λ hx=>uo.1 hlk.2.2.2 (hle _ hx)
   .exact⟨λ h=>by simp at h,⟨by simp only;decide,by simp only;decide⟩,⟨by simp only;decide,by simp only;decide⟩⟩
theorem Wa {s:St} (h:cZ s) (a:bN):cZ {s with aI:=tD s.aI a}:=by
 unfold tD;split
 .exact h
 .rename_i hc;simp only[pv,ir,kY,Bool.not_eq_false]at hc;split
  .rename_i hf;obtain⟨x,hx⟩:=Option.isSome_iff_exists.1 hf;obtain⟨⟨hi,he⟩,hxc⟩:=Y' h.ms hx;refine⟨h.time,h.num,h.token,h.ss,h.jS,h.snd,h.sl,h.ls,h.ju,h.sd,h.ll, ?_, ?_,h.mb⟩
   .rw[DT,DA hi (by rw[he,hxc])];exact DT.1 h.ms
   .intro m hm;rcases mem_set hm with rfl|hm
    .exact hc.1
    .exact h.lx m hm
  .rename_i hf;have hne:∀y∈s.aI,y.af≠a.af:=by intro y hy e;refine hf ?_;unfold eM;rw[List.find?_isSome];exact⟨y,hy,by simpa using e⟩
   refine⟨h.time,h.num,h.token,h.ss,h.jS,h.snd,h.sl,h.ls,h.ju,h.sd,h.ll, ?_, ?_,h.mb⟩
   .refine Ae h.ms (λ y hy=> ?_) (λ y hy=> ?_)
    .simpa using Gn hy
    .have:=Gj (MZ h.ms a.af) hy;have:=hne y (oD hy);simp at*;omega
   .intro m hm;rcases At.1 hm with rfl|hm
    .exact hc.1
    .exact h.lx m hm
theorem DL {r:aX} (h:aX.may r=true):fq r.af=true/\(1≤r.seq/\r.seq≤bj)/\((r.kind==3||r.kind==4)=true->fb r.name=true):=by
 unfold aX.may at h;simp only[bM,dX]at h;obtain⟨⟨⟨⟨a,b⟩,c⟩,d⟩,e⟩:=h;refine⟨yV.2 ⟨a,b⟩,⟨c,d⟩,λ hk=> ?_⟩;unfold jq at e;split at e
 .cases e
 .split at e
  .cases e
  .rename_i h2;have h3:(r.kind==3||r.kind==4||r.kind==5)=true:=by rw[hk];rfl
   rw[h3]at h2;simpa using h2
structure HQ (s t:St) (a:eh):Prop where
 rt:cZ t
 tok:s.token≤t.token/\t.token≤s.token+4
 num:s.num≤t.num/\t.num≤s.num+1
 time:t.time=s.time
 code:0≤a.code/\a.code≤12
theorem Ve {s:St} (h:cZ s) {c:Int} (hc:fq c=true) (hN:s.num+1≤bj):HQ s (mV s c).1 (mV s c).2:=by
 unfold mV;cases hf:bC s.ax c with
 |some x=>exact⟨h,by simp only;omega,by simp only;omega,rfl,by simp only;decide⟩
 |none=>
  simp only;rw[LL h hc hN hf];by_cases h5:s.ax.length≥5
  .rw[aj h5,aj (by simp)];exact⟨h,by simp only;omega,by simp only;omega,rfl,by simp only;decide⟩
  .rw[aa h5,aa (by simp)];exact⟨W0 h hc hN hf (by omega),by simp only;omega,by simp only;omega,rfl,by simp only;decide⟩
theorem Ft {s:St} (h:cZ s) {r:aX} (hr:aX.may r=true) (hN:s.num+1≤bj) (hT:s.token+4≤bj):HQ s (dv s r).1 (dv s r).2:=by
 obtain⟨hc,_,hnm⟩:=DL hr;unfold dv;split
 .exact Ve h hc hN
 .cases hf:bC s.ax r.af with
  |none=>exact⟨h,by simp only;omega,by simp only;omega,rfl,by simp only;decide⟩
  |some x=>
   simp only;split
   .exact⟨h,by simp only;omega,by simp only;omega,rfl,by simp only;decide⟩
   .have h1:=IK h hf;have hf1:(bC (jy s.ax r.af s.time).1 r.af).isSome=true:=by rw[CN h hf,C9 (Gr h hf).1,hf];rfl
    split
    .rename_i hk;obtain⟨t0,t10,tc,ta⟩:=JA (w:=r.kind==3) h1 (hnm hk) hc hf1 hT;simp only at t0 t10 tc ta;by_cases e0:(cD s.ae r.name r.af s.token (r.kind==3)).2.2=0
     .rw[aj e0];exact⟨t0 e0,by simp only;omega,by simp only;omega,rfl,by simp only;omega⟩
     .rw[aa e0];by_cases e10:(cD s.ae r.name r.af s.token (r.kind==3)).2.2=10
      .rw[aj e10];exact⟨t10 e10,by simp only;omega,by simp only;omega,rfl,by simp only;omega⟩
      .rw[aa e10];exact⟨h1,by simp only;omega,by simp only;omega,rfl,by simp only;omega⟩
    .split
     .obtain⟨t0,tc,ta⟩:=V6 (name:=r.name) (c:=r.af) h1 hT;simp only at t0 tc ta;by_cases e0:(ek s.ae r.name r.af s.token).2.2=0
      .rw[aj e0];exact⟨t0 e0,by simp only;omega,by simp only;omega,rfl,by simp only;omega⟩
      .rw[aa e0];exact⟨h1,by simp only;omega,by simp only;omega,rfl,by simp only;omega⟩
     .split
      .obtain⟨a,b,c⟩:=Ig h1 [r.af] hT;exact⟨a,⟨b,c⟩,by simp only[mP];omega,rfl,by simp only;decide⟩
      .exact⟨h1,by simp only;omega,by simp only;omega,rfl,by simp only;decide⟩
theorem Yl {s:St} (h:cZ s) {c:Int}:0≤(((eM s.aI c).map bN.bd).getD ⟨0,0,0,[]⟩).code/\(((eM s.aI c).map bN.bd).getD ⟨0,0,0,[]⟩).code≤12:=by
 cases hf:eM s.aI c with
 |none=>simp
 |some m=>
  have:=h.lx m (uX hf);unfold eB fR at this;simp at this;simp;omega
theorem Vr {s:St} (h:cZ s) (r:aX) (hN:s.num+1≤bj) (hT:s.token+4≤bj):HQ s (ox s r).1 (ox s r).2.1:=by
 unfold ox;split
 .exact⟨h,by simp only;omega,by simp only;omega,rfl,by simp only;decide⟩
 .rename_i hm;split
  .exact⟨h,by simp only;omega,by simp only;omega,rfl,by simp only;decide⟩
  .split
   .exact⟨h,by simp only;omega,by simp only;omega,rfl,Yl h⟩
   .have hd:=Ft h (r:=r) (by simpa using hm) hN hT;exact⟨Wa hd.rt _,hd.tok,hd.num,hd.time,hd.code⟩
def vb {α:Type} (p:α->Bool) (x:α):List α->List α
 |[]=>[x]
 |y::r=>if p y=true then x::y::r else y::vb p x r
theorem Lt {α:Type} {p q:α->Bool} {x:α}:∀{l:List α},(∀y∈l,p y= !(q y))->vb p x l=l.take (nU q l)++x::l.drop (nU q l)
 |[],_=>rfl
 |y::r,h=>by
  rw[vb,sq,h y (nQ ..)];cases hq:q y
  .simp
  .simp only[dx,lU,cE,cS,qA,oB,dW];rw[Lt λ z hz=>h z (jI _ hz)]
theorem adi {l:List bg} {c:Int} {x:bg} (hf:bC l c=none):vb (λ y:bg=>decide (y.af>c)) x l=l.take (f6 l c)++x::l.drop (f6 l c):=by
 refine Lt λ y hy=> ?_
 have:y.af≠c:=λ e=>by have:=vv.2 ⟨y,hy,e⟩;rw[hf]at this;cases this
 rw[nK];simp;omega
theorem XC {α:Type} {p:α->Bool} {x:α} {l:List α} {i:Nat} {put:Bool} (hi:i<l.length):
  (if put=true then l.drop i else vb p x (l.drop i))=if(!put&&p l[i])=true then x::l[i]::l.drop (i+1)else l[i]::(if put=true then l.drop (i+1)else vb p x (l.drop (i+1))):=by
 rw[cB hi];cases put
 .simp only[eR,ec,lU,cE,vb]
 .simp
theorem Y5 (l:List bg) (hs:SS l) (hl:l.length<2^30) (c num now:Int) (hc:fq c=true) (h1:1≤num) (hn:0≤now/\now≤bj) (hf:bC l c=none) (hnum:mQ l num=false):
  ah prog 216 [.f (al l.length (bT l)), .f (ai c), .f (ai num), .f (ai now)]
  (λ r o=>r=[.one (.own 3 (iN l c num now).1.length (bT (iN l c num now).1) false),ri (iN l c num now).2]/\o=[]):=by
 refine ah.nil ?_;refine zh func216 results216 ntmps216 call216 ?_;simp only[f216,Option.getD];have hcl:=Cc c;rw[hc]at hcl;have hg1:=qf num 1;have hg2:=qf now 0;have hH:bj=2305843009213693952:=rfl;rw[show(decide (now≥0)&&decide (now≤2305843009213693952))=true by simp;omega]at hg2;have hfi:=sH l (by omega) c;rw[hf]at hfi;simp only[yc,Bd]at hfi;have eo:iN l c num now=if decide (num>bj)=true then([],1)else if decide ((l.length:Int)≥5)=true then([],5)else(l.take (f6 l c)++⟨c,num,now⟩::l.drop (f6 l c),0):=by
  have e1:decide (num<1)=false:=by simp;omega
  have e2:decide (now<0)=false:=by simp;omega
  have e3:decide (now>bj)=false:=by simp;omega
  unfold iN;rw[hf,hnum,hc,e1,e2,e3];cases decide (num>bj)<;>simp
 generalize iN l c num now=R at eo⊢;cases e4:decide (num>bj)
 .rw[e4,aa (by simp)]at eo;rw[show(decide (num≥1)&&decide (num≤2305843009213693952))=true by simp at e4⊢;omega]at hg1;refine zL trivial (I (hcl) (I (hg1) (hg2))) ?_;refine bq (τ:=Nat) (λ i=>⟨(al l.length (bT l)::ai c::ai num::ai now::lq (ai i::yy (b8 (b8 [])))),[(8,⟨2,[]⟩)]⟩)
   (λ i=>i≤l.length) (λ _=>()) (λ i=>l.length - i) 0
   (Gh.canon [] [8] [] zK rfl rfl) (bc _) ?_
  intro i hi0 hF K hK;refine zw ?_;refine aq (λ hlt=> ?_) (λ hge=> ?_)
  .have hi:i<l.length:=by simpa using hlt
   have hat:=hU hi;have hw:=bz hi (by omega);have hne:(l[i].num==num)=false:=by have:=wj.1 hnum _ (cb hi);simpa using this
   refine az (I hat (I hne (I @ca bw))) ?_;exact hK _ (i+1) (Gh.canon [] [] [] (zk hw) rfl rfl) hi rfl (by omega)
  .cases e5:decide ((l.length:Int)≥5)
   .rw[e5,aa (by simp)]at eo;refine zL e5 (hfi) ?_;refine bq (τ:=Nat×Bool×List bg) (λ t=>⟨(al l.length (bT l)::ai c::ai num::ai now::r8 (.one (.own ⟨13,1,1⟩ 0 t.2.2.length)::ab t.2.1::ai t.1::lq (b8 (b8 [])))),[(8,⟨2,[]⟩),(11,⟨2,[]⟩),(13,⟨2,[none,b9 1 3 (bT t.2.2)]⟩),(83,⟨2,[]⟩),(84,⟨2,[]⟩),(90,⟨2,[]⟩),(91,⟨2,[]⟩)]⟩)
     (λ t=>t.1≤l.length/\t.2.2.length≤2*t.1) (λ t=>t.2.2++(if t.2.1=true then l.drop t.1 else vb (λ y:bg=>decide (y.af>c)) ⟨c,num,now⟩ (l.drop t.1))) (λ t=>l.length - t.1) (0,false,[])
     ((Gh.nil (i:=13) (s:=13) (sz:=3) rfl).trans (Gh.canon [13] [83,84,90,91] [] zK rfl rfl)) ⟨bc _,by simp⟩ ?_
    intro⟨j,put,acc⟩ ⟨hj0,hac⟩ hF2 K2 hK2;simp only[cC,c5,lU,cE]at hj0 hac hF2 hK2⊢;refine zw ?_;refine aq (λ hlt2=> ?_) (λ hge2=> ?_)
    .have hj:j<l.length:=by simpa using hlt2
     have haj:=hU hj;have hwj:=bz hj (by omega);have hst:=XC (p:=λ y:bg=>decide (y.af>c)) (x:=⟨c,num,now⟩) (put:=put) hj;have htk:(bT acc++[iD c,iD num,iD now]).take ((acc.length+1)*3)=bT acc++[iD c,iD num,iD now]:=dk (by rw[aG,ca];simp only[cL,fN];omega);cases hb:(!put&&decide (l[j].af>c))
     .simp only[hb,lU,cE]at hst;refine az (I haj (I hb (I @ca bw))) ?_;exact hK2 _ (j+1,put,acc++[l[j]]) (Gh.canon [13] [] [] (zk (I hwj (I @aG.{0} @bG.{0}))) rfl (by simp only[aG,bG];rw[xg];rfl)) ⟨hj,by simp only[aG,bG];omega⟩ (by simp only[fH,wx];rw[hst]) (by simp only;omega)
     .simp only[hb,cS]at hst;refine az (I haj (I hb (I htk (I @ca bw)))) ?_;refine hK2 _ (j+1,true,acc++[⟨c,num,now⟩]++[l[j]]) (Gh.canon [13] [] [] (zk (I hwj (I @aG.{0} @bG.{0}))) rfl (by simp only[aG,bG];rw[xg,xg];rfl)) ⟨hj, ?_⟩ (by simp only[fH,wx];rw[hst];rfl) (by simp only;omega);simp only[aG,bG];omega
    .have hj:j=l.length:=by
      have:¬(j:Int)<l.length:=by simpa using hge2
      omega
     rw[hj,eL]at hF2;rw[adi hf]at hF2;rw[←hF2]at eo;cases put
     .have hF3:R=(acc++[⟨c,num,now⟩],0):=eo;rw[hF3];refine az trivial ?_;simp[wI,ak]
     .have hF3:R=(acc++[],0):=eo;rw[hF3,fe];refine az trivial ?_;simp[wI,ak]
   .rw[e5,aj rfl]at eo;rw[eo];refine zL e5 (hfi) ?_;simp[wI,ak]
 .rw[e4,aj rfl]at eo;rw[eo];rw[show(decide (num≥1)&&decide (num≤2305843009213693952))=false by simp at e4⊢;omega]at hg1;refine zL trivial (I (hcl) (I (hg1) (hg2))) ?_;simp[wI,ak]
def lI (c now:Int) (y:bg):bg:=if(y.af==c)=true then⟨y.af,y.num,max y.dp now⟩else y
def mK (l:List bg) (c now:Int) (i:Nat):List bg:=(l.take i).map (lI c now)++l.drop i
theorem Ld {l:List bg} {c now:Int} {i:Nat} (hi:i≤l.length):(mK l c now i).length=l.length:=by unfold mK;rw[aG,bE,cu,iM];omega
theorem aa2 {l:List bg} {c now:Int} {i:Nat} (hi:i<l.length):∃h:i<(mK l c now i).length,(mK l c now i)[i]=l[i]:=by
 have hl:((l.take i).map (lI c now)).length=i:=by rw[bE,cu];omega
 have h:(mK l c now i)[i]? =some l[i]:=by unfold mK;rw[dL (by omega),hl,iq,pr,iy,dG hi]
 exact AE h
theorem XU {l:List bg} {c now:Int} {i:Nat} (hi:i<l.length):(mK l c now i).set i (lI c now l[i])=mK l c now (i+1):=by
 have hl:((l.take i).map (lI c now)).length=i:=by rw[bE,cu];omega
 unfold mK;rw[wi _ _ (by omega),hl,iq,cB hi,iO,List.take_add_one,dG hi];simp only[Option.toList,fU,b7,fY,fH,dW,c5]
theorem JZ {l:List bg} (hs:SS l) {c now:Int} {x:bg} (hx:bC l c=some x):l.map (lI c now)=l.set (f6 l c) ⟨x.af,x.num,max x.dp now⟩:=by
 obtain⟨⟨hi,he⟩,hc⟩:=GN hs hx;apply wv (by simp);intro j h1 h2;have hj:j<l.length:=by simpa using h1
 rw[yb,uI];split
 .rename_i e;subst e;rw[he];unfold lI;rw[aj (by simpa using hc)]
 .rename_i e;unfold lI;rw[aa];intro h;have hjc:l[j].af=c:=by simpa using h
  have hpc:l[f6 l c].af=c:=by rw[he];exact hc
  rcases iw j (f6 l c)with q|q
  .have:=nt.1 hs j (f6 l c) hj hi q;omega
  .have:=nt.1 hs (f6 l c) j hi hj (by omega);omega
theorem XP (l:List bg) (hs:SS l) (hl:l.length<2^30) (c now:Int) (hn:0≤now/\now≤bj) (hf:(bC l c).isSome=true):ah prog 206 [.f (al l.length (bT l)), .f (ai c), .f (ai now)]
  (λ r o=>r=[.one (.own 3 (jy l c now).1.length (bT (jy l c now).1) false),ri (jy l c now).2]/\o=[]):=by
 refine ah.nil ?_;refine zh func206 results206 ntmps206 call206 ?_;simp only[f206,Option.getD];have hg2:=qf now 0;have hH:bj=2305843009213693952:=rfl;rw[show(decide (now≥0)&&decide (now≤2305843009213693952))=true by simp;omega]at hg2;have hfi:=sH l (by omega) c;rw[hf]at hfi;obtain⟨x,hx⟩:=Option.isSome_iff_exists.1 hf;have hr:jy l c now=(l.map (lI c now),0):=by unfold jy;rw[aa (by simp;omega),hx,JZ hs hx]
 rw[hr];refine zL @ca (I (hg2) (hfi)) ?_;refine bq (τ:=Nat) (λ i=>⟨(dd::ai c::ai now::r9 (.one (.own ⟨10,1,1⟩ 0 l.length)::ai i::wS [])),[(8,⟨2,[]⟩),(23,⟨2,[]⟩),(10,⟨2,[none,b9 1 3 (bT (mK l c now i))]⟩)]⟩)
  (λ i=>i≤l.length) (λ _=>()) (λ i=>l.length - i) 0
  (Gh.canon [10] [] [] zK rfl rfl) (bc _) ?_
 intro i hi0 hF K hK;refine zw ?_;refine aq (λ hlt=> ?_) (λ hge=> ?_)
 .have hi:i<l.length:=by simpa using hlt
  have hw:=bz hi (by omega);obtain⟨hic,hce⟩:=aa2 (c:=c) (now:=now) hi;have hat:=hU hic;rw[hce]at hat;have hat2:(bT (mK l c now i)).drop (i*3+2)=iD l[i].dp::bT ((mK l c now i).drop (i+1)):=by rw[←jD,hat];rfl
  have hsu:=XU (c:=c) (now:=now) hi;cases hb:l[i].af==c
  .have hrx:lI c now l[i]=l[i]:=by unfold lI;rw[aa (by rw[hb];simp)]
   have hsame:mK l c now (i+1)=mK l c now i:=by
    rw[←hsu,hrx]
    conv=>lhs;rw[←hce]
    exact List.set_getElem_self ..
   repeat'(first|(with_reducible first|refine bH _ _ ?_|refine fC ?_|refine fD ?_)|rw[dE]|simp only[hat,hb,←la,b7,dW,c5,ca,Ld hi0,zY,Int.reduceEq,Int.reduceBEq,Int.reduceBNe,Nat.reduceSub,Nat.reduceEqDiff,Nat.reduceAdd,Nat.reduceMul,Nat.reduceLeDiff,Nat.reduceLT,Nat.reduceBEq,reduceCtorEq]|refine eA ?_|refine aq (λ hb=> ?_) (λ hb=> ?_)|(refine And.intro ?_ ?_;exact zI)|refine And.intro (λ hg=> ?_) (λ hg=> ?_)|exact zC|fail)
   exact hK _ (i+1) (Gh.canon [10] [] [] (zk hw) rfl (by rw[hsame];rfl)) hi rfl (by omega)
  .have hrx:lI c now l[i]=⟨l[i].af,l[i].num,max l[i].dp now⟩:=by unfold lI;rw[aj hb]
   have hset:=vR bg.enc 3 (λ _=>rfl) hic (k:=2) (by decide) (iD (max l[i].dp now)) (lI c now l[i]) (by rw[hce,hrx];rfl);rw[hsu]at hset
   repeat'(first|(with_reducible first|refine bH _ _ ?_|refine fC ?_|refine fD ?_)|rw[dE]|simp only[hat,hat2,hb,hset,←la,b7,dW,c5,ca,Ld hi0,zY,Int.reduceEq,Int.reduceBEq,Int.reduceBNe,Nat.reduceSub,Nat.reduceEqDiff,Nat.reduceAdd,Nat.reduceMul,Nat.reduceLeDiff,Nat.reduceLT,Nat.reduceBEq,reduceCtorEq]|refine eA ?_|refine aq (λ hb=> ?_) (λ hb=> ?_)|(refine And.intro ?_ ?_;exact zI)|refine And.intro (λ hg=> ?_) (λ hg=> ?_)|exact zC|fail)
   exact hK _ (i+1) (Gh.canon [10] [] [] (zk hw) rfl rfl) hi rfl (by omega)
 .have hi:i=l.length:=by
   have:¬(i:Int)<l.length:=by simpa using hge
   omega
  have hcu:mK l c now i=l.map (lI c now):=by rw[hi];unfold mK;rw[lP,eL,fe]
  rw[hcu];refine az trivial ?_;simp[wI,ak]
theorem Xi (l:List bg) (hl:l.length<2^30) (c:Int):ah prog 204 [.f (al l.length (bT l)), .f (ai c)]
  (λ r o=>r=[.one (.own 3 (if(bC l c).isSome=true then l.filter (λ x=>x.af !=c)else []).length (bT (if(bC l c).isSome=true then l.filter (λ x=>x.af !=c)else [])) false),ri (if(bC l c).isSome=true then 0 else 6)]/\o=[]):=by
 refine ah.nil ?_;refine zh func204 results204 ntmps204 call204 ?_;simp only[f204,Option.getD];have hfi:=sH l (by omega) c;cases hf:(bC l c).isSome
 .rw[hf]at hfi;rw[aa (by simp),aa (by simp)];refine zL trivial (hfi) ?_;simp[wI,ak]
 .rw[hf]at hfi;rw[aj rfl,aj rfl];refine zL trivial (hfi) ?_;refine bq (τ:=Nat×List bg) (λ t=>⟨(al l.length (bT l)::ai c::lq (.one (.own ⟨8,1,1⟩ 0 t.2.length)::ai t.1::wU [])),[(6,⟨2,[]⟩),(8,⟨2,[none,b9 1 3 (bT t.2)]⟩),(36,⟨2,[]⟩),(37,⟨2,[]⟩)]⟩)
   (λ t=>t.1≤l.length/\t.2.length≤t.1) (λ t=>t.2++(l.drop t.1).filter (λ x=>x.af !=c)) (λ t=>l.length - t.1) (0,[])
   ((Gh.nil (i:=8) (s:=8) (sz:=3) rfl).trans (Gh.canon [8] [36,37] [] zK rfl rfl)) ⟨bc _,bc _⟩ ?_
  intro⟨i,acc⟩ ⟨hi0,hac⟩ hF K hK;simp only[cC,c5]at hi0 hac hF hK⊢;refine zw ?_;refine aq (λ hlt=> ?_) (λ hge=> ?_)
  .have hi:i<l.length:=by simpa using hlt
   have hat:=hU hi;have hw:=bz hi (by omega);have hFs:=cB hi;cases hb:l[i].af !=c
   .refine az (I hat (I hb (I @ca bw))) ?_;exact hK _ (i+1,acc) (Gh.canon [8] [] [] (zk hw) rfl rfl) ⟨hi,by simp only;omega⟩ (by simp only;rw[hFs,tf,hb,aa (by simp)]) (by simp only;omega)
   .refine az (I hat (I hb (I @ca bw))) ?_;exact hK _ (i+1,acc++[l[i]]) (Gh.canon [8] [] [] (zk (I hw (I @aG.{0} @bG.{0}))) rfl (by simp only[aG,bG];rw[xg];rfl)) ⟨hi,by simp only[aG,bG];omega⟩ (by simp only[fH,wx];rw[hFs,tf,hb,aj rfl]) (by simp only;omega)
  .have hi:i=l.length:=by
    have:¬(i:Int)<l.length:=by simpa using hge
    omega
   rw[hi,eL,List.filter_nil,fe]at hF;rw[←hF];refine az trivial ?_;simp[wI,ak]
def ik (r:eh):Prop:=r.held.length<2^30/\∀g∈r.held,g.name.size<2^62
theorem Fj (r:eh) (hr:ik r):ah prog 74 [.f (.agg r.aC)] (λ x o=>x=[rb (fR r)]/\o=[]):=by
 refine zh func74 results74 ntmps74 call74 ?_;simp only[f74,Option.getD];obtain⟨h1,h2⟩:=hr;cases hA:(decide (r.code<0)||decide (r.code>12)||decide (r.br<0)||decide (r.br>2305843009213693952)||decide (r.ahead<0)||decide (r.ahead>3))
 .cases hB:(decide ((r.held.length:Int)>4)||(r.br==0)&&decide ((r.held.length:Int)>0))
  .have hs:fR r=eD (i5 r.held) 0 r.held:=by unfold fR;rw[show(decide (r.code<0)||decide (r.code>12)||decide (r.br<0)||decide (r.br>bj)||decide (r.ahead<0)||decide (r.ahead>3))=false from hA,hB];rfl
   rw[hs];refine az (I hA hB) ?_;refine bq (τ:=Nat) (λ i=>⟨(dd::cd 1::r9 (b8 (al r.held.length (dV r.held)::ai r.held.length::ai i::wQ []))),[(1,⟨2,[aW 1 [di r.code,di r.br,di r.ahead, .aC r.held.length (dV r.held)],none,none,none,none]⟩),(4,⟨2,[]⟩)]⟩)
    (λ i=>i≤r.held.length) (λ i=>eD (i5 r.held) i (r.held.drop i)) (λ i=>r.held.length - i) 0
    (Gh.canon [1] [4] [] zK rfl rfl) (bc _) ?_
   intro i hi0 hF K hK;rw[cC]at hF;refine zw ?_;refine aq (λ hlt=> ?_) (λ hge=> ?_)
   .have hi:i<r.held.length:=by simpa using hlt
    have hat:=oU hi;have hw:=bz hi (by omega);rw[gJ hi]at hF;have hnm:=Dv r.held[i].name (h2 _ (cb hi));cases e0:decide ((i:Int)>0)
    .have h0:i=0:=by simpa using e0
     have hq:i5 r.held i r.held[i]= !(!fb r.held[i].name||decide (r.held[i].token<1)||decide (r.held[i].token>2305843009213693952)):=by
      unfold i5;have:decide (i>0)=false:=by simpa using e0
      rw[this,gV,nR]
     have hp:(dV r.held).drop ((IntKind.i64.wrap ((i:Int) - 1)).toNat*2)=r.held[i].enc++dV (r.held.drop (i+1)):=by rw[←oU hi,h0];rfl
     repeat'(first|exact zC|refine zq (I hat (I hp (I e0 (I @cI bw)))) ?_|refine zx (hnm) ?_|(apply aq<;>intro hb)|(apply I;exact zI)|(apply I<;>intro hg))
     .rw[hq,hb,aa (by simp)]at hF;rw[←hF]
     .exact hK _ (i+1) (Gh.canon [1] [] [] (zk hw) rfl rfl) hi (by rw[gJ hi,hq,hb];rfl) (by omega)
    .have h0:0<i:=by simpa using e0
     have hq:i5 r.held i r.held[i]= !(!fb r.held[i].name||decide (r.held[i].token<1)||decide (r.held[i].token>2305843009213693952)|| !(jk (r.held[i - 1]'(by omega)).name r.held[i].name)):=by
      unfold i5 xT;have:decide (i>0)=true:=by simpa using e0
      rw[this,dG (by omega)];simp only[ec,im,ku]
     have hp:=oU (show i - 1<r.held.length by omega);have hw1:IntKind.i64.wrap ((i:Int) - 1)=((i - 1:Nat):Int):=by rw[wrap64 (by omega) (by omega)];omega
     repeat'(first|exact zC|refine zq (I hat (I hp (I hw1 (I e0 (I @cI bw))))) ?_|refine zx (hnm) ?_|(apply aq<;>intro hb)|(apply I;exact zI)|(apply I<;>intro hg))
     .rw[hq,hb,aa (by simp)]at hF;rw[←hF]
     .exact hK _ (i+1) (Gh.canon [1] [] [] (zk hw) rfl rfl) hi (by rw[gJ hi,hq,hb];rfl) (by omega)
   .have hi:i=r.held.length:=by
     have:¬(i:Int)<r.held.length:=by simpa using hge
     omega
    rw[q9 hi]at hF;rw[←hF];exact bA trivial
  .have hs:fR r=false:=by unfold fR;rw[hB,dx,pE,gV]
   rw[hs];exact bA (I hA hB)
 .have hs:fR r=false:=by unfold fR;rw[show(decide (r.code<0)||decide (r.code>12)||decide (r.br<0)||decide (r.br>bj)||decide (r.ahead<0)||decide (r.ahead>3))=true from hA];rfl
  rw[hs];exact bA hA
theorem BX (m:bN) (hr:ik m.bd):ah prog 35 [.f (.agg m.aC)] (λ x o=>x=[rb (eB m)]/\o=[]):=by refine zh func35 results35 ntmps35 call35 ?_;simp only[f35,Option.getD];refine zL trivial (Fj m.bd hr) ?_;rfl
def rq:bN:=⟨0,0,⟨0,0,0,[]⟩⟩
theorem Vm (l:List bN) (hl:l.length<2^30) (hll:∀m∈l,ik m.bd):ah prog 122 [.f (al l.length (ct l))] (λ r o=>r=[rb (qC l)]/\o=[]):=by
 refine zh func122 results122 ntmps122 call122 ?_;simp only[f122,Option.getD];refine az @cN ?_;refine bq (τ:=Nat) (λ i=>⟨(al l.length (ct l)::js (al l.length (ct l)::ai l.length::ai i::wU [])),[(4,⟨2,[]⟩)]⟩)
  (λ i=>i≤l.length) (λ i=>eD (nM l) i (l.drop i)) (λ i=>l.length - i) 0
  (Gh.canon [] [4] [] zK rfl rfl) (bc _) ?_
 intro i hi0 hF K hK;rw[cC]at hF;refine zw ?_;refine aq (λ hlt=> ?_) (λ hge=> ?_)
 .have hi:i<l.length:=by simpa using hlt
  have hat:=nE hi;have hw:=bz hi (by omega);rw[gJ hi]at hF;have hma:=BX l[i] (hll _ (cb hi));cases e0:decide ((i:Int)>0)
  .have h0:i=0:=by simpa using e0
   have hq:nM l i l[i]= !(!eB l[i]):=by
    unfold nM;have:decide (i>0)=false:=by simpa using e0
    rw[this,gV,nR]
   have hp:(ct l).drop ((IntKind.i64.wrap ((i:Int) - 1)).toNat*6)=l[i].enc++ct (l.drop (i+1)):=by rw[←nE hi,h0];rfl
   repeat'(first|exact zC|refine zq (I hat (I hp (I e0 (I @cN bw)))) ?_|refine zx (hma) ?_|(apply aq<;>intro hb)|(apply I;exact zI)|(apply I<;>intro hg))
   .rw[hq,hb,aa (by simp)]at hF;unfold qC;rw[←hF]
   .exact hK _ (i+1) (Gh.canon [] [] [] (zk hw) rfl rfl) hi (by rw[gJ hi,hq,hb];rfl) (by omega)
  .have h0:0<i:=by simpa using e0
   have hq:nM l i l[i]= !(!eB l[i]||decide ((l[i - 1]'(by omega)).af≥l[i].af)):=by
    unfold nM yd;have:decide (i>0)=true:=by simpa using e0
    rw[this,dG (by omega)];simp only[ec,im,ku]
   have hp:=nE (show i - 1<l.length by omega);have hw1:IntKind.i64.wrap ((i:Int) - 1)=((i - 1:Nat):Int):=by rw[wrap64 (by omega) (by omega)];omega
   repeat'(first|exact zC|refine zq (I hat (I hp (I hw1 (I e0 (I @cN bw))))) ?_|refine zx (hma) ?_|(apply aq<;>intro hb)|(apply I;exact zI)|(apply I<;>intro hg))
   .rw[hq,hb,aa (by simp)]at hF;unfold qC;rw[←hF]
   .exact hK _ (i+1) (Gh.canon [] [] [] (zk hw) rfl rfl) hi (by rw[gJ hi,hq,hb];rfl) (by omega)
 .have hi:i=l.length:=by
   have:¬(i:Int)<l.length:=by simpa using hge
   omega
  rw[q9 hi]at hF;unfold qC;rw[←hF];exact bA trivial
abbrev EP (s:St):List D:=[iD s.time,iD s.num,iD s.token, .sl s.ax.length (bT s.ax), .sl s.ae.length (aU s.ae), .sl s.aI.length (ct s.aI)]
abbrev wM (s:St):RF:= .agg ((EP s).map RO.d)
abbrev DN (a:eh):RF:= .agg [.d (iD a.code), .d (iD a.br), .d (iD a.ahead), .own 2 a.held.length (dV a.held) false]
structure Small (s:St):Prop where
 ax:s.ax.length<2^30
 ae:s.ae.length<2^30
 aI:s.aI.length<2^30
 line:∀k∈s.ae,k.line.length<2^30/\k.name.size<2^62
 held:∀m∈s.aI,ik m.bd
abbrev A3 (l:List bg) (gone:List Int):List bg:=l.filter λ x=> !dc gone x.af
theorem YE {s:St} (h:Small s) (now lease:Int):(qH s.ax now lease).length<2^30:=by
 unfold qH;split
 .simp
 .rw[bE];exact yl (tr ..) h.ax
abbrev adG (b:St) (x:bg):Bool:= !((bC b.ax x.af).any λ y=>y.num==x.num)
theorem Gb (n:Int):ah prog 119 [.f (ai n)] (λ r o=>r=[rb (within n)]/\o=[]):=by refine zh func119 results119 ntmps119 call119 ?_;simp only[f119,Option.getD];refine az trivial ?_;rfl
theorem XK (s:St) (h:Small s) (hs:SS s.ax):ah prog 123 [.f (.agg s.aC)] (λ r o=>r=[rb (uC s)]/\o=[]):=by
 refine zh func123 results123 ntmps123 call123 ?_;simp only[f123,Option.getD];have hL:=h.ae;refine az trivial ?_;refine bq (τ:=Nat) (λ i=>⟨(dd::cd 1::dd::ab true::r9 (al s.ae.length (aU s.ae)::ai s.ae.length::ai i::rY [])),[(1,⟨2,[aW 1 [di s.time,di s.num,di s.token, .aC s.ax.length (bT s.ax), .aC s.ae.length (aU s.ae), .aC s.aI.length (ct s.aI)],none,none,none,none,none,none]⟩),(5,⟨2,[]⟩),(8,⟨2,[]⟩),(19,⟨2,[]⟩),(22,⟨2,[]⟩)]⟩)
  (λ i=>i≤s.ae.length) (λ i=>(s.ae.drop i).all λ k=>(k.bh::k.line).all λ c=>(bC s.ax c).isSome) (λ i=>s.ae.length - i) 0
  (Gh.canon [1] [5,8,19,22] [] zK rfl rfl) (bc _) ?_
 intro i hi0 hF K hK;rw[cC]at hF;refine zw ?_;refine aq (λ hlt=> ?_) (λ hge=> ?_)
 .have hi:i<s.ae.length:=by simpa using hlt
  have hat:=f8 hi;have hw:=bz hi (by omega);have hli:=(h.line _ (cb hi)).1;rw[cB hi,lY]at hF;obtain⟨c,hc⟩:∃c,c=s.ae[i].bh::s.ae[i].line:=⟨_,rfl⟩;have hcl:c.length=1+s.ae[i].line.length:=by rw[hc,cL];omega
  rw[←hc]at hF;refine az (I hat (I @bK (I @eu bw))) ?_;refine bq (τ:=Nat) (λ j=>⟨(dd::cd 1::dd::ab true::r9 (al s.ae.length (aU s.ae)::ai s.ae.length::ai i::yJ (.one (.own ⟨19,1,1⟩ 0 c.length)::ai c.length::ai j::yH []))),[(1,⟨2,[aW 1 [di s.time,di s.num,di s.token, .aC s.ax.length (bT s.ax), .aC s.ae.length (aU s.ae), .aC s.aI.length (ct s.aI)],none,none,none,none,none,none]⟩),(5,⟨2,[]⟩),(8,⟨2,[]⟩),(19,⟨2,[none,b9 1 1 (bt c)]⟩),(22,⟨2,[]⟩)]⟩)
   (λ j=>j≤c.length) (λ j=>(c.drop j).all λ c=>(bC s.ax c).isSome) (λ j=>c.length - j) 0
   (Gh.canon [1,19] [] [] (zk hcl) rfl (by rw[hc];rfl)) (bc _) ?_
  intro j hj0 hF2 K2 hK2;rw[cC]at hF2;refine zw ?_;refine aq (λ hlt2=> ?_) (λ hge2=> ?_)
  .have hj:j<c.length:=by simpa using hlt2
   have haj:=mm hj;have hwj:=bz hj (by omega);have hfi:=Zo s.ax hs (by have:=h.ax;omega) c[j];rw[cB hj,lY]at hF2;cases hb:(bC s.ax c[j]).isSome
   .rw[hb]at hfi hF2;rw[←hF2]at hF;refine zL (I haj (I @lu (I @b7.{0,0} (I @eu bw)))) (hfi) ?_;unfold uC;rw[←hF];rfl
   .rw[hb]at hfi hF2;refine zL (I haj (I @lu (I @b7.{0,0} (I @eu bw)))) (hfi) ?_;exact hK2 _ (j+1) (Gh.canon [1,19] [] [] (zk hwj) rfl rfl) hj (by rw[cB hj,lY,hb,ec]) (by omega)
  .have hj:j=c.length:=by
    have:¬(j:Int)<c.length:=by simpa using hge2
    omega
   rw[hj,eL,uN]at hF2;rw[←hF2,ec]at hF;refine az trivial ?_;exact hK _ (i+1) (Gh.canon [1] [] [] (zk hw) rfl rfl) hi (by rw[cB hi,lY,←hc,←hF2,ec]) (by omega)
 .have hi:i=s.ae.length:=by
   have:¬(i:Int)<s.ae.length:=by simpa using hge
   omega
  rw[hi,eL,uN]at hF;refine az trivial ?_;unfold uC;rw[←hF]
theorem GA (s:St) (h:Small s):ah prog 79 [.f (.agg s.aC)] (λ r o=>r=[rb (gE s)]/\o=[]):=by
 refine zh func79 results79 ntmps79 call79 ?_;simp only[f79,Option.getD];have w1:=Gb s.time;have w2:=Gb s.num;have w3:=Gb s.token;have hsr:=U9 s.ax h.ax;have hlr:=Vf s.ae h.ae h.line;have hmr:=Vm s.aI h.aI h.held;have hns:=h.ax;have hnl:=h.ae;cases hA:(!within s.time|| !within s.num|| !within s.token|| !nq s.ax|| !kW s.ae|| !qC s.aI)
 .have hss:SS s.ax:=(KH.1 (by simp at hA;exact hA.1.1.2)).2.2.1;have hrb:gE s=((s.ax.all λ x=>decide (x.num≤s.num))&&(s.ae.all λ k=>decide (k.token≤s.token))&&uC s):=by unfold gE;simp at hA;rw[hA.1.1.1.1.1,hA.1.1.1.1.2,hA.1.1.1.2,hA.1.1.2,hA.1.2,hA.2];rfl
  have hse:=XK s h hss;refine zL hA (I (w1) (I (w2) (I (w3) (I (hsr) (I (hlr) (hmr)))))) ?_;refine bq (τ:=Nat) (λ i=>⟨(dd::cd 1::b8 (al s.ax.length (bT s.ax)::ai s.ax.length::ai i::yG [])),[(1,⟨2,[aW 1 [di s.time,di s.num,di s.token, .aC s.ax.length (bT s.ax), .aC s.ae.length (aU s.ae), .aC s.aI.length (ct s.aI)],none,none,none,none,none,none]⟩),(4,⟨2,[]⟩)]⟩)
   (λ i=>i≤s.ax.length) (λ i=>(s.ax.drop i).all λ x=>decide (x.num≤s.num)) (λ i=>s.ax.length - i) 0
   (Gh.canon [1] [4] [] zK rfl rfl) (bc _) ?_
  intro i hi0 hF K hK;rw[cC]at hF;refine zw ?_;refine aq (λ hlt=> ?_) (λ hge=> ?_)
  .have hi:i<s.ax.length:=by simpa using hlt
   have hat:=hU hi;have hw:=bz hi (by omega);rw[cB hi,lY]at hF
   repeat'(first|exact zC|refine zq (I hat (I @ca bw)) ?_|(apply aq<;>intro hb)|(apply I;exact zI)|(apply I<;>intro hg))
   .rw[show decide (s.ax[i].num≤s.num)=false by simp at hb⊢;omega]at hF;rw[hrb,←hF];rfl
   .exact hK _ (i+1) (Gh.canon [1] [] [] (zk hw) rfl rfl) hi (by rw[cB hi,lY,show decide (s.ax[i].num≤s.num)=true by simp at hb⊢;omega,ec]) (by omega)
  .have hi:i=s.ax.length:=by
    have:¬(i:Int)<s.ax.length:=by simpa using hge
    omega
   rw[hi,eL,uN]at hF;rw[←hF,ec]at hrb;refine az trivial ?_;refine bq (τ:=Nat) (λ i=>⟨(dd::cd 1::qN (b8 (al s.ae.length (aU s.ae)::ai s.ae.length::ai i::yy []))),[(1,⟨2,[aW 1 [di s.time,di s.num,di s.token, .aC s.ax.length (bT s.ax), .aC s.ae.length (aU s.ae), .aC s.aI.length (ct s.aI)],none,none,none,none,none,none]⟩),(4,⟨2,[]⟩),(6,⟨2,[]⟩)]⟩)
    (λ i=>i≤s.ae.length) (λ i=>(s.ae.drop i).all λ k=>decide (k.token≤s.token)) (λ i=>s.ae.length - i) 0
    (Gh.canon [1] [6] [] zK rfl rfl) (bc _) ?_
   intro i hi0 hF K hK;rw[cC]at hF;refine zw ?_;refine aq (λ hlt=> ?_) (λ hge=> ?_)
   .have hi:i<s.ae.length:=by simpa using hlt
    have hat:=f8 hi;have hw:=bz hi (by omega);rw[cB hi,lY]at hF
    repeat'(first|exact zC|refine zq (I hat (I @bK bw)) ?_|(apply aq<;>intro hb)|(apply I;exact zI)|(apply I<;>intro hg))
    .rw[show decide (s.ae[i].token≤s.token)=false by simp at hb⊢;omega]at hF;rw[hrb,←hF];rfl
    .exact hK _ (i+1) (Gh.canon [1] [] [] (zk hw) rfl rfl) hi (by rw[cB hi,lY,show decide (s.ae[i].token≤s.token)=true by simp at hb⊢;omega,ec]) (by omega)
   .have hi:i=s.ae.length:=by
     have:¬(i:Int)<s.ae.length:=by simpa using hge
     omega
    rw[hi,eL,uN]at hF;rw[←hF,ec]at hrb;rw[hrb];exact zW trivial (hse)
 .have hrb:gE s=false:=by
   unfold gE;simp at hA;simp
   intros
   simp_all
  rw[hrb];exact zW hA (I (w1) (I (w2) (I (w3) (I (hsr) (I (hlr) (hmr))))))
abbrev wH (s:St):AV:= .agg ((EP s).map C.d)
theorem Xb (l:List Lk) (name:ByteArray) (c t:Int) (w:Bool):(cD l name c t w).1.length≤l.length+1:=by
 unfold cD;cases ix l name with
 |none=>
  simp only;split
  .simp
  .exact Nat.le_of_eq (abG Hg _)
 |some k=>
  simp only
  repeat' split
  all_goals simp
theorem Xs (l:List Lk) (name:ByteArray) (c t:Int):(ek l name c t).1.length≤l.length:=by
 unfold ek;cases ix l name with
 |none=>simp
 |some k=>
  simp only;split
  .unfold np;split
   .simp only;rw[List.length_eraseIdx];split<;>omega
   .simp
  .split<;>simp
theorem X4 (l:List Lk) (name:ByteArray) (c t:Int):0≤(ek l name c t).2.1/\(ek l name c t).2.1≤1:=by
 unfold ek;cases ix l name with
 |none=>simp
 |some k=>
  simp only;split
  .unfold np;split<;>simp
  .split<;>simp
end Go.Proofs.YtliimajkpggbhaaGreat
