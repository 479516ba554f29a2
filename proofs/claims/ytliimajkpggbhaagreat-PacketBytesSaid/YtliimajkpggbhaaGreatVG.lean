import Derived.Test.YtliimajkpggbhaaGreatR
set_option maxHeartbeats 8000000
namespace Go.Proofs.YtliimajkpggbhaaGreat
open Go.Pk Tryz
set_option maxRecDepth 100000
set_option linter.unusedSimpArgs false
set_option linter.unusedVariables false
theorem Yp {s:St} {r:aX} {x:bg} (h1:(r.kind==1)=false) (hf:bC s.ax r.af=some x) (hx:(x.num !=r.br)=false):
  dv s r=if(r.kind==3||r.kind==4)=true then
  (if((cD s.ae r.name r.af s.token (r.kind==3)).2.2==0)=true then(⟨s.time,s.num,s.token+1,(jy s.ax r.af s.time).1,(cD s.ae r.name r.af s.token (r.kind==3)).1,s.aI⟩,⟨(cD s.ae r.name r.af s.token (r.kind==3)).2.2,x.num,0,ez (cD s.ae r.name r.af s.token (r.kind==3)).1 r.af⟩)
  else if((cD s.ae r.name r.af s.token (r.kind==3)).2.2==10)=true then(⟨s.time,s.num,s.token,(jy s.ax r.af s.time).1,(cD s.ae r.name r.af s.token (r.kind==3)).1,s.aI⟩,⟨(cD s.ae r.name r.af s.token (r.kind==3)).2.2,x.num,(cD s.ae r.name r.af s.token (r.kind==3)).2.1,ez (cD s.ae r.name r.af s.token (r.kind==3)).1 r.af⟩)
  else(⟨s.time,s.num,s.token,(jy s.ax r.af s.time).1,s.ae,s.aI⟩,⟨(cD s.ae r.name r.af s.token (r.kind==3)).2.2,x.num,0,ez s.ae r.af⟩))
 else if(r.kind==5)=true then
  (if((ek s.ae r.name r.af s.token).2.2==0)=true then(⟨s.time,s.num,s.token+(ek s.ae r.name r.af s.token).2.1,(jy s.ax r.af s.time).1,(ek s.ae r.name r.af s.token).1,s.aI⟩,⟨(ek s.ae r.name r.af s.token).2.2,x.num,0,ez (ek s.ae r.name r.af s.token).1 r.af⟩)
  else(⟨s.time,s.num,s.token,(jy s.ax r.af s.time).1,s.ae,s.aI⟩,⟨(ek s.ae r.name r.af s.token).2.2,x.num,0,ez s.ae r.af⟩))
 else if(r.kind==6)=true then(mP ⟨s.time,s.num,s.token,(jy s.ax r.af s.time).1,s.ae,s.aI⟩ [r.af],⟨0,0,0,[]⟩)
 else(⟨s.time,s.num,s.token,(jy s.ax r.af s.time).1,s.ae,s.aI⟩,⟨0,x.num,0,ez s.ae r.af⟩):=by
 unfold dv;rw[aa (by rw[h1];simp),hf];simp only;rw[aa (by rw[hx];simp)];split
 .by_cases e0:(cD s.ae r.name r.af s.token (r.kind==3)).2.2=0
  .rw[aj e0,aa (by rw[e0];decide),aj (by simpa using e0)]
  .by_cases e10:(cD s.ae r.name r.af s.token (r.kind==3)).2.2=10
   .rw[aa e0,aj e10,aj e10,aa (by simpa using e0),aj (by simpa using e10)]
   .rw[aa e0,aa e10,aa e10,aa (by simpa using e0),aa (by simpa using e10)]
 .split
  .by_cases e0:(ek s.ae r.name r.af s.token).2.2=0
   .rw[aj e0,aj (by simpa using e0)]
   .rw[aa e0,aa (by simpa using e0)]
  .rfl
theorem WB {s:St} (h:Small s) (r:aX):(dv s r).1.aI=s.aI:=by
 unfold dv;split
 .unfold mV;split
  .rfl
  .split<;>rfl
 .split
  .rfl
  .split
   .rfl
   .simp only
    repeat' split
    all_goals rfl
theorem FA {b:ByteArray} (h:fb b=true):b.size≤12:=by unfold fb at h;simp only[bM,dX]at h;omega
theorem Xt {r:eh} (h:fR r=true):ik r:=by unfold fR at h;simp only[bM,ir,iP,gg]at h;obtain⟨⟨_,h1,_⟩,h2⟩:=h;refine⟨by omega,λ g hg=> ?_⟩;obtain⟨j,hj,rfl⟩:=oA hg;have:=sm.1 h2 j hj;unfold i5 at this;simp only[ir,iP,pq]at this;have:=FA this.1.1.1;omega
theorem FK:∀{l:List Int} {a b:Int},l.Pairwise (·<·)->(∀x∈l,a≤x/\x<b)->(l.length:Int)≤max (b - a) 0
 |[],a,b,_,_=>by simp;omega
 |x::l,a,b,h,hb=>by have h':=oE.1 h;have hx:=hb x (nQ ..);have:=FK (a:=x+1) (b:=b) h'.2 (λ y hy=>⟨by have:=h'.1 y hy;omega,(hb y (jI _ hy)).2⟩);simp only[cL];omega
theorem yS {m:bN} (h:eB m=true):(0≤m.af/\m.af<8)/\(1≤m.seq/\m.seq≤bj)/\fR m.bd=true:=by unfold eB at h;simp only[bM,dX]at h;exact⟨⟨h.1.1.1.1,h.1.1.1.2⟩,⟨h.1.1.2,h.1.2⟩,h.2⟩
theorem oO {s:St} (h:cZ s):Small s:=by
 refine⟨by have:=h.sl;omega,by have:=h.ll;omega, ?_,λ k hk=> ?_,λ m hm=>Xt (yS (h.lx m hm)).2.2⟩
 .have:=FK (a:=0) (b:=8) (DT.1 h.ms) (λ x hx=>by obtain⟨m,hm,rfl⟩:=kx.1 hx;exact(yS (h.lx m hm)).1)
  rw[bE]at this;omega
 .obtain⟨a,_,b,_⟩:=h.ju k hk;have h1:=(nC.1 b).1;have h2:=FA (oY.1 a).1;omega
theorem U' {l:List Lk} (hl:l.length<2^30) (hn:∀k∈l,k.name.size<2^62) (c:Int) (a b d:Int):ik ⟨a,b,d,ez l c⟩:=by
 refine⟨?_,λ g hg=> ?_⟩
 .unfold ez;rw[bE];exact yl (tr ..) hl
 .unfold ez at hg;obtain⟨k,hk,rfl⟩:=kx.1 hg;exact hn k (yj.1 hk).1
theorem XF (s:St) (r:aX):(dv s r).2.held=[]∨(dv s r).2.held=ez (dv s r).1.ae r.af:=by
 unfold dv;split
 .unfold mV;split
  .exact .inr rfl
  .split
   .exact .inl rfl
   .exact .inr rfl
 .split
  .exact .inl rfl
  .split
   .exact .inl rfl
   .simp only
    repeat' split
    all_goals first|exact .inr rfl|exact .inl rfl
theorem WH {s:St} (h:cZ s) {r:aX} (hm:aX.may r=true) (hN:s.num+1≤bj) (hT:s.token+4≤bj):ik (dv s r).2:=by
 have hs:=oO (Ft h hm hN hT).rt;rcases XF s r with e|e
 .exact⟨by rw[e];simp,λ g hg=>by rw[e]at hg;cases hg⟩
 .have:=U' hs.ae (λ k hk=>(hs.line k hk).2) r.af 0 0 0;unfold ik at this⊢;rw[e];exact this
theorem Vi {l:List Lk} (hs:SL l) (h:∀k∈l,ny k=true) (c:Int):eD (i5 (ez l c)) 0 (ez l c)=true:=by
 have hp:(ez l c).Pairwise λ a b=>jk a.name b.name=true:=by unfold ez;rw[rP];exact ym (List.filter_sublist ..) hs
 rw[sm];intro j hj;rw[cc];have hm:∃k∈l,(ez l c)[j]=⟨k.name,k.token⟩:=by have:=cb hj;unfold ez at this;obtain⟨k,hk,e⟩:=kx.1 this;exact⟨k,(yj.1 hk).1,e.symm⟩
 obtain⟨k,hk,e⟩:=hm;have ho:=oY.1 (h k hk);unfold i5;simp only[ir,iP,oF,pq,gg];rw[e];refine⟨⟨⟨ho.1,by simp only;omega⟩,by simp only;omega⟩, ?_⟩;by_cases h0:0<j
 .right
  have:=BU hp j hj h0;unfold xT;rw[dG (by omega)];rw[e]at this;simpa using this
 .left;omega
theorem V1 {s:St} (h:cZ s) {r:aX} (hm:aX.may r=true) (hN:s.num+1≤bj) (hT:s.token+4≤bj):
  ((dv s r).2.held=[]∨(1≤(dv s r).2.br/\(dv s r).2.held=ez (dv s r).1.ae r.af))/\(0≤(dv s r).2.br/\(dv s r).2.br≤bj)/\(0≤(dv s r).2.ahead/\(dv s r).2.ahead≤3):=by
 have hH:bj=2305843009213693952:=rfl;obtain⟨hc,_,hnm⟩:=DL hm;have hnum:=h.num;cases h1:r.kind==1
 .cases hf:bC s.ax r.af with
  |none=>
   have hd:dv s r=(s,⟨9,0,0,[]⟩):=by unfold dv;rw[aa (by rw[h1];simp),hf]
   rw[hd];exact⟨.inl rfl,by simp only;omega,by simp only;omega⟩
  |some x=>
   have hxn:=(qZ.1 (h.jS x (uX hf)).1).2.1;cases hx:x.num !=r.br
   .rw[Yp h1 hf hx];have h1':=IK h hf;have hf1:(bC (jy s.ax r.af s.time).1 r.af).isSome=true:=by rw[CN h hf,C9 (Gr h hf).1,hf];rfl
    split
    .rename_i hk;obtain⟨_,_,_,ta⟩:=JA (w:=r.kind==3) h1' (hnm hk) hc hf1 hT;simp only at ta;split
     .exact⟨.inr ⟨hxn.1,rfl⟩,by simp only;omega,by simp only;omega⟩
     .split
      .exact⟨.inr ⟨hxn.1,rfl⟩,by simp only;omega,ta⟩
      .exact⟨.inr ⟨hxn.1,rfl⟩,by simp only;omega,by simp only;omega⟩
    .split
     .split
      .exact⟨.inr ⟨hxn.1,rfl⟩,by simp only;omega,by simp only;omega⟩
      .exact⟨.inr ⟨hxn.1,rfl⟩,by simp only;omega,by simp only;omega⟩
     .split
      .exact⟨.inl rfl,by simp only;omega,by simp only;omega⟩
      .exact⟨.inr ⟨hxn.1,rfl⟩,by simp only;omega,by simp only;omega⟩
   .have hd:dv s r=(s,⟨9,0,0,[]⟩):=by unfold dv;rw[aa (by rw[h1];simp),hf];simp only;rw[aj hx]
    rw[hd];exact⟨.inl rfl,by simp only;omega,by simp only;omega⟩
 .have hd:dv s r=mV s r.af:=by unfold dv;rw[aj h1]
  rw[hd];unfold mV;cases hf:bC s.ax r.af with
  |some x=>
   have hxn:=(qZ.1 (h.jS x (uX hf)).1).2.1;exact⟨.inr ⟨hxn.1,rfl⟩,by simp only;omega,by simp only;omega⟩
  |none=>
   simp only;split
   .exact⟨.inl rfl,by simp only;omega,by simp only;omega⟩
   .exact⟨.inr ⟨by simp only;omega,rfl⟩,by simp only;omega,by simp only;omega⟩
theorem VP {s:St} (h:cZ s) {r:aX} (hm:aX.may r=true) (hN:s.num+1≤bj) (hT:s.token+4≤bj):eB ⟨r.af,r.seq,(dv s r).2⟩=true:=by
 obtain⟨hc,hq,_⟩:=DL hm;have hd:=Ft h hm hN hT;obtain⟨h1,h2,h3⟩:=V1 h hm hN hT;have hcl:=yV.1 hc;have hcode:=hd.code;have hrt:=hd.rt;unfold eB fR;simp only[bM,dX,ir,iP,oF,gg];refine⟨⟨⟨⟨hcl.1,hcl.2⟩,hq.1⟩,hq.2⟩,⟨by omega, ?_⟩, ?_⟩
 .rcases h1 with e|⟨e1,e2⟩
  .rw[e];exact⟨by simp, .inr (by simp)⟩
  .refine⟨?_, .inl (by simp;omega)⟩;rw[e2];unfold ez;rw[bE];have:=tr (λ k:Lk=>k.bh==r.af) (dv s r).1.ae;have:=hrt.ll;omega
 .rcases h1 with e|⟨e1,e2⟩
  .rw[e];rfl
  .rw[e2];exact Vi hrt.ls (λ k hk=>(hrt.ju k hk).1) _
theorem VF {l:List Int} (h:iQ l=true):l.Nodup:=(nC.1 h).2.2
theorem Zr {l:List bg}:A3 l []=l:=List.filter_eq_self.2 λ _ _=>rfl
abbrev mg (l:List bg) (gone:List Int) (i:Nat):List bg:=A3 l (gone.take i)
theorem Kp {l:List bg} {gone:List Int} {i:Nat} (hi:i<gone.length):mg l gone (i+1)=(mg l gone i).filter λ x=>x.af !=gone[i]:=by unfold mg A3;rw[List.filter_filter];congr 1;funext x;rw[←wz hi];unfold dc;rw[List.any_append];simp only[pB,rS,nR,xV,bne];rw[rE]
theorem Xv {l:List bg} {gone:List Int} {i:Nat} (hi:i<gone.length) (hf:bC (mg l gone i) gone[i]=none):mg l gone (i+1)=mg l gone i:=by
 rw[Kp hi];refine List.filter_eq_self.2 λ x hx=> ?_
 have:=tJ.1 hf x hx;simpa[bne]using this
theorem Kb (s:St) (h:Small s) (hs:SL s.ae) (hnd:∀k∈s.ae,k.line.Nodup) (ht:0≤s.token/\s.token≤bj) (gone:List Int) (hg:gone.length<2^30):
  ah prog 186 [.f (wH s), .f (al gone.length (bt gone))] (λ r o=>r=[wM (mP s gone)]/\o=[]):=by
 refine ah.nil ?_;refine zh func186 results186 ntmps186 call186 ?_;simp only[f186,Option.getD];have hH:bj=2^61:=by decide
 have hdp:=Zp s.ae hs h.ae (λ k hk=>⟨(h.line k hk).1,hnd k hk⟩) gone hg s.token (by omega);obtain⟨⟨g1,g2⟩,_⟩:=zb gone s.token (s.ae.map (eZ gone)) 0 (Int.le_refl _);have g1:0≤(jC s.ae gone s.token).2:=g1;have g2:(jC s.ae gone s.token).2≤0+(s.ae.map (eZ gone)).length:=g2;rw[bE]at g2;have hw:IntKind.i64.wrap (s.token+(jC s.ae gone s.token).2)=s.token+(jC s.ae gone s.token).2:=wrap64 (by omega) (by have:=h.ae;omega);obtain⟨LD,hD⟩:∃D,D=(jC s.ae gone s.token).1:=⟨_,rfl⟩;obtain⟨g,hg0⟩:∃g,g=(jC s.ae gone s.token).2:=⟨_,rfl⟩;have hwi:mP s gone=⟨s.time,s.num,s.token+g,A3 s.ax gone,LD,s.aI⟩:=by rw[hD,hg0];rfl
 rw[hwi];rw[←hD,←hg0]at hdp;rw[←hg0]at hw
 repeat'(first|exact zC|(with_reducible first|refine gA 4 ?_|refine gz 4 ?_|refine gy 4 ?_)|refine zu hw ?_|(with_reducible first|refine bH _ _ ?_)|refine zx (hdp) ?_|(apply aq<;>intro hb)|(apply I;exact zI)|(apply I<;>intro hg))
 refine gK (gB (Gh.gH 2 4 (.own ⟨2,5,7⟩ 0 LD.length) ?_) ?_)
 .exact jb
 refine jc ?_;refine gB (Gh.Nc 2 5 rfl) ?_;simp only[zY,Nat.reduceSub,Nat.reduceEqDiff,Nat.reduceAdd,Nat.reduceMul,Nat.reduceLeDiff,Nat.reduceLT,Nat.reduceBEq,reduceCtorEq];refine az trivial ?_;rw[show(D.sl s.ax.length (bT s.ax))=D.sl (mg s.ax gone 0).length (bT (mg s.ax gone 0)) from by rw[show mg s.ax gone 0=s.ax from Zr]];refine bq (τ:=Nat) (λ i=>⟨(dd::al gone.length (bt gone)::cd 2::dd::cd 4::dM (ai i::wS [])),[(2,⟨2,[aW 1 [di s.time,di s.num,di (s.token+g), .d (.sl (mg s.ax gone i).length (bT (mg s.ax gone i))), .d (.sl LD.length (aU LD)), .d (.sl s.aI.length (ct s.aI))],none,none,none,none,none,none]⟩),(4,⟨2,[aW 1 [di 0,di 0,di 0, .d (.v (.slice none 0 0)), .d (.v (.slice none 0 0)), .d (.v (.slice none 0 0))],none,none,none,none,none,none]⟩),(16,⟨2,[]⟩),(5,⟨2,[]⟩),(8,⟨2,[]⟩),(39,⟨2,[]⟩)]⟩)
  (λ i=>i≤gone.length) (λ _=>()) (λ i=>gone.length - i) 0
  (Gh.canon [2,4] [8,39] [] zK rfl rfl) (bc _) ?_
 intro i hi0 hF K hK;refine zw ?_;refine aq (λ hlt=> ?_) (λ hge=> ?_)
 .have hi:i<gone.length:=by simpa using hlt
  have hat:=mm hi;have hwi:=bz hi (by omega);have hcl:(mg s.ax gone i).length<2^30:=yl (tr ..) h.ax;have hrc:=Xi (mg s.ax gone i) hcl gone[i];cases hf:bC (mg s.ax gone i) gone[i]with
  |none=>
   rw[hf]at hrc;simp only[yc,lU,cE]at hrc;have hz:((6:Int)==0)=false:=rfl;refine zL (I hat (I hz (I @eu bw))) (hrc) ?_;rw[←Xv hi hf];exact hK _ (i+1) (Gh.canon [2,4] [] [] (zk hwi) rfl rfl) hi rfl (by omega)
  |some x=>
   rw[hf]at hrc;simp only[Be,cS]at hrc;rw[←Kp hi]at hrc;have hz:((0:Int)==0)=true:=rfl
   repeat'(first|exact zC|(with_reducible first|refine gA 6 ?_|refine gz 6 ?_|refine gy 6 ?_)|refine zu (I hat (I hz (I @eu bw))) ?_|(with_reducible first|refine bH _ _ ?_)|refine zx (hrc) ?_|(apply aq<;>intro hb)|(apply I;exact zI)|(apply I<;>intro hg))
   refine gK (gB (Gh.gH 2 3 (.own ⟨2,4,2⟩ 0 (mg s.ax gone (i+1)).length) ?_) ?_)
   .exact jb
   refine jc ?_;refine gB (Gh.Nc 2 4 rfl) ?_;simp only[zY,Nat.reduceSub,Nat.reduceEqDiff,Nat.reduceAdd,Nat.reduceMul,Nat.reduceLeDiff,Nat.reduceLT,Nat.reduceBEq,reduceCtorEq];refine az trivial ?_;exact hK _ (i+1) (Gh.canon [2,4] [] [] (zk hwi) rfl rfl) hi rfl (by omega)
 .have hi:i=gone.length:=by
   have:¬(i:Int)<gone.length:=by simpa using hge
   omega
  subst hi;have he:mg s.ax gone gone.length=A3 s.ax gone:=by unfold mg;rw[lP]
  rw[he]
  repeat'(first|exact zC|refine fX ?_|(apply aq<;>intro hb)|(apply I;exact zI)|(apply I<;>intro hg))
  simp[aT,bf,aY,ak]
theorem Fi {s:St} (hr:cZ s):∀k∈s.ae,k.line.Nodup:=λ k hk=>VF (hr.ju k hk).2.2.1
theorem VK (s:St) (h:Small s) (hr:cZ s) (time lease:Int):ah prog 158 [.f (wH s), .f (ai time), .f (ai lease)]
  (λ r o=>r=[wM (ou s time lease)]/\o=[]):=by
 refine zh func158 results158 ntmps158 call158 ?_;simp only[f158,Option.getD];have h':Small {s with time:=j9 s time}:=⟨h.ax,h.ae,h.aI,h.line,h.held⟩;have htm:0≤j9 s time/\j9 s time≤bj:=by
  have:=hr.time;unfold j9;split
  .rename_i hc;simp only[bM,dX]at hc;omega
  .exact this
 have hdu:=abd s.ax h.ax (j9 s time) (max lease 1) (λ x hx=>(qZ.1 (hr.jS x hx).1).2.2) htm;have hwo:=Kb {s with time:=j9 s time} h' hr.ls (λ k hk=>Fi hr k hk) hr.token (qH s.ax (j9 s time) (max lease 1)) (YE h _ _);have hav:ou s time lease=mP {s with time:=j9 s time} (qH s.ax (j9 s time) (max lease 1)):=rfl;rw[hav];cases ha:decide (time>s.time)&&decide (time≤2305843009213693952)
 .have htp:j9 s time=s.time:=by unfold j9;rw[show(decide (time>s.time)&&decide (time≤bj))=false from ha];rfl
  rw[htp]at hdu hwo⊢;refine zL (I ha @tX.eq_1) (I (hdu) (hwo)) ?_;rfl
 .have htp:j9 s time=time:=by unfold j9;rw[show(decide (time>s.time)&&decide (time≤bj))=true from ha];rfl
  rw[htp]at hdu hwo⊢;refine zL (I ha @tX.eq_1) (I (hdu) (hwo)) ?_;rfl
theorem GW (s:St) (h:Small s) (c code ahead:Int):ah prog 208 [.f (wH s), .f (ai c), .f (ai code), .f (ai ahead)]
  (λ r o=>r=[DN ⟨code,((bC s.ax c).getD pg).num,ahead,ez s.ae c⟩]/\o=[]):=by
 refine zh func208 results208 ntmps208 call208 ?_;simp only[f208,Option.getD];have hfi:=sH s.ax (by have:=h.ax;omega) c;have hhe:=aau s.ae h.ae c;refine zL trivial (I (hfi) (hhe)) ?_;rfl
theorem JB {s:St} (hr:cZ s) {c:Int} (hc:fq c=true) (hf:bC s.ax c=none) (he:((iN s.ax c (s.num+1) s.time).2 !=0)=false):
  (iN s.ax c (s.num+1) s.time).1.length≤s.ax.length+1/\((bC (iN s.ax c (s.num+1) s.time).1 c).getD pg).num=s.num+1:=by
 by_cases hN:s.num+1≤bj
 .rw[LL hr hc hN hf]at he⊢;split at he
  .cases he
  .rename_i h5;rw[aa h5];refine⟨?_, ?_⟩
   .simp only[aG,cL,cu,iM];omega
   .have h1:(s.ax.take (f6 s.ax c)).find? (λ x=>x.af==c)=none:=tJ.2 λ x hx=>tJ.1 hf x (jm hx)
    simp only[bC,List.find?_append,h1,Option.none_or,ya,wo,ku]
 .exfalso;have:iN s.ax c (s.num+1) s.time=([],1):=by unfold iN;rw[aj (by simp only[pv,dX];omega)]
  rw[this]at he;cases he
theorem Yb (s:St) (h:Small s) (hr:cZ s) (c:Int) (hc:fq c=true):ah prog 205 [.f (wH s), .f (ai c)]
  (λ r o=>r=[wM (mV s c).1,DN (mV s c).2]/\o=[]):=by
 refine ah.nil ?_;refine zh func205 results205 ntmps205 call205 ?_;simp only[f205,Option.getD];have hfi:=sH s.ax (by have:=h.ax;omega) c;have hn:=hr.num;have hH:bj=2^61:=by decide
 have hw:IntKind.i64.wrap (s.num+1)=s.num+1:=wrap64 (by omega) (by omega);cases hf:bC s.ax c with
 |some x=>
  have hto:=GW s h c 7 0;rw[hf]at hfi hto;simp only[Be,ku]at hfi hto;have ho:mV s c=(s,⟨7,x.num,0,ez s.ae c⟩):=by unfold mV;rw[hf]
  rw[ho]
  repeat'(first|exact zC|refine fX ?_|refine zx (hfi) ?_|refine zx (hto) ?_|(apply aq<;>intro hb)|(apply I;exact zI)|(apply I<;>intro hg))
  simp[aT,bf,aY,ak]
 |none=>
  rw[hf]at hfi;simp only[yc,Bd]at hfi;have hop:=Y5 s.ax hr.ss h.ax c (s.num+1) s.time hc (by omega) hr.time hf (Ie hr);have ho:mV s c=if((iN s.ax c (s.num+1) s.time).2 !=0)=true then(s,⟨(iN s.ax c (s.num+1) s.time).2,0,0,[]⟩)else
    ({s with ax:=(iN s.ax c (s.num+1) s.time).1,num:=s.num+1},⟨0,s.num+1,0,ez s.ae c⟩):=by unfold mV;rw[hf];simp only[bne_iff_ne]
  cases he:(iN s.ax c (s.num+1) s.time).2 !=0
  .rw[he,aa (by simp)]at ho;rw[ho];have hsm:Small {s with ax:=(iN s.ax c (s.num+1) s.time).1,num:=s.num+1}:=⟨by have:=(JB hr hc hf he).1;have:=hr.sl;simp only;omega,h.ae,h.aI,h.line,h.held⟩;have hto:=GW {s with ax:=(iN s.ax c (s.num+1) s.time).1,num:=s.num+1} hsm c 0 0;have hfo:((bC (iN s.ax c (s.num+1) s.time).1 c).getD pg).num=s.num+1:=(JB hr hc hf he).2;simp only[hfo]at hto
   repeat'(first|exact zC|(with_reducible first|refine gA 8 ?_|refine gz 8 ?_|refine gy 8 ?_)|refine zu (I hw he) ?_|(with_reducible first|refine bH _ _ ?_)|refine zx (hfi) ?_|refine zx (hop) ?_|(apply aq<;>intro hb)|(apply I;exact zI)|(apply I<;>intro hg))
   refine gK (gB (Gh.gH 2 3 (.own ⟨2,4,7⟩ 0 (iN s.ax c (s.num+1) s.time).1.length) ?_) ?_)
   .exact jb
   refine jc ?_
   repeat'(first|exact zC|refine zq hw ?_|refine zx (hto) ?_|(apply aq<;>intro hb)|(apply I;exact zI)|(apply I<;>intro hg))
   simp[aT,bf,aY,ak]
  .rw[he,aj rfl]at ho;rw[ho]
   repeat'(first|exact zC|refine zq (I hw he) ?_|refine zx (hfi) ?_|refine zx (hop) ?_|(apply aq<;>intro hb)|(apply I;exact zI)|(apply I<;>intro hg))
   simp[aT,bf,aY,ak]
theorem We {s:St} (hr:cZ s) {c:Int} {x:bg} (hf:bC s.ax c=some x):((bC (jy s.ax c s.time).1 c).getD pg).num=x.num/\(jy s.ax c s.time).1.length=s.ax.length:=by rw[CN hr hf];refine⟨?_,by simp only[u6]⟩;simp only;rw[←JZ hr.ss hf];unfold bC;rw[List.find?_map,show((λ y:bg=>y.af==c)∘lI c s.time)=λ y:bg=>y.af==c from by funext y;simp only[Function.comp,lI];split<;>rfl];rw[show s.ax.find? (λ y:bg=>y.af==c)=some x from hf];simp only[im,ku,lI];split<;>rfl
theorem Wm {l:List Lk} {name:ByteArray} {c t:Int} {w:Bool} (hl:∀k∈l,k.line.length<2^30/\k.name.size<2^62) (hs:SL l) (hll:∀k∈l,k.line.length≤3) (hn:name.size<2^62):
  ∀k∈(cD l name c t w).1,k.line.length<2^30/\k.name.size<2^62:=by
 intro k hk;unfold cD at hk;cases hf:ix l name with
 |none=>
  rw[hf]at hk;simp only at hk;split at hk
  .cases hk
  .rcases dN.1 hk with hk|hk
   .exact hl k (jm hk)
   .rcases cF.1 hk with rfl|hk
    .exact⟨by simp,hn⟩
    .exact hl k (oD hk)
 |some k0=>
  rw[hf]at hk;simp only at hk;obtain⟨⟨hi,he⟩,_⟩:=sF hs hf;have hk0:=hl k0 (he▸cb hi);have hk3:=hll k0 (he▸cb hi);split at hk
  .cases hk
  .split at hk
   .cases hk
   .split at hk
    .exact hl k hk
    .split at hk
     .cases hk
     .rcases Bf hk with hk|rfl
      .exact hl k hk
      .refine⟨?_,hk0.2⟩;simp only;unfold qt
       repeat' split
       all_goals simp
       all_goals omega
theorem Wl {l:List Lk} {name:ByteArray} {c t:Int} (hl:∀k∈l,k.line.length<2^30/\k.name.size<2^62) (hs:SL l):
  ∀k∈(ek l name c t).1,k.line.length<2^30/\k.name.size<2^62:=by
 intro k hk;unfold ek at hk;cases hf:ix l name with
 |none=>rw[hf]at hk;cases hk
 |some k0=>
  rw[hf]at hk;simp only at hk;obtain⟨⟨hi,he⟩,_⟩:=sF hs hf;have hk0:=hl k0 (he▸cb hi);split at hk
  .unfold np at hk;split at hk
   .exact hl k (List.mem_of_mem_eraseIdx hk)
   .rename_i hline;rcases Bf hk with hk|rfl
    .exact hl k hk
    .refine⟨?_,hk0.2⟩;have:=hk0.1;rw[hline,cL]at this;simp only;omega
  .split at hk
   .rcases Bf hk with hk|rfl
    .exact hl k hk
    .refine⟨?_,hk0.2⟩;simp only;unfold sU;split
     .exact hk0.1
     .exact yl (List.length_eraseIdx_le ..) hk0.1
   .cases hk
theorem VZ {l:List Lk} {name:ByteArray} {c t:Int} {w:Bool} (h:((cD l name c t w).2.2==10)=false):(cD l name c t w).2.1=0:=by
 revert h;unfold cD;cases ix l name with
 |none=>simp only;split<;>intros<;>rfl
 |some k=>
  simp only
  repeat' split
  all_goals first|(intros;rfl)|(intro h;cases h)
theorem Ze (s:St) (h:Small s) (hr:cZ s) (r:aX) (hro:r.ok) (hm:aX.may r=true):ah prog 190 [.f (wH s), .f (.agg (r.enc.map C.d))]
  (λ x o=>x=[wM (dv s r).1,DN (dv s r).2]/\o=[]):=by
 refine ah.nil ?_;refine zh func190 results190 ntmps190 call190 ?_;simp only[f190,Option.getD];obtain⟨hc,_,hnm⟩:=DL hm;have hfi:=sH s.ax (by have:=h.ax;omega) r.af;have hT:=hr.token;have hH:bj=2^61:=by decide
 have hll:∀k∈s.ae,k.line.length<2^30:=λ k hk=>(h.line k hk).1
 have hl3:∀k∈s.ae,k.line.length≤3:=λ k hk=>(nC.1 (hr.ju k hk).2.2.1).1
 have hlf:∀k∈s.ae,k.line.length<2^30/\k.line.Nodup:=λ k hk=>⟨hll k hk,Fi hr k hk⟩
 cases h1:r.kind==1
 .cases hf:bC s.ax r.af with
  |none=>
   rw[hf]at hfi;simp only[yc,Bd]at hfi;have hd:dv s r=(s,⟨9,0,0,[]⟩):=by unfold dv;rw[aa (by rw[h1];simp),hf]
   rw[hd]
   repeat'(first|exact zC|refine zq h1 ?_|refine zx (hfi) ?_|(apply aq<;>intro hb)|(apply I;exact zI)|(apply I<;>intro hg))
   all_goals simp[aT,bf,aY,ak]
  |some x=>
   rw[hf]at hfi;simp only[Be,ku]at hfi;cases hx:x.num !=r.br
   .have hrn:=XP s.ax hr.ss h.ax r.af s.time hr.time (by rw[hf];rfl);have hwt:IntKind.i64.wrap (s.token+1)=s.token+1:=wrap64 (by omega) (by omega);obtain⟨hrf,hrl⟩:=We hr hf;obtain⟨S1,hS1⟩:∃S1,S1=(jy s.ax r.af s.time).1:=⟨_,rfl⟩;rw[←hS1]at hrf hrl;have hsm:∀(t:Int) (L:List Lk),L.length<2^30->(∀k∈L,k.line.length<2^30/\k.name.size<2^62)->Small ⟨s.time,s.num,t,S1,L,s.aI⟩:=λ t L h1 h2=>⟨by simp only;have:=h.ax;omega,h1,h.aI,h2,h.held⟩
    have hto:∀(t:Int) (L:List Lk) (code ahead:Int),L.length<2^30->(∀k∈L,k.line.length<2^30/\k.name.size<2^62)->ah prog 208 [.f (wH ⟨s.time,s.num,t,S1,L,s.aI⟩), .f (ai r.af), .f (ai code), .f (ai ahead)]
      (λ y o=>y=[DN ⟨code,x.num,ahead,ez L r.af⟩]/\o=[]):=λ t L code ahead h1 h2=>by
     have:=GW ⟨s.time,s.num,t,S1,L,s.aI⟩ (hsm t L h1 h2) r.af code ahead;simp only[hrf]at this;exact this
    have hd0:dv s r=if(r.kind==3||r.kind==4)=true then
      (if((cD s.ae r.name r.af s.token (r.kind==3)).2.2==0)=true then(⟨s.time,s.num,s.token+1,S1,(cD s.ae r.name r.af s.token (r.kind==3)).1,s.aI⟩,⟨(cD s.ae r.name r.af s.token (r.kind==3)).2.2,x.num,0,ez (cD s.ae r.name r.af s.token (r.kind==3)).1 r.af⟩)
      else if((cD s.ae r.name r.af s.token (r.kind==3)).2.2==10)=true then(⟨s.time,s.num,s.token,S1,(cD s.ae r.name r.af s.token (r.kind==3)).1,s.aI⟩,⟨(cD s.ae r.name r.af s.token (r.kind==3)).2.2,x.num,(cD s.ae r.name r.af s.token (r.kind==3)).2.1,ez (cD s.ae r.name r.af s.token (r.kind==3)).1 r.af⟩)
      else(⟨s.time,s.num,s.token,S1,s.ae,s.aI⟩,⟨(cD s.ae r.name r.af s.token (r.kind==3)).2.2,x.num,0,ez s.ae r.af⟩))
     else if(r.kind==5)=true then
      (if((ek s.ae r.name r.af s.token).2.2==0)=true then(⟨s.time,s.num,s.token+(ek s.ae r.name r.af s.token).2.1,S1,(ek s.ae r.name r.af s.token).1,s.aI⟩,⟨(ek s.ae r.name r.af s.token).2.2,x.num,0,ez (ek s.ae r.name r.af s.token).1 r.af⟩)
      else(⟨s.time,s.num,s.token,S1,s.ae,s.aI⟩,⟨(ek s.ae r.name r.af s.token).2.2,x.num,0,ez s.ae r.af⟩))
     else if(r.kind==6)=true then(mP ⟨s.time,s.num,s.token,S1,s.ae,s.aI⟩ [r.af],⟨0,0,0,[]⟩)
     else(⟨s.time,s.num,s.token,S1,s.ae,s.aI⟩,⟨0,x.num,0,ez s.ae r.af⟩):=by
     rw[hS1];unfold dv;rw[aa (by rw[h1];simp),hf];simp only;rw[aa (by rw[hx];simp)];split
     .by_cases e0:(cD s.ae r.name r.af s.token (r.kind==3)).2.2=0
      .rw[aj e0,aa (by rw[e0];decide),aj (by simpa using e0)]
      .by_cases e10:(cD s.ae r.name r.af s.token (r.kind==3)).2.2=10
       .rw[aa e0,aj e10,aj e10,aa (by simpa using e0),aj (by simpa using e10)]
       .rw[aa e0,aa e10,aa e10,aa (by simpa using e0),aa (by simpa using e10)]
     .split
      .by_cases e0:(ek s.ae r.name r.af s.token).2.2=0
       .rw[aj e0,aj (by simpa using e0)]
       .rw[aa e0,aa (by simpa using e0)]
      .rfl
    rw[←hS1]at hrn;have htl:=Xb s.ae r.name r.af s.token (r.kind==3);have hfl:=Xs s.ae r.name r.af s.token;have hnl:=hr.ll;have htn:=Wm (name:=r.name) (c:=r.af) (t:=s.token) (w:=r.kind==3) h.line hr.ls hl3 hro.2.2.2.2;have hfn:=Wl (name:=r.name) (c:=r.af) (t:=s.token) h.line hr.ls;have hta:=Zd s.ae hr.ls h.ae hll r.name r.af s.token (by omega) hc (r.kind==3);have hfr:=Lq s.ae hr.ls h.ae hlf r.name r.af s.token (by omega);have htz:=VZ (l:=s.ae) (name:=r.name) (c:=r.af) (t:=s.token) (w:=r.kind==3);cases h3:r.kind==3
    .rw[h3]at hta htl htn htz;rw[h3,lR]at hd0;cases h4:r.kind==4
     .rw[h4,aa (by simp)]at hd0;cases h5:r.kind==5
      .rw[h5,aa (by simp)]at hd0;cases h6:r.kind==6
       .rw[h6,aa (by simp)]at hd0;rw[hd0];have ht1:=hto s.token s.ae 0 0 h.ae h.line
        repeat'(first|exact zC|(with_reducible first|refine gA 8 ?_|refine gz 8 ?_|refine gy 8 ?_)|refine zu (I h1 (I hx (I h3 (I h4 (I h5 h6))))) ?_|(with_reducible first|refine bH _ _ ?_)|refine zx (hfi) ?_|refine zx (hrn) ?_|(apply aq<;>intro hb)|(apply I;exact zI)|(apply I<;>intro hg))
        refine gK (gB (Gh.gH 2 3 (.own ⟨2,4,7⟩ 0 S1.length) ?_) ?_)
        .exact jb
        refine jc ?_
        repeat'(first|exact zC|refine zq (I h1 (I hx (I h3 (I h4 (I h5 h6))))) ?_|refine zx (ht1) ?_|(apply aq<;>intro hb)|(apply I;exact zI)|(apply I<;>intro hg))
        simp[aT,bf,aY,ak]
       .rw[h6,aj rfl]at hd0;rw[hd0];have hwo:=Kb ⟨s.time,s.num,s.token,S1,s.ae,s.aI⟩ (hsm s.token s.ae h.ae h.line) hr.ls (λ k hk=>Fi hr k hk) hr.token [r.af] (by simp)
        repeat'(first|exact zC|(with_reducible first|refine gA 8 ?_|refine gz 8 ?_|refine gy 8 ?_)|refine zu (I h1 (I hx (I h3 (I h4 (I h5 h6))))) ?_|(with_reducible first|refine bH _ _ ?_)|refine zx (hfi) ?_|refine zx (hrn) ?_|(apply aq<;>intro hb)|(apply I;exact zI)|(apply I<;>intro hg))
        refine gK (gB (Gh.gH 2 3 (.own ⟨2,4,7⟩ 0 S1.length) ?_) ?_)
        .exact jb
        refine jc ?_
        repeat'(first|exact zC|refine zq (I h1 (I hx (I h3 (I h4 (I h5 h6))))) ?_|refine zx (hwo) ?_|(apply aq<;>intro hb)|(apply I;exact zI)|(apply I<;>intro hg))
        simp[aT,bf,aY,ak]
      .rw[h5,aj rfl]at hd0;have hgi:=X4 s.ae r.name r.af s.token;generalize hT0:ek s.ae r.name r.af s.token=T at*;cases e0:T.2.2==0
       .rw[e0,aa (by simp)]at hd0;rw[hd0];have ht1:=hto s.token s.ae T.2.2 0 h.ae h.line
        repeat'(first|exact zC|(with_reducible first|refine gA 8 ?_|refine gz 8 ?_|refine gy 8 ?_)|refine zu (I h1 (I hx (I h3 (I h4 (I h5 e0))))) ?_|(with_reducible first|refine bH _ _ ?_)|refine zx (hfi) ?_|refine zx (hrn) ?_|(apply aq<;>intro hb)|(apply I;exact zI)|(apply I<;>intro hg))
        refine gK (gB (Gh.gH 2 3 (.own ⟨2,4,7⟩ 0 S1.length) ?_) ?_)
        .exact jb
        refine jc ?_
        repeat'(first|exact zC|refine zq (I h1 (I hx (I h3 (I h4 (I h5 e0))))) ?_|refine zx (hfr) ?_|refine zx (ht1) ?_|(apply aq<;>intro hb)|(apply I;exact zI)|(apply I<;>intro hg))
        simp[aT,bf,aY,ak]
       .rw[e0,aj rfl]at hd0;have hwf:IntKind.i64.wrap (s.token+T.2.1)=s.token+T.2.1:=wrap64 (by omega) (by omega);rw[hd0];have ht1:=hto (s.token+T.2.1) T.1 T.2.2 0 (by omega) hfn
        repeat'(first|exact zC|(with_reducible first|refine gA 8 ?_|refine gz 8 ?_|refine gy 8 ?_)|refine zu (I h1 (I hx (I h3 (I h4 (I h5 e0))))) ?_|(with_reducible first|refine bH _ _ ?_)|refine zx (hfi) ?_|refine zx (hrn) ?_|(apply aq<;>intro hb)|(apply I;exact zI)|(apply I<;>intro hg))
        refine gK (gB (Gh.gH 2 3 (.own ⟨2,4,7⟩ 0 S1.length) ?_) ?_)
        .exact jb
        refine jc ?_
        repeat'(first|exact zC|(with_reducible first|refine gA 22 ?_|refine gz 22 ?_|refine gy 22 ?_)|refine zu (I h1 (I hx (I h3 (I h4 (I h5 (I e0 hwf)))))) ?_|(with_reducible first|refine bH _ _ ?_)|refine zx (hfr) ?_|(apply aq<;>intro hb)|(apply I;exact zI)|(apply I<;>intro hg))
        refine gK (gB (Gh.gH 2 4 (.own ⟨2,5,8⟩ 0 T.1.length) ?_) ?_)
        .exact jb
        refine jc ?_
        repeat'(first|exact zC|refine zq (I h1 (I hx (I h3 (I h4 (I h5 (I e0 hwf)))))) ?_|refine zx (ht1) ?_|(apply aq<;>intro hb)|(apply I;exact zI)|(apply I<;>intro hg))
        simp[aT,bf,aY,ak]
     .rw[h4,aj rfl]at hd0;generalize hT0:cD s.ae r.name r.af s.token false=T at*;cases e0:T.2.2==0
      .cases e10:T.2.2==10
       .rw[e0,aa (by simp),e10,aa (by simp)]at hd0;rw[hd0];have ht1:=hto s.token s.ae T.2.2 0 h.ae h.line;have hz:=htz e10;rw[hz]at hta
        repeat'(first|exact zC|(with_reducible first|refine gA 8 ?_|refine gz 8 ?_|refine gy 8 ?_)|refine zu (I h1 (I hx (I h3 (I h4 (I e0 e10))))) ?_|(with_reducible first|refine bH _ _ ?_)|refine zx (hfi) ?_|refine zx (hrn) ?_|(apply aq<;>intro hb)|(apply I;exact zI)|(apply I<;>intro hg))
        refine gK (gB (Gh.gH 2 3 (.own ⟨2,4,7⟩ 0 S1.length) ?_) ?_)
        .exact jb
        refine jc ?_
        repeat'(first|exact zC|refine zq (I h1 (I hx (I h3 (I h4 (I e0 (I e10 hwt)))))) ?_|refine zx (hta) ?_|refine zx (ht1) ?_|(apply aq<;>intro hb)|(apply I;exact zI)|(apply I<;>intro hg))
        simp[aT,bf,aY,ak]
       .rw[e0,aa (by simp),e10,aj rfl]at hd0;rw[hd0];have ht1:=hto s.token T.1 T.2.2 T.2.1 (by omega) htn
        repeat'(first|exact zC|(with_reducible first|refine gA 8 ?_|refine gz 8 ?_|refine gy 8 ?_)|refine zu (I h1 (I hx (I h3 (I h4 (I e0 e10))))) ?_|(with_reducible first|refine bH _ _ ?_)|refine zx (hfi) ?_|refine zx (hrn) ?_|(apply aq<;>intro hb)|(apply I;exact zI)|(apply I<;>intro hg))
        refine gK (gB (Gh.gH 2 3 (.own ⟨2,4,7⟩ 0 S1.length) ?_) ?_)
        .exact jb
        refine jc ?_
        repeat'(first|exact zC|(with_reducible first|refine gA 16 ?_|refine gz 16 ?_|refine gy 16 ?_)|refine zu (I h1 (I hx (I h3 (I h4 (I e0 (I e10 hwt)))))) ?_|(with_reducible first|refine bH _ _ ?_)|refine zx (hta) ?_|(apply aq<;>intro hb)|(apply I;exact zI)|(apply I<;>intro hg))
        refine gK (gB (Gh.gH 2 4 (.own ⟨2,5,8⟩ 0 T.1.length) ?_) ?_)
        .exact jb
        refine jc ?_
        repeat'(first|exact zC|refine zq (I h1 (I hx (I h3 (I h4 (I e0 (I e10 hwt)))))) ?_|refine zx (ht1) ?_|(apply aq<;>intro hb)|(apply I;exact zI)|(apply I<;>intro hg))
        simp[aT,bf,aY,ak]
      .rw[e0,aj rfl]at hd0;rw[hd0];have ht1:=hto (s.token+1) T.1 T.2.2 0 (by omega) htn;have hz:=htz (by have:T.2.2=0:=(by simpa using e0);rw[this];rfl);rw[hz]at hta
       repeat'(first|exact zC|(with_reducible first|refine gA 8 ?_|refine gz 8 ?_|refine gy 8 ?_)|refine zu (I h1 (I hx (I h3 (I h4 e0)))) ?_|(with_reducible first|refine bH _ _ ?_)|refine zx (hfi) ?_|refine zx (hrn) ?_|(apply aq<;>intro hb)|(apply I;exact zI)|(apply I<;>intro hg))
       refine gK (gB (Gh.gH 2 3 (.own ⟨2,4,7⟩ 0 S1.length) ?_) ?_)
       .exact jb
       refine jc ?_
       repeat'(first|exact zC|(with_reducible first|refine gA 16 ?_|refine gz 16 ?_|refine gy 16 ?_)|refine zu (I h1 (I hx (I h3 (I h4 (I e0 hwt))))) ?_|(with_reducible first|refine bH _ _ ?_)|refine zx (hta) ?_|(apply aq<;>intro hb)|(apply I;exact zI)|(apply I<;>intro hg))
       refine gK (gB (Gh.gH 2 4 (.own ⟨2,5,8⟩ 0 T.1.length) ?_) ?_)
       .exact jb
       refine jc ?_
       repeat'(first|exact zC|refine zq (I h1 (I hx (I h3 (I h4 (I e0 hwt))))) ?_|refine zx (ht1) ?_|(apply aq<;>intro hb)|(apply I;exact zI)|(apply I<;>intro hg))
       simp[aT,bf,aY,ak]
    .rw[h3]at hta htl htn htz;rw[h3,Bool.true_or,aj rfl]at hd0;generalize hT0:cD s.ae r.name r.af s.token true=T at*;cases e0:T.2.2==0
     .cases e10:T.2.2==10
      .rw[e0,aa (by simp),e10,aa (by simp)]at hd0;rw[hd0];have ht1:=hto s.token s.ae T.2.2 0 h.ae h.line;have hz:=htz e10;rw[hz]at hta
       repeat'(first|exact zC|(with_reducible first|refine gA 8 ?_|refine gz 8 ?_|refine gy 8 ?_)|refine zu (I h1 (I hx (I h3 (I e0 e10)))) ?_|(with_reducible first|refine bH _ _ ?_)|refine zx (hfi) ?_|refine zx (hrn) ?_|(apply aq<;>intro hb)|(apply I;exact zI)|(apply I<;>intro hg))
       refine gK (gB (Gh.gH 2 3 (.own ⟨2,4,7⟩ 0 S1.length) ?_) ?_)
       .exact jb
       refine jc ?_
       repeat'(first|exact zC|refine zq (I h1 (I hx (I h3 (I e0 (I e10 hwt))))) ?_|refine zx (hta) ?_|refine zx (ht1) ?_|(apply aq<;>intro hb)|(apply I;exact zI)|(apply I<;>intro hg))
       simp[aT,bf,aY,ak]
      .rw[e0,aa (by simp),e10,aj rfl]at hd0;rw[hd0];have ht1:=hto s.token T.1 T.2.2 T.2.1 (by omega) htn
       repeat'(first|exact zC|(with_reducible first|refine gA 8 ?_|refine gz 8 ?_|refine gy 8 ?_)|refine zu (I h1 (I hx (I h3 (I e0 e10)))) ?_|(with_reducible first|refine bH _ _ ?_)|refine zx (hfi) ?_|refine zx (hrn) ?_|(apply aq<;>intro hb)|(apply I;exact zI)|(apply I<;>intro hg))
       refine gK (gB (Gh.gH 2 3 (.own ⟨2,4,7⟩ 0 S1.length) ?_) ?_)
       .exact jb
       refine jc ?_
       repeat'(first|exact zC|(with_reducible first|refine gA 16 ?_|refine gz 16 ?_|refine gy 16 ?_)|refine zu (I h1 (I hx (I h3 (I e0 (I e10 hwt))))) ?_|(with_reducible first|refine bH _ _ ?_)|refine zx (hta) ?_|(apply aq<;>intro hb)|(apply I;exact zI)|(apply I<;>intro hg))
       refine gK (gB (Gh.gH 2 4 (.own ⟨2,5,8⟩ 0 T.1.length) ?_) ?_)
       .exact jb
       refine jc ?_
       repeat'(first|exact zC|refine zq (I h1 (I hx (I h3 (I e0 (I e10 hwt))))) ?_|refine zx (ht1) ?_|(apply aq<;>intro hb)|(apply I;exact zI)|(apply I<;>intro hg))
       simp[aT,bf,aY,ak]
     .rw[e0,aj rfl]at hd0;rw[hd0];have ht1:=hto (s.token+1) T.1 T.2.2 0 (by omega) htn;have hz:=htz (by have:T.2.2=0:=(by simpa using e0);rw[this];rfl);rw[hz]at hta
      repeat'(first|exact zC|(with_reducible first|refine gA 8 ?_|refine gz 8 ?_|refine gy 8 ?_)|refine zu (I h1 (I hx (I h3 e0))) ?_|(with_reducible first|refine bH _ _ ?_)|refine zx (hfi) ?_|refine zx (hrn) ?_|(apply aq<;>intro hb)|(apply I;exact zI)|(apply I<;>intro hg))
      refine gK (gB (Gh.gH 2 3 (.own ⟨2,4,7⟩ 0 S1.length) ?_) ?_)
      .exact jb
      refine jc ?_
      repeat'(first|exact zC|(with_reducible first|refine gA 16 ?_|refine gz 16 ?_|refine gy 16 ?_)|refine zu (I h1 (I hx (I h3 (I e0 hwt)))) ?_|(with_reducible first|refine bH _ _ ?_)|refine zx (hta) ?_|(apply aq<;>intro hb)|(apply I;exact zI)|(apply I<;>intro hg))
      refine gK (gB (Gh.gH 2 4 (.own ⟨2,5,8⟩ 0 T.1.length) ?_) ?_)
      .exact jb
      refine jc ?_
      repeat'(first|exact zC|refine zq (I h1 (I hx (I h3 (I e0 hwt)))) ?_|refine zx (ht1) ?_|(apply aq<;>intro hb)|(apply I;exact zI)|(apply I<;>intro hg))
      simp[aT,bf,aY,ak]
   .have hd:dv s r=(s,⟨9,0,0,[]⟩):=by unfold dv;rw[aa (by rw[h1];simp),hf];simp only;rw[aj hx]
    rw[hd]
    repeat'(first|exact zC|refine zq (I h1 hx) ?_|refine zx (hfi) ?_|(apply aq<;>intro hb)|(apply I;exact zI)|(apply I<;>intro hg))
    all_goals simp[aT,bf,aY,ak]
 .have hop:=Yb s h hr r.af hc;have hd:dv s r=mV s r.af:=by unfold dv;rw[aj h1]
  rw[hd]
  repeat'(first|exact zC|refine zq h1 ?_|refine zx (hfi) ?_|refine zx (hop) ?_|(apply aq<;>intro hb)|(apply I;exact zI)|(apply I<;>intro hg))
  all_goals simp[aT,bf,aY,ak]
def aO (n:Int):Prop:=0≤n/\n<256
theorem sv {n:Int} (h:aO n):IntKind.i64.wrap n=n:=by have:=h;unfold aO at this;exact wrap64 (by omega) (by omega)
theorem sC {n:Int} (h:0≤n) (k:Int):n.tmod k=n % k:=D8 h
def acJ:List ByteArray:=[⟨#[97]⟩,⟨#[98]⟩,⟨#[99]⟩,⟨#[100]⟩,⟨#[107,101,121,45,49]⟩,⟨#[116,104,101,45,108,97,115,116,45,111,110,101]⟩]
def AK (n:Int):ByteArray:=(acJ[(n % 6).toNat]?).getD .empty
theorem H0 (n:Int):n % 6=0∨n % 6=1∨n % 6=2∨n % 6=3∨n % 6=4∨n % 6=5:=by omega
theorem Xn (n:Int) (hn:aO n):ah prog 157 [.f (au n)] (λ r o=>r=[.one (.d (sD (AK n)))]/\o=[]):=by
 refine zh func157 results157 ntmps157 call157 ?_;simp only[f157,Option.getD];have hw:=sv hn;have ht:=sC hn.1 6;unfold AK;rcases H0 n with h|h|h|h|h|h
 all_goals
  rw[h]at ht⊢
  repeat'(first|(with_reducible first|refine bH _ _ ?_|refine fC ?_|refine fD ?_)|rw[dE]|simp only[hw,ht,Int.reduceToNat,oB,cC,zY,Int.reduceEq,Int.reduceBEq,Int.reduceBNe,Nat.reduceSub,Nat.reduceEqDiff,Nat.reduceAdd,Nat.reduceMul,Nat.reduceLeDiff,Nat.reduceLT,Nat.reduceBEq,reduceCtorEq]|refine eA ?_|refine aq (λ hb=> ?_) (λ hb=> ?_)|(refine And.intro ?_ ?_;exact zI)|refine And.intro (λ hg=> ?_) (λ hg=> ?_)|exact zC|fail)
  rfl
def rM (a:Int):Int:=1+a % 6
def xU (a b:Int):Int:=if rM a=1 then 0 else 1+b % 7
def AX (a c:Int):ByteArray:=if(rM a==3||rM a==4||rM a==5)=true then AK c else .empty
theorem aa1 (a b c:Int) (ha:aO a) (hb:aO b) (hc:aO c):ah prog 108 [.f (au a), .f (au b), .f (au c)] (λ r o=>r=[.agg [.d (iD (rM a)), .d (iD (xU a b)), .d (sD (AX a c))]]/\o=[]):=by
 refine zh func108 results108 ntmps108 call108 ?_;simp only[f108,Option.getD];have hnm:=Xn c hc;have hwa:=sv ha;have hwb:=sv hb;have hta:=sC ha.1 6;have htb:=sC hb.1 7;have hws:IntKind.i64.wrap (1+b % 7)=1+b % 7:=wrap64 (by omega) (by omega);unfold AX xU rM;have w1:IntKind.i64.wrap 1=1:=rfl;have w2:IntKind.i64.wrap 2=2:=rfl;have w3:IntKind.i64.wrap 3=3:=rfl;have w4:IntKind.i64.wrap 4=4:=rfl;have w5:IntKind.i64.wrap 5=5:=rfl;have w6:IntKind.i64.wrap 6=6:=rfl;rcases H0 a with h|h|h|h|h|h
 all_goals
  rw[h]at hta⊢
  repeat'(first|(with_reducible first|refine bH _ _ ?_|refine fC ?_|refine fD ?_)|rw[dE]|simp only[hwa,hwb,hta,htb,hws,w1,w2,w3,w4,w5,w6,Int.reduceAdd,Int.reduceEq,Int.reduceBEq,zY,Int.reduceEq,Int.reduceBEq,Int.reduceBNe,Nat.reduceSub,Nat.reduceEqDiff,Nat.reduceAdd,Nat.reduceMul,Nat.reduceLeDiff,Nat.reduceLT,Nat.reduceBEq,reduceCtorEq]|((first|((try refine eH ?_);apply eb)|(apply fm;intro _));(solve|exact(hnm)|(refine ah.le (hnm) ?_;exact zM)|fail);try case hn=>rfl)|refine eA ?_|refine aq (λ hb=> ?_) (λ hb=> ?_)|(refine And.intro ?_ ?_;exact zI)|refine And.intro (λ hg=> ?_) (λ hg=> ?_)|exact zC|fail)
structure Act where
 time:Int
 af:Int
 seq:Int
 kind:Int
 br:Int
 name:Int
abbrev Act.enc (a:Act):List D:=[uD a.time,uD a.af,uD a.seq,uD a.kind,uD a.br,uD a.name]
abbrev tE (l:List Act):List D:=l.flatMap Act.enc
def we (a:Act):Prop:=aO a.time/\aO a.af/\aO a.seq/\aO a.kind/\aO a.br/\aO a.name
theorem aaQ {l:List Act} {i:Nat} (hi:i<l.length):(tE l).drop (i*6)=l[i].enc++(tE (l.drop (i+1))):=p' _ 6 l i hi λ _=>rfl
theorem ZU {l:List Act}:(tE l).length=l.length*6:=mn _ 6 (λ _=>rfl) l
def EK (c q k s n:Int):aX:=⟨c % 8,1+q,rM k,xU k s,AX k n⟩
theorem abo (c q k s n:Int) (h1:aO c) (h2:aO q) (h3:aO k) (h4:aO s) (h5:aO n):ah prog 58 [.f (au c), .f (au q), .f (au k), .f (au s), .f (au n)] (λ r o=>r=[.agg ((EK c q k s n).enc.map RO.d)]/\o=[]):=by
 refine zh func58 results58 ntmps58 call58 ?_;simp only[f58,Option.getD];have hcm:=aa1 k s n h3 h4 h5;have hwc:=sv h1;have hwq:=sv h2;have htc:=sC h1.1 8;have hq1:IntKind.i64.wrap (1+q)=1+q:=by unfold aO at h2;exact wrap64 (by omega) (by omega)
 refine zL (I hwc (I hwq (I htc hq1))) (hcm) ?_;rfl
theorem GJ (l:List bN) (hl:l.length<2^62) (c:Int):ah prog 189 [.f (al l.length (ct l)), .f (ai c)]
  (λ r o=>r=[.agg (((eM l c).getD rq).enc.map RO.d),rb (eM l c).isSome]/\o=[]):=by
 refine ah.nil ?_;refine zh func189 results189 ntmps189 call189 ?_;simp only[f189,Option.getD];refine az trivial ?_;refine bq (τ:=Nat) (λ i=>⟨(al l.length (ct l)::ai c::dM (cd 4::dd::ai i::rZ [])),[(4,⟨2,[aW 1 [di 0,di 0,di 0,di 0,di 0, .d (.v (.slice none 0 0))],none,none,none,none,none,none]⟩)]⟩)
  (λ i=>i≤l.length) (λ i=>eM (l.drop i) c) (λ i=>l.length - i) 0
  (Gh.canon [4] [] [] zK rfl rfl) (bc _) ?_
 intro i hi0 hF K hK;rw[cC]at hF;refine zw ?_;refine aq (λ hlt=> ?_) (λ hge=> ?_)
 .have hi:i<l.length:=by simpa using hlt
  have hat:=nE hi;have hw:=bz hi hl;have hq:eM (l.drop i) c=if(l[i].af==c)=true then some l[i]else eM (l.drop (i+1)) c:=by unfold eM;rw[cB hi,ya];cases l[i].af==c<;>rfl
  rw[hq]at hF
  repeat'(first|exact zC|refine zq (I hat (I @cN bw)) ?_|(apply aq<;>intro hb)|(apply I;exact zI)|(apply I<;>intro hg))
  .rw[aj hb]at hF;rw[←hF];simp[aT,bf,aY,ak]
  .rw[aa (by rw[hb];simp)]at hq;exact hK _ (i+1) (Gh.canon [4] [] [] (zk hw) rfl rfl) hi hq.symm (by omega)
 .have hi:i=l.length:=by
   have:¬(i:Int)<l.length:=by simpa using hge
   omega
  rw[hi,eL]at hF;have hF:none=eM l c:=hF;rw[←hF]
  repeat'(first|exact zC|refine fX ?_|(apply aq<;>intro hb)|(apply I;exact zI)|(apply I<;>intro hg))
  simp[aT,bf,aY,ak,rq]
def rX (s:St) (a:Act):aX:=
 let r:=EK a.af (a.seq % 6) a.kind a.br a.name
 let b1:=(bC s.ax r.af).isSome&&decide (a.br % 8>0)&&(r.kind !=1)
 let b2:= !(bC s.ax r.af).isSome&&decide (a.br % 4>0)
 ⟨r.af,if decide (a.seq % 5>0)=true then(if(eM s.aI r.af).isSome=true then((eM s.aI r.af).getD rq).seq+1 else 1)else r.seq,
  if b2=true then 1 else r.kind,if b2=true then 0 else if b1=true then((bC s.ax r.af).getD pg).num else r.br,if b2=true then .empty else r.name⟩
theorem Wp (s:St) (h:Small s) (hr:cZ s) (a:Act) (ha:we a):ah prog 160 [.f (.agg s.aC), .f (.agg (a.enc.map C.d))] (λ r o=>r=[.agg ((rX s a).enc.map RO.d)]/\o=[]):=by
 refine zh func160 results160 ntmps160 call160 ?_;simp only[f160,Option.getD];obtain⟨_,h1,h2,h3,h4,h5⟩:=ha;have hrq:=abo a.af (a.seq % 6) a.kind a.br a.name h1 (by unfold aO;omega) h3 h4 h5;generalize hN:EK a.af (a.seq % 6) a.kind a.br a.name=r at*;have hla:=GJ s.aI (by have:=h.aI;omega) r.af;have hfi:=sH s.ax (by have:=h.ax;omega) r.af;have ht6:=sC h2.1 6;have ht5:=sC h2.1 5;have ht8:=sC h4.1 8;have ht4:=sC h4.1 4;have hwm:IntKind.i64.wrap (((eM s.aI r.af).getD rq).seq+1)=((eM s.aI r.af).getD rq).seq+1:=by
  have hb:0≤((eM s.aI r.af).getD rq).seq/\((eM s.aI r.af).getD rq).seq≤bj:=by
   cases hf:eM s.aI r.af with
   |none=>decide
   |some m=>
    have:=(yS (hr.lx m (uX hf))).2.1;simp only[ku];omega
  have hH:bj=2305843009213693952:=rfl;exact wrap64 (by omega) (by omega)
 have hR:rX s a=⟨r.af,if decide (a.seq % 5>0)=true then(if(eM s.aI r.af).isSome=true then((eM s.aI r.af).getD rq).seq+1 else 1)else r.seq,
  if(!(bC s.ax r.af).isSome&&decide (a.br % 4>0))=true then 1 else r.kind,if(!(bC s.ax r.af).isSome&&decide (a.br % 4>0))=true then 0 else if((bC s.ax r.af).isSome&&decide (a.br % 8>0)&&(r.kind !=1))=true then((bC s.ax r.af).getD pg).num else r.br,
  if(!(bC s.ax r.af).isSome&&decide (a.br % 4>0))=true then .empty else r.name⟩:=by unfold rX;rw[hN]
 generalize rX s a=R at hR⊢
 repeat'(first|exact zC|refine zq (I ht6 (I ht5 (I ht8 (I ht4 hwm)))) ?_|refine zx (hrq) ?_|refine zx (hla) ?_|refine zx (hfi) ?_|(apply aq<;>intro hb)|(apply I;exact zI)|(apply I<;>intro hg))
 all_goals clear hrq hla hfi ht6 ht5 ht8 ht4 hwm hN h hr h1 h2 h3 h4 h5
 all_goals subst hR
 all_goals simp only[*,cS,lU,cE]
theorem vL (v a:Int):ah prog 82 [.f (ai v), .f (ai a)] (λ r o=>r=[rb (decide (v≥a)&&decide (v≤2305843009213693952))]/\o=[]):=by refine zh func82 results82 ntmps82 call82 ?_;simp only[f82,Option.getD];exact bA trivial
theorem C4 (s:ByteArray) (hs:s.size<2^62):ah prog 132 [.f (kG s)] (λ r o=>r=[rb (fb s)]/\o=[]):=by
 refine zh func132 results132 ntmps132 call132 ?_;simp only[f132,Option.getD];refine zw ?_;refine aq (λ hb=> ?_) (λ hb=> ?_)
 .refine zw ?_;have:fb s=false:=by unfold fb;rw[oF];right;simp only[pv,dX]at hb;simp only[oF,gg];omega
  rw[this]
 have hsz:(decide ((s.size:Int)≥1)&&decide ((s.size:Int)≤12))=true:=by simp only[iP,gg]at hb;simp only[bM,dX];omega
 refine zw ?_;refine Ac Ty prog (τ:=Nat) (λ i=>⟨(kG s::dd::ab false::ai i::EC []),[]⟩) (λ i=>i≤s.size/\∀j,j<i->sQ (s.data.getD j 0)=true) (λ i=>s.size - i) 0 ?_ ⟨bc _,λ j hj=>absurd hj (tH j)⟩ ?_
 .refine Gh.fB ?_;simp only[dT,gO,gN,gQ,fV]
 intro i ⟨h1,h2⟩ K hK;refine zw ?_;refine aq (λ hlt=> ?_) (λ hge=> ?_)
 .have hi:i<s.size:=by simpa using hlt
  refine zw ?_;refine⟨⟨yg i,by omega⟩, ?_⟩;refine⟨DX ?_, ?_⟩
  .simp_all;omega
  have hok:sQ (s.data.getD i 0)= !((decide (((s.data.getD i 0).toNat:Int)<97)||decide (((s.data.getD i 0).toNat:Int)>122))&&(decide (((s.data.getD i 0).toNat:Int)<48)||decide (((s.data.getD i 0).toNat:Int)>57))&&(((s.data.getD i 0).toNat:Int) !=45)):=rfl;generalize ((s.data.getD i 0).toNat:Int)=c at hok⊢;refine aq (λ hb2=> ?_) (λ hb2=> ?_)
  .refine zw ?_;have hn:fb s=false:=by unfold fb;rw[show((List.range s.size).all λ j=>sQ (s.data.getD j 0))=false from List.all_eq_false.2 ⟨i,tx.2 hi,by rw[hok];revert hb2;simp;omega⟩,gV]
   rw[hn]
  .refine zw ?_;refine hK _ (i+1) (Gh.fB ?_) ⟨hi,λ j hj=> ?_⟩ (by omega)
   .simp only[bz hi (by omega),dT,gO,gN,gQ]
   .rcases iw j i with h|h
    .exact h2 j h
    .rw[show j=i from by omega,hok];revert hb2;simp;omega
 .refine zw ?_;have hi:i=s.size:=by
   have:¬(i:Int)<s.size:=by simpa using hge
   omega
  have hn:fb s=true:=by unfold fb;rw[show((List.range s.size).all λ j=>sQ (s.data.getD j 0))=true from jh.2 λ j hj=>h2 j (by rw[hi];exact tx.1 hj),ec,hsz]
  rw[hn]
theorem Dt (k n:Int) (s:ByteArray) (hs:s.size<2^62):ah prog 83 [.f (.agg [di k,di n,dS s])] (λ r o=>r=[rb (jq k n s)]/\o=[]):=by
 refine zh func83 results83 ntmps83 call83 ?_;simp only[f83,Option.getD]
 repeat'(first|exact zC|refine sa ?_|((first|((try refine eH ?_);apply eb)|(apply fm;intro _));(solve|exact(C4 _ hs)|(refine ah.le (C4 _ hs) ?_;exact zM)|fail);try case hn=>rfl)|((first|((try refine eH ?_);apply eb)|(apply fm;intro _));(solve|exact(vL _ _)|(refine ah.le (vL _ _) ?_;exact zM)|fail);try case hn=>rfl)|(apply aq<;>intro hb)|(apply I;exact zI)|(apply I<;>intro hg))
 all_goals refine congrArg (λ b=>[rb b]) ?_
 all_goals simp only[iz,kU,kt]at*
 all_goals first
  |(exfalso;omega)
  |(subst_vars;unfold jq;generalize (s.toList==(⟨#[]⟩:ByteArray).toList)=q;generalize fb s=p;cases q<;>cases p<;>simp;done)
  |(have e:(decide (k<1)||decide (k>6))=true:=(by simp;omega);unfold jq;rw[aj e])
theorem xi (r:aX) (hr:r.ok):ah prog 43 [.f (.agg (r.enc.map C.d))] (λ x o=>x=[rb (aX.may r)]/\o=[]):=by
 refine zh func43 results43 ntmps43 call43 ?_;simp only[f43,Option.getD]
 repeat'(first|exact zC|refine sa ?_|((first|((try refine eH ?_);apply eb)|(apply fm;intro _));(solve|exact(Dt _ _ _ hr.2.2.2.2)|(refine ah.le (Dt _ _ _ hr.2.2.2.2) ?_;exact zM)|fail);try case hn=>rfl)|((first|((try refine eH ?_);apply eb)|(apply fm;intro _));(solve|exact(vL _ _)|(refine ah.le (vL _ _) ?_;exact zM)|fail);try case hn=>rfl)|(apply aq<;>intro hb)|(apply I;exact zI)|(apply I<;>intro hg))
 simp[aX.may,eJ]
theorem Ou:∀(a b:List UInt8),(Go.Op.bytesLess a b||a==b)= !(Go.Op.bytesLess b a)
 |[],[]=>rfl
 |[],y::ys=>rfl
 |x::xs,[]=>rfl
 |x::xs,y::ys=>by
  have ih:=Ou xs ys;rw[Go.Op.bytesLess,Go.Op.bytesLess];rw[show((x::xs:List UInt8)==y::ys)=(x==y&&xs==ys) from rfl];have htri:x<y∨x=y∨y<x:=by
   rcases Nat.lt_trichotomy x.toNat y.toNat with h|h|h
   .exact .inl (UInt8.lt_iff_toNat_lt.2 h)
   .exact .inr (.inl (UInt8.toNat_inj.1 h))
   .exact .inr (.inr (UInt8.lt_iff_toNat_lt.2 h))
  rcases htri with h|h|h
  .have h2:¬y<x:=UInt8.lt_asymm h;have h3:(y==x)=false:=by simp;intro e;subst e;exact absurd h (UInt8.lt_irrefl _)
   simp[h,h2,h3]
  .subst h;have h2:¬x<x:=UInt8.lt_irrefl _;simp only[h2,decide_false,lR,wo,ec];exact ih
  .have h2:¬x<y:=UInt8.lt_asymm h;have h3:(x==y)=false:=by simp;intro e;subst e;exact absurd h (UInt8.lt_irrefl _)
   simp[h,h2,h3]
def D7 (r:eh):Bool:=decide (r.code<0)||decide (r.code>12)|| !(decide (r.br≥0)&&decide (r.br≤2305843009213693952))||decide (r.ahead<0)||decide (r.ahead>3)||decide ((r.held.length:Int)>4)||r.br==0&&decide ((r.held.length:Int)>0)
theorem Iz (r:eh):fR r=(!(D7 r)&&eD (i5 r.held) 0 r.held):=by
 have h1:(decide (r.br≥0)&&decide (r.br≤2305843009213693952))= !(decide (r.br<0)||decide (r.br>bj)):=by have hH:bj=2305843009213693952:=rfl;rw[nK];simp[hH]
 unfold fR D7;rw[h1];generalize decide (r.code<0)=a1;generalize decide (r.code>12)=a2;generalize decide (r.br<0)=a3;generalize decide (r.br>bj)=a4;generalize decide (r.ahead<0)=a5;generalize decide (r.ahead>3)=a6;generalize decide ((r.held.length:Int)>4)=a7;generalize (r.br==0)=a8;generalize decide ((r.held.length:Int)>0)=a9;generalize eD (i5 r.held) 0 r.held=a0;cases a1<;>cases a2<;>cases a3<;>cases a4<;>cases a5<;>cases a6<;>first|rfl|(cases a7<;>cases a8<;>cases a9<;>rfl)
theorem E0 (r:eh) (hr:ik r):ah prog 84 [.f (.agg r.aC)] (λ x o=>x=[rb (fR r)]/\o=[]):=by
 refine zh func84 results84 ntmps84 call84 ?_;simp only[f84,Option.getD];obtain⟨h1,h2⟩:=hr;have hh:=vL r.br 0
 repeat'(first|exact zC|refine fX ?_|refine zx (hh) ?_|(apply aq<;>intro hb)|(apply I;exact zI)|(apply I<;>intro hg))
 .rw[Iz,show D7 r=true from hb];rfl
 .have hs:fR r=eD (i5 r.held) 0 r.held:=by rw[Iz,show D7 r=false from hb];rfl
  rw[hs];clear hb;refine bq (τ:=Nat) (λ i=>⟨(dd::cd 1::dd::ai i::b8 (b8 [])),[(1,⟨2,[aW 1 [di r.code,di r.br,di r.ahead, .aC r.held.length (dV r.held)],none,none,none,none]⟩),(4,⟨2,[]⟩)]⟩)
   (λ i=>i≤r.held.length) (λ i=>eD (i5 r.held) i (r.held.drop i)) (λ i=>r.held.length - i) 0
   (Gh.canon [1] [4] [] zK rfl rfl) (bc _) ?_
  intro i hi0 hF K hK;rw[cC]at hF;refine zw ?_;refine aq (λ hlt=> ?_) (λ hge=> ?_)
  .have hi:i<r.held.length:=by simpa using hlt
   have hat:=oU hi;have hw:=bz hi (by omega);rw[gJ hi]at hF;have hnm:=C4 r.held[i].name (h2 _ (cb hi));have hhg:=vL r.held[i].token 1;have hH:(decide (r.held[i].token≥1)&&decide (r.held[i].token≤2305843009213693952))= !(decide (r.held[i].token<1)||decide (r.held[i].token>bj)):=by have hH:bj=2305843009213693952:=rfl;rw[nK];simp[hH]
   cases e0:decide ((i:Int)>0)
   .have h0:i=0:=by simpa using e0
    have hq:i5 r.held i r.held[i]= !(!fb r.held[i].name|| !(decide (r.held[i].token≥1)&&decide (r.held[i].token≤2305843009213693952))):=by
     unfold i5;have:decide (i>0)=false:=by simpa using e0
     rw[this,gV,nR,hH,uH,Bool.or_assoc]
    have hp:(dV r.held).drop ((IntKind.i64.wrap ((i:Int) - 1)).toNat*2)=r.held[i].enc++dV (r.held.drop (i+1)):=by rw[←oU hi,h0];rfl
    repeat'(first|exact zC|refine zq (I hat (I hp (I e0 (I @cI bw)))) ?_|refine zx (hnm) ?_|refine zx (hhg) ?_|(apply aq<;>intro hb)|(apply I;exact zI)|(apply I<;>intro hg))
    .rw[hq,hb,aa (by simp)]at hF;rw[←hF]
    .exact hK _ (i+1) (Gh.canon [1] [] [] (zk hw) rfl rfl) hi (by rw[gJ hi,hq,hb];rfl) (by omega)
   .have h0:0<i:=by simpa using e0
    have hq:i5 r.held i r.held[i]= !(!fb r.held[i].name|| !(decide (r.held[i].token≥1)&&decide (r.held[i].token≤2305843009213693952))||(Go.Op.bytesLess r.held[i].name.toList (r.held[i - 1]'(by omega)).name.toList||r.held[i].name.toList==(r.held[i - 1]'(by omega)).name.toList)):=by
     rw[Ou];unfold i5 xT;have:decide (i>0)=true:=by simpa using e0
     rw[this,dG (by omega),hH,uH];simp only[ec,im,ku,Bool.or_assoc]
    have hp:=oU (show i - 1<r.held.length by omega);have hw1:IntKind.i64.wrap ((i:Int) - 1)=((i - 1:Nat):Int):=by rw[wrap64 (by omega) (by omega)];omega
    repeat'(first|exact zC|refine zq (I hat (I hp (I hw1 (I e0 (I @cI bw))))) ?_|refine zx (hnm) ?_|refine zx (hhg) ?_|(apply aq<;>intro hb)|(apply I;exact zI)|(apply I<;>intro hg))
    .rw[hq,hb,aa (by simp)]at hF;rw[←hF]
    .exact hK _ (i+1) (Gh.canon [1] [] [] (zk hw) rfl rfl) hi (by rw[gJ hi,hq,hb];rfl) (by omega)
  .have hi:i=r.held.length:=by
    have:¬(i:Int)<r.held.length:=by simpa using hge
    omega
   rw[q9 hi]at hF;rw[←hF];exact bA trivial
theorem yT (m:bN) (hr:ik m.bd):ah prog 44 [.f (.agg m.aC)] (λ x o=>x=[rb (eB m)]/\o=[]):=by refine zh func44 results44 ntmps44 call44 ?_;simp only[f44,Option.getD];have hh:=vL m.seq 1;refine zL trivial (I (hh) (E0 m.bd hr)) ?_;simp[eB,eJ]
end Go.Proofs.YtliimajkpggbhaaGreat
