import Derived.Test.YtjdbaocjeeficaaGreatCK
set_option maxHeartbeats 8000000
namespace Go.Proofs.YtjdbaocjeeficaaGreat
open Go.Pk Tryz
set_option maxRecDepth 100000
set_option linter.unusedSimpArgs false
set_option linter.unusedVariables false
def n8 (ns:List Int) (i j:Nat):Int:=if j<i then ns.getD j 0 else 0
abbrev nj (ns:List Int) (i:Nat):List C:=(List.range 8).map λ j=>di (n8 ns i j)
theorem Er (ns:List Int) {i:Nat} (hi:i<8):(nj ns i).set i (di (ns.getD i 0))=nj ns (i+1):=by
 refine lD λ k=> ?_
 rw[kJ];simp only[nj,fG,List.length_range,eK];by_cases hk:i=k
 .subst hk;rw[ao rfl,ao hi,List.getElem?_range hi];simp[n8]
 .rw[aj hk];by_cases h8:k<8
  .rw[List.getElem?_range h8];simp only[fZ,n8];have:(k<i)=(k<i+1):=by rw[eq_iff_iff];omega
   simp only[this]
  .rw[mO (by simp;omega)];rfl
abbrev rR:List (Option aM):=[none,none,none,none,none,none,none,none]
theorem DR {i:Nat} (hi:i<8):rR.set i none=rR:=by rcases(show i=0∨i=1∨i=2∨i=3∨i=4∨i=5∨i=6∨i=7 by omega)with rfl|rfl|rfl|rfl|rfl|rfl|rfl|rfl<;>rfl
theorem Ed {ns:List Int} {i:Nat} (h:i=8∨i=ns.length):nj ns i=[di (ns.getD 0 0),di (ns.getD 1 0),di (ns.getD 2 0),di (ns.getD 3 0),di (ns.getD 4 0),di (ns.getD 5 0),di (ns.getD 6 0),di (ns.getD 7 0)]:=by
 have:∀j,j<8->n8 ns i j=ns.getD j 0:=λ j hj=>by
  unfold n8;split
  .rfl
  .rename_i hn;rcases h with rfl|rfl
   .omega
   .rw[fe,mO (by omega)];rfl
 show [di (n8 ns i 0),di (n8 ns i 1),di (n8 ns i 2),di (n8 ns i 3),di (n8 ns i 4),di (n8 ns i 5),di (n8 ns i 6),di (n8 ns i 7)]=_;rw[this 0 (by decide),this 1 (by decide),this 2 (by decide),this 3 (by decide),this 4 (by decide),this 5 (by decide),this 6 (by decide),this 7 (by decide)]
theorem ET {b m N:Int} (h1:1≤b) (h2:N≤m) (h3:N≤16*b):dG b m N 21 0≤4:=by
 have h4:¬dR b m 4<N:=by unfold dR;rw[show(2:Int)^4=16 by rfl];omega
 have s:∀f v,dG b m N (f+1) v=if dR b m v<N then dG b m N f (v+1)else v:=λ _ _=>rfl
 rw[s 20 0];split
 .rw[s 19];split
  .rw[s 18];split
   .rw[s 17];split
    .rw[s 16,aj h4];exact Nat.le_refl _
    .omega
   .omega
  .omega
 .omega
theorem E2 {b m N:Int} {v:Nat} (h:N≤m):(dR b m v<N)=(b*2^v<N):=by unfold dR;rw[eq_iff_iff];omega
theorem Br (ns:List Int) (hl:ns.length<2^60) (hn:∀n∈ns,fH n):∃c N r,dU c N r/\c.bg≤300000/\ag prog 14 [.f (al ns.length (fB ns))] (λ r o=>r=[.agg (c.enc.map RO.d), .agg (bB.enc.map RO.d)]/\o=[]):=by
 have hb:∀j,0≤ns.getD j 0/\ns.getD j 0≤255:=λ j=>by
  rw[fe];cases h:ns[j]? with
  |none=>exact⟨by decide,by decide⟩
  |some x=>exact hn _ (kF h)
 have b0:=hb 0;have b1:=hb 1;have b2:=hb 2;have b3:=hb 3;have b4:=hb 4;have b5:=hb 5;have b6:=hb 6;have b7:=hb 7;obtain⟨m0,hm0,hm02⟩:∃x:Int,(0≤x/\x<4)/\(ns.getD 0 0).tmod 4=x:=⟨_,by rw[jS b0.1];omega,rfl⟩;obtain⟨R,rest,hR,hR2⟩:∃R rest,(R=1∨R=3)/\List.drop m0.toNat [di 3,di 3,di 3,di 1]=di R::rest:=by
  rcases(show m0=0∨m0=1∨m0=2∨m0=3 by omega)with rfl|rfl|rfl|rfl
  .exact⟨3,_, .inr rfl,rfl⟩
  .exact⟨3,_, .inr rfl,rfl⟩
  .exact⟨3,_, .inr rfl,rfl⟩
  .exact⟨1,_, .inl rfl,rfl⟩
 obtain⟨cl,hcl,hcl2⟩:∃x:Int,(1≤x/\x≤3)/\W (1+(ns.getD 1 0).tmod 3)=x:=⟨_,by rw[jS b1.1];simp only[W];rw[wrap64 (by omega) (by omega)];omega,rfl⟩;obtain⟨bt,hbt,hbt2⟩:∃x:Int,(50≤x/\x≤305)/\W (50+ns.getD 2 0)=x:=⟨_,by simp only[W];rw[wrap64 (by omega) (by omega)];omega,rfl⟩;obtain⟨wt,hwt,hwt2⟩:∃x:Int,(0≤x/\x≤119)/\(ns.getD 3 0).tmod 120=x:=⟨_,by rw[jS b3.1];omega,rfl⟩;obtain⟨sw,hsw,hsw2⟩:∃x:Int,(100≤x/\x≤355)/\W (100+ns.getD 4 0)=x:=⟨_,by simp only[W];rw[wrap64 (by omega) (by omega)];omega,rfl⟩;obtain⟨rt,hrt,hrt2⟩:∃x:Int,(200≤x/\x≤455)/\W (200+ns.getD 5 0)=x:=⟨_,by simp only[W];rw[wrap64 (by omega) (by omega)];omega,rfl⟩;obtain⟨kp,hkp,hkp2⟩:∃x:Int,(200≤x/\x≤710)/\W (200+W (2*ns.getD 6 0))=x:=⟨_,by simp only[W];rw[wrap64 (n:=2*_) (by omega) (by omega),wrap64 (by omega) (by omega)];omega,rfl⟩;obtain⟨N,hN,hN2⟩:∃x:Int,x=2*(5400+8*bt+2*sw+2*wt)/\W (2*W (W (W (5400+W (8*bt))+W (2*sw))+W (2*wt)))=x:=⟨_,rfl,by simp(disch:=omega) only[W,wrap64]⟩;obtain⟨m7,hm7,hm72⟩:∃x:Int,(x=0∨x=1∨x=2∨x=3)/\(ns.getD 7 0).tmod 4=x:=⟨_,by rw[jS b7.1];omega,rfl⟩;have hu:IntKind.u64.wrap m7=m7:=by rcases hm7 with rfl|rfl|rfl|rfl<;>decide
 have hm7n:¬m7<0:=by omega
 obtain⟨bs,hbs,hbs2⟩:∃x:Int,(1≤x/\x≤N/\N≤16*x)/\Int.fdiv N (2^min (Int.toNat m7) IntKind.i64.bits)=x:=by
  refine⟨_, ?_,rfl⟩;have:IntKind.i64.bits=64:=rfl;rw[this,Int.fdiv_eq_ediv_of_nonneg _ (by exact Int.le_of_lt (Int.pow_pos (by decide)))];rcases hm7 with rfl|rfl|rfl|rfl
  .rw[show(2:Int)^min (Int.toNat 0) 64=1 by decide];omega
  .rw[show(2:Int)^min (Int.toNat 1) 64=2 by decide];omega
  .rw[show(2:Int)^min (Int.toNat 2) 64=4 by decide];omega
  .rw[show(2:Int)^min (Int.toNat 3) 64=8 by decide];omega
 obtain⟨cp,hcp,hcp2⟩:∃x:Int,(N≤x/\x≤N+255)/\W (N+ns.getD 7 0)=x:=⟨_,by simp only[W];rw[wrap64 (by omega) (by omega)];omega,rfl⟩;obtain⟨r,hr,hr2⟩:∃x:Nat,x≤4/\dG bs cp N 21 0=x:=⟨_,ET hbs.1 hcp.1 hbs.2.2,rfl⟩;obtain⟨ls,hls,hls2⟩:∃x:Int,(((r:Int)+R+4)*N+4*(kp+rt*(R+1))≤x/\x≤300000)/\W (W (W (W (W (r+R)+4)*N)+W (4*W (kp+W (rt*W (R+1)))))+ns.getD 6 0)=x:=by refine⟨_, ?_,rfl⟩;rcases hR with e|e<;>rw[e]<;>rcases(show r=0∨r=1∨r=2∨r=3∨r=4 by omega)with e|e|e|e|e<;>rw[e]<;>simp(disch:=omega) only[W,wrap64]<;>omega
 refine⟨⟨R,cl,ls,100,bs,cp,bt,wt,sw,rt,kp⟩,N,r,⟨hR,hcl,rfl,hbt,hsw,hwt,hrt,hkp,hN,⟨hbs.1,hbs.2.1⟩,hcp,⟨hr2,hr⟩,⟨hls.1,by simp only;omega⟩⟩,hls.2, ?_⟩;refine bR bm mixed (T:=Ty) (n:=126) func14 (c:=f14.body.getD .skip) rfl results14 ntmps14 call14 ?_;simp only[f14,Option.getD]
 repeat'(first|(with_reducible first|refine ay _ _ ?_|refine aD ?_|refine aE ?_)|rw[aB]|simp only[zY,Int.reduceEq,Int.reduceBEq,Int.reduceBNe,Nat.reduceSub,Nat.reduceEqDiff,Nat.reduceAdd,Nat.reduceMul,Nat.reduceLeDiff,Nat.reduceLT,Nat.reduceBEq,reduceCtorEq]|refine aC ?_|refine aA (λ hb=> ?_) (λ hb=> ?_)|(refine And.intro ?_ ?_;exact zJ)|refine And.intro (λ hg=> ?_) (λ hg=> ?_)|exact zC|fail)
 refine gI Ty prog (τ:=Nat) (λ i=>⟨[al ns.length (fB ns),dd, .one (.ptr ⟨2,0,1⟩ 0), .one (.ptr ⟨3,0,1⟩ 0), .one (.ptr ⟨4,0,1⟩ 0),ai i,dd,dd,dd,dd,dd,dd,dd,dd,dd,dd,dd,dd,dd,dd,dd,dd,dd,dd,dd,dd,dd,dd,dd,dd,dd,dd,dd,dd,dd,dd,dd,dd,dd,dd,dd,dd,dd,dd,dd,dd,dd,dd,dd,dd,dd,dd,dd,dd,dd,dd,dd,dd,dd,dd,dd,dd,dd,dd,dd,dd,dd,dd,dd,dd,dd,dd,dd,dd,dd,dd,dd,dd,dd,dd,dd,dd,dd,dd,dd,dd,dd,dd,dd,dd,dd,dd,dd,dd,dd,dd,dd,dd,dd,dd,dd,dd,dd,dd,dd,dd,dd,dd,dd,dd,dd,dd,dd,dd,dd,dd,dd,dd,dd,dd,dd,dd,dd,dd,dd,dd],[(2,{next:=2,l:=[some {e:=1,var:=true,fz:=false,sz:=0,cells:=[di 0,di 0,di 0,di 0,di 0,di 0,di 0,di 0,di 0,di 0,di 0]},none,none,none,none,none,none,none,none,none,none,none]}),(3,{next:=2,l:=[some {e:=1,var:=true,fz:=false,sz:=0,cells:=[di 0,di 0,di 0]},none,none,none]}),(4,{next:=2,l:=some {e:=1,var:=true,fz:=false,sz:=0,cells:=nj ns i}::rR})]⟩) (λ i=>i≤8/\i≤ns.length) (λ i=>8 - i) 0
  (Gh.canon [2,3,4] [] [] zK rfl rfl) ⟨by decide,kC _⟩ ?_
 intro i ⟨hi8,hil⟩ K hK;simp only at hi8 hil hK⊢;cases hlt:(decide ((i:Int)<(ns.length:Int))&&decide ((i:Int)<8))
 .have hi:i=8∨i=ns.length:=by simp at hlt;omega
  rw[Ed hi];clear hK;generalize ns.getD 0 0=x0 at*;generalize ns.getD 1 0=x1 at*;generalize ns.getD 2 0=x2 at*;generalize ns.getD 3 0=x3 at*;generalize ns.getD 4 0=x4 at*;generalize ns.getD 5 0=x5 at*;generalize ns.getD 6 0=x6 at*;generalize ns.getD 7 0=x7 at*;simp only[W]at hcl2 hbt2 hsw2 hrt2 hkp2 hN2 hcp2 hls2;have h96:¬(96:Int)=0:=by decide
  have d1:IntKind.i64.wrap (Int.tdiv 96 96)=1:=by decide
  have d2:IntKind.i64.wrap (1+1)=2:=by decide
  have d3:IntKind.i64.wrap (12*2)=24:=by decide
  have d4:IntKind.i64.wrap (24+30)=54:=by decide
  have d5:IntKind.i64.wrap (100*54)=5400:=by decide
  have hm0a:((m0.toNat≤4):Prop):=by omega
  repeat'(first|(with_reducible first|refine ay _ _ ?_|refine aD ?_|refine aE ?_)|rw[aB]|simp only[hlt,hm02,hR2,hcl2,hbt2,hwt2,hsw2,hrt2,hkp2,aj h96,d1,d2,d3,d4,d5,hN2,hm72,hu,aj hm7n,hbs2,hcp2,Int.reduceToNat,lL,jX,zY,Int.reduceEq,Int.reduceBEq,Int.reduceBNe,Nat.reduceSub,Nat.reduceEqDiff,Nat.reduceAdd,Nat.reduceMul,Nat.reduceLeDiff,Nat.reduceLT,Nat.reduceBEq,reduceCtorEq]|refine aC ?_|refine aA (λ hb=> ?_) (λ hb=> ?_)|(refine And.intro ?_ ?_;exact zJ)|refine And.intro (λ hg=> ?_) (λ hg=> ?_)|exact zC|fail)
  refine gI Ty prog (τ:=Nat×Int) (λ t=>⟨[dd,dd, .one (.ptr ⟨2,0,1⟩ 0), .one (.ptr ⟨3,0,1⟩ 0), .one (.ptr ⟨4,0,1⟩ 0),dd, .one (.ptr ⟨6,0,1⟩ 0), .one (.ptr ⟨7,0,1⟩ 0),ai N,ai t.1,ai t.2,dd,dd,dd,dd,dd,dd,dd,dd,dd,dd,dd,dd,dd,dd,dd,dd,dd,dd,dd,dd,dd,dd,dd,dd,dd,dd,dd,dd,dd,dd,dd,dd,dd,dd,dd,dd,dd,dd,dd,dd,dd,dd,dd,dd,dd,dd,dd,dd,dd,dd,dd,dd,dd,dd,dd,dd,dd,dd,dd,dd,dd,dd,dd,dd,dd,dd,dd,dd,dd,dd,dd,dd,dd,dd,dd,dd,dd,dd,dd,dd,dd,dd,dd,dd,dd,dd,dd,dd,dd,dd,dd,dd,dd,dd,dd,dd,dd,dd,dd,dd,dd,dd,dd,dd,dd,dd,dd,dd,dd,dd,dd,dd,dd,dd,dd],[(2,{next:=2,l:=[some {e:=1,var:=true,fz:=false,sz:=0,cells:=[di 0,di 0,di 0,di 0,di 0,di 0,di 0,di 0,di 0,di 0,di 0]},none,none,none,none,none,none,none,none,none,none,none]}),(3,{next:=2,l:=[some {e:=1,var:=true,fz:=false,sz:=0,cells:=[di 0,di 0,di 0]},none,none,none]}),(4,{next:=2,l:=[some {e:=1,var:=true,fz:=false,sz:=0,cells:=[di x0,di x1,di x2,di x3,di x4,di x5,di x6,di x7]},none,none,none,none,none,none,none,none]}),(6,{next:=2,l:=[some {e:=1,var:=true,fz:=false,sz:=0,cells:=[di 96,di 96,di 100]},none,none,none]}),(30,⟨2,[]⟩),(7,{next:=2,l:=[some {e:=1,var:=true,fz:=false,sz:=0,cells:=[di R,di cl,di 0,di 100,di bs,di cp,di bt,di wt,di sw,di rt,di kp]},none,none,none,none,none,none,none,none,none,none,none]})]⟩)
   (λ t=>t.1≤20/\t.2=bs*2^t.1/\dG bs cp N (21 - t.1) t.1=r) (λ t=>21 - t.1) (0,bs) (Gh.canon [2,3,4,6,7] [] [] zK rfl rfl) ⟨kC 20,by simp only[Int.pow_zero,Int.mul_one],hr2⟩ ?_
  intro⟨k,t⟩ ⟨hk,ht,hre⟩ K2 hK2;simp only at hk ht hre hK2⊢;have hst:dG bs cp N (21 - k) k=if dR bs cp k<N then dG bs cp N (20 - k) (k+1)else k:=by rw[show 21 - k=(20 - k)+1 by omega,dG]
  have hto:=E2 (b:=bs) (v:=k) hcp.1;rw[←ht]at hto;rw[hre]at hst;cases hq:decide (t<N)
  .rw[aj (by rw[hto];simpa using hq)]at hst;rw[hst]at hls2
   repeat'(first|(with_reducible first|refine ay _ _ ?_|refine aD ?_|refine aE ?_)|rw[aB]|simp only[hq,hls2,Int.reduceToNat,lL,jX,zY,Int.reduceEq,Int.reduceBEq,Int.reduceBNe,Nat.reduceSub,Nat.reduceEqDiff,Nat.reduceAdd,Nat.reduceMul,Nat.reduceLeDiff,Nat.reduceLT,Nat.reduceBEq,reduceCtorEq]|refine aC ?_|refine aA (λ hb=> ?_) (λ hb=> ?_)|(refine And.intro ?_ ?_;exact zJ)|refine And.intro (λ hg=> ?_) (λ hg=> ?_)|exact zC|fail)
   rfl
  .have hlt2:t<N:=by simpa using hq
   rw[ao (by rw[hto];exact hlt2)]at hst;have hk20:k<20:=by
    rcases fg k 20 with h|h
    .exact h
    .rw[show k=20 by omega,show(2:Int)^20=1048576 by rfl]at ht;omega
   have h2:bs*2^(k+1)=2*t:=by rw[ht,Int.pow_succ,←Int.mul_assoc,Int.mul_comm _ 2]
   have h0:0≤t:=by rw[ht];exact Int.mul_nonneg (by omega) (Int.le_of_lt (Int.pow_pos (by decide)))
   have w1:IntKind.i64.wrap (2*t)=2*t:=wrap64 (by omega) (by omega);have w2:=ij (n:=20) hk20 (by decide)
   repeat'(first|(with_reducible first|refine ay _ _ ?_|refine aD ?_|refine aE ?_)|rw[aB]|simp only[hq,zY,Int.reduceEq,Int.reduceBEq,Int.reduceBNe,Nat.reduceSub,Nat.reduceEqDiff,Nat.reduceAdd,Nat.reduceMul,Nat.reduceLeDiff,Nat.reduceLT,Nat.reduceBEq,reduceCtorEq]|refine aC ?_|refine aA (λ hb=> ?_) (λ hb=> ?_)|(refine And.intro ?_ ?_;exact zJ)|refine And.intro (λ hg=> ?_) (λ hg=> ?_)|exact zC|fail)
   exact hK2 _ (k+1,2*t) (Gh.canon [2,3,4,6,7] [] [] (by simp only[w1,w2,cw,cC,cG,cB,cE,cF,cD,cm,cn,cc,ca,cA,cJ,D.v.injEq,cH];try(repeat'(first|rfl|omega|with_reducible apply And.intro))) rfl rfl) ⟨by simp only;omega,h2.symm,by simp only;rw[show 21 - (k+1)=20 - k by omega];exact hst.symm⟩ (by simp only;omega)
 .have hi:i<8/\i<ns.length:=by simp at hlt;omega
  have hat:=tO hi.2;have hcv:IntKind.i64.wrap (ns.getD i 0)=ns.getD i 0:=wrap64 (by have:=hb i;omega) (by have:=hb i;omega);have hw:=ij (n:=8) hi.1 (by decide);have hset:=Er ns hi.1;have hno:=DR hi.1
  repeat'(first|(with_reducible first|refine ay _ _ ?_|refine aD ?_|refine aE ?_)|rw[aB]|simp only[hlt,hat,gE,hcv,List.length_range,hset,cn,hno,zY,Int.reduceEq,Int.reduceBEq,Int.reduceBNe,Nat.reduceSub,Nat.reduceEqDiff,Nat.reduceAdd,Nat.reduceMul,Nat.reduceLeDiff,Nat.reduceLT,Nat.reduceBEq,reduceCtorEq]|refine aC ?_|refine aA (λ hb=> ?_) (λ hb=> ?_)|(refine And.intro ?_ ?_;exact zJ)|refine And.intro (λ hg=> ?_) (λ hg=> ?_)|exact zC|fail)
  exact hK _ (i+1) (Gh.canon [2,3,4] [] [] (by simp only[hw,cw,cC,cG,cB,cE,cF,cD,cm,cn,cc,ca,cA,cJ,D.v.injEq,cH];try(repeat'(first|rfl|omega|with_reducible apply And.intro))) rfl rfl) ⟨hi.1,hi.2⟩ (by omega)
theorem Bf (ns:List Int) (hl:ns.length<2^60) (hn:∀n∈ns,fH n) (m:Int) (hm:0≤m/\m≤65535) (w:Int) (hw:fH w):
  ag prog 7 [.f (al ns.length (fB ns)), .f (.one (.d (.v (.int .u16 m)))), .f (.one (.d (uD w)))] (λ r o=>r=[rb true]/\o=[]):=by
 refine bR bm mixed (T:=Ty) (n:=154) func7 (c:=f7.body.getD .skip) rfl results7 ntmps7 call7 ?_;simp only[f7,Option.getD];obtain⟨c,N,r,h,hls,hs⟩:=Br ns hl hn;have haw:=sB;have hwm:IntKind.i64.wrap m=m:=wrap64 (by omega) (by omega);have f1:=kn c bB;rw[show gv c bB=true from h.fits]at f1;have l1:=nR c bB;have n1:=km c bB;rw[show dn c bB=N from h.mQ]at n1;have q1:decide (dX c bB>c.bg)=false:=by have:=h.bg.1;rw[show dX c bB=_ from h.least];simp;omega
 have q2:decide (N>c.cap)=false:=by have:=h.cap.1;simp;omega
 have hNb:0≤N/\N≤20000:=by obtain⟨h1,h2,h3,h4,h5,h6,h7,h8,h9,h10,h11,h12,h13⟩:=h;omega
 unfold fH at hw;have hwt:w.tmod 4=w % 4:=jS hw.1;have wa:IntKind.i64.wrap (c.bg+m)=c.bg+m:=wrap64 (by have:=h.bg;have hp:=h.may (d:=96) (by omega);simp only[bU,cR,dk,dh,dP,cg,dQ]at hp;omega) (by omega);have hlp:0≤dX c bB/\dX c bB≤400000:=by rw[show dX c bB=_ from h.least];obtain⟨h1,h2,h3,h4,h5,h6,h7,h8,h9,h10,h11,h12,h13⟩:=h;rcases h1 with e|e<;>rw[e]at h13⊢<;>(have:0≤((r:Int)+c.aU+4)*N:=Int.mul_nonneg (by omega) (by omega))<;>rw[e]at this<;>omega
 have wb:IntKind.i64.wrap (dX c bB - 1)=dX c bB - 1:=wrap64 (by omega) (by omega);have wc:IntKind.i64.wrap (N - 1)=N - 1:=wrap64 (by omega) (by omega);have wd:IntKind.i64.wrap (bB.d+m)=96+m:=by rw[show bB.d=96 from rfl,wrap64 (by omega) (by omega)]
 have f2:=kn ⟨c.aU,c.bQ,c.bg+m,c.cu,c.base,c.cap,c.bO,c.wait,c.bF,c.bN,c.aT⟩ bB;rw[show gv ⟨c.aU,c.bQ,c.bg+m,c.cu,c.base,c.cap,c.bO,c.wait,c.bF,c.bN,c.aT⟩ bB=true from(h.more hls hm).fits]at f2;have f3:=kn ⟨c.aU,c.bQ,dX c bB - 1,c.cu,c.base,c.cap,c.bO,c.wait,c.bF,c.bN,c.aT⟩ bB;rw[show gv ⟨c.aU,c.bQ,dX c bB - 1,c.cu,c.base,c.cap,c.bO,c.wait,c.bF,c.bN,c.aT⟩ bB=false from h.short]at f3;have f4:=kn ⟨c.aU,c.bQ,c.bg,c.cu,min c.base (N - 1),N - 1,c.bO,c.wait,c.bF,c.bN,c.aT⟩ bB;rw[show gv ⟨c.aU,c.bQ,c.bg,c.cu,min c.base (N - 1),N - 1,c.bO,c.wait,c.bF,c.bN,c.aT⟩ bB=false from h.low]at f4;have k1:=ml ⟨c.aU,c.bQ,c.bg+m,c.cu,c.base,c.cap,c.bO,c.wait,c.bF,c.bN,c.aT⟩ bB 0;have k2:=ml c bB 0;have k3:=ml c bB m;have k4:=km c ⟨96+m,96,100⟩;have k5:=ki c ⟨96+m,96,100⟩;have k6:=ki c bB;have k7:=lp c ⟨96+m,96,100⟩;have k8:=lp c bB;have k9:=pR c bB;obtain⟨g1,g2,g3,g4,g5⟩:=h.EZ hm;rw[h.mQ]at g1;have e1:=mH (show fU ⟨c.aU,c.bQ,c.bg+m,c.cu,c.base,c.cap,c.bO,c.wait,c.bF,c.bN,c.aT⟩ bB 0≥fU c bB 0 from h.ER hls hm);have e2:=mH (show dn c ⟨96+m,96,100⟩≥N from g1);have e3:=mH (show eM c ⟨96+m,96,100⟩≥eM c bB from g2);have e4:=mH (show gq c ⟨96+m,96,100⟩≥gq c bB from g3);have e5:=mH (show jM c bB>eM c bB from g4);have e6:(fU c bB m==IntKind.i64.wrap (fU c bB 0+m))=true:=by rw[gx];exact g5
 clear g1 g2 g3 g4 g5
 repeat'(first|(with_reducible first|refine ay _ _ ?_|refine aD ?_|refine aE ?_)|rw[aB]|simp only[q1,q2,hwt,hwm,wa,wb,wc,wd,e1,e2,e3,e4,e5,e6,zY,Int.reduceEq,Int.reduceBEq,Int.reduceBNe,Nat.reduceSub,Nat.reduceEqDiff,Nat.reduceAdd,Nat.reduceMul,Nat.reduceLeDiff,Nat.reduceLT,Nat.reduceBEq,reduceCtorEq]|((first|((try refine aQ ?_);apply aS)|(apply aR;intro _));(solve|exact(hs)|exact(f1)|exact(l1)|exact(n1)|exact(f2)|exact(f3)|exact(f4)|exact(k1)|exact(k2)|exact(k3)|exact(k4)|exact(k5)|exact(k6)|exact(k7)|exact(k8)|exact(k9)|exact(haw)|(refine ag.le (hs) ?_;exact zM)|(refine ag.le (f1) ?_;exact zM)|(refine ag.le (l1) ?_;exact zM)|(refine ag.le (n1) ?_;exact zM)|(refine ag.le (f2) ?_;exact zM)|(refine ag.le (f3) ?_;exact zM)|(refine ag.le (f4) ?_;exact zM)|(refine ag.le (k1) ?_;exact zM)|(refine ag.le (k2) ?_;exact zM)|(refine ag.le (k3) ?_;exact zM)|(refine ag.le (k4) ?_;exact zM)|(refine ag.le (k5) ?_;exact zM)|(refine ag.le (k6) ?_;exact zM)|(refine ag.le (k7) ?_;exact zM)|(refine ag.le (k8) ?_;exact zM)|(refine ag.le (k9) ?_;exact zM)|(refine ag.le (haw) ?_;exact zM)|fail);try case hn=>rfl)|refine aC ?_|refine aA (λ hb=> ?_) (λ hb=> ?_)|(refine And.intro ?_ ?_;exact zJ)|refine And.intro (λ hg=> ?_) (λ hg=> ?_)|exact zC|fail)
end Go.Proofs.YtjdbaocjeeficaaGreat
