import Derived.Test.YtliimajkpggbhaaGreatK9
import Derived.Test.YtliimajkpggbhaaGreatPB
set_option maxHeartbeats 8000000
namespace Go.Proofs.YtliimajkpggbhaaGreat
open Go.Pk Tryz
set_option maxRecDepth 100000
set_option linter.unusedSimpArgs false
set_option linter.unusedVariables false
theorem Kt (n:Int):ah prog 116 [.f (ai n)] (λ r o=>r=[rb (aZ n)]/\o=[]):=by refine zh func116 results116 ntmps116 call116 ?_;simp only[f116,Option.getD];refine Ew trivial ?_;rfl
theorem Dh (l:List Int) (hl:l.length<2^62):ah prog 75 [.f (al l.length (bt l))] (λ r o=>r=[rb (!l.any aZ)]/\o=[]):=by
 refine zh func75 results75 ntmps75 call75 ?_;simp only[f75,Option.getD]
 repeat'(first|exact zC|refine sa ?_|((first|((try refine eH ?_);apply eb)|(apply fm;intro _));(solve|exact(BV l hl aZ _ [] rfl rfl (λ x _=>Kt x))|(refine ah.le (BV l hl aZ _ [] rfl rfl (λ x _=>Kt x)) ?_;exact zM)|fail);try case hn=>rfl)|(apply aq<;>intro hb)|(apply I;exact zI)|(apply I<;>intro hg))
theorem b1 {q a b:Bool} (hg:(q==false)=false):(q||a||b)=true:=by cases q<;>simp_all
theorem b2 {q a b c:Bool} (h:(q|| !!a||b)=c):(q||a||b)=c:=by simpa using h
theorem b3 {q b:Bool} (hg:(q==false)=false) (hb:(q||b)=false):False:=by cases q<;>simp_all
theorem QW {x y:Int}:[x,y].any aZ=(aZ x||aZ y):=by simp
def kK (done:Int):Int->List ep->Bool
 |_,[]=>true
 |last,v::rest=>if(decide (v.slot≤last)||decide (v.slot - done>9)||(aZ v.slot||aZ v.aA)|| !Batch.may v.batch)=true then false else kK done v.slot rest
def cr.may (p:cr):Bool:=
 if(decide (p.src<0)||decide (p.src≥7)||[p.done,p.bB.view,p.bB.slot,p.time].any aZ||decide ((p.aM.length:Int)>9))=true then false else kK p.done p.done p.aM
theorem V8 (p:cr) (hok:p.ok):ah prog 37 [.f (.agg p.aC)] (λ r o=>r=[rb (cr.may p)]/\o=[]):=by
 have hlen:p.aM.length<2^42:=hok.2.2.2.2.2.1;have hv:∀v∈p.aM,v.ok:=hok.2.2.2.2.2.2;refine zh func37 results37 ntmps37 call37 ?_;simp only[f37,Option.getD]
 repeat'(first|exact zC|refine sa ?_|((first|((try refine eH ?_);apply eb)|(apply fm;intro _));(solve|exact(Dh [_,_,_,_] (by simp))|(refine ah.le (Dh [_,_,_,_] (by simp)) ?_;exact zM)|fail);try case hn=>rfl)|(apply aq<;>intro hb)|(apply I;exact zI)|(apply I<;>intro hg))
 .rw[cr.may,aj (b2 hb)]
 rotate_left
 .rw[cr.may,aj (b1 hg)]
 .exact(b3 hg hb).elim
 have hc:¬(decide (p.src<0)||decide (p.src≥7)||[p.done,p.bB.view,p.bB.slot,p.time].any aZ||decide ((p.aM.length:Int)>9))=true:=by rw[b2 hb];simp
 have hdone:0≤p.done:=by simp[aZ]at hc;omega
 have hm:cr.may p=kK p.done p.done p.aM:=by rw[cr.may,aa hc]
 rw[hm];refine zw ?_
 refine bq (τ:=Nat×Int×Nat×Nat) (λ t=>⟨(dd:: .one (.ptr ⟨1,0,0⟩ 0)::ab false::ai t.2.1::EL (al p.aM.length (eI p.aM)::ai p.aM.length::ai t.1::EG [])),
  [(1,{next:=7,l:=[aW 0 [di p.src,di p.done,di p.bB.view,di p.bB.slot,di p.time, .aC p.aM.length (eI p.aM)],none,none,none,none,none,none]}),(25,⟨1,[]⟩),(5,⟨t.2.2.1,[]⟩),(61,⟨t.2.2.2,[]⟩)]⟩)
  (λ t=>t.1≤p.aM.length/\p.done≤t.2.1) (λ t=>kK p.done t.2.1 (p.aM.drop t.1)) (λ t=>p.aM.length - t.1) (0,p.done,0,0) (Gh.fj [1] [5,61] ?_ rfl) ⟨bc _,Int.le_refl _⟩ ?_
 .simp only[dT,gO,gN,gQ,fV]
 intro⟨i,last,e5,e61⟩ ⟨hi0,hl0⟩ hF K hK;simp only at hi0 hl0 hF hK⊢;refine zw ?_;refine aq (λ hlt=> ?_) (λ hge=> ?_)
 .have hi:i<p.aM.length:=by simpa using hlt
  rw[cB hi,kK]at hF;have hat:=vM hi;simp only[dW,c5]at hat;have hvo:=hv _ (cb hi);have hw:(decide (p.aM[i].slot≤last)||decide (IntKind.i64.wrap (p.aM[i].slot - p.done)>9))=(decide (p.aM[i].slot≤last)||decide (p.aM[i].slot - p.done>9)):=by
   by_cases h:p.aM[i].slot≤last
   .simp[h]
   .have:=hvo.1;unfold i64 at this;rw[wrap64 (by omega) (by omega)]
  repeat'(first|exact zC|refine za (I @dg hat) ?_|((first|((try refine eH ?_);apply eb)|(apply fm;intro _));(solve|exact(Dh [_,_] (by simp))|(refine ah.le (Dh [_,_] (by simp)) ?_;exact zM)|fail);try case hn=>rfl)|((first|((try refine eH ?_);apply eb)|(apply fm;intro _));(solve|exact(xd _ hvo.2.2)|(refine ah.le (xd _ hvo.2.2) ?_;exact zM)|fail);try case hn=>rfl)|(apply aq<;>intro hb)|(apply I;exact zI)|(apply I<;>intro hg))
  all_goals rw[hw]at hb hg
  .rw[aj (by rw[←QW];exact b2 hb),cC]at hF;rw[←hF]
  .have hb':=b2 hb;rw[QW]at hb';rw[aa (by rw[hb'];simp)]at hF;have hsl:last<p.aM[i].slot:=by simp only[iP,gg]at hb';omega
   refine hK _ (i+1,p.aM[i].slot,_,_) (Gh.fj [1] [] ?_ rfl) ⟨hi,by simp only;omega⟩ (by simp only[cB hi,kK];rw[aa (by rw[hb'];simp)]) (by simp only;omega);simp only[bz hi (by omega),dT,gO,gN,gQ]
  .rw[aj (b1 hg),cC]at hF;rw[←hF]
  .exact(b3 hg hb).elim
 .have hi:i=p.aM.length:=by
   have:¬(i:Int)<p.aM.length:=by simpa using hge
   omega
  rw[hi,eL,cC,kK]at hF;refine zw ?_;rw[←hF]
theorem ZA (p:cr):(decide (p.src<0)||decide (p.src≥7)||[p.done,p.bB.view,p.bB.slot,p.time].any aZ||decide ((p.aM.length:Int)>9))=
  (decide (p.src<0)||decide (p.src≥7)|| !(decide (p.done≥0)&&decide (p.done≤bj))|| !oJ.may p.bB|| !(decide (p.time≥0)&&decide (p.time≤bj))||decide ((p.aM.length:Int)>9)):=by
 have h:∀n:Int,aZ n= !(decide (n≥0)&&decide (n≤bj)):=λ n=>by rw[←uH (b:=aZ n),Nh];rfl
 simp only[pB,rS,nR,oJ.may,pR,h,Bool.not_and,Bool.or_assoc]
theorem aaf {done s s' q L bl:Int} {i:Nat} {m:Bool} (hd:0≤done) (hl0:done≤L) (hwr:s≤done∨q=s - done) (hlast:L=if i=0 then done else s'):
  (!(decide (s≥1)&&decide (s≤bj))||decide (s≤done)||decide (q>9)||decide ((i:Int)>0)&&decide (s≤s')|| !(decide (bl≥0)&&decide (bl≤bj))|| !m)=
   (decide (s≤L)||decide (s - done>9)||(aZ s||aZ bl)|| !m):=by
 rw[nK];cases m<;>simp[aZ,bj];split at hlast<;>omega
def sS (p:cr) (i:Nat):Int:=if i=0 then p.done else(p.aM[i - 1]?.map ep.slot).getD 0
theorem VN (p:cr) (hok:p.ok):ah prog 45 [.f (.agg p.aC)] (λ r o=>r=[rb (cr.may p)]/\o=[]):=by
 have hlen:p.aM.length<2^42:=hok.2.2.2.2.2.1;have hv:∀v∈p.aM,v.ok:=hok.2.2.2.2.2.2;refine zh func45 results45 ntmps45 call45 ?_;simp only[f45,Option.getD]
 repeat'(first|exact zC|refine sa ?_|((first|((try refine eH ?_);apply eb)|(apply fm;intro _));(solve|exact(xo _ _)|(refine ah.le (xo _ _) ?_;exact zM)|fail);try case hn=>rfl)|refine zx (J2 p.bB) ?_|(apply aq<;>intro hb)|(apply I;exact zI)|(apply I<;>intro hg))
 all_goals have hC:(decide (p.src<0)||decide (p.src≥7)||[p.done,p.bB.view,p.bB.slot,p.time].any aZ||decide ((p.aM.length:Int)>9))=_:=((ZA p).trans hb)
 .rw[cr.may,aj hC]
 have hm:cr.may p=kK p.done p.done p.aM:=by rw[cr.may,aa (by rw[hC];simp)]
 have hdone:0≤p.done:=by simp[aZ]at hC;omega
 rw[hm];refine zw ?_
 refine bq (τ:=Nat×Nat) (λ t=>⟨(dd:: .one (.ptr ⟨1,0,0⟩ 0)::ab false::ai t.1::nT (b8 (b8 []))),
  [(1,{next:=7,l:=[aW 0 [di p.src,di p.done,di p.bB.view,di p.bB.slot,di p.time, .aC p.aM.length (eI p.aM)],none,none,none,none,none,none]}),(4,⟨t.2,[]⟩)]⟩)
  (λ t=>t.1≤p.aM.length/\p.done≤sS p t.1) (λ t=>kK p.done (sS p t.1) (p.aM.drop t.1)) (λ t=>p.aM.length - t.1) (0,0) (Gh.fj [1] [4] ?_ rfl) ⟨bc _,Int.le_refl _⟩ ?_
 .simp only[dT,gO,gN,gQ,fV]
 intro⟨i,e⟩ ⟨hi0,hl0⟩ hF K hK;simp only at hi0 hl0 hF hK⊢;refine zw ?_;refine aq (λ hlt=> ?_) (λ hge=> ?_)
 .have hi:i<p.aM.length:=by simpa using hlt
  rw[cB hi,kK]at hF;have hat:=vM hi;have hat2:=vM (show i - 1<p.aM.length by omega);simp only[dW,c5]at hat hat2;have hvo:=hv _ (cb hi);have hw1:IntKind.i64.wrap ((i:Int) - 1)=(i:Int) - 1:=wrap64 (by omega) (by omega);have hw2:((i:Int) - 1).toNat=i - 1:=by omega
  have hwr:p.aM[i].slot≤p.done∨IntKind.i64.wrap (p.aM[i].slot - p.done)=p.aM[i].slot - p.done:=by
   by_cases h:p.aM[i].slot≤p.done
   .exact .inl h
   .have:=hvo.1;unfold i64 at this;exact .inr (wrap64 (by omega) (by omega))
  have hlast:sS p i=if i=0 then p.done else p.aM[i - 1].slot:=by
   unfold sS;split
   .rfl
   .rw[dG (by omega)];rfl
  have hCC:=aaf (m:=Batch.may p.aM[i].batch) (bl:=p.aM[i].aA) hdone hl0 hwr hlast
  repeat'(first|exact zC|refine za (I @dg (I hat (I hat2 (I hw1 hw2)))) ?_|((first|((try refine eH ?_);apply eb)|(apply fm;intro _));(solve|exact(xo _ _)|(refine ah.le (xo _ _) ?_;exact zM)|fail);try case hn=>rfl)|((first|((try refine eH ?_);apply eb)|(apply fm;intro _));(solve|exact(wY _ hvo.2.2)|(refine ah.le (wY _ hvo.2.2) ?_;exact zM)|fail);try case hn=>rfl)|(apply aq<;>intro hb)|(apply I;exact zI)|(apply I<;>intro hg))
  all_goals rw[hCC]at hb
  .rw[aj hb,cC,show sS p 0=p.done from rfl]at hF;rw[←hF]
  .rw[aa (by rw[hb];simp)]at hF;have hl1:sS p (i+1)=p.aM[i].slot:=by simp[sS,hi]
   refine hK _ (i+1,_) (Gh.fj [1] [] ?_ rfl) ⟨hi, ?_⟩ (by simp only[cB hi,kK];rw[aa (by rw[hb];simp),hl1]) (by simp only;omega)
   .simp only[bz hi (by omega),dT,gO,gN,gQ]
   .show p.done≤sS p (i+1);rw[hl1];simp only[iP,gg]at hb;omega
 .have hi:i=p.aM.length:=by
   have:¬(i:Int)<p.aM.length:=by simpa using hge
   omega
  rw[hi,eL,cC,kK,show sS p 0=p.done from rfl]at hF;refine zw ?_;rw[←hF]
theorem xu {n:Int} (h:aZ n=false):0≤n/\n≤2305843009213693952:=by simp[aZ]at h;omega
theorem IU {done:Int}:∀{last:Int} {l:List ep},done≤last->kK done last l=true->∀v∈l,done<v.slot/\v.slot≤done+9/\aZ v.slot=false/\aZ v.aA=false/\Batch.may v.batch=true
 |last,[],_,_,v,hv=>by cases hv
 |last,w::l,hd,h,v,hv=>by
  rw[kK]at h;split at h
  .cases h
  .rename_i hc;simp only[pv,ir,kY,dX,Bb,Bool.not_eq_false]at hc;obtain⟨⟨⟨h1,h2⟩,h3,h4⟩,h5⟩:=hc;rcases cF.1 hv with rfl|hv
   .exact⟨by omega,by omega,h3,h4,h5⟩
   .exact IU (by omega) h v hv
structure wK (p:cr):Prop where
 src:0≤p.src/\p.src<7
 done:0≤p.done/\p.done≤2305843009213693952
 view:0≤p.bB.view/\p.bB.view≤2305843009213693952
 slot:0≤p.bB.slot/\p.bB.slot≤2305843009213693952
 time:0≤p.time/\p.time≤2305843009213693952
 len:p.aM.length≤9
 may:kK p.done p.done p.aM=true
 aM:∀v∈p.aM,p.done<v.slot/\v.slot≤p.done+9/\aZ v.slot=false/\aZ v.aA=false/\Batch.may v.batch=true
theorem AG {p:cr} (h:cr.may p=true):wK p:=by
 unfold cr.may at h;split at h
 .cases h
 .rename_i hc;simp only[pB,rS,nR,pv,kY,dX,Bb]at hc;obtain⟨⟨⟨h1,h2⟩,h3,h4,h5,h6⟩,h7⟩:=hc;exact⟨by omega,xu h3,xu h4,xu h5,xu h6,by omega,h,IU (Int.le_refl _) h⟩
def yr:Batch:=⟨true,0,⟨0,0⟩,0,[]⟩
theorem zD {a b:RO} {l m:List RO}:aY (a::l) (b::m)=(ak a b/\aY l m):=rfl
theorem zU:aY [] []=True:=rfl
def u8 (n:Int):Prop:=0≤n/\n<256
abbrev ru (n:Int):AV:= .one (.d (.v (.int .u8 n)))
def nameOf (k:Nat):ByteArray:=
 match k with
 |0=>⟨#[97]⟩|1=>⟨#[98]⟩|2=>⟨#[99]⟩|3=>⟨#[100]⟩|4=>⟨#[107,101,121,45,49]⟩|_=>⟨#[116,104,101,45,108,97,115,116,45,111,110,101]⟩
theorem nA {n:Int} (h:u8 n):IntKind.i64.wrap n=n:=wrap64 (by have:=h.1;omega) (by have:=h.2;omega)
theorem Kr (n:Int) (h:u8 n):ah prog 157 [.f (ru n)] (λ r o=>r=[.one (.d (sD (nameOf (n.toNat % 6))))]/\o=[]):=by
 refine zh func157 results157 ntmps157 call157 ?_;simp only[f157,Option.getD];have hw:=nA h;have ht:n.tmod 6=((n.toNat % 6:Nat):Int):=by rw[D8 h.1];have:=h.1;omega
 have hk:n.toNat % 6<6:=lX _ (by decide);rw[show nameOf (n.toNat % 6)=nameOf (n.toNat % 6) from rfl];generalize n.toNat % 6=k at ht hk;have hc:k=0∨k=1∨k=2∨k=3∨k=4∨k=5:=by omega
 rcases hc with rfl|rfl|rfl|rfl|rfl|rfl
 all_goals repeat'(first|with_reducible refine bH _ _ ?_|rw[dE]|simp only[zB,hw,ht,Int.reduceEq,rU,qu,yh,cC,gW,oB,Nat.reduceSub,Nat.reduceEqDiff,Nat.reduceAdd,Nat.reduceMul,Nat.reduceLeDiff,Nat.reduceLT,Nat.reduceBEq,reduceCtorEq]|refine eA ?_|refine aq (λ hb=> ?_) (λ hb=> ?_)|(refine And.intro ?_ ?_;exact zI)|refine And.intro (λ hg=> ?_) (λ hg=> ?_)|exact zC|fail)
 all_goals rfl
theorem qb {n:Int} {m:Nat} (h:u8 n) (hm:0<m):n.tmod m=((n.toNat % m:Nat):Int):=by
 rw[D8 h.1];have e:n=(n.toNat:Int):=by have:=h.1;omega
 rw[e,gW,Int.natCast_emod]
def lh (a b c:Int):Int×Int×ByteArray:=
 let k:Int:=1+((a.toNat % 6:Nat):Int)
 (k,if k=1 then 0 else 1+((b.toNat % 7:Nat):Int),if k=3∨k=4∨k=5 then nameOf (c.toNat % 6)else .empty)
theorem M0 (a b c:Int) (ha:u8 a) (hb:u8 b) (hc:u8 c):ah prog 108 [.f (ru a), .f (ru b), .f (ru c)]
  (λ r o=>r=[.agg [.d (iD (lh a b c).1), .d (iD (lh a b c).2.1), .d (sD (lh a b c).2.2)]]/\o=[]):=by
 refine zh func108 results108 ntmps108 call108 ?_;simp only[f108,Option.getD];have hwa:=nA ha;have hwb:=nA hb;have e6:=qb ha (m:=6) (by decide);have e7:=qb hb (m:=7) (by decide);have l6:a.toNat % 6<6:=lX _ (by decide);have l7:b.toNat % 7<7:=lX _ (by decide);have hw1:IntKind.i64.wrap (1+((a.toNat % 6:Nat):Int))=1+((a.toNat % 6:Nat):Int):=wrap64 (by omega) (by omega);have hw2:IntKind.i64.wrap (1+((b.toNat % 7:Nat):Int))=1+((b.toNat % 7:Nat):Int):=wrap64 (by omega) (by omega);rw[show((6:Nat):Int)=6 from rfl]at e6;rw[show((7:Nat):Int)=7 from rfl]at e7
 repeat'(first|with_reducible refine bH _ _ ?_|rw[dE]|simp only[zB,hwa,hwb,e6,e7,hw1,hw2,Int.reduceEq,Nat.reduceSub,Nat.reduceEqDiff,Nat.reduceAdd,Nat.reduceMul,Nat.reduceLeDiff,Nat.reduceLT,Nat.reduceBEq,reduceCtorEq]|((first|((try refine eH ?_);apply eb)|(apply fm;intro _));(solve|exact(Kr c hc)|(refine ah.le (Kr c hc) ?_;exact zM)|fail);try case hn=>rfl)|refine eA ?_|refine aq (λ hb=> ?_) (λ hb=> ?_)|(refine And.intro ?_ ?_;exact zI)|refine And.intro (λ hg=> ?_) (λ hg=> ?_)|exact zC|fail)
 all_goals simp only[iz,kU,kt]at*
 all_goals first
  |(exfalso;omega)
  |(simp only[lh];(repeat' split)<;>first|rfl|(exfalso;omega))
def nW (c q a b d:Int):aX:=⟨((c.toNat % 8:Nat):Int),1+q,(lh a b d).1,(lh a b d).2.1,(lh a b d).2.2⟩
theorem GZ (c q a b d:Int) (hc:u8 c) (hq:u8 q) (ha:u8 a) (hb:u8 b) (hd:u8 d):ah prog 58 [.f (ru c), .f (ru q), .f (ru a), .f (ru b), .f (ru d)]
  (λ r o=>r=[.agg ((nW c q a b d).enc.map RO.d)]/\o=[]):=by
 refine zh func58 results58 ntmps58 call58 ?_;simp only[f58,Option.getD];have hwc:=nA hc;have hwq:=nA hq;have e8:=qb hc (m:=8) (by decide);rw[show((8:Nat):Int)=8 from rfl]at e8;have hw1:IntKind.i64.wrap (1+q)=1+q:=wrap64 (by have:=hq.1;omega) (by have:=hq.2;omega)
 repeat'(first|with_reducible refine bH _ _ ?_|rw[dE]|simp only[zB,hwc,hwq,e8,hw1,Int.reduceEq,Nat.reduceSub,Nat.reduceEqDiff,Nat.reduceAdd,Nat.reduceMul,Nat.reduceLeDiff,Nat.reduceLT,Nat.reduceBEq,reduceCtorEq]|((first|((try refine eH ?_);apply eb)|(apply fm;intro _));(solve|exact(M0 a b d ha hb hd)|(refine ah.le (M0 a b d ha hb hd) ?_;exact zM)|fail);try case hn=>rfl)|refine eA ?_|refine aq (λ hb=> ?_) (λ hb=> ?_)|(refine And.intro ?_ ?_;exact zI)|refine And.intro (λ hg=> ?_) (λ hg=> ?_)|exact zC|fail)
 rfl
theorem Ao {l:List Int} {i:Nat} (hi:i<l.length):(ag l).drop i=uD l[i]::ag (l.drop (i+1)):=by rw[←la,cB hi,b7]
def mw (l:List Int) (acc:List aX):Nat->Nat->List aX
 |0,_=>acc
 |n+1,i=>if i+4<l.length/\acc.length<3 then
   let r:=nW (l.getD i 0) (l.getD (i+1) 0) (l.getD (i+2) 0) (l.getD (i+3) 0) (l.getD (i+4) 0)
   mw l (if acc.any (λ o=>o.af==r.af)=true then acc else acc++[r]) n (i+5)else acc
abbrev abp (b:Batch):RF:= .agg [.d (bD b.fill), .d (iD b.view), .d (iD b.bB.view), .d (iD b.bB.slot), .d (iD b.time), .own 5 b.reqs.length (dw b.reqs) false]
def hY (l:List Int):Batch:=
 if l.length<4∨l.getD 0 0=255 then yr
 else⟨false,(((l.getD 2 0).toNat % 8:Nat):Int),⟨(((l.getD 0 0).toNat % 4:Nat):Int),(((l.getD 1 0).toNat % 6:Nat):Int)⟩,l.getD 3 0,mw l [] l.length 4⟩
theorem Gq (l:List Int) (hl:l.length<2^60) (hu:∀x∈l,u8 x):ah prog 61 [.f (al l.length (ag l))] (λ r o=>r=[abp (hY l)]/\o=[]):=by
 refine ah.nil ?_;refine zh func61 results61 ntmps61 call61 ?_;simp only[f61,Option.getD];by_cases h4:l.length<4
 .have hbad:Pk.aZ=(⟨False, .one .dead,[]⟩:Out):=rfl;cases l with
  |nil=>
   have hd:decide (((0:Nat):Int)<4)=true:=rfl
   repeat'(first|exact zC|refine zq (I hd (I @fY.{0,0} hbad)) ?_|(apply aq<;>intro hb)|(apply I;exact zI)|(apply I<;>intro hg))
   simp[aT,bf,zD,zU,ak,yr,hY]
  |cons x l=>
  have hd:decide (((l.length+1:Nat):Int)<4)=true:=decide_eq_true (by simp only[cL]at h4;omega);refine az (I hd @b7.{0,0}) ?_;rw[show hY (x::l)=yr from aj (Or.inl h4)];simp[aT,bf,zD,zU,ak,yr]
 obtain⟨x0,x1,x2,x3,l',rfl⟩:∃x0 x1 x2 x3 l',l=x0::x1::x2::x3::l':=by
  match l,h4 with
  |x0::x1::x2::x3::l',_=>exact⟨x0,x1,x2,x3,l',rfl⟩
  |[],h=>simp at h
  |[_],h=>simp at h
  |[_,_],h=>simp at h
  |[_,_,_],h=>simp at h
 have u0:=hu x0 (by simp);have u1:=hu x1 (by simp);have u2:=hu x2 (by simp);have u3:=hu x3 (by simp);have w0:=nA u0;have w1:=nA u1;have w2:=nA u2;have w3:=nA u3;have e4:x0.tmod 4=((x0.toNat % 4:Nat):Int):=qb u0 (m:=4) (by decide);have e6:x1.tmod 6=((x1.toNat % 6:Nat):Int):=qb u1 (m:=6) (by decide);have e8:x2.tmod 8=((x2.toNat % 8:Nat):Int):=qb u2 (m:=8) (by decide)
 repeat'(first|with_reducible refine bH _ _ ?_|rw[dE]|simp only[zB,Int.reduceEq,bE,b7,Int.toNat_zero,Int.toNat_one,show Int.toNat 2=2 from rfl,show Int.toNat 3=3 from rfl,rU,yh,qu,cC,oB,w0,w1,w2,w3,e4,e6,e8,Nat.reduceSub,Nat.reduceEqDiff,Nat.reduceAdd,Nat.reduceMul,Nat.reduceLeDiff,Nat.reduceLT,Nat.reduceBEq,reduceCtorEq]|refine eA ?_|refine aq (λ hb=> ?_) (λ hb=> ?_)|(refine And.intro ?_ ?_;exact zI)|refine And.intro (λ hg=> ?_) (λ hg=> ?_)|exact zC|fail)
 .have hf:hY (x0::x1::x2::x3::l')=yr:=by
   unfold hY;rw[aj]
   right
   simp at hb;rcases hb with hb|hb
   .omega
   .exact hb
  rw[hf];simp[aT,bf,zD,zU,ak,yr]
 obtain⟨l,hll⟩:∃l,l=x0::x1::x2::x3::l':=⟨_,rfl⟩;have hE:uD x0::uD x1::uD x2::uD x3::List.map uD l'=ag l:=by rw[hll];rfl
 have hL:l'.length+1+1+1+1=l.length:=by rw[hll];rfl
 rw[hE,hL]
 -- state:the view,the bB,the time are those of the head
 have hbe:hY (x0::x1::x2::x3::l')=⟨false,((x2.toNat % 8:Nat):Int),⟨((x0.toNat % 4:Nat):Int),((x1.toNat % 6:Nat):Int)⟩,x3,mw l [] l.length 4⟩:=by unfold hY;rw[aa (by simp at hb;simp;omega),hll];rfl
 rw[hbe];have hl':l.length<2^60:=by rw[hll];exact hl
 have hu':∀x∈l,u8 x:=by rw[hll];exact hu
 have h4':4≤l.length:=by rw[hll];simp
 clear hbe hb hE hL hll h4 hl hu e4 e6 e8 w0 w1 w2 w3 u0 u1 u2 u3;generalize ((x2.toNat % 8:Nat):Int)=V at*;generalize ((x0.toNat % 4:Nat):Int)=TV at*;generalize ((x1.toNat % 6:Nat):Int)=TS at*
 refine bq (τ:=Nat×Nat×List aX) (λ t=>⟨(al l.length (ag l)::dd::cd 2::cd 3::ai t.2.1::qM (b8 (b8 []))),
   [(2,⟨2,[aW 1 [db false,di 0,di 0,di 0,di 0, .d (.v (.slice none 0 0))],none,none,none,none,none,none]⟩),(3,⟨2,[aW 1 [db false,di V,di TV,di TS,di x3, .own ⟨3,6,1⟩ 0 t.2.2.length],none,none,none,none,none,b9 1 5 (dw t.2.2)]⟩),(5,⟨2,[]⟩),(101,⟨2,[]⟩),(102,⟨2,[]⟩)]⟩)
  (λ t=>l.length≤t.2.1+t.1/\t.2.1≤l.length+9/\t.2.2.length≤3) (λ t=>mw l t.2.2 t.1 t.2.1) (λ t=>t.1) (l.length,4,[])
  ((Gh.mI 3 5 5 rfl).trans (Gh.canon [2,3] [5,101,102] [] zK rfl rfl)) ⟨by simp only;omega,by simp only;omega,bc _⟩ ?_
 intro⟨n,i,acc⟩ ⟨hn,hi9,ha3⟩ hF K hK;simp only at hn hi9 ha3 hF hK⊢;have hwi:IntKind.i64.wrap ((i:Int)+4)=((i+4:Nat):Int):=by rw[wrap64 (by omega) (by omega)];rfl
 have hw5:IntKind.i64.wrap ((i:Int)+5)=((i+5:Nat):Int):=by rw[wrap64 (by omega) (by omega)];rfl
 repeat'(first|exact zC|refine za hwi ?_|(apply aq<;>intro hb)|(apply I;exact zI)|(apply I<;>intro hg))
 .have hi:i+4<l.length:=by simp at hb;omega
  have ha2:acc.length<3:=by simp at hb;omega
  have g0:=Ao (show i<l.length by omega);have g1:=Ao (show i+1<l.length by omega);have g2:=Ao (show i+2<l.length by omega);have g3:=Ao (show i+3<l.length by omega);have g4:=Ao hi;have k1:IntKind.i64.wrap ((i:Int)+1)=((i+1:Nat):Int):=by rw[wrap64 (by omega) (by omega)];rfl
  have k2:IntKind.i64.wrap ((i:Int)+2)=((i+2:Nat):Int):=by rw[wrap64 (by omega) (by omega)];rfl
  have k3:IntKind.i64.wrap ((i:Int)+3)=((i+3:Nat):Int):=by rw[wrap64 (by omega) (by omega)];rfl
  have um:∀k (h:k<l.length),u8 l[k]:=λ k h=>hu' _ (cb h)
  clear hb
  repeat'(first|exact zC|refine za (I hwi (I k1 (I k2 (I k3 (I g0 (I g1 (I g2 (I g3 (I g4 (I @qu @bE.{0,0})))))))))) ?_|((first|((try refine eH ?_);apply eb)|(apply fm;intro _));(solve|exact(GZ _ _ _ _ _ (um _ _) (um _ _) (um _ _) (um _ _) (um _ _))|(refine ah.le (GZ _ _ _ _ _ (um _ _) (um _ _) (um _ _) (um _ _) (um _ _)) ?_;exact zM)|fail);try case hn=>rfl)|(apply aq<;>intro hb)|(apply I;exact zI)|(apply I<;>intro hg))
  obtain⟨r,hr⟩:∃r,r=nW l[i] l[i+1] l[i+2] l[i+3] l[i+4]:=⟨_,rfl⟩;rw[←hr];have hf:mw l acc n i=mw l (if acc.any (λ o=>o.af==r.af)=true then acc else acc++[r]) (n - 1) (i+5):=by
   obtain⟨m,rfl⟩:∃m,n=m+1:=⟨n - 1,by omega⟩;rw[mw,aj ⟨hi,ha2⟩]
   simp only[j7,dG (show i<l.length by omega),dG (show i+1<l.length by omega),dG (show i+2<l.length by omega),
    dG (show i+3<l.length by omega),dG hi,ku,←hr]
   rfl
  refine bq (τ:=Nat×Bool) (λ t=>⟨(al l.length (ag l)::dd::cd 2::cd 3::ai i::cd 5::ab t.2::ai t.1::tT (b8 (b8 []))),
    [(2,⟨2,[aW 1 [db false,di 0,di 0,di 0,di 0, .d (.v (.slice none 0 0))],none,none,none,none,none,none]⟩),(3,⟨2,[aW 1 [db false,di V,di TV,di TS,di x3, .own ⟨3,6,1⟩ 0 acc.length],none,none,none,none,none,b9 1 5 (dw acc)]⟩),
     (5,⟨2,[aW 1 [.d (iD r.af), .d (iD r.seq), .d (iD r.kind), .d (iD r.br), .d (sD r.name)],none,none,none,none,none]⟩),(101,⟨2,[]⟩),(102,⟨2,[]⟩)]⟩)
   (λ t=>t.1≤acc.length) (λ t=>t.2||(acc.drop t.1).any (λ o=>o.af==r.af)) (λ t=>acc.length - t.1) (0,false)
   (Gh.canon [2,3,5] [] [] zK rfl rfl) (bc _) ?_
  intro⟨k,b⟩ hk0 hF2 K2 hK2;simp only at hk0 hF2 hK2⊢;refine zw ?_;refine aq (λ hlt=> ?_) (λ hge=> ?_)
  .have hk:k<acc.length:=by simpa using hlt
   have hat:=qg hk;simp only[dW,c5]at hat;refine Ew (I hat (I @cQ (I @bE.{0,0} (I @je (I @mU (I @rU (I @cC.{0} (I @lu @b7.{0,0})))))))) ?_;refine hK2 _ (k+1,(b||acc[k].af==r.af)) (Gh.canon [2,3,5] [] [] (by simp only[bz hk (by omega),dT,lB,lH,lA,lE,lF,lG,iO,kV,jj,jo,fV,l5,D.v.injEq,l9];try(repeat'(first|rfl|omega|with_reducible apply And.intro))) rfl rfl) hk ?_ (by simp only;omega);rw[cB hk,pB,Bool.or_assoc]
  .have hk:k=acc.length:=by
    have:¬(k:Int)<acc.length:=by simpa using hge
    omega
   rw[hk,eL,rS,cC,nR,lR]at hF2;rw[←hF2]at hf;clear hF2 hK2;have ht:(dw acc).take (acc.length*5)=dw acc:=dk (by rw[cQ];omega)
   repeat'(first|exact zC|refine zq ht ?_|(apply aq<;>intro hb)|(apply I;exact zI)|(apply I<;>intro hg))
   .rw[aa (by simpa using hb)]at hf;refine hK _ (n - 1,i+5,acc++[r]) (Gh.canon [2,3] [] [] (zk hw5) rfl (by simp only[aG,bG];rw[Cs];rfl)) ⟨by simp only;omega,by simp only;omega,by simp only[aG,bG];omega⟩ hf.symm (by simp only;omega)
   .rw[aj (by simpa using hb)]at hf;refine hK _ (n - 1,i+5,acc) (Gh.canon [2,3] [] [] (zk hw5) rfl rfl) ⟨by simp only;omega,by simp only;omega,ha3⟩ hf.symm (by simp only;omega)
 .have hf:mw l acc n i=acc:=by
   cases n with
   |zero=>rfl
   |succ n=>rw[mw,aa (by intro h;simp at hb;have:=hb (by omega);omega)]
  rw[hf]at hF;rw[←hF]
  repeat'(first|exact zC|refine za (I @je (I @mU (I @rU @cC.{0}))) ?_|(apply aq<;>intro hb)|(apply I;exact zI)|(apply I<;>intro hg))
  simp[aT,bf,zD,zU,ak]
structure m7 where
 slot:Int
 aA:Int
 ns:List Int
abbrev m7.enc (v:m7):List D:=[uD v.slot,uD v.aA, .sl v.ns.length (ag v.ns)]
def m7.ok (v:m7):Prop:=u8 v.slot/\u8 v.aA/\v.ns.length<2^60/\∀x∈v.ns,u8 x
abbrev sJ (l:List m7):List D:=l.flatMap m7.enc
theorem Xw {l:List m7} {i:Nat} (hi:i<l.length):(sJ l).drop (i*3)=l[i].enc++(sJ (l.drop (i+1))):=p' _ 3 l i hi λ _=>rfl
theorem Wk {l:List m7}:(sJ l).length=l.length*3:=mn _ 3 (λ _=>rfl) l
structure mD where
 done:Int
 view:Int
 slot:Int
 time:Int
 aM:List m7
abbrev mD.enc (v:mD):List D:=[uD v.done,uD v.view,uD v.slot,uD v.time, .sl v.aM.length (sJ v.aM)]
def mD.ok (v:mD):Prop:=u8 v.done/\u8 v.view/\u8 v.slot/\u8 v.time/\v.aM.length<2^60/\∀x∈v.aM,x.ok
abbrev adB (l:List mD):List D:=l.flatMap mD.enc
def m8 (x:Int) (m:Nat):Int:=((x.toNat % m:Nat):Int)
theorem rF {x:Int} {m:Nat} (hm:0<m):0≤m8 x m/\m8 x m<m:=by unfold m8;have:=lX x.toNat hm;omega
def uE (s:Nat) (v:m7):Bool:=m8 v.slot 9+1==(s:Int)
def kp (done:Int) (l:List m7) (acc:List ep):Nat->Nat->List ep
 |0,_=>acc
 |n+1,s=>kp done l (match l.find? (uE s)with|some v=>acc++[⟨done+s,m8 v.aA 9,hY v.ns⟩]|none=>acc) n (s+1)
def lf (i:Int) (t:mD):cr:=⟨i,m8 t.done 8,⟨m8 t.view 4,m8 t.slot 6⟩,t.time,kp (m8 t.done 8) t.aM [] 9 1⟩
abbrev N4 (p:cr):RF:= .agg [.d (iD p.src), .d (iD p.done), .d (iD p.bB.view), .d (iD p.bB.slot), .d (iD p.time), .own 8 p.aM.length (eI p.aM) false]
theorem VL (i:Int) (t:mD) (ht:t.ok):ah prog 60 [.f (ai i), .f (ru t.done), .f (ru t.view), .f (ru t.slot), .f (ru t.time), .f (al t.aM.length (sJ t.aM))]
  (λ r o=>r=[N4 (lf i t)]/\o=[]):=by
 refine ah.nil ?_;refine zh func60 results60 ntmps60 call60 ?_;simp only[f60,Option.getD];obtain⟨hd,hv,hs,hti,hl,hvs⟩:=ht;have w0:=nA hd;have w1:=nA hv;have w2:=nA hs;have w3:=nA hti;have e8:t.done.tmod 8=m8 t.done 8:=qb hd (m:=8) (by decide);have e4:t.view.tmod 4=m8 t.view 4:=qb hv (m:=4) (by decide);have e6:t.slot.tmod 6=m8 t.slot 6:=qb hs (m:=6) (by decide);refine az (I w0 (I w1 (I w2 (I w3 (I e8 (I e4 e6)))))) ?_;have hD:=rF (x:=t.done) (m:=8) (by decide);obtain⟨dn,hDD⟩:∃x,x=m8 t.done 8:=⟨_,rfl⟩;have hB:lf i t=⟨i,dn,⟨m8 t.view 4,m8 t.slot 6⟩,t.time,kp dn t.aM [] 9 1⟩:=by rw[hDD];rfl
 rw[hB];rw[←hDD]at hD⊢;generalize m8 t.view 4=TV;generalize m8 t.slot 6=TS;generalize t.time=TM;generalize t.aM=l at*;clear hB hDD e8 e4 e6 w0 w1 w2 w3 hd hv hs hti
 refine bq (τ:=Nat×Nat×List ep) (λ t=>⟨(pT (al l.length (sJ l)::lq (cd 12::cd 13::ai t.2.1::vc (b8 [])))),
   [(12,⟨2,[aW 1 [di 0,di 0,di 0,di 0,di 0, .d (.v (.slice none 0 0))],none,none,none,none,none,none]⟩),(13,⟨2,[aW 1 [di i,di dn,di TV,di TS,di TM, .own ⟨13,6,1⟩ 0 t.2.2.length],none,none,none,none,none,b9 1 8 (eI t.2.2)]⟩),(68,⟨2,[]⟩),(70,⟨2,[]⟩),(71,⟨2,[]⟩)]⟩)
  (λ t=>t.1+t.2.1=10/\t.2.2.length<t.2.1) (λ t=>kp dn l t.2.2 t.1 t.2.1) (λ t=>t.1) (9,1,[])
  ((Gh.mI 13 5 8 rfl).trans (Gh.canon [12,13] [68,70,71] [] zK rfl rfl)) ⟨rfl,Nat.zero_lt_one⟩ ?_
 intro⟨n,s,acc⟩ ⟨hn,ha⟩ hF K hK;simp only at hn ha hF hK⊢;have hws:IntKind.i64.wrap ((s:Int)+1)=((s+1:Nat):Int):=by rw[wrap64 (by omega) (by omega)];rfl
 refine zw ?_;refine aq (λ hlt=> ?_) (λ hge=> ?_)
 .have hs9:s≤9:=by
   have:(s:Int)≤9:=by simpa using hlt
   omega
  obtain⟨m,rfl⟩:∃m,n=m+1:=⟨n - 1,by omega⟩;have hf:kp dn l acc (m+1) s=kp dn l (match l.find? (uE s)with|some v=>acc++[⟨dn+s,m8 v.aA 9,hY v.ns⟩]|none=>acc) m (s+1):=rfl;have hwD:IntKind.i64.wrap (dn+s)=dn+s:=wrap64 (by omega) (by omega);refine zw ?_
  refine bq (τ:=Nat) (λ k=>⟨(pT (al l.length (sJ l)::lq (cd 12::cd 13::ai s::ai k::rZ (b8 [])))),
    [(12,⟨2,[aW 1 [di 0,di 0,di 0,di 0,di 0, .d (.v (.slice none 0 0))],none,none,none,none,none,none]⟩),(13,⟨2,[aW 1 [di i,di dn,di TV,di TS,di TM, .own ⟨13,6,1⟩ 0 acc.length],none,none,none,none,none,b9 1 8 (eI acc)]⟩),(68,⟨2,[]⟩),(70,⟨2,[]⟩),(71,⟨2,[]⟩)]⟩)
   (λ k=>k≤l.length) (λ k=>(l.drop k).find? (uE s)) (λ k=>l.length - k) 0
   (Gh.canon [12,13] [] [] zK rfl rfl) (bc _) ?_
  intro k hk0 hF2 K2 hK2;simp only[cC]at hk0 hF2 hK2⊢;refine zw ?_;refine aq (λ hlt2=> ?_) (λ hge2=> ?_)
  .have hk:k<l.length:=by simpa using hlt2
   have hat:=Xw hk;simp only[dW,c5]at hat;obtain⟨v1,v2,v3,v4⟩:=hvs _ (cb hk);have x1:=nA v1;have x2:=nA v2;have y1:l[k].slot.tmod 9=m8 l[k].slot 9:=qb v1 (m:=9) (by decide);have y2:l[k].aA.tmod 9=m8 l[k].aA 9:=qb v2 (m:=9) (by decide);have z1:=rF (x:=l[k].slot) (m:=9) (by decide);have hw1:IntKind.i64.wrap (m8 l[k].slot 9+1)=m8 l[k].slot 9+1:=wrap64 (by omega) (by omega);rw[cB hk,ya]at hF2;have ht8:(eI acc).take (acc.length*8)=eI acc:=dk (by rw[dg];omega);have hbo:=Gq l[k].ns v3 v4
   repeat'(first|exact zC|refine zq (I hat (I @Wk (I x1 (I x2 (I y1 (I y2 (I hw1 (I hwD ht8)))))))) ?_|refine zx (hbo) ?_|(apply aq<;>intro hb)|(apply I;exact zI)|(apply I<;>intro hg))
   .have hv:uE s l[k]=true:=hb;rw[hv]at hF2;simp only at hF2;rw[←hF2]at hf;refine hK _ (m,s+1,acc++[⟨dn+s,m8 l[k].aA 9,hY l[k].ns⟩]) (Gh.canon [12,13] [] [] (zk hws) rfl (by simp only[aG,bG];rw[B4];rfl))
     ⟨by simp only;omega,by simp only[aG,bG];omega⟩ hf.symm (by simp only;omega)
   .have hv:uE s l[k]=false:=hb;rw[hv]at hF2;refine hK2 _ (k+1) (Gh.canon [12,13] [] [] (by simp only[bz hk (by omega),dT,lB,lH,lA,lE,lF,lG,iO,kV,jj,jo,fV,l5,D.v.injEq,l9];try(repeat'(first|rfl|omega|with_reducible apply And.intro))) rfl rfl) hk (by rw[cB hk,ya,hv]) (by omega)
  .have hk:k=l.length:=by
    have:¬(k:Int)<l.length:=by simpa using hge2
    omega
   rw[hk,eL,List.find?_nil]at hF2;rw[←hF2]at hf;clear hF2 hK2;refine zw ?_;refine hK _ (m,s+1,acc) (Gh.canon [12,13] [] [] (zk hws) rfl rfl) ⟨by simp only;omega,by simp only;omega⟩ hf.symm (by simp only;omega)
 .have hn0:n=0:=by
   have:¬(s:Int)≤9:=by simpa using hge
   omega
  subst hn0;rw[kp]at hF;rw[←hF]
  repeat'(first|exact zC|refine fX ?_|(apply aq<;>intro hb)|(apply I;exact zI)|(apply I<;>intro hg))
  simp[aT,bf,zD,zU,ak]
theorem Vy (i:Int) (t:mD) (_:0≤i/\i<7) (ht:t.ok):ah prog 60 [.f (ai i), .f (ru t.done), .f (ru t.view), .f (ru t.slot), .f (ru t.time), .f (al t.aM.length (sJ t.aM))]
  (λ r o=>r=[N4 (lf i t)]/\o=[]):=VL i t ht
theorem VR (k:Nat):(nameOf k).size<2^62:=by unfold nameOf;split<;>decide
theorem jU {n:Int} (h1:0≤n) (h2:n<1000):i64 n:=by unfold i64;omega
theorem aa6 (a b c:Int):i64 (lh a b c).1/\i64 (lh a b c).2.1/\(lh a b c).2.2.size<2^62:=by
 have h6:=lX a.toNat (show 0<6 by decide);have h7:=lX b.toNat (show 0<7 by decide);refine⟨jU (by simp only[lh];omega) (by simp only[lh];omega), ?_, ?_⟩
 .simp only[lh];split
  .exact jU (by omega) (by omega)
  .exact jU (by omega) (by omega)
 .simp only[lh];split
  .exact VR _
  .decide
theorem MG {c q a b d:Int} (hq:u8 q):(nW c q a b d).ok:=by have h8:=lX c.toNat (show 0<8 by decide);obtain⟨h1,h2,h3⟩:=aa6 a b d;exact⟨jU (by simp only[nW];omega) (by simp only[nW];omega),jU (by simp only[nW];have:=hq.1;omega) (by simp only[nW];have:=hq.2;omega),h1,h2,h3⟩
theorem DK {l:List Int} (h:∀x∈l,u8 x) (i:Nat):u8 (l.getD i 0):=by
 rw[j7];cases hi:l[i]? with
 |none=>exact⟨Int.le_refl _,by decide⟩
 |some x=>exact h x (rQ hi)
theorem Dr {l:List Int} (h:∀x∈l,u8 x):∀(n i:Nat) (acc:List aX),acc.length≤3->(∀r∈acc,r.ok)->(mw l acc n i).length≤3/\∀r∈mw l acc n i,r.ok
 |0,i,acc,h1,h2=>⟨h1,h2⟩
 |n+1,i,acc,h1,h2=>by
  rw[mw];split
  .rename_i hc;dsimp only;split
   .exact Dr h n (i+5) acc h1 h2
   .refine Dr h n (i+5) _ (by rw[aG,bG];omega) λ r hr=> ?_
    rcases dN.1 hr with hr|hr
    .exact h2 r hr
    .rw[jE]at hr;subst hr;exact MG (DK h _)
  .exact⟨h1,h2⟩
theorem Kc {l:List Int} (h:∀x∈l,u8 x):(hY l).ok/\(hY l).reqs.length≤3:=by
 unfold hY;split
 .exact⟨⟨jU (by decide) (by decide),jU (by decide) (by decide),jU (by decide) (by decide),jU (by decide) (by decide),by decide,λ r hr=>by cases hr⟩,by decide⟩
 .obtain⟨h1,h2⟩:=Dr h l.length 4 [] (by decide) (λ r hr=>by cases hr);have h8:=lX (l.getD 2 0).toNat (show 0<8 by decide);have h4:=lX (l.getD 0 0).toNat (show 0<4 by decide);have h6:=lX (l.getD 1 0).toNat (show 0<6 by decide);have hu:=DK h 3
  exact⟨⟨jU (by simp only;omega) (by simp only;omega),jU (by simp only;omega) (by simp only;omega),jU (by simp only;omega) (by simp only;omega),jU hu.1 (by have:=hu.2;simp only;omega),
   by simp only;omega,h2⟩,h1⟩
theorem CK {d:Int} {l:List m7} (hd:0≤d/\d<8) (h:∀v∈l,v.ok):∀(n s:Nat) (acc:List ep),s+n≤10->(∀v∈acc,v.ok)->(∀v∈kp d l acc n s,v.ok)/\(kp d l acc n s).length≤acc.length+n
 |0,s,acc,_,h2=>⟨h2,Nat.le_refl _⟩
 |n+1,s,acc,hs,h2=>by
  rw[kp];cases hf:l.find? (uE s)with
  |none=>
   obtain⟨q1,q2⟩:=CK hd h n (s+1) acc (by omega) h2;exact⟨q1,by simp only;omega⟩
  |some v=>
   have hv:=h v (uX hf);have hm:=rF (x:=v.aA) (m:=9) (by decide);obtain⟨q1,q2⟩:=CK hd h n (s+1) (acc++[⟨d+s,m8 v.aA 9,hY v.ns⟩]) (by omega) λ w hw=>by
    rcases dN.1 hw with hw|hw
    .exact h2 w hw
    .rw[jE]at hw;subst hw;exact⟨jU (by simp only;omega) (by simp only;omega),jU hm.1 (by have:=hm.2;simp only;omega),(Kc hv.2.2.2).1⟩
   rw[aG,bG]at q2;exact⟨q1,by simp only;omega⟩
theorem Z' {i:Int} {t:mD} (hi:0≤i/\i<7) (ht:t.ok):(lf i t).ok:=by
 have h8:=rF (x:=t.done) (m:=8) (by decide);have h4:=rF (x:=t.view) (m:=4) (by decide);have h6:=rF (x:=t.slot) (m:=6) (by decide);obtain⟨_,_,_,hu,_,hv⟩:=ht;obtain⟨q1,q2⟩:=CK (d:=m8 t.done 8) ⟨h8.1,by have:=h8.2;omega⟩ hv 9 1 [] (by decide) (λ v hv=>by cases hv)
 exact⟨jU hi.1 (by simp only[lf];omega),jU h8.1 (by simp only[lf];have:=h8.2;omega),jU h4.1 (by simp only[lf];have:=h4.2;omega),jU h6.1 (by simp only[lf];have:=h6.2;omega),
  jU hu.1 (by have:=hu.2;simp only[lf];omega),by simp only[lf];simp only[fN]at q2;omega,q1⟩
theorem Z8 (k:Nat):fb (nameOf k)=true:=by unfold nameOf;split<;>decide
theorem abh (a b c:Int):jq (lh a b c).1 (lh a b c).2.1 (lh a b c).2.2=true:=by
 have h6:=lX a.toNat (show 0<6 by decide);have h7:=lX b.toNat (show 0<7 by decide);have hn:=Z8 (c.toNat % 6);unfold jq lh;simp only;generalize a.toNat % 6=k at h6⊢;generalize b.toNat % 7=m at h7⊢;generalize nameOf (c.toNat % 6)=nm at hn⊢;have hk:k=0∨k=1∨k=2∨k=3∨k=4∨k=5:=by omega
 rcases hk with rfl|rfl|rfl|rfl|rfl|rfl<;>simp[hn]<;>first|rfl|omega
theorem Lm {c q a b d:Int} (hq:u8 q):aX.may (nW c q a b d)=true:=by
 have h8:=lX c.toNat (show 0<8 by decide);have h:=abh a b d;unfold aX.may;simp only[nW,h,Bool.and_true,bM,dX,bj];have h1:=hq.1;have h2:=hq.2;refine⟨⟨⟨?_, ?_⟩, ?_⟩, ?_⟩
 all_goals exact decide_eq_true (by omega)
theorem Ij {l:List aX}:∀(rest pre:List aX),l=pre++rest->(∀r∈l,aX.may r=true)->(l.map aX.af).Nodup->kM l pre.length rest=true
 |[],_,_,_,_=>rfl
 |r::rest,pre,hl,hm,hn=>by
  have hr:aX.may r=true:=hm r (by rw[hl];simp);have ht:l.take pre.length=pre:=by rw[hl];simp
  rw[kM,aa]
  .have:=Ij rest (pre++[r]) (by rw[hl];simp) hm hn
   rwa[aG,bG]at this
  .rw[hr,ht];simp only[dx,lR,wb,not_exists,not_and,iz];intro o ho he;rw[hl,fU,b7,List.nodup_append]at hn;exact hn.2.2 _ (List.mem_map_of_mem ho) _ (nQ ..) he
theorem FW {l:List Int} (h:∀x∈l,u8 x):∀(n i:Nat) (acc:List aX),(∀r∈acc,aX.may r=true)->(acc.map aX.af).Nodup->
  (∀r∈mw l acc n i,aX.may r=true)/\((mw l acc n i).map aX.af).Nodup
 |0,i,acc,h1,h2=>⟨h1,h2⟩
 |n+1,i,acc,h1,h2=>by
  rw[mw];split
  .dsimp only;split
   .exact FW h n (i+5) acc h1 h2
   .rename_i hc;refine FW h n (i+5) _ (λ r hr=> ?_) ?_
    .rcases dN.1 hr with hr|hr
     .exact h1 r hr
     .rw[jE]at hr;subst hr;exact Lm (DK h _)
    .rw[fU,List.nodup_append];refine⟨h2,by simp,λ a ha b hb=> ?_⟩;obtain⟨o,ho,rfl⟩:=kx.1 ha;simp only[b7,fY,jE]at hb;subst hb;intro he;exact hc (wb.2 ⟨o,ho,by rw[he];simp⟩)
  .exact⟨h1,h2⟩
theorem re {n:Int} (h:0≤n) (h2:n<1000):aZ n=false:=by unfold aZ;simp only[iP,gg,bj];omega
theorem I8 {l:List Int} (h:∀x∈l,u8 x):Batch.may (hY l)=true:=by
 unfold hY;split
 .rfl
 .obtain⟨h1,h2⟩:=FW h l.length 4 [] (λ r hr=>by cases hr) (by simp);obtain⟨h3,_⟩:=Dr h l.length 4 [] (by decide) (λ r hr=>by cases hr);have h8:=lX (l.getD 2 0).toNat (show 0<8 by decide);have h4:=lX (l.getD 0 0).toNat (show 0<4 by decide);have h6:=lX (l.getD 1 0).toNat (show 0<6 by decide);have hu:=DK h 3;unfold Batch.may;simp only;rw[aa (by simp),aa]
  .exact Ij (l:=mw l [] l.length 4) _ [] rfl h1 h2
  .simp only[pB,rS,re (show(0:Int)≤(((l.getD 2 0).toNat % 8:Nat):Int) by omega) (by omega),re hu.1 (by have:=hu.2;omega),
    re (show(0:Int)≤(((l.getD 0 0).toNat % 4:Nat):Int) by omega) (by omega),re (show(0:Int)≤(((l.getD 1 0).toNat % 6:Nat):Int) by omega) (by omega)]
   simp;omega
theorem Cn {d:Int} {l:List m7}:∀(n s:Nat) (acc:List ep),kp d l acc n s=acc++kp d l [] n s
 |0,s,acc=>by simp[kp]
 |n+1,s,acc=>by
  rw[kp,kp];cases l.find? (uE s)with
  |none=>simp only;exact Cn n (s+1) acc
  |some v=>
   simp only[c5];rw[Cn n (s+1) (acc++[_]),Cn n (s+1) [_],fH]
theorem Fv {d:Int} {l:List m7} (hd:0≤d/\d<8) (h:∀v∈l,v.ok):∀(n s:Nat) (last:Int),s+n≤10->last<d+s->kK d last (kp d l [] n s)=true
 |0,s,last,_,_=>rfl
 |n+1,s,last,hs,hl=>by
  rw[kp];cases hf:l.find? (uE s)with
  |none=>simp only;exact Fv hd h n (s+1) last (by omega) (by omega)
  |some v=>
   have hv:=h v (uX hf);have hm:=rF (x:=v.aA) (m:=9) (by decide);simp only[c5];rw[Cn,wx,kK,aa]
   .exact Fv hd h n (s+1) (d+s) (by omega) (by omega)
   .simp only[re (show(0:Int)≤d+s by omega) (by omega),re hm.1 (by have:=hm.2;omega),I8 hv.2.2.2];simp;omega
theorem Kf {i:Int} {t:mD} (hi:0≤i/\i<7) (ht:t.ok):cr.may (lf i t)=true:=by
 have h8:=rF (x:=t.done) (m:=8) (by decide);have h4:=rF (x:=t.view) (m:=4) (by decide);have h6:=rF (x:=t.slot) (m:=6) (by decide);obtain⟨_,_,_,hu,_,hv⟩:=ht;have hd:0≤m8 t.done 8/\m8 t.done 8<8:=⟨h8.1,by have:=h8.2;omega⟩;have q1:=Fv (d:=m8 t.done 8) hd hv 9 1 (m8 t.done 8) (by decide) (by omega);obtain⟨_,q2⟩:=CK (d:=m8 t.done 8) hd hv 9 1 [] (by decide) (λ v hv=>by cases hv);rw[fN]at q2;have e:cr.may (lf i t)=if(decide (i<0)||decide (i≥7)||[m8 t.done 8,m8 t.view 4,m8 t.slot 6,t.time].any aZ||decide (((kp (m8 t.done 8) t.aM [] 9 1).length:Int)>9))=true then false else kK (m8 t.done 8) (m8 t.done 8) (kp (m8 t.done 8) t.aM [] 9 1):=rfl
 rw[e,aa,q1];simp only[pB,rS,re h8.1 (by have:=h8.2;omega),re h4.1 (by have:=h4.2;omega),re h6.1 (by have:=h6.2;omega),re hu.1 (by have:=hu.2;omega)];simp;omega
abbrev b4 (bs:List Int) (p:Int):List RO:=vp bs.length (ag bs) p
abbrev pH (e:Int):Value:=pk 177 e
abbrev Rr (α:Type):=Except Int (α×Int)
def kc {α:Type} (x:α×Int×Int):Rr α:=if x.2.2=0 then .ok (x.1,x.2.1)else .error x.2.2
theorem iJ {α:Type} {x:α×Int×Int} {y:α×Int} (h:kc x= .ok y):x.2.2=0/\y=(x.1,x.2.1):=by
 unfold kc at h;split at h
 .rename_i h0;cases h;exact⟨h0,rfl⟩
 .cases h
theorem iH {α:Type} {x:α×Int×Int} {e:Int} (h:kc x= .error e):x.2.2=e/\e≠0:=by
 unfold kc at h;split at h
 .cases h
 .rename_i h0;cases h;exact⟨rfl,h0⟩
def aD (bs:List Int) (p:Int):Rr Int:=kc (ch bs p)
def bI (bs:List Int) (p:Int):Rr Int:=kc (bQ bs p)
def jl (bs:List Int) (p:Int):Rr ByteArray:=kc (cP bs p 12)
def jn (bs:List Int) (p:Int):Rr bN:=kc (eC bs p)
def ef (bs:List Int) (p most:Int):Rr Int:=match bI bs p with
 | .error e=> .error e
 | .ok (n,q)=>if n>most then .error 4 else .ok (n,q)
theorem Da:ah prog 177 [.f (ai 0)] (λ r o=>r=[]/\o=[]):=by refine zh func177 results177 ntmps177 call177 ?_;simp only[f177,Option.getD];exact bA trivial
theorem CA (e:Int) (h:e≠0):gF prog 177 [.f (ai e)] (pH e):=by
 refine qU func177 ntmps177 call177 ?_;simp only[f177,Option.getD];have h1:(e !=0)=true:=by simpa using h
 exact bA (I h1 @bx)
theorem sE (bs:List Int) (p:Int) (h:bu bs) (hp:i64 p) {y:Int×Int} (hy:aD bs p= .ok y):
  ah prog 144 [.obj (b4 bs p)] (λ r o=>r=[ri y.1]/\o=[b4 bs y.2]):=by
 obtain⟨h0,rfl⟩:=iJ hy;refine zh func144 results144 ntmps144 call144 ?_;simp only[f144,Option.getD];have h1:=sM bs p h hp;rw[h0]at h1;exact zW trivial (I (h1) (Da))
theorem sy (bs:List Int) (p:Int) (h:bu bs) (hp:i64 p) {e:Int} (hy:aD bs p= .error e):
  gF prog 144 [.obj (b4 bs p)] (pH e):=by
 obtain⟨h0,h2⟩:=iH hy;refine qU func144 ntmps144 call144 ?_;simp only[f144,Option.getD];have h1:=sM bs p h hp;rw[h0]at h1;refine zL trivial (h1) ?_;refine rl (CA e h2) rfl ?_
 first|refine zs @bx ?_|exact zt @bx
theorem Ad (bs:List Int) (p:Int) (h:bu bs) (hp:i64 p) {y:Int×Int} (hy:bI bs p= .ok y):
  ah prog 179 [.obj (b4 bs p)] (λ r o=>r=[ri y.1]/\o=[b4 bs y.2]):=by
 obtain⟨h0,rfl⟩:=iJ hy;refine zh func179 results179 ntmps179 call179 ?_;simp only[f179,Option.getD];have h1:=rm bs p h hp;rw[h0]at h1;exact zW trivial (I (h1) (Da))
theorem CL (bs:List Int) (p:Int) (h:bu bs) (hp:i64 p) {e:Int} (hy:bI bs p= .error e):
  gF prog 179 [.obj (b4 bs p)] (pH e):=by
 obtain⟨h0,h2⟩:=iH hy;refine qU func179 ntmps179 call179 ?_;simp only[f179,Option.getD];have h1:=rm bs p h hp;rw[h0]at h1;refine zL trivial (h1) ?_;refine rl (CA e h2) rfl ?_
 first|refine zs @bx ?_|exact zt @bx
theorem Xe (bs:List Int) (p:Int) (h:bu bs) (hp:i64 p) {y:ByteArray×Int} (hy:jl bs p= .ok y):
  ah prog 199 [.obj (b4 bs p)] (λ r o=>r=[.one (.d (sD y.1))]/\o=[b4 bs y.2]):=by
 obtain⟨h0,rfl⟩:=iJ hy;refine zh func199 results199 ntmps199 call199 ?_;simp only[f199,Option.getD];have h1:=Ah bs p 12 h hp;rw[h0]at h1;exact zW trivial (I (h1) (Da))
theorem WD (bs:List Int) (p:Int) (h:bu bs) (hp:i64 p) {e:Int} (hy:jl bs p= .error e):
  gF prog 199 [.obj (b4 bs p)] (pH e):=by
 obtain⟨h0,h2⟩:=iH hy;refine qU func199 ntmps199 call199 ?_;simp only[f199,Option.getD];have h1:=Ah bs p 12 h hp;rw[h0]at h1;refine zL trivial (h1) ?_;refine rl (CA e h2) rfl ?_
 first|refine zs @bx ?_|exact zt @bx
theorem Yc (bs:List Int) (p:Int) (h:bu bs) (hp:i64 p) {y:bN×Int} (hy:jn bs p= .ok y):
  ah prog 181 [.obj (b4 bs p)] (λ r o=>r=[DO y.1]/\o=[b4 bs y.2]):=by
 obtain⟨h0,rfl⟩:=iJ hy;refine zh func181 results181 ntmps181 call181 ?_;simp only[f181,Option.getD];have h1:=E' bs p h hp;rw[h0]at h1;refine zL trivial (I (h1) (Da)) ?_;rfl
theorem Wn (bs:List Int) (p:Int) (h:bu bs) (hp:i64 p) {e:Int} (hy:jn bs p= .error e):
  gF prog 181 [.obj (b4 bs p)] (pH e):=by
 obtain⟨h0,h2⟩:=iH hy;refine qU func181 ntmps181 call181 ?_;simp only[f181,Option.getD];have h1:=E' bs p h hp;rw[h0]at h1;refine zL trivial (h1) ?_;refine rl (CA e h2) rfl ?_
 first|refine zs @bx ?_|exact zt @bx
theorem zZ {bs:List Int} {p most:Int} {y:Int×Int} (hy:ef bs p most= .ok y):bI bs p= .ok y/\y.1≤most:=by
 unfold ef at hy;cases hz:bI bs p with
 |error e=>rw[hz]at hy;cases hy
 |ok z=>
  rw[hz]at hy;simp only at hy;split at hy
  .cases hy
  .rename_i hgt;cases hy;exact⟨rfl,by simp only;omega⟩
theorem zi {bs:List Int} {p most:Int} {e:Int} (hy:ef bs p most= .error e):bI bs p= .error e∨∃z,bI bs p= .ok z/\z.1>most/\e=4:=by
 unfold ef at hy;cases hz:bI bs p with
 |error e=>rw[hz]at hy;cases hy;exact .inl rfl
 |ok z=>
  rw[hz]at hy;simp only at hy;split at hy
  .rename_i hgt;cases hy;exact .inr ⟨z,rfl,hgt,rfl⟩
  .cases hy
theorem Cp (bs:List Int) (p most:Int) (h:bu bs) (hp:i64 p) {y:Int×Int} (hy:ef bs p most= .ok y):
  ah prog 178 [.obj (b4 bs p), .f (ai most)] (λ r o=>r=[ri y.1]/\o=[b4 bs y.2]):=by
 obtain⟨hz,hle⟩:=zZ hy;have h1:=Ad bs p h hp hz;have h2:decide (y.1>most)=false:=by simpa using hle
 refine zh func178 results178 ntmps178 call178 ?_;simp only[f178,Option.getD];refine az trivial ?_;refine zj (h1) ?_;exact bA h2
theorem B6 (bs:List Int) (p most:Int) (h:bu bs) (hp:i64 p) {e:Int} (hy:ef bs p most= .error e):
  gF prog 178 [.obj (b4 bs p), .f (ai most)] (pH e):=by
 refine qU func178 ntmps178 call178 ?_;simp only[f178,Option.getD];rcases zi hy with hz|⟨z,hz,hgt,rfl⟩
 .have h1:=CL bs p h hp hz;refine az trivial ?_;refine zp (b4 bs p) (h1) ?_
  first|refine zs @bx ?_|exact zt @bx
 .have h1:=Ad bs p h hp hz;have h2:decide (z.1>most)=true:=by simpa using hgt
  refine az trivial ?_;refine zj (h1) ?_;exact bA (I h2 @bx)
def lZ (bs:List Int):Nat->Int->List Int->Rr (List Int)
 |0,p,acc=> .ok (acc,p)
 |n+1,p,acc=>match bI bs p with
  | .error e=> .error e
  | .ok x=>lZ bs n x.2 (acc++[x.1])
def j8 (bs:List Int) (p:Int):Rr Lk:=match jl bs p with
 | .error e=> .error e
 | .ok nm=>match bI bs nm.2 with
  | .error e=> .error e
  | .ok hd=>match aD bs hd.2 with
   | .error e=> .error e
   | .ok tk=>match ef bs tk.2 3 with
    | .error e=> .error e
    | .ok n=>match lZ bs n.1.toNat n.2 []with
     | .error e=> .error e
     | .ok l=> .ok (⟨nm.1,hd.1,tk.1,l.1⟩,l.2)
theorem dU {bs:List Int} {p:Int} {y:Int×Int} (h:bu bs) (hy:aD bs p= .ok y):i64 y.2:=by obtain⟨_,rfl⟩:=iJ hy;exact iL h.l sA
theorem jT {bs:List Int} {p:Int} {y:Int×Int} (h:bu bs) (hy:bI bs p= .ok y):i64 y.2:=by obtain⟨_,rfl⟩:=iJ hy;exact iL h.l pW
theorem pZ {bs:List Int} {p:Int} {y:Int×Int} (h:bu bs) (hy:bI bs p= .ok y):0≤y.1/\y.1<256:=by obtain⟨_,rfl⟩:=iJ hy;exact vF h
theorem FE {bs:List Int} {p:Int} {y:ByteArray×Int} (h:bu bs) (hy:jl bs p= .ok y):i64 y.2:=by obtain⟨_,rfl⟩:=iJ hy;exact iL h.l (B9 h)
theorem ui {bs:List Int} {p m:Int} {y:Int×Int} (h:bu bs) (hy:ef bs p m= .ok y):i64 y.2/\0≤y.1/\y.1≤m:=by obtain⟨h1,h2⟩:=zZ hy;exact⟨jT h h1,(pZ h h1).1,h2⟩
abbrev BH (bs:List Int) (q:Int) (nx:Nat):Nat×RS:=(0,{next:=nx,l:=[some {e:=0,var:=true,fz:=false,dR:=true,sz:=0,cells:=[.d (.sl bs.length (ag bs)),di q]},none,none]})
abbrev Qy (k:Lk):RF:= .agg [.d (sD k.name), .d (iD k.bh), .d (iD k.token), .own 1 k.line.length (bt k.line) false]
theorem IJ (bs:List Int) (p:Int) (h:bu bs) (hp:i64 p) (b:Bool) (y:Lk×Int) (e:Int) (hy:lj b y e (j8 bs p)):
  (b=true->ah prog 180 [.obj (b4 bs p)] (λ r o=>r=[Qy y.1]/\o=[b4 bs y.2]))/\(b=false->gF prog 180 [.obj (b4 bs p)] (pH e)):=by
 refine EV func180 results180 ntmps180 call180 ?_;simp only[f180,Option.getD];unfold j8 at hy;cases e1:jl bs p with
 |error x=>
  rw[e1]at hy;obtain⟨rfl,rfl⟩:=ea hy;have h1:=WD bs p h hp e1;refine az trivial ?_;refine zp (b4 bs p) (h1) ?_
  first|refine zs (I @bY @bx) ?_|exact zt (I @bY @bx)
 |ok nm=>
 have h1:=Xe bs p h hp e1;rw[e1]at hy;simp only at hy;refine az trivial ?_;refine zj (h1) ?_;cases e2:bI bs nm.2 with
 |error x=>
  rw[e2]at hy;obtain⟨rfl,rfl⟩:=ea hy;have h2:=CL bs _ h (FE h e1) e2;refine az trivial ?_;refine zp (b4 bs p) (h2) ?_
  first|refine zs (I @bY @bx) ?_|exact zt (I @bY @bx)
 |ok hd=>
 have h2:=Ad bs _ h (FE h e1) e2;rw[e2]at hy;simp only at hy;refine az trivial ?_;refine zj (h2) ?_;cases e3:aD bs hd.2 with
 |error x=>
  rw[e3]at hy;obtain⟨rfl,rfl⟩:=ea hy;have h3:=sy bs _ h (jT h e2) e3;refine az trivial ?_;refine zp (b4 bs p) (h3) ?_
  first|refine zs (I @bY @bx) ?_|exact zt (I @bY @bx)
 |ok tk=>
 have h3:=sE bs _ h (jT h e2) e3;rw[e3]at hy;simp only at hy;refine az trivial ?_;refine zj (h3) ?_;cases e4:ef bs tk.2 3 with
 |error x=>
  rw[e4]at hy;obtain⟨rfl,rfl⟩:=ea hy;have h4:=B6 bs _ 3 h (dU h e3) e4;refine az trivial ?_;refine zp (b4 bs p) (h4) ?_
  first|refine zs (I @bY @bx) ?_|exact zt (I @bY @bx)
 |ok n=>
 have h4:=Cp bs _ 3 h (dU h e3) e4;obtain⟨hn1,hn2,hn3⟩:=ui h e4;rw[e4]at hy;simp only at hy;refine az trivial ?_;refine zj (h4) ?_;refine az trivial ?_;refine bq (τ:=Nat×Int×List Int×Nat) (λ t=>⟨(.one (.ptr ⟨0,0,0⟩ 0)::dd::cd 2::cd 3::nz (ai n.1::ai t.1::nz [])),[BH bs t.2.1 t.2.2.2,(2,⟨2,[aW 1 [dS .empty,di 0,di 0, .d (.v (.slice none 0 0))],none,none,none,none]⟩),(3,⟨2,[aW 1 [dS nm.1,di hd.1,di tk.1, .own ⟨3,4,1⟩ 0 t.2.2.1.length],none,none,none,b9 1 1 (bt t.2.2.1)]⟩),(21,⟨2,[]⟩),(22,⟨2,[]⟩)]⟩)
  (λ t=>t.1≤n.1.toNat/\i64 t.2.1/\t.2.2.1.length=t.1) (λ t=>lZ bs (n.1.toNat - t.1) t.2.1 t.2.2.1) (λ t=>n.1.toNat - t.1) (0,n.2,[],5)
  ((Gh.mI 3 3 1 rfl).trans (Gh.canon [0,2,3] [21,22] [0] zK rfl rfl)) ⟨bc _,hn1,rfl⟩ ?_
 intro⟨i,q,acc,nx⟩ ⟨hi0,hq,ha⟩ hF K hK;simp only[i7]at hi0 hq ha hF hK⊢;rw[←hF]at hy;refine zw ?_;refine aq (λ hlt=> ?_) (λ hge=> ?_)
 .have hi:i<n.1.toNat:=by simp at hlt;omega
  have hw:=bz hi (by omega);have hst:n.1.toNat - i=(n.1.toNat - (i+1))+1:=by omega
  rw[hst,lZ]at hy;cases hx:bI bs q with
  |error x=>
   rw[hx]at hy;obtain⟨rfl,rfl⟩:=ea hy;have hr:=CL bs q h hq hx
   first|refine gq ?_|exact gn
   refine vN _ _ (GU eV mixed 3 [false,false,false,true,true,true,true,true] (pH e) (λ g=> ?_) ?_)
   .first|refine zs (I @bY @bx) ?_|exact zt (I @bY @bx)
   .simp only[G8,G9,F6];refine az trivial ?_;exact zn (b4 bs q) (hr)
  |ok x=>
   have hF2:lZ bs (n.1.toNat - (i+1)) x.2 (acc++[x.1])=lZ bs (n.1.toNat - i) q acc:=by rw[hst,lZ,hx]
   have hr:=Ad bs q h hq hx;refine az trivial ?_;refine zj (hr) ?_;refine az @eu ?_;refine hK _ (i+1,x.2,acc++[x.1],nx+1) (Gh.canon [0,2,3] [] [0] (zk (I hw (I @aG.{0} @bG.{0}))) rfl (by simp only[aG,bG];rw[Ca];rfl)) ⟨hi,jT h hx,by simp only[aG,bG];omega⟩ hF2 (by simp only;omega)
 .have hi:i=n.1.toNat:=by
   have:¬(i:Int)<n.1:=by simpa using hge
   omega
  rw[hi,iq,lZ]at hy;obtain⟨rfl,rfl⟩:=o9 hy;exact bA @pa
theorem Xc (bs:List Int) (p:Int) (h:bu bs) (hp:i64 p) {y:Lk×Int} (hy:j8 bs p= .ok y):ah prog 180 [.obj (b4 bs p)] (λ r o=>r=[Qy y.1]/\o=[b4 bs y.2]):=
 (IJ bs p h hp true y 0 hy).1 rfl
theorem Wt (bs:List Int) (p:Int) (h:bu bs) (hp:i64 p) {e:Int} (hy:j8 bs p= .error e):gF prog 180 [.obj (b4 bs p)] (pH e):=
 (IJ bs p h hp false (⟨.empty,0,0,[]⟩,0) e hy).2 rfl
theorem II {bs:List Int} (h:bu bs):∀{n:Nat} {p:Int} {acc:List Int} {y:List Int×Int},i64 p->lZ bs n p acc= .ok y->i64 y.2/\y.1.length=acc.length+n
 |0,p,acc,y,hp,hy=>by cases hy;exact⟨hp,rfl⟩
 |n+1,p,acc,y,hp,hy=>by
  rw[lZ]at hy;cases hx:bI bs p with
  |error x=>rw[hx]at hy;cases hy
  |ok x=>
   rw[hx]at hy;have:=II h (jT h hx) hy;rw[aG,bG]at this;exact⟨this.1,by omega⟩
theorem Fz {bs:List Int} {p:Int} {y:ByteArray×Int} (hy:jl bs p= .ok y):y.1.size≤bs.length:=by obtain⟨_,rfl⟩:=iJ hy;exact FC
theorem Vz {bs:List Int} (h:bu bs) {p:Int} {y:Lk×Int} (hy:j8 bs p= .ok y):i64 y.2/\y.1.line.length≤3/\y.1.name.size≤bs.length:=by
 unfold j8 at hy;cases e1:jl bs p with
 |error x=>rw[e1]at hy;cases hy
 |ok nm=>
 rw[e1]at hy;simp only at hy;cases e2:bI bs nm.2 with
 |error x=>rw[e2]at hy;cases hy
 |ok hd=>
 rw[e2]at hy;simp only at hy;cases e3:aD bs hd.2 with
 |error x=>rw[e3]at hy;cases hy
 |ok tk=>
 rw[e3]at hy;simp only at hy;cases e4:ef bs tk.2 3 with
 |error x=>rw[e4]at hy;cases hy
 |ok n=>
 rw[e4]at hy;simp only at hy;obtain⟨hn1,hn2,hn3⟩:=ui h e4;cases e5:lZ bs n.1.toNat n.2 []with
 |error x=>rw[e5]at hy;cases hy
 |ok l=>
 rw[e5]at hy;simp only at hy;obtain⟨f1,f2⟩:=II h hn1 e5;cases hy;simp only[fN]at f2;exact⟨f1,by simp only;omega,Fz e1⟩
end Go.Proofs.YtliimajkpggbhaaGreat
