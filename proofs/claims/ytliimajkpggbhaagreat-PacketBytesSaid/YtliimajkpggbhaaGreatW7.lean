import Derived.Test.YtliimajkpggbhaaGreatPU
set_option maxHeartbeats 8000000
namespace Go.Proofs.YtliimajkpggbhaaGreat
open Go.Pk Tryz
set_option maxRecDepth 100000
set_option linter.unusedSimpArgs false
set_option linter.unusedVariables false
theorem Hf (n:Nat) (ds:List D) (p k:Int) (hn:n<2^60) (hp:i64 p):
  ah prog 146 [.f (al n ds), .f (ai p), .f (ai k)] (λ r o=>r=[rb (!eU n p k)]/\o=[]):=by
 refine zh func146 results146 ntmps146 call146 ?_;simp only[f146,Option.getD];cases h1:decide (p≥0)
 .have hs:eU n p k=true:=by unfold eU;simp at h1⊢;omega
  rw[hs];exact bA (I h1 @dx)
 .cases h2:decide (p≤(n:Int))
  .have hs:eU n p k=true:=by unfold eU;simp at h1 h2⊢;omega
   rw[hs];exact bA (I h1 (I h2 @dx))
  .have h3:IntKind.i64.wrap ((n:Int) - p)=(n:Int) - p:=by simp at h1 h2;exact wrap64 (by omega) (by omega)
   have hs:(!eU n p k)=decide ((n:Int) - p≥k):=by
    simp at h1 h2;unfold eU;rw[show decide (p<0)=false from by simp;omega,show decide (p>(n:Int))=false from by simp;omega];by_cases h:(n:Int) - p<k
    .simp[h]
    .simp[h];omega
   rw[hs];exact bA (I h1 (I h2 h3))
theorem sB (bs:List Int) (p:Int) (h:bu bs) (hp:i64 p):
  ah prog 97 [.f (al bs.length (ag bs)), .f (ai p)] (λ r o=>r=[ri (bQ bs p).1,ri (bQ bs p).2.1,ri (bQ bs p).2.2]/\o=[]):=by
 refine zh func97 results97 ntmps97 call97 ?_;simp only[f97,Option.getD];have hr:=Hf bs.length (ag bs) p 1 h.l hp;unfold bQ;cases hs:eU bs.length p 1
 .rw[hs]at hr;obtain⟨g1,g2,g3⟩:=lC hs;obtain⟨q,rfl⟩:=nL g1;have hq:q<bs.length:=by omega
  have hat:=oR hq;have hb:=rn hq h.b;unfold aO at hb;have hw:IntKind.i64.wrap (bs.getD q 0)=bs.getD q 0:=wrap64 (by omega) (by omega);have hw2:IntKind.i64.wrap ((q:Int)+1)=(q:Int)+1:=wrap64 (by omega) (by have:=h.l;omega);rw[aa (by simp),gW];exact zW (I hat (I hw (I hw2 (I @ij (I @eR (I @dx @gW)))))) (hr)
 .rw[hs]at hr;rw[aj rfl];exact zW (I @dx @eR) (hr)
theorem Lz:∀{l:List Int} {a:Int},(∀c∈l,aO c)->a*256^l.length≤l.foldl (λ u c=>u*256+c) a
 |[],a,_=>by simp
 |c::l,a,h=>by
  have h2:=h c (by simp);unfold aO at h2;have h3:=Lz (l:=l) (a:=a*256+c) λ x hx=>h x (by simp[hx])
  refine Int.le_trans ?_ h3;rw[cL,Int.pow_succ,Int.mul_comm (256^l.length) 256,←Int.mul_assoc];exact Int.mul_le_mul_of_nonneg_right (by omega) (tC (by decide))
theorem Ym {c:List Int} (h8:c.length=8) (h:∀x∈c,aO x):decide (c.getD 0 0≥64)= !decide (eO c<4611686018427387904):=by
 match c,h8 with
 |a::l,h8=>
  have hl:l.length=7:=by simpa using h8
  have ha:=h a (by simp);unfold aO at ha;have h1:=Lz (l:=l) (a:=a) λ x hx=>h x (by simp[hx])
  have h2:=(Cf (l:=l) (a:=a) ha.1 λ x hx=>h x (by simp[hx])).2;have e:eO (a::l)=l.foldl (λ u c=>u*256+c) a:=by unfold eO;rw[tu];congr 1;omega
  rw[hl]at h1 h2;rw[e];simp only[A7];have h7:(256:Int)^7=72057594037927936:=by decide
  rw[h7]at h1 h2;by_cases hc:a≥64
  .have:¬l.foldl (λ u c=>u*256+c) a<4611686018427387904:=by omega
   simp[hc,this]
  .have:l.foldl (λ u c=>u*256+c) a<4611686018427387904:=by omega
   simp[hc,this]
theorem abl {u c:Int} (hu:0≤u/\u<18014398509481984) (hc:0≤c/\c≤255):
  IntKind.i64.wrap (BitVec.ofInt IntKind.i64.bits (u*256)|||BitVec.ofInt IntKind.i64.bits c).toNat=u*256+c:=by
 have h:=Nt (u:=u) (c:=c) ⟨hu.1,by omega⟩ hc;have e1:(BitVec.ofInt IntKind.u64.bits (u*256)|||BitVec.ofInt IntKind.u64.bits c).toNat<2^64:=(BitVec.ofInt IntKind.u64.bits (u*256)|||BitVec.ofInt IntKind.u64.bits c).isLt;have hb:IntKind.i64.bits=IntKind.u64.bits:=rfl;rw[hb];generalize (BitVec.ofInt IntKind.u64.bits (u*256)|||BitVec.ofInt IntKind.u64.bits c).toNat=x at*;rw[Ec (by omega) (by omega)]at h;rw[h];exact wrap64 (by omega) (by omega)
theorem abg {c:List Int} (h8:c.length=8) (h:∀x∈c,aO x) (h0:c.getD 0 0<64) {i:Nat} (hi:i<8):eO (c.take i)<18014398509481984:=by
 match c,h8 with
 |a::l,h8=>
  have ha:=h a (by simp);unfold aO at ha;simp only[A7]at h0;cases i with
  |zero=>rw[uM];decide
  |succ i=>
   rw[qA];have h2:=(Cf (l:=l.take i) (a:=a) ha.1 λ x hx=>h x (by simp[jm hx])).2;have e:eO (a::l.take i)=(l.take i).foldl (λ u c=>u*256+c) a:=by unfold eO;rw[tu];congr 1;omega
   rw[e];refine Int.lt_of_lt_of_le h2 ?_;have hl:(l.take i).length≤6:=by rw[cu];omega
   have hp:(256:Int)^(l.take i).length≤281474976710656:=by rcases(show(l.take i).length=0∨(l.take i).length=1∨(l.take i).length=2∨(l.take i).length=3∨(l.take i).length=4∨(l.take i).length=5∨(l.take i).length=6 by omega)with h|h|h|h|h|h|h<;>rw[h]<;>decide
   have hq:(0:Int)≤256^(l.take i).length:=tC (by decide)
   calc (a+1)*256^(l.take i).length≤64*256^(l.take i).length:=Int.mul_le_mul_of_nonneg_right (by omega) hq
    _≤18014398509481984:=by omega
theorem vJ (bs:List Int) (p:Int) (h:bu bs) (hp:i64 p):
  ah prog 147 [.f (al bs.length (ag bs)), .f (ai p)] (λ r o=>r=[ri (ch bs p).1,ri (ch bs p).2.1,ri (ch bs p).2.2]/\o=[]):=by
 refine zh func147 results147 ntmps147 call147 ?_;simp only[f147,Option.getD];have hr:=Hf bs.length (ag bs) p 8 h.l hp;unfold ch;cases hs:eU bs.length p 8
 .rw[hs]at hr;obtain⟨g1,g2,g3⟩:=lC hs;obtain⟨q,rfl⟩:=nL g1;have hq:q+8≤bs.length:=by omega
  have hat:=oR (l:=bs) (i:=q) (by omega);rw[aa (by simp),gW];obtain⟨c,hc⟩:∃c,c=(bs.drop q).take 8:=⟨_,rfl⟩;have hc8:c.length=8:=by rw[hc,cu,iM];omega
  have hcb:∀x∈c,aO x:=λ x hx=>by rw[hc]at hx;exact h.b x (oD (jm hx))
  have hcd:∀i,i<8->bs.getD (q+i) 0=c.getD i 0:=λ i hi=>by rw[hc,j7,j7,List.getElem?_take,aj hi,pr]
  have hfi:=Ym hc8 hcb;have h0:=hcd 0 (by omega);rw[iy]at h0;rw[←hc];have hbl:=h.l;have w9:IntKind.i64.wrap ((q:Int)+8)=(q:Int)+8:=wrap64 (by omega) (by omega);cases hlt:decide (eO c<4611686018427387904)
  .rw[hlt]at hfi;have hfi:decide (c.getD 0 0≥64)=true:=hfi;rw[aa (by simpa using hlt)];exact zW (I hat (I h0 (I hfi (I @ij (I @eR (I @dx @gW)))))) (hr)
  .rw[hlt]at hfi;have hfi:decide (c.getD 0 0≥64)=false:=hfi;rw[aj (by simpa using hlt)];refine zL (I hat (I h0 (I hfi (I @ij (I @eR (I @dx @gW)))))) (hr) ?_;have hc64:c.getD 0 0<64:=by have:=of_decide_eq_false hfi;omega
   refine Ac Ty prog (τ:=Nat) (λ i=>⟨(al bs.length (ag bs)::ai q::pT (ai (eO (c.take i))::ai i::rY [])),[]⟩)
    (λ i=>i≤8) (λ i=>8 - i) 0 (Gh.canon [] [] [] zK rfl rfl) (bc _) ?_
   intro i hi0 K hK;refine zw ?_;refine aq (λ hlt2=> ?_) (λ hge=> ?_)
   .have hi:i<8:=by simp at hlt2;omega
    have hi2:i<c.length:=by omega
    have hat2:=oR (l:=bs) (i:=q+i) (by omega);rw[hcd i hi]at hat2;have hw:=bz (i:=i) (n:=8) hi (by omega);have hx:=rn hi2 hcb;unfold aO at hx;have hbi:=(zl (l:=c.take i) λ x hx=>hcb x (jm hx)).1;have hpr:=abg hc8 hcb hc64 hi;have w0:IntKind.i64.wrap ((q:Int)+i)=((q+i:Nat):Int):=by rw[wrap64 (by omega) (by omega)];omega
    have w1:min (Int.toNat 8) IntKind.i64.bits=8:=by decide
    have w2:IntKind.i64.wrap (eO (c.take i)*2^8)=eO (c.take i)*256:=wrap64 (by omega) (by omega);have w3:IntKind.i64.wrap (c.getD i 0)=c.getD i 0:=wrap64 (by omega) (by omega);have w4:=abl (u:=eO (c.take i)) (c:=c.getD i 0) ⟨hbi,hpr⟩ ⟨hx.1,by omega⟩;have w5:=J4 hi2;have w6:¬((8:Int)<0):=by decide
    repeat'(first|(with_reducible first|refine bH _ _ ?_|refine fC ?_|refine fD ?_)|rw[dE]|simp only[hat2,ij,w0,w1,w2,w3,w4,aa w6,gW,zY,Int.reduceEq,Int.reduceBEq,Int.reduceBNe,Nat.reduceSub,Nat.reduceEqDiff,Nat.reduceAdd,Nat.reduceMul,Nat.reduceLeDiff,Nat.reduceLT,Nat.reduceBEq,reduceCtorEq]|refine eA ?_|refine aq (λ hb=> ?_) (λ hb=> ?_)|(refine And.intro ?_ ?_;exact zI)|refine And.intro (λ hg=> ?_) (λ hg=> ?_)|exact zC|fail)
    exact hK _ (i+1) (Gh.canon [] [] [] (zk (I hw w5)) rfl rfl) hi (by omega)
   .have hi:i=8:=by
     have:¬(i:Int)<8:=by simpa using hge
     omega
    subst hi;have ht:c.take 8=c:=dk (by omega);exact bA (I ht w9)
 .rw[hs]at hr;rw[aj rfl];exact zW (I @dx @eR) (hr)
theorem CU (bs:List Int) (p:Int) (h:bu bs) (hp:i64 p):
  ah prog 182 [.f (al bs.length (ag bs)), .f (ai p), .f (ai 12)] (λ r o=>r=[.one (.d (sD (cP bs p 12).1)),ri (cP bs p 12).2.1,ri (cP bs p 12).2.2]/\o=[]):=by
 refine zh func182 results182 ntmps182 call182 ?_;simp only[f182,Option.getD];have hb:=sB bs p h hp;have hbl:=h.l;unfold cP;unfold bQ at hb;cases hs:eU bs.length p 1
 .rw[hs,aa (by simp)]at hb;rw[aa (by simp)];obtain⟨g1,g2,g3⟩:=lC hs;obtain⟨q,rfl⟩:=nL g1;have hx:=rn (l:=bs) (i:=q) (by omega) h.b;unfold aO at hx;rw[gW]at*;have hr:=Hf bs.length (ag bs) ((q:Int)+1) (bs.getD q 0) h.l (by unfold i64;omega);cases hm:decide (bs.getD q 0>12)
  .rw[aa (by simpa using hm)];cases hs2:eU bs.length ((q:Int)+1) (bs.getD q 0)
   .rw[hs2]at hr;rw[aa (by simp)];obtain⟨k1,k2,k3⟩:=lC hs2;obtain⟨x,hxe⟩:=nL hx.1;simp only[hxe]at hr hm hx k3 hb⊢;have w1:IntKind.i64.wrap ((q:Int)+1+(x:Int))=((q+1+x:Nat):Int):=by rw[wrap64 (by omega) (by omega)];omega
    have hq1:((q:Int)+1)=((q+1:Nat):Int):=by omega
    have hsub:q+1+x - (q+1)=x:=by omega
    have hbo:bytesOf (((ag bs).drop (q+1)).take x)=some ((((bs.drop (q+1)).take x)).map λ n=>UInt8.ofNat n.toNat):=by rw[←la,←tj];exact BR _
    have hln:(((ag bs).drop (q+1)).take x).length=x:=by rw[cu,iM,ij];omega
    simp only[hq1]at hr hb k1 k2 k3 w1⊢;simp only[gW];refine zL (I hm (I w1 (I hsub (I hbo (I hln (I @ij (I @eR (I @dx @gW)))))))) (I (hb) (hr)) ?_;rfl
   .rw[hs2]at hr;rw[aj rfl];refine zL (I hm (I @eR @dx)) (I (hb) (hr)) ?_;rfl
  .rw[aj (by simpa using hm)];refine zL hm (hb) ?_;rfl
 .rw[hs,aj rfl]at hb;rw[aj rfl];refine zL trivial (hb) ?_;rfl
theorem Vp (bs:List Int) (p:Int) (h:bu bs) (hp:i64 p):
  ah prog 149 [.f (al bs.length (ag bs)), .f (ai p)] (λ r o=>r=[G1 (kj bs p).1,ri (kj bs p).2.1,ri (kj bs p).2.2]/\o=[]):=by
 refine ah.nil ?_;refine zh func149 results149 ntmps149 call149 ?_;simp only[f149,Option.getD];have hl:=h.l;have h1:=sB bs p h hp;have h2:=vJ bs (bQ bs p).2.1 h (iL h.l pW);have h3:=sB bs (ch bs (bQ bs p).2.1).2.1 h (iL h.l sA);have h4:=sB bs (bQ bs (ch bs (bQ bs p).2.1).2.1).2.1 h (iL h.l pW);unfold kj;simp only;obtain⟨b,hb⟩:∃b,b=bQ bs p:=⟨_,rfl⟩;rw[←hb]at h1 h2 h3 h4⊢;obtain⟨s,hs⟩:∃s,s=ch bs b.2.1:=⟨_,rfl⟩;rw[←hs]at h2 h3 h4⊢;obtain⟨a,ha⟩:∃a,a=bQ bs s.2.1:=⟨_,rfl⟩;rw[←ha]at h3 h4⊢;obtain⟨n,hn⟩:∃n,n=bQ bs a.2.1:=⟨_,rfl⟩;rw[←hn]at h4⊢;have hnv:aO n.1:=by rw[hn];exact vF h
 have hnn:i64 n.2.1:=by rw[hn];exact iL h.l pW
 have hbv:aO b.1:=by rw[hb];exact vF h
 unfold aO at hnv hbv;cases e1:(b.2.2 !=0)
 case true=>
  rw[aj (by simpa using e1)];refine zL e1 (h1) ?_;show(ak _ _/\ak _ _/\ak _ _/\ak _ _/\True)/\ak _ _/\ak _ _/\True;simp[ak]
 rw[aa (by simpa using e1)];cases e2:(s.2.2 !=0)
 case true=>
  rw[aj (by simpa using e2)];refine zL (I e1 e2) (I (h1) (h2)) ?_;show(ak _ _/\ak _ _/\ak _ _/\ak _ _/\True)/\ak _ _/\ak _ _/\True;simp[ak]
 rw[aa (by simpa using e2)];cases e3:(a.2.2 !=0)
 case true=>
  rw[aj (by simpa using e3)];refine zL (I e1 (I e2 e3)) (I (h1) (I (h2) (h3))) ?_;show(ak _ _/\ak _ _/\ak _ _/\ak _ _/\True)/\ak _ _/\ak _ _/\True;simp[ak]
 rw[aa (by simpa using e3)];cases e4:(n.2.2 !=0)
 case true=>
  rw[aj (by simpa using e4)];refine zL (I e1 (I e2 (I e3 e4))) (I (h1) (I (h2) (I (h3) (h4)))) ?_;show(ak _ _/\ak _ _/\ak _ _/\ak _ _/\True)/\ak _ _/\ak _ _/\True;simp[ak]
 rw[aa (by simpa using e4)];cases e5:decide (n.1>4)
 case true=>
  rw[aj (by simpa using e5)];refine zL (I e1 (I e2 (I e3 (I e4 e5)))) (I (h1) (I (h2) (I (h3) (h4)))) ?_;show(ak _ _/\ak _ _/\ak _ _/\ak _ _/\True)/\ak _ _/\ak _ _/\True;simp[ak]
 rw[aa (by simpa using e5)];have hn4:n.1≤4:=by simpa using e5
 have hgk:=Cr (bs:=bs) (n:=n.1.toNat) (p:=n.2.1) (acc:=[]) (by simp);obtain⟨g,hg⟩:∃g,g=gP bs n.1.toNat n.2.1 []:=⟨_,rfl⟩;rw[←hg]at hgk⊢;have h6:=E0 ⟨b.1,s.1,a.1,g.1⟩ ⟨by have:=hgk.1;simp only[fN]at this;simp only;omega,λ x hx=>by have:=hgk.2 x hx;omega⟩;clear hgk;refine zL (I e1 (I e2 (I e3 (I e4 e5)))) (I (h1) (I (h2) (I (h3) (h4)))) ?_;refine bq (τ:=Nat×Int×List dO) (λ t=>⟨(al bs.length (ag bs)::ai t.2.1::dM (cd 4::lq (ai n.1::cd 12::ai t.1::vc (b8 (b8 []))))),[(4,⟨2,[aW 1 [di 0,di 0,di 0, .d (.v (.slice none 0 0))],none,none,none,none]⟩),(12,⟨2,[aW 1 [di b.1,di s.1,di a.1, .own ⟨12,4,1⟩ 0 t.2.2.length],none,none,none,b9 1 2 (dV t.2.2)]⟩),(103,⟨2,[]⟩),(104,⟨2,[]⟩)]⟩)
  (λ t=>t.1≤n.1.toNat/\i64 t.2.1/\t.2.2.length=t.1) (λ t=>gP bs (n.1.toNat - t.1) t.2.1 t.2.2) (λ t=>n.1.toNat - t.1) (0,n.2.1,[])
  ((Gh.mI 12 3 2 rfl).trans (Gh.canon [4,12] [103,104] [] zK rfl rfl)) ⟨bc _,hnn,rfl⟩ ?_
 intro⟨i,q,acc⟩ ⟨hi0,hq,hac⟩ hF K hK;simp only[i7]at hi0 hq hac hF hK⊢;rw[←hg]at hF;refine zw ?_;refine aq (λ hlt=> ?_) (λ hge=> ?_)
 .have hi:i<n.1.toNat:=by simp at hlt;omega
  have hw:=bz hi (by omega);have ht:=CU bs q h hq;have hm:=vJ bs (cP bs q 12).2.1 h (iL h.l (B9 h));have hst:n.1.toNat - i=(n.1.toNat - (i+1))+1:=by omega
  have hF2:=hF;rw[hst,gP]at hF2;cases g1:((cP bs q 12).2.2 !=0)
  .have g1':(cP bs q 12).2.2=0:=by simpa using g1
   rw[aa (by simp[g1'])]at hF2;cases g2:((ch bs (cP bs q 12).2.1).2.2 !=0)
   .have g2':(ch bs (cP bs q 12).2.1).2.2=0:=by simpa using g2
    rw[aa (by simp[g2'])]at hF2;refine zL (I g1 (I g2 @cI)) (I (ht) (hm)) ?_;refine hK _ (i+1,(ch bs (cP bs q 12).2.1).2.1,acc++[⟨(cP bs q 12).1,(ch bs (cP bs q 12).2.1).1⟩]) (Gh.canon [4,12] [] [] (zk (I hw (I @aG.{0} @bG.{0}))) rfl (by simp only[aG,bG];rw[BW];rfl)) ⟨hi,iL h.l sA,by simp only[aG,bG];omega⟩ ?_ (by simp only;omega);simp only;rw[hF2,hF]
   .have g2':(ch bs (cP bs q 12).2.1).2.2≠0:=by simpa using g2
    rw[aj g2']at hF2;rw[←hF2,aj g2'];refine zL (I g1 g2) (I (ht) (hm)) ?_;show(ak _ _/\ak _ _/\ak _ _/\ak _ _/\True)/\ak _ _/\ak _ _/\True;simp[ak]
  .have g1':(cP bs q 12).2.2≠0:=by simpa using g1
   rw[aj g1']at hF2;rw[←hF2,aj g1'];refine zL g1 (ht) ?_;show(ak _ _/\ak _ _/\ak _ _/\ak _ _/\True)/\ak _ _/\ak _ _/\True;simp[ak]
 .have hi:i=n.1.toNat:=by
   have:¬(i:Int)<n.1:=by simpa using hge
   omega
  rw[hi,iq,gP]at hF;rw[←hF]at h6⊢;rw[aa (by simp)];cases e7:fR ⟨b.1,s.1,a.1,acc⟩
  .rw[e7]at h6;rw[aj rfl];refine zL @vu (h6) ?_;show(ak _ _/\ak _ _/\ak _ _/\ak _ _/\True)/\ak _ _/\ak _ _/\True;simp[ak]
  .rw[e7]at h6;rw[aa (by simp)];refine zL @vu (h6) ?_;show(ak _ _/\ak _ _/\ak _ _/\ak _ _/\True)/\ak _ _/\ak _ _/\True;simp[ak, -List.length_flatMap,cI]
theorem Ic (bs:List Int) (p:Int) (h:bu bs) (hp:i64 p):
  ah prog 99 [.f (al bs.length (ag bs)), .f (ai p)] (λ r o=>r=[DO (eC bs p).1,ri (eC bs p).2.1,ri (eC bs p).2.2]/\o=[]):=by
 refine ah.nil ?_;refine zh func99 results99 ntmps99 call99 ?_;simp only[f99,Option.getD];have h1:=sB bs p h hp;have h2:=vJ bs (bQ bs p).2.1 h (iL h.l pW);have h3:=Vp bs (ch bs (bQ bs p).2.1).2.1 h (iL h.l sA);have hf:=(yU h (p:=(ch bs (bQ bs p).2.1).2.1)).2;unfold eC;simp only;obtain⟨b,hb⟩:∃b,b=bQ bs p:=⟨_,rfl⟩;rw[←hb]at h1 h2 h3 hf⊢;obtain⟨s,hs⟩:∃s,s=ch bs b.2.1:=⟨_,rfl⟩;rw[←hs]at h2 h3 hf⊢;obtain⟨a,ha⟩:∃a,a=kj bs s.2.1:=⟨_,rfl⟩;rw[←ha]at h3 hf⊢;have h4:=yT ⟨b.1,s.1,a.1⟩ hf;cases e1:(b.2.2 !=0)
 .rw[aa (by simpa using e1)];cases e2:(s.2.2 !=0)
  .rw[aa (by simpa using e2)];cases e3:(a.2.2 !=0)
   .rw[aa (by simpa using e3)];cases e7:eB ⟨b.1,s.1,a.1⟩
    .rw[e7]at h4;rw[aj rfl];refine zL (I e1 (I e2 e3)) (I (h1) (I (h2) (I (h3) (h4)))) ?_;show(ak _ _/\ak _ _/\ak _ _/\ak _ _/\ak _ _/\ak _ _/\True)/\ak _ _/\ak _ _/\True;simp[ak]
    .rw[e7]at h4;rw[aa (by simp)];refine zL (I e1 (I e2 e3)) (I (h1) (I (h2) (I (h3) (h4)))) ?_;show(ak _ _/\ak _ _/\ak _ _/\ak _ _/\ak _ _/\ak _ _/\True)/\ak _ _/\ak _ _/\True;simp[ak]
   .rw[aj (by simpa using e3)];refine zL (I e1 (I e2 e3)) (I (h1) (I (h2) (h3))) ?_;show(ak _ _/\ak _ _/\ak _ _/\ak _ _/\ak _ _/\ak _ _/\True)/\ak _ _/\ak _ _/\True;simp[ak]
  .rw[aj (by simpa using e2)];refine zL (I e1 e2) (I (h1) (h2)) ?_;show(ak _ _/\ak _ _/\ak _ _/\ak _ _/\ak _ _/\ak _ _/\True)/\ak _ _/\ak _ _/\True;simp[ak]
 .rw[aj (by simpa using e1)];refine zL e1 (h1) ?_;show(ak _ _/\ak _ _/\ak _ _/\ak _ _/\ak _ _/\ak _ _/\True)/\ak _ _/\ak _ _/\True;simp[ak]
abbrev se (bs:List Int) (p e:Int):List RO:=[.d (.sl bs.length (ag bs)), .d (iD p), .d (iD e)]
def cw (bs:List Int) (p e:Int):Int×Int×Int:=if e≠0 then(0,p,e)else ch bs p
def dF (bs:List Int) (p e:Int):Int×Int×Int:=if e≠0 then(0,p,e)else bQ bs p
def iB (bs:List Int) (p e:Int):ByteArray×Int×Int:=if e≠0 then(.empty,p,e)else cP bs p 12
def fS (bs:List Int) (p e most:Int):Int×Int×Int:=
 if(dF bs p e).2.2≠0 then(0,(dF bs p e).2.1,(dF bs p e).2.2)else
 if(dF bs p e).1>most then(0,(dF bs p e).2.1,4)else dF bs p e
theorem sK (bs:List Int) (p e:Int) (h:bu bs) (hp:i64 p):
  ah prog 151 [.obj (se bs p e)] (λ r o=>r=[ri (cw bs p e).1]/\o=[se bs (cw bs p e).2.1 (cw bs p e).2.2]):=by
 refine zh func151 results151 ntmps151 call151 ?_;simp only[f151,Option.getD];have h1:=vJ bs p h hp;unfold cw;cases he:(e !=0)
 .rw[aa (by simpa using he)];exact zW he (h1)
 .rw[aj (by simpa using he)];exact bA he
theorem C' (bs:List Int) (p e:Int) (h:bu bs) (hp:i64 p):
  ah prog 201 [.obj (se bs p e)] (λ r o=>r=[ri (dF bs p e).1]/\o=[se bs (dF bs p e).2.1 (dF bs p e).2.2]):=by
 refine zh func201 results201 ntmps201 call201 ?_;simp only[f201,Option.getD];have h1:=sB bs p h hp;unfold dF;cases he:(e !=0)
 .rw[aa (by simpa using he)];exact zW he (h1)
 .rw[aj (by simpa using he)];exact bA he
theorem Zw (bs:List Int) (p e:Int) (h:bu bs) (hp:i64 p):
  ah prog 202 [.obj (se bs p e)] (λ r o=>r=[.one (.d (sD (iB bs p e).1))]/\o=[se bs (iB bs p e).2.1 (iB bs p e).2.2]):=by
 refine zh func202 results202 ntmps202 call202 ?_;simp only[f202,Option.getD];have h1:=CU bs p h hp;unfold iB;cases he:(e !=0)
 .rw[aa (by simpa using he)];exact zW he (h1)
 .rw[aj (by simpa using he)];refine az he ?_;rfl
theorem CM (bs:List Int) (p e most:Int) (h:bu bs) (hp:i64 p):
  ah prog 200 [.obj (se bs p e), .f (ai most)] (λ r o=>r=[ri (fS bs p e most).1]/\o=[se bs (fS bs p e most).2.1 (fS bs p e most).2.2]):=by
 refine zh func200 results200 ntmps200 call200 ?_;simp only[f200,Option.getD];have h1:=C' bs p e h hp;unfold fS;generalize dF bs p e=b at*;refine az trivial ?_;refine zj (h1) ?_;cases he:(b.2.2==0)
 .have hne:(b.2.2 !=0)=true:=by simpa using he
  rw[aj (by simpa using he)];exact bA (I he hne)
 .have hne:(b.2.2 !=0)=false:=by simpa using he
  rw[aa (by simpa using he)];cases hm:decide (b.1>most)
  .rw[aa (by simpa using hm)];exact bA (I he (I hne hm))
  .rw[aj (by simpa using hm)];exact bA (I he (I hne hm))
theorem nD {bs:List Int} {p e:Int} (h:bu bs) (hp:i64 p):i64 (cw bs p e).2.1:=by
 unfold cw;split
 .exact hp
 .exact iL h.l sA
theorem vx {bs:List Int} {p e:Int} (h:bu bs) (hp:i64 p):i64 (dF bs p e).2.1:=by
 unfold dF;split
 .exact hp
 .exact iL h.l pW
theorem I6 {bs:List Int} {p e:Int} (h:bu bs) (hp:i64 p):i64 (iB bs p e).2.1:=by
 unfold iB;split
 .exact hp
 .exact iL h.l (B9 h)
theorem KC {bs:List Int} {p e:Int} (h:bu bs):0≤(dF bs p e).1/\(dF bs p e).1<256:=by
 unfold dF;split
 .exact⟨Int.le_refl 0,by show(0:Int)<256;decide⟩
 .exact vF h
theorem sj {bs:List Int} {p e most:Int} (h:bu bs) (hp:i64 p) (hm:0≤most):i64 (fS bs p e most).2.1/\0≤(fS bs p e most).1/\(fS bs p e most).1≤most:=by
 have h1:=vx (e:=e) h hp;have h2:=KC (p:=p) (e:=e) h;unfold fS;split
 .exact⟨h1,by simp,hm⟩
 .split
  .exact⟨h1,by simp,hm⟩
  .exact⟨h1,h2.1,by omega⟩
def kz (bs:List Int) (p e:Int):bg×Int×Int:=
 let c:=dF bs p e
 let n:=cw bs c.2.1 c.2.2
 let r:=cw bs n.2.1 n.2.2
 (⟨c.1,n.1,r.1⟩,r.2)
def fg {α:Type} (f:Int->Int->α×Int×Int):Nat->Int->Int->List α->List α×Int×Int
 |0,p,e,acc=>(acc,p,e)
 |n+1,p,e,acc=>fg f n (f p e).2.1 (f p e).2.2 (acc++[(f p e).1])
def ld (bs:List Int) (p e:Int):Lk×Int×Int:=
 let nm:=iB bs p e
 let hd:=dF bs nm.2.1 nm.2.2
 let tk:=cw bs hd.2.1 hd.2.2
 let m:=fS bs tk.2.1 tk.2.2 3
 let l:=fg (dF bs) m.1.toNat m.2.1 m.2.2 []
 (⟨nm.1,hd.1,tk.1,l.1⟩,l.2)
def kP (bs:List Int):Nat->Int->Int->List bN->List bN×Int×Int
 |0,p,e,acc=>(acc,p,e)
 |n+1,p,e,acc=>if e≠0 then(acc,p,e)else kP bs n (eC bs p).2.1 (eC bs p).2.2 (acc++[(eC bs p).1])
def ov (bs:List Int) (p e:Int):St×Int×Int:=
 let t:=cw bs p e
 let u:=cw bs t.2.1 t.2.2
 let k:=cw bs u.2.1 u.2.2
 let n:=fS bs k.2.1 k.2.2 5
 let ss:=fg (kz bs) n.1.toNat n.2.1 n.2.2 []
 let n2:=fS bs ss.2.1 ss.2.2 4
 let ls:=fg (ld bs) n2.1.toNat n2.2.1 n2.2.2 []
 let n3:=fS bs ls.2.1 ls.2.2 8
 let ms:=kP bs n3.1.toNat n3.2.1 n3.2.2 []
 (⟨t.1,u.1,k.1,ss.1,ls.1,ms.1⟩,ms.2)
theorem Vl {bs:List Int} (h:bu bs) {p:Int}:i64 (eC bs p).2.1:=by
 have hz:i64 0:=by unfold i64;omega
 unfold eC;simp only;split
 .exact hz
 split
 .exact hz
 split
 .exact hz
 split
 .exact hz
 exact iL h.l (yU h).1
theorem Jf {bs:List Int} {p e:Int} (h:bu bs) (hp:i64 p):i64 (kz bs p e).2.1:=nD h (nD h (vx h hp))
theorem Co {α:Type} {f:Int->Int->α×Int×Int} (hf:∀p e,i64 p->i64 (f p e).2.1):∀{n:Nat} {p e:Int} {acc:List α},i64 p->i64 (fg f n p e acc).2.1/\(fg f n p e acc).1.length=acc.length+n
 |0,p,e,acc,hp=>⟨hp,rfl⟩
 |n+1,p,e,acc,hp=>by rw[fg];have:=Co hf (n:=n) (e:=(f p e).2.2) (acc:=acc++[(f p e).1]) (hf p e hp);rw[aG,bG]at this;exact⟨this.1,by omega⟩
theorem I9 {bs:List Int} {p e:Int} (h:bu bs) (hp:i64 p):i64 (ld bs p e).2.1:=by unfold ld;simp only;exact(Co (λ p e hp=>vx h hp) (sj h (nD h (vx h (I6 h hp))) (by decide)).1).1
abbrev EJ (bs:List Int) (q e:Int) (nx:Nat):Nat×RS:=(0,{next:=nx,l:=[some {e:=0,var:=true,fz:=false,dR:=true,sz:=0,cells:=[.d (.sl bs.length (ag bs)),di q,di e]},none,none,none]})
theorem XV (bs:List Int) (p e:Int) (h:bu bs) (hp:i64 p):
  ah prog 184 [.obj (se bs p e)] (λ r o=>r=[(ov bs p e).1.rf]/\o=[se bs (ov bs p e).2.1 (ov bs p e).2.2]):=by
 refine zh func184 results184 ntmps184 call184 ?_;simp only[f184,Option.getD];unfold ov;simp only;have h1:=sK bs p e h hp;have p1:=nD (e:=e) h hp;generalize cw bs p e=t at*;have h2:=sK bs t.2.1 t.2.2 h p1;have p2:=nD (e:=t.2.2) h p1;generalize cw bs t.2.1 t.2.2=u at*;have h3:=sK bs u.2.1 u.2.2 h p2;have p3:=nD (e:=u.2.2) h p2;generalize cw bs u.2.1 u.2.2=k at*;have h4:=CM bs k.2.1 k.2.2 5 h p3;obtain⟨p4,n1,n2⟩:=sj (e:=k.2.2) (most:=5) h p3 (by decide);generalize fS bs k.2.1 k.2.2 5=n at*;refine az trivial ?_;refine zj (h1) ?_;refine az trivial ?_;refine zj (h2) ?_;refine az trivial ?_;refine zj (h3) ?_;refine az trivial ?_;refine zj (h4) ?_;refine az trivial ?_;refine bq (τ:=Nat×Int×Int×List bg×Nat) (λ a=>⟨(.one (.ptr ⟨0,0,0⟩ 0)::dd::cd 2::cd 3::ai n.1::ai a.1::js (b8 (b8 (b8 [])))),[EJ bs a.2.1 a.2.2.1 a.2.2.2.2,(2,⟨2,[aW 1 [di 0,di 0,di 0, .d (.v cY), .d (.v cY), .d (.v cY)],none,none,none,none,none,none]⟩),(3,⟨2,[aW 1 [di t.1,di u.1,di k.1, .own ⟨3,4,1⟩ 0 a.2.2.2.1.length, .d (.v cY), .d (.v cY)],none,none,none,b9 1 3 (bT a.2.2.2.1),none,none]⟩),(6,⟨2,[]⟩),(43,⟨2,[]⟩),(44,⟨2,[]⟩)]⟩)
  (λ a=>a.1≤n.1.toNat/\i64 a.2.1/\a.2.2.2.1.length=a.1) (λ a=>fg (kz bs) (n.1.toNat - a.1) a.2.1 a.2.2.1 a.2.2.2.1) (λ a=>n.1.toNat - a.1) (0,n.2.1,n.2.2,[],5)
  ((Gh.mI 3 3 3 rfl).trans (Gh.canon [0,2,3] [6,43,44] [0] zK rfl rfl)) ⟨bc _,p4,rfl⟩ ?_
 intro⟨i,q,c,acc,nx⟩ ⟨hi0,hq,ha⟩ hF K hK;simp only[i7]at hi0 hq ha hF hK⊢;refine zw ?_;refine aq (λ hlt=> ?_) (λ hge=> ?_)
 .have hi:i<n.1.toNat:=by simp at hlt;omega
  have hw:=bz hi (by omega);have hst:n.1.toNat - i=(n.1.toNat - (i+1))+1:=by omega
  have g1:=C' bs q c h hq;have q1:=vx (e:=c) h hq;have g2:=sK bs _ (dF bs q c).2.2 h q1;have q2:=nD (e:=(dF bs q c).2.2) h q1;have g3:=sK bs _ (cw bs (dF bs q c).2.1 (dF bs q c).2.2).2.2 h q2;have q3:=Jf (e:=c) h hq;have hF2:fg (kz bs) (n.1.toNat - (i+1)) (kz bs q c).2.1 (kz bs q c).2.2 (acc++[(kz bs q c).1])=fg (kz bs) (n.1.toNat - i) q c acc:=by rw[hst,fg]
  refine az trivial ?_;refine zj (g1) ?_;refine az trivial ?_;refine zj (g2) ?_;refine az trivial ?_;refine zj (g3) ?_;refine az @ca ?_;refine hK _ (i+1,(kz bs q c).2.1,(kz bs q c).2.2,acc++[(kz bs q c).1],nx+3) (Gh.canon [0,2,3] [] [0] (zk (I hw (I @aG.{0} @bG.{0}))) rfl (by simp only[aG,bG];rw[xg];rfl)) ⟨hi,q3,by simp only[aG,bG];omega⟩ (by simp only;rw[hF2,hF]) (by simp only;omega)
 .have hi:i=n.1.toNat:=by
   have:¬(i:Int)<n.1:=by simpa using hge
   omega
  rw[hi,iq,fg]at hF;rw[←hF];simp only;clear hK hF;have hal:acc.length≤5:=by omega
  have h5:=CM bs q c 4 h hq;obtain⟨p5,m1,m2⟩:=sj (e:=c) (most:=4) h hq (by decide);generalize fS bs q c 4=n2 at*;refine az trivial ?_;refine zj (h5) ?_;refine az trivial ?_;refine bq (τ:=Nat×Int×Int×List Lk×Nat) (λ a=>⟨(.one (.ptr ⟨0,0,0⟩ 0)::dd::cd 2::cd 3::ai n2.1::dM (ai a.1::dM (b8 (b8 (b8 []))))),[EJ bs a.2.1 a.2.2.1 a.2.2.2.2,(2,⟨2,[aW 1 [di 0,di 0,di 0, .d (.v cY), .d (.v cY), .d (.v cY)],none,none,none,none,none,none]⟩),(3,⟨2,[aW 1 [di t.1,di u.1,di k.1, .own ⟨3,4,1⟩ 0 acc.length, .own ⟨3,5,1⟩ 0 a.2.2.2.1.length, .d (.v cY)],none,none,none,b9 1 3 (bT acc),b9 1 4 (aU a.2.2.2.1),none]⟩),(6,⟨2,[]⟩),(43,⟨2,[]⟩),(44,⟨2,[]⟩),(8,⟨2,[]⟩),(73,⟨2,[]⟩),(74,⟨2,[]⟩),(79,⟨2,[]⟩),(80,⟨2,[]⟩)]⟩)
   (λ a=>a.1≤n2.1.toNat/\i64 a.2.1/\a.2.2.2.1.length=a.1) (λ a=>fg (ld bs) (n2.1.toNat - a.1) a.2.1 a.2.2.1 a.2.2.2.1) (λ a=>n2.1.toNat - a.1) (0,n2.2.1,n2.2.2,[],nx+1)
   ((Gh.mI 3 4 4 rfl).trans (Gh.canon [0,2,3] [8,73,74,79,80] [0] zK rfl rfl)) ⟨bc _,p5,rfl⟩ ?_
  intro⟨j,q2,c2,ls,nx2⟩ ⟨hj0,hq2,hl⟩ hF K hK;simp only[i7]at hj0 hq2 hl hF hK⊢;refine zw ?_;refine aq (λ hlt2=> ?_) (λ hge2=> ?_)
  .have hj:j<n2.1.toNat:=by simp at hlt2;omega
   have hw:=bz hj (by omega);have hst:n2.1.toNat - j=(n2.1.toNat - (j+1))+1:=by omega
   obtain⟨X,hX⟩:∃X,X=ld bs q2 c2:=⟨_,rfl⟩;have hF2:fg (ld bs) (n2.1.toNat - (j+1)) X.2.1 X.2.2 (ls++[X.1])=fg (ld bs) (n2.1.toNat - j) q2 c2 ls:=by rw[hX,hst,fg]
   have ql:i64 X.2.1:=by rw[hX];exact I9 h hq2
   unfold ld at hX;simp only at hX;have g1:=Zw bs q2 c2 h hq2;have q3:=I6 (e:=c2) h hq2;generalize iB bs q2 c2=nm at*;have g2:=C' bs nm.2.1 nm.2.2 h q3;have q4:=vx (e:=nm.2.2) h q3;generalize dF bs nm.2.1 nm.2.2=hd at*;have g3:=sK bs hd.2.1 hd.2.2 h q4;have q5:=nD (e:=hd.2.2) h q4;generalize cw bs hd.2.1 hd.2.2=tk at*;have g4:=CM bs tk.2.1 tk.2.2 3 h q5;obtain⟨q6,m3,m4⟩:=sj (e:=tk.2.2) (most:=3) h q5 (by decide);generalize fS bs tk.2.1 tk.2.2 3=m at*;refine az trivial ?_;refine zj (g1) ?_;refine az trivial ?_;refine zj (g2) ?_;refine az trivial ?_;refine zj (g3) ?_;refine az trivial ?_;refine zj (g4) ?_;refine az trivial ?_;refine bq (τ:=Nat×Int×Int×List Int×Nat) (λ a=>⟨(.one (.ptr ⟨0,0,0⟩ 0)::dd::cd 2::cd 3::ai n2.1::dM (ai j::cd 8::ai m.1::ai a.1::wS (b8 (b8 [])))),[EJ bs a.2.1 a.2.2.1 a.2.2.2.2,(2,⟨2,[aW 1 [di 0,di 0,di 0, .d (.v cY), .d (.v cY), .d (.v cY)],none,none,none,none,none,none]⟩),(3,⟨2,[aW 1 [di t.1,di u.1,di k.1, .own ⟨3,4,1⟩ 0 acc.length, .own ⟨3,5,1⟩ 0 ls.length, .d (.v cY)],none,none,none,b9 1 3 (bT acc),b9 1 4 (aU ls),none]⟩),(6,⟨2,[]⟩),(43,⟨2,[]⟩),(44,⟨2,[]⟩),(8,⟨2,[aW 1 [dS nm.1,di hd.1,di tk.1, .own ⟨8,4,1⟩ 0 a.2.2.2.1.length],none,none,none,b9 1 1 (bt a.2.2.2.1)]⟩),(73,⟨2,[]⟩),(74,⟨2,[]⟩),(79,⟨2,[]⟩),(80,⟨2,[]⟩)]⟩)
    (λ a=>a.1≤m.1.toNat/\i64 a.2.1/\a.2.2.2.1.length=a.1) (λ a=>fg (dF bs) (m.1.toNat - a.1) a.2.1 a.2.2.1 a.2.2.2.1) (λ a=>m.1.toNat - a.1) (0,m.2.1,m.2.2,[],nx2+4)
    ((Gh.mI 8 3 1 rfl).trans (Gh.canon [0,2,3,8] [] [0] zK rfl rfl)) ⟨bc _,q6,rfl⟩ ?_
   intro⟨x,q7,c7,li,nx3⟩ ⟨hx0,hq7,hli⟩ hF7 K2 hK2;simp only[i7]at hx0 hq7 hli hF7 hK2⊢;refine zw ?_;refine aq (λ hlt3=> ?_) (λ hge3=> ?_)
   .have hx:x<m.1.toNat:=by simp at hlt3;omega
    have hw3:=bz hx (by omega);have hst3:m.1.toNat - x=(m.1.toNat - (x+1))+1:=by omega
    have g5:=C' bs q7 c7 h hq7;have q8:=vx (e:=c7) h hq7;have hF8:fg (dF bs) (m.1.toNat - (x+1)) (dF bs q7 c7).2.1 (dF bs q7 c7).2.2 (li++[(dF bs q7 c7).1])=fg (dF bs) (m.1.toNat - x) q7 c7 li:=by rw[hst3,fg]
    refine az trivial ?_;refine zj (g5) ?_;refine az @eu ?_;refine hK2 _ (x+1,(dF bs q7 c7).2.1,(dF bs q7 c7).2.2,li++[(dF bs q7 c7).1],nx3+1) (Gh.canon [0,2,3,8] [] [0] (zk (I hw3 (I @aG.{0} @bG.{0}))) rfl (by simp only[aG,bG];rw[Ca];rfl)) ⟨hx,q8,by simp only[aG,bG];omega⟩ (by simp only;rw[hF8]) (by simp only;omega)
   .have hx:x=m.1.toNat:=by
     have:¬(x:Int)<m.1:=by simpa using hge3
     omega
    rw[hx,iq,fg]at hF7;rw[←hF7]at hX;rw[hX]at hF2 ql;simp only at hF2 ql;refine az (I @bK @Cz) ?_;refine hK _ (j+1,q7,c7,ls++[⟨nm.1,hd.1,tk.1,li⟩],nx3) (Gh.canon [0,2,3] [] [0] (zk (I hw (I @aG.{0} @bG.{0}))) rfl (by simp only[aG,bG];rw[yZ];rfl)) ⟨hj,ql,by simp only[aG,bG];omega⟩ hF2 (by simp only;omega)
  .have hj:j=n2.1.toNat:=by
    have:¬(j:Int)<n2.1:=by simpa using hge2
    omega
   rw[hj,iq,fg]at hF;rw[←hF];simp only;clear hK hF;have hll:ls.length≤4:=by omega
   have h6:=CM bs q2 c2 8 h hq2;obtain⟨p6,m5,m6⟩:=sj (e:=c2) (most:=8) h hq2 (by decide);generalize fS bs q2 c2 8=n3 at*;refine az trivial ?_;refine zj (h6) ?_;refine az trivial ?_;refine bq (τ:=Nat×Int×Int×List bN×Nat) (λ a=>⟨(.one (.ptr ⟨0,0,0⟩ 0)::dd::cd 2::cd 3::ai n3.1::lq (ai a.1::Bp (b8 (b8 [])))),[EJ bs a.2.1 a.2.2.1 a.2.2.2.2,(2,⟨2,[aW 1 [di 0,di 0,di 0, .d (.v cY), .d (.v cY), .d (.v cY)],none,none,none,none,none,none]⟩),(3,⟨2,[aW 1 [di t.1,di u.1,di k.1, .own ⟨3,4,1⟩ 0 acc.length, .own ⟨3,5,1⟩ 0 ls.length, .own ⟨3,6,1⟩ 0 a.2.2.2.1.length],none,none,none,b9 1 3 (bT acc),b9 1 4 (aU ls),b9 1 6 (ct a.2.2.2.1)]⟩),(6,⟨2,[]⟩),(43,⟨2,[]⟩),(44,⟨2,[]⟩),(8,⟨2,[]⟩),(73,⟨2,[]⟩),(74,⟨2,[]⟩),(79,⟨2,[]⟩),(80,⟨2,[]⟩),(12,⟨2,[]⟩),(105,⟨2,[]⟩),(126,⟨2,[]⟩),(127,⟨2,[]⟩)]⟩)
    (λ a=>a.1≤n3.1.toNat/\i64 a.2.1/\a.2.2.2.1.length=a.1) (λ a=>kP bs (n3.1.toNat - a.1) a.2.1 a.2.2.1 a.2.2.2.1) (λ a=>n3.1.toNat - a.1) (0,n3.2.1,n3.2.2,[],nx2+1)
    ((Gh.mI 3 5 6 rfl).trans (Gh.canon [0,2,3] [12,105,126,127] [0] zK rfl rfl)) ⟨bc _,p6,rfl⟩ ?_
   intro⟨x,q3,c3,ms,nx3⟩ ⟨hx0,hq3,hml⟩ hF K hK;simp only[i7]at hx0 hq3 hml hF hK⊢;refine zw ?_;refine aq (λ hlt3=> ?_) (λ hge3=> ?_)
   .simp only[bM,dX,iz]at hlt3;have hx:x<n3.1.toNat:=by omega
    have hc3:c3=0:=hlt3.2;have hw:=bz hx (by omega);have hst:n3.1.toNat - x=(n3.1.toNat - (x+1))+1:=by omega
    have g1:=Ic bs q3 h hq3;have hF2:kP bs (n3.1.toNat - (x+1)) (eC bs q3).2.1 (eC bs q3).2.2 (ms++[(eC bs q3).1])=kP bs (n3.1.toNat - x) q3 c3 ms:=by rw[hst,kP,aa (by rw[hc3];simp)]
    refine zL @cN (g1) ?_;refine hK _ (x+1,(eC bs q3).2.1,(eC bs q3).2.2,ms++[(eC bs q3).1],nx3+2) (Gh.canon [0,2,3] [] [0] (zk (I hw (I @aG.{0} @bG.{0}))) rfl (by simp only[aG,bG];rw[xa];rfl)) ⟨hx,Vl h,by simp only[aG,bG];omega⟩ (by simp only;rw[hF2,hF]) (by simp only;omega)
   .have hend:kP bs (n3.1.toNat - x) q3 c3 ms=(ms,q3,c3):=by
     by_cases hc:c3=0
     .have hx:¬(x:Int)<n3.1:=by intro hx;rw[hc]at hge3;simp[hx]at hge3
      rw[show n3.1.toNat - x=0 by omega,kP]
     .cases n3.1.toNat - x with
      |zero=>rfl
      |succ y=>rw[kP,aj hc]
    rw[hend]at hF;rw[←hF];refine az trivial ?_;rfl
def E2 {α:Type} (x:α×Int×Int) (r:Rr α):Prop:=match r with
 | .ok y=>x=(y.1,y.2,0)
 | .error c=>x.2.2=c/\c≠0
theorem uT {α:Type} (x:α×Int×Int):E2 x (kc x):=by
 unfold kc;split
 .rename_i h;show x=(x.1,x.2.1,0);rw[←h]
 .rename_i h;exact⟨rfl,h⟩
theorem HA {bs:List Int} {p:Int}:cw bs p 0=ch bs p:=by unfold cw;rw[aa (by simp)]
theorem Hj {bs:List Int} {p:Int}:dF bs p 0=bQ bs p:=by unfold dF;rw[aa (by simp)]
theorem abw {bs:List Int} {p:Int}:iB bs p 0=cP bs p 12:=by unfold iB;rw[aa (by simp)]
theorem ph {bs:List Int} {p e:Int}:e=0∨(cw bs p e).2.2=e:=by
 by_cases h:e=0
 .exact .inl h
 .right;unfold cw;rw[aj h]
theorem vO {bs:List Int} {p e:Int}:e=0∨(dF bs p e).2.2=e:=by
 by_cases h:e=0
 .exact .inl h
 .right;unfold dF;rw[aj h]
theorem M' {bs:List Int} {p e:Int}:e=0∨(iB bs p e).2.2=e:=by
 by_cases h:e=0
 .exact .inl h
 .right;unfold iB;rw[aj h]
theorem Ai {bs:List Int} {p e m:Int}:e=0∨(fS bs p e m).2.2=e:=by
 rcases vO (bs:=bs) (p:=p) (e:=e)with h|h
 .exact .inl h
 .by_cases h0:e=0
  .exact .inl h0
  .right;unfold fS;rw[aj (by rw[h];exact h0)];exact h
theorem xL {α:Type} {f:Int->Int->α×Int×Int} (hf:∀p e,e=0∨(f p e).2.2=e):∀{n:Nat} {p e:Int} {acc:List α},e=0∨(fg f n p e acc).2.2=e
 |0,p,e,acc=> .inr rfl
 |n+1,p,e,acc=>by
  rw[fg];rcases hf p e with h|h
  .exact .inl h
  .rw[h];exact xL hf
theorem LR {bs:List Int}:∀{n:Nat} {p e:Int} {acc:List bN},e=0∨(kP bs n p e acc).2.2=e
 |0,p,e,acc=> .inr rfl
 |n+1,p,e,acc=>by
  rw[kP];by_cases h:e=0
  .exact .inl h
  .rw[aj h];exact .inr rfl
theorem Na {bs:List Int} {p e:Int}:e=0∨(kz bs p e).2.2=e:=by unfold kz;simp only;have h1:=vO (bs:=bs) (p:=p) (e:=e);generalize dF bs p e=c at*;have h2:=ph (bs:=bs) (p:=c.2.1) (e:=c.2.2);generalize cw bs c.2.1 c.2.2=n at*;have h3:=ph (bs:=bs) (p:=n.2.1) (e:=n.2.2);omega
theorem MN {bs:List Int} {p e:Int}:e=0∨(ld bs p e).2.2=e:=by unfold ld;simp only;have h1:=M' (bs:=bs) (p:=p) (e:=e);generalize iB bs p e=c at*;have h2:=vO (bs:=bs) (p:=c.2.1) (e:=c.2.2);generalize dF bs c.2.1 c.2.2=n at*;have h3:=ph (bs:=bs) (p:=n.2.1) (e:=n.2.2);generalize cw bs n.2.1 n.2.2=k at*;have h4:=Ai (bs:=bs) (p:=k.2.1) (e:=k.2.2) (m:=3);generalize fS bs k.2.1 k.2.2 3=m at*;have h5:=xL (f:=dF bs) (λ p e=>vO) (n:=m.1.toNat) (p:=m.2.1) (e:=m.2.2) (acc:=[]);omega
theorem C1 {bs:List Int} {p m:Int}:E2 (fS bs p 0 m) (ef bs p m):=by
 unfold fS ef;rw[Hj];have h:=uT (bQ bs p);unfold bI;cases hr:kc (bQ bs p)with
 |error c=>
  rw[hr]at h;rw[aj (by rw[h.1];exact h.2)];exact h
 |ok y=>
  rw[hr]at h;have h:bQ bs p=(y.1,y.2,0):=h;rw[h];simp only;rw[aa (by simp)];split
  .exact⟨rfl,by decide⟩
  .rfl
theorem DI {α:Type} {f:Int->Int->α×Int×Int} {g:Int->Rr α} (h1:∀p,E2 (f p 0) (g p)) (h2:∀p e,e=0∨(f p e).2.2=e):∀{n:Nat} {p:Int} {acc:List α},E2 (fg f n p 0 acc) (bL g n p acc)
 |0,p,acc=>rfl
 |n+1,p,acc=>by
  rw[fg,bL];have h:=h1 p;cases hr:g p with
  |error c=>
   rw[hr]at h;obtain⟨h,h0⟩:=h;rw[h];refine⟨?_,h0⟩;rcases xL h2 (n:=n) (p:=(f p 0).2.1) (e:=c) (acc:=acc++[(f p 0).1])with k|k
   .exact absurd k h0
   .exact k
  |ok y=>
   rw[hr]at h;have h:f p 0=(y.1,y.2,0):=h;rw[h];exact DI h1 h2
theorem Lx {bs:List Int}:∀{n:Nat} {p:Int} {acc:List bN},E2 (kP bs n p 0 acc) (bL (jn bs) n p acc)
 |0,p,acc=>rfl
 |n+1,p,acc=>by
  rw[kP,bL,aa (by simp)];have h:=uT (eC bs p);unfold jn;cases hr:kc (eC bs p)with
  |error c=>
   rw[hr]at h;obtain⟨h,h0⟩:=h;rw[h];refine⟨?_,h0⟩;rcases LR (bs:=bs) (n:=n) (p:=(eC bs p).2.1) (e:=c) (acc:=acc++[(eC bs p).1])with k|k
   .exact absurd k h0
   .exact k
  |ok y=>
   rw[hr]at h;have h:eC bs p=(y.1,y.2,0):=h;rw[h];exact Lx
theorem abm {bs:List Int} {p:Int}:E2 (kz bs p 0) (na bs p):=by
 unfold kz na;simp only;rw[Hj];have h:=uT (bQ bs p);unfold bI aD;cases hr:kc (bQ bs p)with
 |error c=>
  rw[hr]at h;obtain⟨h,h0⟩:=h;generalize bQ bs p=c1 at*;have h2:=ph (bs:=bs) (p:=c1.2.1) (e:=c1.2.2);generalize cw bs c1.2.1 c1.2.2=n at*;have h3:=ph (bs:=bs) (p:=n.2.1) (e:=n.2.2);exact⟨by simp only;omega,h0⟩
 |ok y=>
  rw[hr]at h;have h:bQ bs p=(y.1,y.2,0):=h;rw[h];simp only;rw[HA];have k:=uT (ch bs y.2);cases hr2:kc (ch bs y.2)with
  |error c=>
   rw[hr2]at k;obtain⟨k,k0⟩:=k;generalize ch bs y.2=n at*;have h3:=ph (bs:=bs) (p:=n.2.1) (e:=n.2.2);exact⟨by simp only;omega,k0⟩
  |ok z=>
   rw[hr2]at k;have k:ch bs y.2=(z.1,z.2,0):=k;rw[k];simp only;rw[HA];have l:=uT (ch bs z.2);cases hr3:kc (ch bs z.2)with
   |error c=>rw[hr3]at l;exact l
   |ok x=>
    rw[hr3]at l;have l:ch bs z.2=(x.1,x.2,0):=l;rw[l];rfl
theorem vU {bs:List Int} {p:Int}:E2 (cw bs p 0) (aD bs p):=by rw[HA];exact uT _
theorem M8 {bs:List Int} {p:Int}:E2 (dF bs p 0) (bI bs p):=by rw[Hj];exact uT _
theorem abf {bs:List Int} {p:Int}:E2 (iB bs p 0) (jl bs p):=by rw[abw];exact uT _
theorem lS {α:Type} {x:α×Int×Int} {r:Rr α} {y:α×Int} (h:E2 x r) (hr:r= .ok y):x=(y.1,y.2,0):=by subst hr;exact h
theorem lT {α:Type} {x:α×Int×Int} {r:Rr α} {c:Int} (h:E2 x r) (hr:r= .error c):x.2.2=c/\c≠0:=by subst hr;exact h
theorem ab4 {bs:List Int} {p:Int}:E2 (ld bs p 0) (j8 bs p):=by
 unfold ld;simp only;have k1:=M' (bs:=bs) (p:=p) (e:=0);have E1:=abf (bs:=bs) (p:=p);obtain⟨c,hc⟩:∃c,c=iB bs p 0:=⟨_,rfl⟩;rw[←hc]at k1 E1⊢;have k2:=vO (bs:=bs) (p:=c.2.1) (e:=c.2.2);obtain⟨n,hn⟩:∃n,n=dF bs c.2.1 c.2.2:=⟨_,rfl⟩;rw[←hn]at k2⊢;have k3:=ph (bs:=bs) (p:=n.2.1) (e:=n.2.2);obtain⟨k,hk⟩:∃k,k=cw bs n.2.1 n.2.2:=⟨_,rfl⟩;rw[←hk]at k3⊢;have k4:=Ai (bs:=bs) (p:=k.2.1) (e:=k.2.2) (m:=3);obtain⟨m,hm⟩:∃m,m=fS bs k.2.1 k.2.2 3:=⟨_,rfl⟩;rw[←hm]at k4⊢;have k5:=xL (f:=dF bs) (λ p e=>vO) (n:=m.1.toNat) (p:=m.2.1) (e:=m.2.2) (acc:=[]);obtain⟨l,hl⟩:∃l,l=fg (dF bs) m.1.toNat m.2.1 m.2.2 []:=⟨_,rfl⟩;rw[←hl]at k5⊢;unfold j8;cases e1:jl bs p with
 |error x=>obtain⟨a,b⟩:=lT E1 e1;exact⟨by simp only;omega,b⟩
 |ok y=>
 have E1:=lS E1 e1;rw[E1]at hn;simp only at hn;have E2':=M8 (bs:=bs) (p:=y.2);rw[←hn]at E2';simp only;cases e2:bI bs y.2 with
 |error x=>obtain⟨a,b⟩:=lT E2' e2;exact⟨by simp only;omega,b⟩
 |ok z=>
 have E3:=lS E2' e2;rw[E3]at hk;simp only at hk;have E4:=vU (bs:=bs) (p:=z.2);rw[←hk]at E4;simp only;cases e3:aD bs z.2 with
 |error x=>obtain⟨a,b⟩:=lT E4 e3;exact⟨by simp only;omega,b⟩
 |ok w=>
 have E5:=lS E4 e3;rw[E5]at hm;simp only at hm;have E6:=C1 (bs:=bs) (p:=w.2) (m:=3);rw[←hm]at E6;simp only;cases e4:ef bs w.2 3 with
 |error x=>obtain⟨a,b⟩:=lT E6 e4;exact⟨by simp only;omega,b⟩
 |ok v=>
 have E7:=lS E6 e4;rw[E7]at hl;simp only at hl;have E8:=DI (λ p=>M8 (bs:=bs) (p:=p)) (λ p e=>vO) (n:=v.1.toNat) (p:=v.2) (acc:=[]);rw[←hl]at E8;simp only;rw[FF];cases e5:bL (bI bs) v.1.toNat v.2 []with
 |error x=>obtain⟨a,b⟩:=lT E8 e5;exact⟨by simp only;omega,b⟩
 |ok u=>
 have E9:=lS E8 e5;show(_,_)=(_,_,_);rw[E1,E3,E5,E9]
theorem IP (bs:List Int) (p:Int):(∀y,ko bs p= .ok y->ov bs p 0=(y.1,y.2,0))/\
  ∀c,ko bs p= .error c->c≠0/\((ov bs p 0).2.2=c∨((ov bs p 0).2.2=0/\gE (ov bs p 0).1=false/\c=4)):=by
 unfold ov;simp only;have E1:=vU (bs:=bs) (p:=p);obtain⟨t,ht⟩:∃t,t=cw bs p 0:=⟨_,rfl⟩;rw[←ht]at E1⊢;have k2:=ph (bs:=bs) (p:=t.2.1) (e:=t.2.2);obtain⟨u,hu⟩:∃u,u=cw bs t.2.1 t.2.2:=⟨_,rfl⟩;rw[←hu]at k2⊢;have k3:=ph (bs:=bs) (p:=u.2.1) (e:=u.2.2);obtain⟨k,hk⟩:∃k,k=cw bs u.2.1 u.2.2:=⟨_,rfl⟩;rw[←hk]at k3⊢;have k4:=Ai (bs:=bs) (p:=k.2.1) (e:=k.2.2) (m:=5);obtain⟨n,hn⟩:∃n,n=fS bs k.2.1 k.2.2 5:=⟨_,rfl⟩;rw[←hn]at k4⊢;have k5:=xL (f:=kz bs) (λ p e=>Na) (n:=n.1.toNat) (p:=n.2.1) (e:=n.2.2) (acc:=[]);obtain⟨ss,hss⟩:∃ss,ss=fg (kz bs) n.1.toNat n.2.1 n.2.2 []:=⟨_,rfl⟩;rw[←hss]at k5⊢;have k6:=Ai (bs:=bs) (p:=ss.2.1) (e:=ss.2.2) (m:=4);obtain⟨n2,hn2⟩:∃n2,n2=fS bs ss.2.1 ss.2.2 4:=⟨_,rfl⟩;rw[←hn2]at k6⊢;have k7:=xL (f:=ld bs) (λ p e=>MN) (n:=n2.1.toNat) (p:=n2.2.1) (e:=n2.2.2) (acc:=[]);obtain⟨ls,hls⟩:∃ls,ls=fg (ld bs) n2.1.toNat n2.2.1 n2.2.2 []:=⟨_,rfl⟩;rw[←hls]at k7⊢;have k8:=Ai (bs:=bs) (p:=ls.2.1) (e:=ls.2.2) (m:=8);obtain⟨n3,hn3⟩:∃n3,n3=fS bs ls.2.1 ls.2.2 8:=⟨_,rfl⟩;rw[←hn3]at k8⊢;have k9:=LR (bs:=bs) (n:=n3.1.toNat) (p:=n3.2.1) (e:=n3.2.2) (acc:=[]);obtain⟨ms,hms⟩:∃ms,ms=kP bs n3.1.toNat n3.2.1 n3.2.2 []:=⟨_,rfl⟩;rw[←hms]at k9⊢;have no:∀{x c:Int},(.error x:Rr St)= .error c->x=c:=λ h=>by cases h;rfl
 unfold ko;cases e1:aD bs p with
 |error x=>obtain⟨a,b⟩:=lT E1 e1;exact⟨λ y h=>(by cases h),λ c h=>by have:=no h;omega⟩
 |ok y1=>
 have E1:=lS E1 e1;rw[E1]at hu;simp only at hu;have F:=vU (bs:=bs) (p:=y1.2);rw[←hu]at F;simp only;cases e2:aD bs y1.2 with
 |error x=>obtain⟨a,b⟩:=lT F e2;exact⟨λ y h=>(by cases h),λ c h=>by have:=no h;omega⟩
 |ok y2=>
 have E2':=lS F e2;rw[E2']at hk;simp only at hk;have F:=vU (bs:=bs) (p:=y2.2);rw[←hk]at F;simp only;cases e3:aD bs y2.2 with
 |error x=>obtain⟨a,b⟩:=lT F e3;exact⟨λ y h=>(by cases h),λ c h=>by have:=no h;omega⟩
 |ok y3=>
 have E3:=lS F e3;rw[E3]at hn;simp only at hn;have F:=C1 (bs:=bs) (p:=y3.2) (m:=5);rw[←hn]at F;simp only;cases e4:ef bs y3.2 5 with
 |error x=>obtain⟨a,b⟩:=lT F e4;exact⟨λ y h=>(by cases h),λ c h=>by have:=no h;omega⟩
 |ok y4=>
 have E4:=lS F e4;rw[E4]at hss;simp only at hss;have F:=DI (λ p=>abm (bs:=bs) (p:=p)) (λ p e=>Na) (n:=y4.1.toNat) (p:=y4.2) (acc:=[]);rw[←hss]at F;simp only;cases e5:bL (na bs) y4.1.toNat y4.2 []with
 |error x=>obtain⟨a,b⟩:=lT F e5;exact⟨λ y h=>(by cases h),λ c h=>by have:=no h;omega⟩
 |ok y5=>
 have E5:=lS F e5;rw[E5]at hn2;simp only at hn2;have F:=C1 (bs:=bs) (p:=y5.2) (m:=4);rw[←hn2]at F;simp only;cases e6:ef bs y5.2 4 with
 |error x=>obtain⟨a,b⟩:=lT F e6;exact⟨λ y h=>(by cases h),λ c h=>by have:=no h;omega⟩
 |ok y6=>
 have E6:=lS F e6;rw[E6]at hls;simp only at hls;have F:=DI (λ p=>ab4 (bs:=bs) (p:=p)) (λ p e=>MN) (n:=y6.1.toNat) (p:=y6.2) (acc:=[]);rw[←hls]at F;simp only;cases e7:bL (j8 bs) y6.1.toNat y6.2 []with
 |error x=>obtain⟨a,b⟩:=lT F e7;exact⟨λ y h=>(by cases h),λ c h=>by have:=no h;omega⟩
 |ok y7=>
 have E7:=lS F e7;rw[E7]at hn3;simp only at hn3;have F:=C1 (bs:=bs) (p:=y7.2) (m:=8);rw[←hn3]at F;simp only;cases e8:ef bs y7.2 8 with
 |error x=>obtain⟨a,b⟩:=lT F e8;exact⟨λ y h=>(by cases h),λ c h=>by have:=no h;omega⟩
 |ok y8=>
 have E8:=lS F e8;rw[E8]at hms;simp only at hms;have F:=Lx (bs:=bs) (n:=y8.1.toNat) (p:=y8.2) (acc:=[]);rw[←hms]at F;simp only;cases e9:bL (jn bs) y8.1.toNat y8.2 []with
 |error x=>obtain⟨a,b⟩:=lT F e9;exact⟨λ y h=>(by cases h),λ c h=>by have:=no h;omega⟩
 |ok y9=>
 have E9:=lS F e9;rw[E1,E2',E3,E5,E7,E9];simp only;split
 .rename_i hr;exact⟨λ y h=>by cases h;rfl,λ c h=>by cases h⟩
 .rename_i hr;exact⟨λ y h=>(by cases h),λ c h=>by have:=no h;exact⟨by omega, .inr ⟨trivial,by simpa using hr,this.symm⟩⟩⟩
end Go.Proofs.YtliimajkpggbhaaGreat
