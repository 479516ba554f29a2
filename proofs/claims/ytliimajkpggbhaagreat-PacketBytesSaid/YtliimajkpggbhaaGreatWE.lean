import Derived.Test.YtliimajkpggbhaaGreatW7
set_option maxHeartbeats 8000000
namespace Go.Proofs.YtliimajkpggbhaaGreat
open Go.Pk Tryz
set_option maxRecDepth 100000
set_option linter.unusedSimpArgs false
set_option linter.unusedVariables false
theorem ZF (l:List Int) (hl:l.length<2^30):ah prog 170 [.f (al l.length (bt l))] (λ r o=>r=[rb (iQ l)]/\o=[]):=by
 refine zh func170 results170 ntmps170 call170 ?_;simp only[f170,Option.getD];cases h3:decide ((l.length:Int)>3)
 .have hs:iQ l=eD (uY l) 0 l:=by unfold iQ;rw[show decide ((l.length:Int)≤3)=true by simp at h3⊢;omega,Bool.and_true]
  rw[hs];refine az (I h3 @eu) ?_;refine bq (τ:=Nat) (λ i=>⟨(al l.length (bt l)::dM (ai i::vd [])),[]⟩)
   (λ i=>i≤l.length) (λ i=>eD (uY l) i (l.drop i)) (λ i=>l.length - i) 0
   (Gh.canon [] [] [] zK rfl rfl) (bc _) ?_
  intro i hi0 hF K hK;rw[cC]at hF;refine zw ?_;refine aq (λ hlt=> ?_) (λ hge=> ?_)
  .have hi:i<l.length:=by simpa using hlt
   have hat:=mm hi;have hw:=bz hi (by omega);rw[gJ hi]at hF;have hcl:=Cc l[i];have hlt2:(l.take i).length=i:=by rw[cu];omega
   have htk:(bt l).take i=bt (l.take i):=K1 (by omega);have hco:=Eh (l.take i) (by omega) l[i];rw[hlt2]at hco;have hq:uY l i l[i]= !(!(fq l[i])||dc (l.take i) l[i]):=rfl
   repeat'(first|exact zC|refine zq (I hat (I htk (I @eu bw))) ?_|refine zx (hcl) ?_|refine zx (hco) ?_|(apply aq<;>intro hb)|(apply I;exact zI)|(apply I<;>intro hg))
   .rw[hq,hb,aa (by simp)]at hF;rw[←hF]
   .exact hK _ (i+1) (Gh.canon [] [] [] (zk hw) rfl rfl) hi (by rw[gJ hi,hq,hb];rfl) (by omega)
  .have hi:i=l.length:=by
    have:¬(i:Int)<l.length:=by simpa using hge
    omega
   rw[q9 hi]at hF;rw[←hF];exact bA trivial
 .have hs:iQ l=false:=by unfold iQ;rw[show decide ((l.length:Int)≤3)=false by simp at h3⊢;omega,pE]
  rw[hs];exact bA (I h3 @eu)
theorem ME {l:List bg} {i:Nat} {n:Int} (h:∀k (hk:k<i) (hl:k<l.length),l[k].num≠n):mQ (l.take i) n=false:=by unfold mQ;rw[wj];intro x hx;obtain⟨k,hk,rfl⟩:=oA hx;rw[cu]at hk;rw[wy];have:=h k (by omega) (by omega);simpa using this
theorem Lu {l:List bg} {i k:Nat} {n:Int} (hk:k<i) (hl:k<l.length) (h:l[k].num=n):mQ (l.take i) n=true:=by unfold mQ;rw[wb];exact⟨l[k],wq.2 ⟨k,by omega,rfl⟩,by simpa using h⟩
theorem Ny (p:Bool) (n r:Int):(p&& !(decide (n<1))&& !(decide (n>bj))&& !(decide (r<0))&& !(decide (r>bj)))= !(!p|| !(decide (n≥1)&&decide (n≤2305843009213693952))|| !(decide (r≥0)&&decide (r≤2305843009213693952))):=by
 have hH:bj=2305843009213693952:=rfl;rw[nK];cases p
 .simp
 .simp only[hH,ec,dx,lR,bM,ir,iP,gg,pq,dX];omega
theorem ZZ (l:List bg) (hl:l.length<2^30):ah prog 134 [.f (al l.length (bT l))] (λ r o=>r=[rb (nq l)]/\o=[]):=by
 refine zh func134 results134 ntmps134 call134 ?_;simp only[f134,Option.getD];cases h5:decide ((l.length:Int)>5)
 .have hs:nq l=eD (nj l) 0 l:=by rw[nq,h5];rfl
  rw[hs];refine az (I h5 @ca) ?_;refine bq (τ:=Nat) (λ i=>⟨(al l.length (bT l)::dM (ai i::vc (b8 []))),[(4,⟨2,[]⟩)]⟩)
   (λ i=>i≤l.length) (λ i=>eD (nj l) i (l.drop i)) (λ i=>l.length - i) 0
   (Gh.canon [] [4] [] zK rfl rfl) (bc _) ?_
  intro i hi0 hF K hK;simp only[cC]at hF hK⊢;refine zw ?_;refine aq (λ hlt=> ?_) (λ hge=> ?_)
  .have hi:i<l.length:=by simpa using hlt
   have hat:=hU hi;have hw:=bz hi (by omega);rw[gJ hi]at hF;have hcl:=Cc l[i].af;have hh1:=qf l[i].num 1;have hh2:=qf l[i].dp 0;cases e0:decide ((i:Int)>0)
   .have hq:nj l i l[i]=(!(!(fq l[i].af)|| !(decide (l[i].num≥1)&&decide (l[i].num≤2305843009213693952))|| !(decide (l[i].dp≥0)&&decide (l[i].dp≤2305843009213693952)))&& !(mQ (l.take i) l[i].num)):=by
     unfold nj rv;have h0:decide (i>0)=false:=by simpa using e0
     rw[h0,gV,lR];congr 1;exact Ny _ _ _
    have h0:i=0:=by simpa using e0
    have hp:(bT l).drop ((IntKind.i64.wrap ((i:Int) - 1)).toNat*3)=l[i].enc++bT (l.drop (i+1)):=by rw[←hU hi,h0];rfl
    repeat'(first|exact zC|refine zq (I hat (I hp (I e0 (I @ca bw)))) ?_|refine zx (hcl) ?_|refine zx (hh1) ?_|refine zx (hh2) ?_|(apply aq<;>intro hb)|(apply I;exact zI)|(apply I<;>intro hg))
    .rw[hq,hb,dx,gV,aa (by simp)]at hF;rw[←hF]
    .have hb1:=hb;clear hb;refine bq (τ:=Nat) (λ k=>⟨(al l.length (bT l)::dM (ai i::cd 4::ai k::tT (b8 []))),[(4,⟨2,[aW 1 [di l[i].af,di l[i].num,di l[i].dp],none,none,none]⟩)]⟩)
      (λ k=>k≤i/\∀k' (hk:k'<k) (hkl:k'<l.length),l[k'].num≠l[i].num) (λ _=>()) (λ k=>i - k) 0
      (Gh.canon [4] [] [] zK rfl rfl) ⟨bc _,λ k' hk=>absurd hk (tH _)⟩ ?_
     intro k ⟨k1,k2⟩ _ K2 hK2;refine zw ?_;refine aq (λ hlt2=> ?_) (λ hge2=> ?_)
     .have hk:k<i:=by simpa using hlt2
      have hat2:=hU (show k<l.length by omega);have hw2:IntKind.i64.wrap ((k:Int)+1)=((k+1:Nat):Int):=bz hk (by omega)
      repeat'(first|exact zC|refine zq (I hat2 (I @ca bw)) ?_|(apply aq<;>intro hb)|(apply I;exact zI)|(apply I<;>intro hg))
      .rw[hq,hb1,Lu hk (by omega) (by simpa using hb),dx,pE,aa (by simp)]at hF;rw[←hF]
      .refine hK2 _ (k+1) (Gh.canon [4] [] [] (zk hw2) rfl rfl) ⟨by omega,λ k' hk' hl'=> ?_⟩ rfl (by omega);rcases iw k' k with h|h
       .exact k2 k' h hl'
       .have:k'=k:=by omega
        subst this;simpa using hb
     .have hki:k=i:=by
       have:¬(k:Int)<i:=by simpa using hge2
       omega
      rw[hki]at k2;refine az trivial ?_;exact hK _ (i+1) (Gh.canon [] [] [] (zk hw) rfl rfl) hi (by rw[gJ hi,hq,hb1,ME k2];rfl) (by omega)
   .have hq:nj l i l[i]=(!(!(fq l[i].af)|| !(decide (l[i].num≥1)&&decide (l[i].num≤2305843009213693952))|| !(decide (l[i].dp≥0)&&decide (l[i].dp≤2305843009213693952))||decide (l[i].af≤(l[i - 1]'(by omega)).af))&& !(mQ (l.take i) l[i].num)):=by
     unfold nj rv xW;have h0:decide (i>0)=true:=by simpa using e0
     rw[h0,ec,dG (by omega),Ny];simp only[xV,uH,im,ku,ge_iff_le,eJ]
    have h0:0<i:=by simpa using e0
    have hp:=hU (show i - 1<l.length by omega);have hw1:IntKind.i64.wrap ((i:Int) - 1)=((i - 1:Nat):Int):=by rw[wrap64 (by omega) (by omega)];omega
    repeat'(first|exact zC|refine zq (I hat (I hp (I hw1 (I e0 (I @ca bw))))) ?_|refine zx (hcl) ?_|refine zx (hh1) ?_|refine zx (hh2) ?_|(apply aq<;>intro hb)|(apply I;exact zI)|(apply I<;>intro hg))
    .rw[hq,hb,dx,gV,aa (by simp)]at hF;rw[←hF]
    .have hb1:=hb;clear hb;refine bq (τ:=Nat) (λ k=>⟨(al l.length (bT l)::dM (ai i::cd 4::ai k::tT (b8 []))),[(4,⟨2,[aW 1 [di l[i].af,di l[i].num,di l[i].dp],none,none,none]⟩)]⟩)
      (λ k=>k≤i/\∀k' (hk:k'<k) (hkl:k'<l.length),l[k'].num≠l[i].num) (λ _=>()) (λ k=>i - k) 0
      (Gh.canon [4] [] [] zK rfl rfl) ⟨bc _,λ k' hk=>absurd hk (tH _)⟩ ?_
     intro k ⟨k1,k2⟩ _ K2 hK2;refine zw ?_;refine aq (λ hlt2=> ?_) (λ hge2=> ?_)
     .have hk:k<i:=by simpa using hlt2
      have hat2:=hU (show k<l.length by omega);have hw2:IntKind.i64.wrap ((k:Int)+1)=((k+1:Nat):Int):=bz hk (by omega)
      repeat'(first|exact zC|refine zq (I hat2 (I @ca bw)) ?_|(apply aq<;>intro hb)|(apply I;exact zI)|(apply I<;>intro hg))
      .rw[hq,hb1,Lu hk (by omega) (by simpa using hb),dx,pE,aa (by simp)]at hF;rw[←hF]
      .refine hK2 _ (k+1) (Gh.canon [4] [] [] (zk hw2) rfl rfl) ⟨by omega,λ k' hk' hl'=> ?_⟩ rfl (by omega);rcases iw k' k with h|h
       .exact k2 k' h hl'
       .have:k'=k:=by omega
        subst this;simpa using hb
     .have hki:k=i:=by
       have:¬(k:Int)<i:=by simpa using hge2
       omega
      rw[hki]at k2;refine az trivial ?_;exact hK _ (i+1) (Gh.canon [] [] [] (zk hw) rfl rfl) hi (by rw[gJ hi,hq,hb1,ME k2];rfl) (by omega)
  .have hi:i=l.length:=by
    have:¬(i:Int)<l.length:=by simpa using hge
    omega
   rw[q9 hi]at hF;rw[←hF];exact bA trivial
 .have hs:nq l=false:=by rw[nq,h5];rfl
  rw[hs];exact bA (I h5 @ca)
theorem Ml {l:List Lk} {i:Nat} {n:Int} (h:∀k (hk:k<i) (hl:k<l.length),l[k].token≠n):((l.take i).any λ o=>o.token==n)=false:=by rw[wj];intro x hx;obtain⟨k,hk,rfl⟩:=oA hx;rw[cu]at hk;rw[wy];have:=h k (by omega) (by omega);simpa using this
theorem Mc {l:List Lk} {i k:Nat} {n:Int} (hk:k<i) (hl:k<l.length) (h:l[k].token=n):((l.take i).any λ o=>o.token==n)=true:=by rw[wb];exact⟨l[k],wq.2 ⟨k,by omega,rfl⟩,by simpa using h⟩
theorem acb (a b:List UInt8):(!(Go.Op.bytesLess b a))=(Go.Op.bytesLess a b||a==b):=by
 cases h:Go.Op.bytesLess b a
 .cases h2:Go.Op.bytesLess a b
  .rw[HH h2 h];simp
  .rfl
 .rw[YZ h];cases h3:a==b
  .rfl
  .rw[show a=b by simpa using h3,xQ]at h;cases h
theorem NH (p L H X:Bool) (h t:Int):(p&& !(decide (h<0))&& !(decide (h≥8))&& !(decide (t<1))&& !(decide (t>bj))&& !(!L||H||X))= !(!p|| !(fq h)|| !(decide (t≥1)&&decide (t≤2305843009213693952))|| !L||H||X):=by have hH:bj=2305843009213693952:=rfl;unfold fq;rw[nK];cases p<;>cases L<;>cases H<;>cases X<;>simp[hH];omega
theorem Xy (l:List Lk) (hl:l.length<2^30) (hll:∀k∈l,k.line.length<2^30/\k.name.size<2^62):ah prog 135 [.f (al l.length (aU l))] (λ r o=>r=[rb (kW l)]/\o=[]):=by
 refine zh func135 results135 ntmps135 call135 ?_;simp only[f135,Option.getD];cases h5:decide ((l.length:Int)>4)
 .have hs:kW l=eD (nO l) 0 l:=by unfold kW;rw[show decide ((l.length:Int)≤4)=true by simp at h5⊢;omega,Bool.and_true]
  rw[hs];refine az (I h5 @bK) ?_;refine bq (τ:=Nat) (λ i=>⟨(al l.length (aU l)::dM (ai i::rV (b8 []))),[(4,⟨2,[]⟩)]⟩)
   (λ i=>i≤l.length) (λ i=>eD (nO l) i (l.drop i)) (λ i=>l.length - i) 0
   (Gh.canon [] [4] [] zK rfl rfl) (bc _) ?_
  intro i hi0 hF K hK;simp only[cC]at hF hK⊢;refine zw ?_;refine aq (λ hlt=> ?_) (λ hge=> ?_)
  .have hi:i<l.length:=by simpa using hlt
   have hat:=f8 hi;obtain⟨hk1,hk2⟩:=hll _ (cb hi);have hw:=bz hi (by omega);rw[gJ hi]at hF;have hnm:=C4 l[i].name hk2;have hlr:=ZF l[i].line hk1;have hcl:=Cc l[i].bh;have hlc:=Eh l[i].line (by omega) l[i].bh;have hh1:=qf l[i].token 1;cases e0:decide ((i:Int)>0)
   .have hq:nO l i l[i]=(!(!(fb l[i].name)|| !(fq l[i].bh)|| !(decide (l[i].token≥1)&&decide (l[i].token≤2305843009213693952))|| !(iQ l[i].line)||dc l[i].line l[i].bh)&& !((l.take i).any λ o=>o.token==l[i].token)):=by
     unfold nO ny;have h0:decide (i>0)=false:=by simpa using e0
     rw[h0,gV];congr 1;rw[NH,nR]
    have h0:i=0:=by simpa using e0
    have hp:(aU l).drop ((IntKind.i64.wrap ((i:Int) - 1)).toNat*4)=l[i].enc++aU (l.drop (i+1)):=by rw[←f8 hi,h0];rfl
    repeat'(first|exact zC|refine zq (I hat (I hp (I e0 (I @bK bw)))) ?_|refine zx (hnm) ?_|refine zx (hlr) ?_|refine zx (hcl) ?_|refine zx (hlc) ?_|refine zx (hh1) ?_|(apply aq<;>intro hb)|(apply I;exact zI)|(apply I<;>intro hg))
    .rw[hq,hb,dx,gV,aa (by simp)]at hF;rw[←hF]
    .have hb1:=hb;clear hb;refine bq (τ:=Nat) (λ k=>⟨(al l.length (aU l)::dM (ai i::cd 4::ai k::tZ (b8 []))),[(4,⟨2,[aW 1 [.d (sD l[i].name),di l[i].bh,di l[i].token, .d (.sl l[i].line.length (bt l[i].line))],none,none,none,none]⟩)]⟩)
      (λ k=>k≤i/\∀k' (hk:k'<k) (hkl:k'<l.length),l[k'].token≠l[i].token) (λ _=>()) (λ k=>i - k) 0
      (Gh.canon [4] [] [] zK rfl rfl) ⟨bc _,λ k' hk=>absurd hk (tH _)⟩ ?_
     intro k ⟨k1,k2⟩ _ K2 hK2;refine zw ?_;refine aq (λ hlt2=> ?_) (λ hge2=> ?_)
     .have hk:k<i:=by simpa using hlt2
      have hat2:=f8 (show k<l.length by omega);have hw2:IntKind.i64.wrap ((k:Int)+1)=((k+1:Nat):Int):=bz hk (by omega)
      repeat'(first|exact zC|refine zq (I hat2 (I @bK bw)) ?_|(apply aq<;>intro hb)|(apply I;exact zI)|(apply I<;>intro hg))
      .rw[hq,hb1,Mc hk (by omega) (by simpa using hb),dx,pE,aa (by simp)]at hF;rw[←hF]
      .refine hK2 _ (k+1) (Gh.canon [4] [] [] (zk hw2) rfl rfl) ⟨by omega,λ k' hk' hl'=> ?_⟩ rfl (by omega);rcases iw k' k with h|h
       .exact k2 k' h hl'
       .have:k'=k:=by omega
        subst this;simpa using hb
     .have hki:k=i:=by
       have:¬(k:Int)<i:=by simpa using hge2
       omega
      rw[hki]at k2;refine az trivial ?_;exact hK _ (i+1) (Gh.canon [] [] [] (zk hw) rfl rfl) hi (by rw[gJ hi,hq,hb1,Ml k2];rfl) (by omega)
   .have hq:nO l i l[i]=(!(!(fb l[i].name)|| !(fq l[i].bh)|| !(decide (l[i].token≥1)&&decide (l[i].token≤2305843009213693952))|| !(iQ l[i].line)||dc l[i].line l[i].bh||(Go.Op.bytesLess l[i].name.toList (l[i - 1]'(by omega)).name.toList||l[i].name.toList==(l[i - 1]'(by omega)).name.toList))&& !((l.take i).any λ o=>o.token==l[i].token)):=by
     unfold nO ny x8;have h0:decide (i>0)=true:=by simpa using e0
     rw[h0,ec,dG (by omega)];congr 1;rw[NH,←acb];rfl
    have h0:0<i:=by simpa using e0
    have hp:=f8 (show i - 1<l.length by omega);have hw1:IntKind.i64.wrap ((i:Int) - 1)=((i - 1:Nat):Int):=by rw[wrap64 (by omega) (by omega)];omega
    repeat'(first|exact zC|refine zq (I hat (I hp (I hw1 (I e0 (I @bK bw))))) ?_|refine zx (hnm) ?_|refine zx (hlr) ?_|refine zx (hcl) ?_|refine zx (hlc) ?_|refine zx (hh1) ?_|(apply aq<;>intro hb)|(apply I;exact zI)|(apply I<;>intro hg))
    .rw[hq,hb,dx,gV,aa (by simp)]at hF;rw[←hF]
    .have hb1:=hb;clear hb;refine bq (τ:=Nat) (λ k=>⟨(al l.length (aU l)::dM (ai i::cd 4::ai k::tZ (b8 []))),[(4,⟨2,[aW 1 [.d (sD l[i].name),di l[i].bh,di l[i].token, .d (.sl l[i].line.length (bt l[i].line))],none,none,none,none]⟩)]⟩)
      (λ k=>k≤i/\∀k' (hk:k'<k) (hkl:k'<l.length),l[k'].token≠l[i].token) (λ _=>()) (λ k=>i - k) 0
      (Gh.canon [4] [] [] zK rfl rfl) ⟨bc _,λ k' hk=>absurd hk (tH _)⟩ ?_
     intro k ⟨k1,k2⟩ _ K2 hK2;refine zw ?_;refine aq (λ hlt2=> ?_) (λ hge2=> ?_)
     .have hk:k<i:=by simpa using hlt2
      have hat2:=f8 (show k<l.length by omega);have hw2:IntKind.i64.wrap ((k:Int)+1)=((k+1:Nat):Int):=bz hk (by omega)
      repeat'(first|exact zC|refine zq (I hat2 (I @bK bw)) ?_|(apply aq<;>intro hb)|(apply I;exact zI)|(apply I<;>intro hg))
      .rw[hq,hb1,Mc hk (by omega) (by simpa using hb),dx,pE,aa (by simp)]at hF;rw[←hF]
      .refine hK2 _ (k+1) (Gh.canon [4] [] [] (zk hw2) rfl rfl) ⟨by omega,λ k' hk' hl'=> ?_⟩ rfl (by omega);rcases iw k' k with h|h
       .exact k2 k' h hl'
       .have:k'=k:=by omega
        subst this;simpa using hb
     .have hki:k=i:=by
       have:¬(k:Int)<i:=by simpa using hge2
       omega
      rw[hki]at k2;refine az trivial ?_;exact hK _ (i+1) (Gh.canon [] [] [] (zk hw) rfl rfl) hi (by rw[gJ hi,hq,hb1,Ml k2];rfl) (by omega)
  .have hi:i=l.length:=by
    have:¬(i:Int)<l.length:=by simpa using hge
    omega
   rw[q9 hi]at hF;rw[←hF];exact bA trivial
 .have hs:kW l=false:=by unfold kW;rw[show decide ((l.length:Int)≤4)=false by simp at h5⊢;omega,pE]
  rw[hs];exact bA (I h5 @bK)
theorem YF (l:List bN) (hl:l.length<2^30) (hll:∀m∈l,ik m.bd):ah prog 136 [.f (al l.length (ct l))] (λ r o=>r=[rb (qC l)]/\o=[]):=by
 refine zh func136 results136 ntmps136 call136 ?_;simp only[f136,Option.getD];refine az @cN ?_;refine bq (τ:=Nat) (λ i=>⟨(al l.length (ct l)::dM (ai i::dM (b8 []))),[]⟩)
  (λ i=>i≤l.length) (λ i=>eD (nM l) i (l.drop i)) (λ i=>l.length - i) 0
  (Gh.canon [] [] [] zK rfl rfl) (bc _) ?_
 intro i hi0 hF K hK;simp only[cC]at hF hK⊢;have hF:eD (nM l) i (l.drop i)=qC l:=hF;refine zw ?_;refine aq (λ hlt=> ?_) (λ hge=> ?_)
 .have hi:i<l.length:=by simpa using hlt
  have hat:=nE hi;have hw:=bz hi (by omega);rw[gJ hi]at hF;have han:=yT l[i] (hll _ (cb hi));cases e0:decide ((i:Int)>0)
  .have hq:nM l i l[i]= !(!(eB l[i])):=by
    unfold nM;have h0:decide (i>0)=false:=by simpa using e0
    rw[h0,gV,nR]
   have h0:i=0:=by simpa using e0
   have hp:(ct l).drop ((IntKind.i64.wrap ((i:Int) - 1)).toNat*6)=l[i].enc++ct (l.drop (i+1)):=by rw[←nE hi,h0];rfl
   repeat'(first|exact zC|refine zq (I hat (I hp (I e0 (I @cN bw)))) ?_|refine zx (han) ?_|(apply aq<;>intro hb)|(apply I;exact zI)|(apply I<;>intro hg))
   .rw[hq,hb,aa (by simp)]at hF;rw[←hF]
   .exact hK _ (i+1) (Gh.canon [] [] [] (zk hw) rfl rfl) hi (by rw[gJ hi,hq,hb];rfl) (by omega)
  .have hq:nM l i l[i]= !(!(eB l[i])||decide (l[i].af≤(l[i - 1]'(by omega)).af)):=by
    unfold nM yd;have h0:decide (i>0)=true:=by simpa using e0
    rw[h0,ec,dG (by omega)];rfl
   have h0:0<i:=by simpa using e0
   have hp:=nE (show i - 1<l.length by omega);have hw1:IntKind.i64.wrap ((i:Int) - 1)=((i - 1:Nat):Int):=by rw[wrap64 (by omega) (by omega)];omega
   repeat'(first|exact zC|refine zq (I hat (I hp (I hw1 (I e0 (I @cN bw))))) ?_|refine zx (han) ?_|(apply aq<;>intro hb)|(apply I;exact zI)|(apply I<;>intro hg))
   .rw[hq,hb,aa (by simp)]at hF;rw[←hF]
   .exact hK _ (i+1) (Gh.canon [] [] [] (zk hw) rfl rfl) hi (by rw[gJ hi,hq,hb];rfl) (by omega)
 .have hi:i=l.length:=by
   have:¬(i:Int)<l.length:=by simpa using hge
   omega
  rw[q9 hi]at hF;rw[←hF];exact bA trivial
def rA (s:St) (k:Lk):Bool:=(bC s.ax k.bh).isSome&&decide (k.token≤s.token)&&k.line.all λ c=>(bC s.ax c).isSome
theorem V2 (s:St):((s.ae.all λ k=>decide (k.token≤s.token))&&uC s)=s.ae.all (rA s):=by
 unfold uC;generalize s.ae=l;induction l with
 |nil=>rfl
 |cons k l ih=>
  simp only[lY]at ih⊢;rw[←ih];unfold rA;generalize (l.all λ k=>decide (k.token≤s.token))=a;generalize (l.all λ k=>(bC s.ax k.bh).isSome&&k.line.all λ c=>(bC s.ax c).isSome)=b;generalize (k.line.all λ c=>(bC s.ax c).isSome)=c;generalize (bC s.ax k.bh).isSome=d;generalize decide (k.token≤s.token)=e;cases a<;>cases b<;>cases c<;>cases d<;>cases e<;>rfl
theorem F5 (s:St) (h:Small s):ah prog 88 [.f (.agg s.aC)] (λ r o=>r=[rb (gE s)]/\o=[]):=by
 refine zh func88 results88 ntmps88 call88 ?_;simp only[f88,Option.getD];have w1:ah prog 133 [.f (ai s.time), .f (ai 0)] (λ r o=>r=[rb (within s.time)]/\o=[]):=qf s.time 0;have w2:ah prog 133 [.f (ai s.num), .f (ai 0)] (λ r o=>r=[rb (within s.num)]/\o=[]):=qf s.num 0;have w3:ah prog 133 [.f (ai s.token), .f (ai 0)] (λ r o=>r=[rb (within s.token)]/\o=[]):=qf s.token 0;have hsr:=ZZ s.ax h.ax;have hlr:=Xy s.ae h.ae h.line;have hmr:=YF s.aI h.aI h.held;have hns:=h.ax;have hnl:=h.ae;cases hA:(!within s.time|| !within s.num|| !within s.token|| !nq s.ax|| !kW s.ae|| !qC s.aI)
 .have hrb:gE s=((s.ax.all λ x=>decide (x.num≤s.num))&&s.ae.all (rA s)):=by rw[←V2];unfold gE;simp at hA;rw[hA.1.1.1.1.1,hA.1.1.1.1.2,hA.1.1.1.2,hA.1.1.2,hA.1.2,hA.2];simp only[ec,eJ]
  refine zL hA (I (w1) (I (w2) (I (w3) (I (hsr) (I (hlr) (hmr)))))) ?_;refine bq (τ:=Nat) (λ i=>⟨(dd::cd 1::dd::ai i::rY (b8 (b8 []))),[(1,⟨2,[aW 1 [di s.time,di s.num,di s.token, .aC s.ax.length (bT s.ax), .aC s.ae.length (aU s.ae), .aC s.aI.length (ct s.aI)],none,none,none,none,none,none]⟩)]⟩)
   (λ i=>i≤s.ax.length) (λ i=>(s.ax.drop i).all λ x=>decide (x.num≤s.num)) (λ i=>s.ax.length - i) 0
   (Gh.canon [1] [] [] zK rfl rfl) (bc _) ?_
  intro i hi0 hF K hK;rw[cC]at hF;refine zw ?_;refine aq (λ hlt=> ?_) (λ hge=> ?_)
  .have hi:i<s.ax.length:=by simpa using hlt
   have hat:=hU hi;have hw:=bz hi (by omega);rw[cB hi,lY]at hF
   repeat'(first|exact zC|refine zq (I hat (I @ca bw)) ?_|(apply aq<;>intro hb)|(apply I;exact zI)|(apply I<;>intro hg))
   .have e:decide (s.ax[i].num≤s.num)=false:=by simp at hb⊢;omega
    rw[e,gV]at hF;rw[hrb,←hF];rfl
   .have e:decide (s.ax[i].num≤s.num)=true:=by simp at hb⊢;omega
    exact hK _ (i+1) (Gh.canon [1] [] [] (zk hw) rfl rfl) hi (by rw[cB hi,lY,e,ec]) (by omega)
  .have hi:i=s.ax.length:=by
    have:¬(i:Int)<s.ax.length:=by simpa using hge
    omega
   rw[hi,eL,uN]at hF;rw[←hF,ec]at hrb;rw[hrb];refine az trivial ?_;refine bq (τ:=Nat) (λ i=>⟨(dd::cd 1::dM (ai i::vd (b8 (b8 [])))),[(1,⟨2,[aW 1 [di s.time,di s.num,di s.token, .aC s.ax.length (bT s.ax), .aC s.ae.length (aU s.ae), .aC s.aI.length (ct s.aI)],none,none,none,none,none,none]⟩),(5,⟨2,[]⟩),(6,⟨2,[]⟩),(9,⟨2,[]⟩)]⟩)
    (λ i=>i≤s.ae.length) (λ i=>(s.ae.drop i).all (rA s)) (λ i=>s.ae.length - i) 0
    (Gh.canon [1] [5,6,9] [] zK rfl rfl) (bc _) ?_
   clear hF hK;intro i hi0 hF K hK;rw[cC]at hF;refine zw ?_;refine aq (λ hlt2=> ?_) (λ hge2=> ?_)
   .have hi:i<s.ae.length:=by simpa using hlt2
    have hat:=f8 hi;have hw:=bz hi (by omega);have hlo:=(h.line _ (cb hi)).1;rw[cB hi,lY]at hF;have hfi:=sH s.ax (by omega) s.ae[i].bh;cases ha:(bC s.ax s.ae[i].bh).isSome
    .have e:rA s s.ae[i]=false:=by unfold rA;rw[ha];rfl
     rw[e,gV]at hF;rw[ha]at hfi;refine zL (I hat (I @bK bw)) (hfi) ?_;rw[←hF]
    .rw[ha]at hfi;cases hb0:decide (s.ae[i].token>s.token)
     .have e:rA s s.ae[i]=s.ae[i].line.all λ c=>(bC s.ax c).isSome:=by unfold rA;rw[ha,show decide (s.ae[i].token≤s.token)=true by simp at hb0⊢;omega];rfl
      rw[e]at hF;refine zL (I hat (I hb0 (I @bK bw))) (hfi) ?_;refine bq (τ:=Nat) (λ j=>⟨(dd::cd 1::dM (ai i::cd 5::dM (ai j::mH (b8 (b8 []))))),[(1,⟨2,[aW 1 [di s.time,di s.num,di s.token, .aC s.ax.length (bT s.ax), .aC s.ae.length (aU s.ae), .aC s.aI.length (ct s.aI)],none,none,none,none,none,none]⟩),(5,⟨2,[aW 1 [.d (sD s.ae[i].name),di s.ae[i].bh,di s.ae[i].token, .d (.sl s.ae[i].line.length (bt s.ae[i].line))],none,none,none,none]⟩),(6,⟨2,[]⟩),(9,⟨2,[]⟩)]⟩)
       (λ j=>j≤s.ae[i].line.length) (λ j=>(s.ae[i].line.drop j).all λ c=>(bC s.ax c).isSome) (λ j=>s.ae[i].line.length - j) 0
       (Gh.canon [1,5] [] [] zK rfl rfl) (bc _) ?_
      intro j hj0 hF2 K2 hK2;rw[cC]at hF2;refine zw ?_;refine aq (λ hlt3=> ?_) (λ hge3=> ?_)
      .have hj:j<s.ae[i].line.length:=by simpa using hlt3
       have haj:=mm hj;have hwj:=bz hj (by omega);have hfj:=sH s.ax (by omega) s.ae[i].line[j];rw[cB hj,lY]at hF2;cases hb:(bC s.ax s.ae[i].line[j]).isSome
       .rw[hb]at hfj hF2;rw[←hF2]at hF;refine zL (I haj (I @eu bw)) (hfj) ?_;rw[←hF];rfl
       .rw[hb]at hfj hF2;refine zL (I haj (I @eu bw)) (hfj) ?_;exact hK2 _ (j+1) (Gh.canon [1,5] [] [] (zk hwj) rfl rfl) hj (by rw[cB hj,lY,hb,ec]) (by omega)
      .have hj:j=s.ae[i].line.length:=by
        have:¬(j:Int)<s.ae[i].line.length:=by simpa using hge3
        omega
       rw[hj,eL,uN]at hF2;refine az trivial ?_;exact hK _ (i+1) (Gh.canon [1] [] [] (zk hw) rfl rfl) hi (by rw[cB hi,lY,e,←hF2,ec]) (by omega)
     .have e:rA s s.ae[i]=false:=by unfold rA;rw[ha,show decide (s.ae[i].token≤s.token)=false by simp at hb0⊢;omega];rfl
      rw[e,gV]at hF;refine zL (I hat (I hb0 (I @bK bw))) (hfi) ?_;rw[←hF]
   .have hi:i=s.ae.length:=by
     have:¬(i:Int)<s.ae.length:=by simpa using hge2
     omega
    rw[hi,eL,uN]at hF;rw[←hF];exact bA trivial
 .have hrb:gE s=false:=by unfold gE;simp only[pv,ir]at hA;rcases hA with((((h|h)|h)|h)|h)|h<;>rw[h]<;>simp
  rw[hrb];exact zW hA (I (w1) (I (w2) (I (w3) (I (hsr) (I (hlr) (hmr))))))
def adA (s:St):Bool:=gE s&&decide (s.num≤2305843009213692952)&&decide (s.token≤2305843009213692952)
def adb (k:Lk):Bool:=decide ((k.name.size:Int)>300)||decide ((k.line.length:Int)>20)
def ada (m:bN):Bool:=decide ((m.bd.held.length:Int)>20)
def ab7 (s:St):Bool:=if(decide ((s.ax.length:Int)>20)||decide ((s.ae.length:Int)>20)||decide ((s.aI.length:Int)>20))=true then true else if s.ae.any adb=true then true else s.aI.any ada
theorem JW {α:Type} {f:Int->Int->α×Int×Int} {Q:α->Prop} (hf:∀p e,Q (f p e).1):∀{n:Nat} {p e:Int} {acc:List α},(∀a∈acc,Q a)->∀a∈(fg f n p e acc).1,Q a
 |0,p,e,acc,h=>h
 |n+1,p,e,acc,h=>by
  rw[fg];refine JW hf λ a ha=> ?_
  rcases dN.1 ha with h1|h1
  .exact h a h1
  .rw[jE.1 h1];exact hf p e
theorem KR {α:Type} {f:Int->Int->α×Int×Int}:∀{n:Nat} {p e:Int} {acc:List α},(fg f n p e acc).1.length=acc.length+n
 |0,p,e,acc=>rfl
 |n+1,p,e,acc=>by rw[fg,KR,aG,bG];omega
theorem Vh {bs:List Int} (h:bu bs) {p:Int}:ik (eC bs p).1.bd:=by
 have h0:ik gT.bd:=⟨by simp[gT],by simp[gT]⟩;unfold eC;simp only;split
 .exact h0
 split
 .exact h0
 split
 .exact h0
 split
 .exact h0
 exact(yU h).2
theorem Jt {bs:List Int} (h:bu bs):∀{n:Nat} {p e:Int} {acc:List bN},(∀a∈acc,ik a.bd)->(∀a∈(kP bs n p e acc).1,ik a.bd)/\(kP bs n p e acc).1.length≤acc.length+n
 |0,p,e,acc,hh=>⟨hh,by rw[kP];exact Nat.le_refl _⟩
 |n+1,p,e,acc,hh=>by
  rw[kP];split
  .exact⟨hh,by simp only;omega⟩
  .obtain⟨a,b⟩:=Jt h (n:=n) (p:=(eC bs p).2.1) (e:=(eC bs p).2.2) (acc:=acc++[(eC bs p).1]) λ a ha=>by
    rcases dN.1 ha with h1|h1
    .exact hh a h1
    .rw[jE.1 h1];exact Vh h
   rw[aG,bG]at b;exact⟨a,by omega⟩
theorem Gp {bs:List Int} (h:bu bs) {p e most:Int} (hp:i64 p) (hm:0≤most):(fS bs p e most).1.toNat≤most.toNat:=by obtain⟨a,b,c⟩:=sj (e:=e) (most:=most) h hp hm;omega
theorem WA {bs:List Int} (h:bu bs) {p e:Int}:(fS bs p e 3).1.toNat<1000:=by
 have h2:=KC (p:=p) (e:=e) h;unfold fS;split
 .simp
 .split
  .simp
  .omega
theorem Vb {bs:List Int} {p e:Int} (h:bu bs) (hp:i64 p):Small (ov bs p e).1:=by
 have hsz:∀p e,(iB bs p e).1.size<2^62:=λ p e=>by
  unfold iB;split
  .simp
  .have:=FC (bs:=bs) (p:=p) (most:=12);have:=h.l;omega
 unfold ov;simp only;have p1:=nD (e:=e) h hp;generalize cw bs p e=t at*;have p2:=nD (e:=t.2.2) h p1;generalize cw bs t.2.1 t.2.2=u at*;have p3:=nD (e:=u.2.2) h p2;generalize cw bs u.2.1 u.2.2=k at*;have l4:=Gp (e:=k.2.2) (most:=5) h p3 (by decide);have p4:=(sj (e:=k.2.2) (most:=5) h p3 (by decide)).1;generalize fS bs k.2.1 k.2.2 5=n at*;have p5:=(Co (f:=kz bs) (λ p e hp=>Jf h hp) (n:=n.1.toNat) (e:=n.2.2) (acc:=[]) p4);generalize fg (kz bs) n.1.toNat n.2.1 n.2.2 []=ss at*;have l6:=Gp (e:=ss.2.2) (most:=4) h p5.1 (by decide);have p6:=(sj (e:=ss.2.2) (most:=4) h p5.1 (by decide)).1;generalize fS bs ss.2.1 ss.2.2 4=n2 at*;have p7:=(Co (f:=ld bs) (λ p e hp=>I9 h hp) (n:=n2.1.toNat) (e:=n2.2.2) (acc:=[]) p6);have hline:∀k∈(fg (ld bs) n2.1.toNat n2.2.1 n2.2.2 []).1,k.line.length<2^30/\k.name.size<2^62:=by refine JW (Q:=λ k:Lk=>k.line.length<2^30/\k.name.size<2^62) (λ p e=>⟨?_,hsz p e⟩) (λ a ha=>by cases ha);unfold ld;simp only;rw[KR];have:(fS bs (cw bs (dF bs (iB bs p e).2.1 (iB bs p e).2.2).2.1 (dF bs (iB bs p e).2.1 (iB bs p e).2.2).2.2).2.1 (cw bs (dF bs (iB bs p e).2.1 (iB bs p e).2.2).2.1 (dF bs (iB bs p e).2.1 (iB bs p e).2.2).2.2).2.2 3).1.toNat<1000:=WA h;simp only[fN];omega
 generalize fg (ld bs) n2.1.toNat n2.2.1 n2.2.2 []=ls at*;have l8:=Gp (e:=ls.2.2) (most:=8) h p7.1 (by decide);have p8:=(sj (e:=ls.2.2) (most:=8) h p7.1 (by decide)).1;generalize fS bs ls.2.1 ls.2.2 8=n3 at*;have p9:=Jt h (n:=n3.1.toNat) (p:=n3.2.1) (e:=n3.2.2) (acc:=[]) (λ a ha=>by cases ha);refine⟨?_, ?_, ?_,hline,p9.1⟩
 .rw[p5.2];simp only[fN];omega
 .rw[p7.2];simp only[fN];omega
 .have h9:=p9.2;simp only[fN]at h9;exact yl h9 (by omega)
theorem aaJ (bs:List Int) (p:Int) (h:bu bs) (hp:i64 p):
  ah prog 152 [.f (de bs.length (ag bs)), .f (ai p)] (λ r o=>r=[wM (BI bs p).1,ri (BI bs p).2.1,ri (BI bs p).2.2]/\o=[]):=by
 refine ah.nil ?_;refine zh func152 results152 ntmps152 call152 ?_;simp only[f152,Option.getD];have he:=XV bs p 0 h hp;have hr:=F5 (ov bs p 0).1 (Vb h hp);have hsp:=IP bs p;unfold BI;generalize ov bs p 0=y at*;obtain⟨s,q,e⟩:=y;simp only at he hr hsp;refine az trivial ?_;refine zj (he) ?_;cases hs:ko bs p with
 |ok z=>
  obtain⟨rfl,rfl,rfl⟩:=(by simpa using hsp.1 z hs:s=z.1/\q=z.2/\e=0);have hrt:=BT hs;rw[hrt]at hr
  repeat'(first|exact zC|(with_reducible first|refine gA 7 ?_|refine gz 7 ?_|refine gy 7 ?_)|refine zu (I @oS (I @gv @n9)) ?_|(with_reducible first|refine bH _ _ ?_)|refine zx (hr) ?_|(apply aq<;>intro hb)|(apply I;exact zI)|(apply I<;>intro hg))
  refine gK (gB (Gh.gH 8 3 (.own ⟨8,4,4⟩ 0 z.1.ax.length) ?_) ?_)
  .exact zo @oS
  refine zf @oS ?_;refine gB (Gh.gH 8 4 (.own ⟨8,5,5⟩ 0 z.1.ae.length) ?_) ?_
  .exact zo @gv
  refine zf @gv ?_;refine gB (Gh.gH 8 5 (.own ⟨8,6,6⟩ 0 z.1.aI.length) ?_) ?_
  .exact zo @n9
  refine zf @n9 ?_
  repeat'(first|exact zC|refine fX ?_|(apply aq<;>intro hb)|(apply I;exact zI)|(apply I<;>intro hg))
  simp[aT,bf,aY,ak]
 |error c=>
  obtain⟨hc,hd⟩:=hsp.2 c hs;rcases hd with hd|⟨h0,h1,h2⟩
  .have hd:e=c:=hd;subst hd;have n1:(e==(0:Int))=false:=by simpa using hc
   have n2:(e !=(0:Int))=true:=by simpa using hc
   repeat'(first|exact zC|refine zq (I n1 n2) ?_|(apply aq<;>intro hb)|(apply I;exact zI)|(apply I<;>intro hg))
   simp[aT,bf,aY,ak,cm]
  .have h0:e=0:=h0;have h1:gE s=false:=h1;subst h0;subst h2;rw[h1]at hr
   repeat'(first|exact zC|refine zq (I @oS (I @gv @n9)) ?_|refine zx (hr) ?_|(apply aq<;>intro hb)|(apply I;exact zI)|(apply I<;>intro hg))
   simp[aT,bf,aY,ak,cm]
theorem Fu (n:Int):(decide (n≥0)&&decide (n≤2305843009213693952))=within n:=by rw[wX];by_cases h1:n<0<;>by_cases h2:n>2305843009213693952<;>simp[h1,h2]<;>omega
theorem WO (v l:Int):ah prog 86 [.f (.agg [di v,di l])] (λ r o=>r=[rb (within v&&within l)]/\o=[]):=by
 refine zh func86 results86 ntmps86 call86 ?_;simp only[f86,Option.getD];rw[←Fu v,←Fu l];cases h1:decide (v≥0)<;>cases h2:decide (v≤2305843009213693952)<;>cases h3:decide (l≥0)<;>cases h4:decide (l≤2305843009213693952)
 all_goals
  exact bA (I h1 (I h2 (I h3 h4)))
theorem Ff (s:Sn) (h:Small s.st):ah prog 47 [.f (.agg s.aC)] (λ r o=>r=[rb (gw s)]/\o=[]):=by
 refine zh func47 results47 ntmps47 call47 ?_;simp only[f47,Option.getD];have hm:=WO s.view s.slot;have hr:=F5 s.st h
 rw[show gw s=(decide (s.done≥0)&&decide (s.done≤2305843009213693952)&&(within s.view&&within s.slot)&&gE s.st) from by unfold gw;rw[Fu,eJ,eJ]]
 cases h1:decide (s.done≥0)
 .exact bA h1
 cases h2:decide (s.done≤2305843009213693952)
 .exact bA (I h1 h2)
 cases h3:(within s.view&&within s.slot)
 .rw[h3]at hm;exact zW (I h1 h2) (hm)
 .rw[h3]at hm;exact zW (I h1 h2) (I (hm) (hr))
theorem abL (bs:List Int) (p:Int):(∃d v l,aD bs p= .ok d/\aD bs d.2= .ok v/\aD bs v.2= .ok l/\cw bs p 0=(d.1,d.2,0)/\cw bs d.2 0=(v.1,v.2,0)/\cw bs v.2 0=(l.1,l.2,0))∨
  ∃x,x≠0/\j6 bs p= .error x/\(cw bs (cw bs (cw bs p 0).2.1 (cw bs p 0).2.2).2.1 (cw bs (cw bs p 0).2.1 (cw bs p 0).2.2).2.2).2.2=x:=by
 have E1:=vU (bs:=bs) (p:=p);unfold j6;cases e1:aD bs p with
 |error x=>
  obtain⟨a,b⟩:=lT E1 e1;refine .inr ⟨x,b,rfl, ?_⟩;have k2:=ph (bs:=bs) (p:=(cw bs p 0).2.1) (e:=(cw bs p 0).2.2);have k3:=ph (bs:=bs) (p:=(cw bs (cw bs p 0).2.1 (cw bs p 0).2.2).2.1) (e:=(cw bs (cw bs p 0).2.1 (cw bs p 0).2.2).2.2);omega
 |ok d=>
 have F1:=lS E1 e1;rw[F1];simp only;have E2':=vU (bs:=bs) (p:=d.2);cases e2:aD bs d.2 with
 |error x=>
  obtain⟨a,b⟩:=lT E2' e2;refine .inr ⟨x,b,rfl, ?_⟩;have k3:=ph (bs:=bs) (p:=(cw bs d.2 0).2.1) (e:=(cw bs d.2 0).2.2);omega
 |ok v=>
 have F2:=lS E2' e2;rw[F2];simp only;have E3:=vU (bs:=bs) (p:=v.2);cases e3:aD bs v.2 with
 |error x=>
  obtain⟨a,b⟩:=lT E3 e3;exact .inr ⟨x,b,rfl,a⟩
 |ok l=>exact .inl ⟨d,v,l,rfl,e2,e3,rfl,F2,lS E3 e3⟩
theorem VA (bs:List Int) (p:Int) (h:bu bs) (hp:i64 p):
  ah prog 103 [.f (de bs.length (ag bs)), .f (ai p)] (λ r o=>r=[HX (iZ bs p).1,ri (iZ bs p).2.1,ri (iZ bs p).2.2]/\o=[]):=by
 refine ah.nil ?_;refine zh func103 results103 ntmps103 call103 ?_;simp only[f103,Option.getD];have h1:=sK bs p 0 h hp;have p1:=nD (e:=0) h hp;have h2:=sK bs (cw bs p 0).2.1 (cw bs p 0).2.2 h p1;have p2:=nD (e:=(cw bs p 0).2.2) h p1;have h3:=sK bs (cw bs (cw bs p 0).2.1 (cw bs p 0).2.2).2.1 (cw bs (cw bs p 0).2.1 (cw bs p 0).2.2).2.2 h p2;have p3:=nD (e:=(cw bs (cw bs p 0).2.1 (cw bs p 0).2.2).2.2) h p2;rcases abL bs p with⟨d,v,l,r1,r2,r3,q1,q2,q3⟩|⟨x,hx,r1,r2⟩
 .rw[q1]at h1 h2 h3 p1 p2 p3;simp only at h2 h3 p1 p2 p3;rw[q2]at h2 h3 p2 p3;simp only at h3 p2 p3;rw[q3]at h3 p3;simp only at h1 h2 h3 p3;refine az trivial ?_;refine zj (h1) ?_;refine az trivial ?_;refine zj (h2) ?_;refine az trivial ?_;refine zj (h3) ?_;have hg:=aaJ bs l.2 h p3;have hsp:=IP bs l.2;unfold BI at hg;cases hs:ko bs l.2 with
  |error x=>
   rw[hs]at hg;simp only at hg;have n1:(x !=(0:Int))=true:=by simpa using(hsp.2 x hs).1
   have hsn:iZ bs p=(iY,0,x):=by unfold iZ j6;simp only[r1,r2,r3,hs]
   rw[hsn]
   repeat'(first|exact zC|refine zq n1 ?_|refine zx (hg) ?_|(apply aq<;>intro hb)|(apply I;exact zI)|(apply I<;>intro hg))
   simp[aT,bf,aY,ak,cm]
  |ok s=>
   rw[hs]at hg;simp only at hg;have hms:=Ff ⟨d.1,v.1,l.1,s.1⟩ (oO (uk.1 (BT hs)));cases hm:gw ⟨d.1,v.1,l.1,s.1⟩
   .rw[hm]at hms;have hsn:iZ bs p=(iY,0,4):=by unfold iZ j6;simp only[r1,r2,r3,hs,hm];rfl
    rw[hsn]
    repeat'(first|exact zC|refine fX ?_|refine zx (hg) ?_|refine zx (hms) ?_|(apply aq<;>intro hb)|(apply I;exact zI)|(apply I<;>intro hg))
    simp[aT,bf,aY,ak,cm]
   .rw[hm]at hms;have hsn:iZ bs p=(⟨d.1,v.1,l.1,s.1⟩,s.2,0):=by unfold iZ j6;simp only[r1,r2,r3,hs,hm];rfl
    rw[hsn]
    repeat'(first|exact zC|refine fX ?_|refine zx (hg) ?_|refine zx (hms) ?_|(apply aq<;>intro hb)|(apply I;exact zI)|(apply I<;>intro hg))
    simp[aT,bf,aY,ak,cm]
 .generalize cw bs p 0=a at*;generalize cw bs a.2.1 a.2.2=b at*;generalize cw bs b.2.1 b.2.2=c at*;unfold iZ;rw[r1];have n1:(c.2.2 !=(0:Int))=true:=by rw[r2];simpa using hx
  refine az trivial ?_;refine zj (h1) ?_;refine az trivial ?_;refine zj (h2) ?_;refine az trivial ?_;refine zj (h3) ?_
  repeat'(first|exact zC|refine zq n1 ?_|(apply aq<;>intro hb)|(apply I;exact zI)|(apply I<;>intro hg))
  simp[aT,bf,aY,ak,cm,r2]
def ly (v:Int) (j:Nat):Int:=v.fdiv (2^(8*(8 - j)))
abbrev Bq (v:Int) (j:Nat):List D:=(List.range 8).map λ m=>uD (if j≤m then nI v m else 0)
theorem Zz (v:Int) (k:Nat) (hk:k<8):(Bq v (k+1)).set k (uD (nI v k))=Bq v k:=by
 apply wv
 .simp
 .intro m h1 h2;simp only[u6,bE,Bk]at h1;rw[uI];simp only[yb,List.getElem_range];split
  .rename_i e;subst e;rw[aj (Nat.le_refl _)]
  .rename_i e;by_cases h:k+1≤m
   .rw[aj h,aj (by omega)]
   .rw[aa h,aa (by omega)]
theorem fL (v:Int) (h:0≤v/\v<4611686018427387904):ah prog 30 [.f (ai v)] (λ r o=>r=[.one (.own 1 8 (ag (aK v)) false)]/\o=[]):=by
 refine vD eV mixed (T:=Ty) (n:=18) func30 (c:=f30.body.getD .skip) rfl results30 ntmps30 call30 ?_;simp only[f30,Option.getD];have hv8:ly v 8=v:=by unfold ly;simp
 repeat'(first|(with_reducible first|refine bH _ _ ?_|refine fC ?_|refine fD ?_)|rw[dE]|simp only[zY,Int.reduceEq,Int.reduceBEq,Int.reduceBNe,Nat.reduceSub,Nat.reduceEqDiff,Nat.reduceAdd,Nat.reduceMul,Nat.reduceLeDiff,Nat.reduceLT,Nat.reduceBEq,reduceCtorEq]|refine eA ?_|refine aq (λ hb=> ?_) (λ hb=> ?_)|(refine And.intro ?_ ?_;exact zI)|refine And.intro (λ hg=> ?_) (λ hg=> ?_)|exact zC|fail)
 refine bq (τ:=Nat) (λ j=>⟨[ai (ly v j),dd,dd, .one (.own ⟨3,1,1⟩ 0 8),ai ((j:Int) - 1),dd,dd,dd,dd,dd,dd,dd,dd,dd,dd,dd,dd,dd],[(5,⟨2,[]⟩),(3,{next:=2,l:=[none,some {e:=1,var:=false,fz:=false,sz:=1,cells:=(Bq v j).map C.d}]})]⟩)
  (λ j=>j≤8) (λ _=>()) (λ j=>j) 8
  (Gh.canon [3] [] [] (by simp only[hv8,dT,lB,lH,lA,lE,lF,lG,iO,kV,jj,jo,fV,l5,D.v.injEq,l9];try(repeat'(first|rfl|omega|with_reducible apply And.intro))) rfl rfl) (Nat.le_refl _) ?_
 intro j hj0 hF K hK
 repeat(first|with_reducible refine bH _ _ ?_|with_reducible refine dH (bH _ _) ?_|with_reducible refine dH (dH (bH _ _)) ?_|with_reducible refine dH (dH (dH (bH _ _))) ?_|rw[dE]|simp only[zB,Nat.reduceSub,Nat.reduceEqDiff,Nat.reduceAdd,Nat.reduceMul,Nat.reduceLeDiff,Nat.reduceLT,Nat.reduceBEq,reduceCtorEq])
 refine aq (λ hlt=> ?_) (λ hge=> ?_)
 .obtain⟨k,rfl⟩:∃k,j=k+1:=⟨j - 1,by simp at hlt;omega⟩;have hk:((((k+1:Nat):Int)) - 1)=(k:Int):=by omega
  have hge0:decide ((k:Int)≥0)=true:=by simp
  have w1:IntKind.i64.wrap ((k:Int) - 1)=(k:Int) - 1:=wrap64 (by omega) (by omega);have hb0:0≤ly v (k+1)/\ly v (k+1)≤v:=by unfold ly;rw[v9 _ (tC (by decide))];exact⟨Int.ediv_nonneg h.1 (tC (by decide)),Int.ediv_le_self _ h.1⟩
  have w2:IntKind.u8.wrap (ly v (k+1))=nI v k:=by unfold nI ly;rw[show 8 - (k+1)=7 - k from by omega]
  have w3:(ly v (k+1)).fdiv (2^8)=ly v k:=by
   have p0:∀n:Nat,(0:Int)≤2^n:=λ n=>tC (by decide)
   unfold ly;rw[v9 v (p0 (8*(8 - (k+1)))),v9 _ (p0 8),v9 v (p0 (8*(8 - k))),Int.ediv_ediv_of_nonneg (p0 _),←Int.pow_add,show 8*(8 - (k+1))+8=8*(8 - k) from by omega]
  have w4:IntKind.i64.wrap (ly v k)=ly v k:=by
   have:0≤ly v k/\ly v k≤v:=by unfold ly;rw[v9 _ (tC (by decide))];exact⟨Int.ediv_nonneg h.1 (tC (by decide)),Int.ediv_le_self _ h.1⟩
   exact wrap64 (by omega) (by omega)
  have hset:((Bq v (k+1)).map C.d).set k (C.d (uD (nI v k)))=(Bq v k).map C.d:=by rw[←Zz v k (by omega),List.map_set]
  have hle:(k+1≤8)=True:=b5 hj0;have h8:(if(8:Int)<0 then none else some (Value.int .i64 ((ly v (k+1)).fdiv (2^min (Int.toNat 8) IntKind.i64.bits))))=some (Value.int .i64 (ly v k)):=by rw[aa (by decide),show min (Int.toNat 8) IntKind.i64.bits=8 from rfl,w3]
  repeat'(first|(with_reducible first|refine bH _ _ ?_|refine fC ?_|refine fD ?_)|rw[dE]|simp only[hk,w1,w2,h8,hset,Bk,hle,gW,zY,Int.reduceEq,Int.reduceBEq,Int.reduceBNe,Nat.reduceSub,Nat.reduceEqDiff,Nat.reduceAdd,Nat.reduceMul,Nat.reduceLeDiff,Nat.reduceLT,Nat.reduceBEq,reduceCtorEq]|refine eA ?_|refine aq (λ hb=> ?_) (λ hb=> ?_)|(refine And.intro ?_ ?_;exact zI)|refine And.intro (λ hg=> ?_) (λ hg=> ?_)|exact zC|fail)
  exact hK _ k (Gh.canon [3] [] [] zK rfl rfl) (by omega) rfl (by omega)
 .have hj:j=0:=by simp at hge;omega
  subst hj
  repeat'(first|(with_reducible first|refine bH _ _ ?_|refine fC ?_|refine fD ?_)|rw[dE]|simp only[zY,Int.reduceEq,Int.reduceBEq,Int.reduceBNe,Nat.reduceSub,Nat.reduceEqDiff,Nat.reduceAdd,Nat.reduceMul,Nat.reduceLeDiff,Nat.reduceLT,Nat.reduceBEq,reduceCtorEq]|refine eA ?_|refine aq (λ hb=> ?_) (λ hb=> ?_)|(refine And.intro ?_ ?_;exact zI)|refine And.intro (λ hg=> ?_) (λ hg=> ?_)|exact zC|fail)
  rfl
theorem Vt {r:eh} (h:fR r=true):ik r:=by obtain⟨f1,f2,f3,f4,f5⟩:=vt h;exact⟨by omega,λ g hg=>by have:=(wW h g hg).1;omega⟩
theorem P5 {a b:D}:dC (sub 0 2 1 [C.d a,C.d b])=some [a,b]:=rfl
theorem Pj {a:D} {n:Int}:dC (sub 0 9 1 (C.d a::List.map C.d (ag (aK n))))=some (a::ag (aK n)):=rfl
theorem Vg (r:eh) (h:fR r=true):ah prog 71 [.f (.agg r.aC)] (λ x o=>x=[.one (.own 1 (gR r).length (ag (gR r)) false),ri 0]/\o=[]):=by
 obtain⟨f1,f2,f3,f4,f5⟩:=vt h;have hgr:=wW h;refine vD eV mixed (T:=Ty) (n:=62) func71 (c:=f71.body.getD .skip) rfl results71 ntmps71 call71 ?_;simp only[f71,Option.getD];have hmy:=E0 r (Vt h);rw[h]at hmy;have hpn:=fL r.br (by omega);have w1:IntKind.u8.wrap r.code=r.code:=dj (by omega) (by omega);have w2:IntKind.u8.wrap r.ahead=r.ahead:=dj (by omega) (by omega);have w3:IntKind.u8.wrap (r.held.length:Int)=r.held.length:=dj (by omega) (by omega);have t1:(ag (aK r.br)).take 8=ag (aK r.br):=dk (by rw[oi];decide)
 repeat'(first|(with_reducible first|refine bH _ _ ?_|refine fC ?_|refine fD ?_)|rw[dE]|simp only[P5,Pj,t1,w1,w2,w3,bE,cg,zY,Int.reduceEq,Int.reduceBEq,Int.reduceBNe,Nat.reduceSub,Nat.reduceEqDiff,Nat.reduceAdd,Nat.reduceMul,Nat.reduceLeDiff,Nat.reduceLT,Nat.reduceBEq,reduceCtorEq]|((first|((try refine eH ?_);apply eb)|(apply fm;intro _));(solve|exact(hmy)|exact(hpn)|(refine ah.le (hmy) ?_;exact zM)|(refine ah.le (hpn) ?_;exact zM)|fail);try case hn=>rfl)|refine eA ?_|refine aq (λ hb=> ?_) (λ hb=> ?_)|(refine And.intro ?_ ?_;exact zI)|refine And.intro (λ hg=> ?_) (λ hg=> ?_)|exact zC|fail)
 refine bq (τ:=Nat) (λ i=>⟨[dd, .one (.ptr ⟨1,0,1⟩ 0),dd,dd, .one (.own ⟨4,1,1⟩ 0 (eG r i).length),ai i,dd,dd,dd,dd,dd,dd,dd,dd,dd,dd,dd,dd,dd,dd,dd,dd,dd,dd,dd,dd,dd,dd,dd,dd,dd,dd,dd,dd,dd,dd,dd,dd,dd,dd,dd,dd,dd,dd,dd,dd,dd,dd,dd,dd,dd,dd,dd,dd,dd,dd,dd,dd,dd,dd,dd,dd],[(1,{next:=2,l:=[some {e:=1,var:=true,fz:=false,sz:=0,cells:=[di r.code,di r.br,di r.ahead, .aC r.held.length (dV r.held)]},none,none,none,none]}),(12,⟨2,[]⟩),(15,⟨2,[]⟩),(4,{next:=2,l:=[none,some {e:=1,var:=false,fz:=false,sz:=1,cells:=(ag (eG r i)).map C.d}]}),(25,⟨2,[]⟩),(43,⟨2,[]⟩),(44,⟨2,[]⟩),(51,⟨2,[]⟩),(59,⟨2,[]⟩),(60,⟨2,[]⟩)]⟩)
  (λ i=>i≤r.held.length) (λ _=>()) (λ i=>r.held.length - i) 0
  (Gh.canon [1,4] [43,44,51,59,60] [] (by simp only[CC,zR,dT,lB,lH,lA,lE,lF,lG,iO,kV,jj,jo,fV,l5,D.v.injEq,l9];try(repeat'(first|rfl|omega|with_reducible apply And.intro))) rfl (by rw[CC];rfl)) (bc _) ?_
 intro i hi0 hF K hK
 repeat(first|with_reducible refine bH _ _ ?_|with_reducible refine dH (bH _ _) ?_|with_reducible refine dH (dH (bH _ _)) ?_|with_reducible refine dH (dH (dH (bH _ _))) ?_|rw[dE]|simp only[zB,Nat.reduceSub,Nat.reduceEqDiff,Nat.reduceAdd,Nat.reduceMul,Nat.reduceLeDiff,Nat.reduceLT,Nat.reduceBEq,reduceCtorEq])
 refine aq (λ hlt=> ?_) (λ hge=> ?_)
 .have hi:i<r.held.length:=by simpa using hlt
  have hat:=oU hi;have hw:=bz hi (by omega);have hg:=hgr _ (cb hi);have hpm:=fL r.held[i].token hg.2;have hlb:(eG r i).length≤11+4*21:=by
   rw[eG,aG,zR];have:=B8 (l:=r.held.take i) (k:=12) λ g hx=>(hgr g (jm hx)).1
   have:(r.held.take i).length≤4:=by rw[cu];omega
   omega
  have w4:IntKind.u8.wrap (r.held[i].name.size:Int)=r.held[i].name.size:=dj (by omega) (by omega);have k3:(ag (eG r i)).take (eG r i).length=ag (eG r i):=dk (by rw[bE];exact Nat.le_refl _);have k2:(ag (aK r.held[i].token)).take 8=ag (aK r.held[i].token):=dk (by rw[oi];decide);have hle:((eG r i).length+1≤2^47)=True:=b5 (by omega);have hle2:((eG r i).length+1+r.held[i].name.size≤2^47)=True:=b5 (by omega);have hle3:((eG r i).length+1+r.held[i].name.size+8≤2^47)=True:=b5 (by omega);have hsl:(eG r (i+1)).length=(eG r i).length+1+r.held[i].name.size+8:=by rw[CQ hi,aG,aG,rj,cg];omega
  have k4:(ag (eG r i)++[D.v (Value.int .u8 (r.held[i].name.size:Int))]).take ((eG r i).length+1)=ag (eG r i)++[D.v (Value.int .u8 (r.held[i].name.size:Int))]:=dk (by rw[aG,bE];exact Nat.le_refl _);have k5:(ag (eG r i)++[D.v (Value.int .u8 (r.held[i].name.size:Int))]++rL r.held[i].name).take ((eG r i).length+1+r.held[i].name.size)=ag (eG r i)++[D.v (Value.int .u8 (r.held[i].name.size:Int))]++rL r.held[i].name:=dk (by rw[aG,aG,bE,bE,sG];exact Nat.le_refl _)
  repeat'(first|(with_reducible first|refine bH _ _ ?_|refine fC ?_|refine fD ?_)|rw[dE]|simp only[hat,w4,k4,k5,dW,c5,cI,hle,hle2,hle3,k2,k3,sG,bE,cg,zY,Int.reduceEq,Int.reduceBEq,Int.reduceBNe,Nat.reduceSub,Nat.reduceEqDiff,Nat.reduceAdd,Nat.reduceMul,Nat.reduceLeDiff,Nat.reduceLT,Nat.reduceBEq,reduceCtorEq]|((first|((try refine eH ?_);apply eb)|(apply fm;intro _));(solve|exact(hpm)|(refine ah.le (hpm) ?_;exact zM)|fail);try case hn=>rfl)|refine eA ?_|refine aq (λ hb=> ?_) (λ hb=> ?_)|(refine And.intro ?_ ?_;exact zI)|refine And.intro (λ hg=> ?_) (λ hg=> ?_)|exact zC|fail)
  exact hK _ (i+1) (Gh.canon [1,4] [] [] (by simp only[hw,hsl,dT,lB,lH,lA,lE,lF,lG,iO,kV,jj,jo,fV,l5,D.v.injEq,l9];try(repeat'(first|rfl|omega|with_reducible apply And.intro))) rfl (by rw[CQ hi];simp only[b9,ag,fU,iU,b7,rT,fH,dW,c5];rfl)) hi rfl (by omega)
 .have hi:i=r.held.length:=by
   have:¬(i:Int)<r.held.length:=by simpa using hge
   omega
  subst hi
  repeat'(first|(with_reducible first|refine bH _ _ ?_|refine fC ?_|refine fD ?_)|rw[dE]|simp only[zY,Int.reduceEq,Int.reduceBEq,Int.reduceBNe,Nat.reduceSub,Nat.reduceEqDiff,Nat.reduceAdd,Nat.reduceMul,Nat.reduceLeDiff,Nat.reduceLT,Nat.reduceBEq,reduceCtorEq]|refine eA ?_|refine aq (λ hb=> ?_) (λ hb=> ?_)|(refine And.intro ?_ ?_;exact zI)|refine And.intro (λ hg=> ?_) (λ hg=> ?_)|exact zC|fail)
  rw[LJ]
theorem Ip (m:bN) (h:eB m=true):ah prog 29 [.f (.agg m.aC)] (λ x o=>x=[.one (.own 1 (fE m).length (ag (fE m)) false),ri 0]/\o=[]):=by
 refine vD eV mixed (T:=Ty) (n:=25) func29 (c:=f29.body.getD .skip) rfl results29 ntmps29 call29 ?_;simp only[f29,Option.getD];obtain⟨f1,f2,f3⟩:=vr h;have hmy:=yT m (Fc h);rw[h]at hmy;have hpr:=Vg m.bd f3;have hpn:=fL m.seq (by omega);have hrl:=FD f3;have w1:IntKind.u8.wrap m.af=m.af:=dj (by omega) (by omega);have t2:(ag (gR m.bd)).take (gR m.bd).length=ag (gR m.bd):=dk (by rw[bE];exact Nat.le_refl _);have hle:(9+(gR m.bd).length≤2^47)=True:=b5 (by omega);have t1:(ag (aK m.seq)).take 8=ag (aK m.seq):=dk (by rw[oi];decide)
 repeat'(first|(with_reducible first|refine bH _ _ ?_|refine fC ?_|refine fD ?_)|rw[dE]|simp only[P5,Pj,w1,t1,t2,hle,bE,cg,zY,Int.reduceEq,Int.reduceBEq,Int.reduceBNe,Nat.reduceSub,Nat.reduceEqDiff,Nat.reduceAdd,Nat.reduceMul,Nat.reduceLeDiff,Nat.reduceLT,Nat.reduceBEq,reduceCtorEq]|((first|((try refine eH ?_);apply eb)|(apply fm;intro _));(solve|exact(hmy)|exact(hpr)|exact(hpn)|(refine ah.le (hmy) ?_;exact zM)|(refine ah.le (hpr) ?_;exact zM)|(refine ah.le (hpn) ?_;exact zM)|fail);try case hn=>rfl)|refine eA ?_|refine aq (λ hb=> ?_) (λ hb=> ?_)|(refine And.intro ?_ ?_;exact zI)|refine And.intro (λ hg=> ?_) (λ hg=> ?_)|exact zC|fail)
 rw[show(fE m).length=9+(gR m.bd).length from by simp[fE,cg];omega];simp[fE,ag]
end Go.Proofs.YtliimajkpggbhaaGreat
