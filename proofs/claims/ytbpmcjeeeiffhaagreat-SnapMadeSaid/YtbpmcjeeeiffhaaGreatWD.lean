import Derived.Test.YtbpmcjeeeiffhaaGreatW7
namespace Go.Proofs.YtbpmcjeeeiffhaaGreat
open Go.Pk
set_option maxRecDepth 100000
set_option linter.unusedSimpArgs false
set_option linter.unusedVariables false
theorem zum (l:List Int) (hl:l.length<2^30):CallOK Tryz.prog 131 [.f (al l.length (zaJ l))] (fun r o=>r=[rb (lineB l)]∧o=[]):=by
 refine zac zao mixed (T:=Ty) (n:=29) Tryz.func131 (c:=Tryz.f131.body.getD .skip) rfl Tryz.results131 Tryz.ntmps131 Tryz.call131 ?_
 simp only[Tryz.f131,Option.getD]
 cases h3:decide ((l.length:Int)>3)
 ·have hs:lineB l=zbb (zmm l) 0 l:=by
   unfold lineB
   rw[show decide ((l.length:Int)≤3)=true by simp at h3⊢;omega,Bool.and_true]
  rw[hs]
  repeat'(first|refine zq (I h3 @zah) ?_|exact zd (I h3 @zah)|(refine zaa ?_ ?_<;>intro hb)|(refine And.intro ?_ ?_;exact zI)|(refine And.intro ?_ ?_<;>intro hg)|exact zC|fail)
  refine zai (τ:=Nat) (fun i=>⟨[al l.length (zaJ l),dd,dd,ai i,dd,dd,dd,dd,dd,dd,dd,dd,dd,dd,dd,dd,dd,dd,dd,dd,dd,dd,dd,dd,dd,dd,dd,dd,dd],[]⟩)
   (fun i=>i≤l.length) (fun i=>zbb (zmm l) i (l.drop i)) (fun i=>l.length - i) 0
   (Gh.canon [] [] [] zK rfl rfl) (Nat.zero_le _) ?_
  intro i hi0 hF K hK
  rw[List.drop_zero]at hF
  refine zw ?_
  refine zaa (fun hlt=> ?_) (fun hge=> ?_)
  ·have hi:i<l.length:=by simpa using hlt
   have hat:=zb7 hi
   have hw:=zak hi (by omega)
   rw[zaz hi]at hF
   have hcl:=zfS l[i]
   have hlt2:(l.take i).length=i:=by rw[List.length_take];omega
   have htk:(zaJ l).take i=zaJ (l.take i):=zmq (by omega)
   have hco:=ztP (l.take i) (by omega) l[i]
   rw[hlt2]at hco
   have hq:zmm l i l[i]= !(!(isClient l[i])||hasI (l.take i) l[i]):=rfl
   repeat'(first|refine zq (I hat (I htk (I @zah zca))) ?_|exact zd (I hat (I htk (I @zah zca)))|refine zc (hcl) ?_|refine zg (hcl) ?_|refine zc (hco) ?_|refine zg (hco) ?_|(refine zaa ?_ ?_<;>intro hb)|(refine And.intro ?_ ?_;exact zI)|(refine And.intro ?_ ?_<;>intro hg)|exact zC|fail)
   ·rw[hq,hb,if_neg (by simp)]at hF
    rw[←hF]
   ·exact hK _ (i+1) (Gh.canon [] [] [] (zk hw) rfl rfl) hi (by rw[zaz hi,hq,hb];rfl) (by omega)
  ·have hi:i=l.length:=by
    have:¬(i:Int)<l.length:=by simpa using hge
    omega
   rw[zch hi]at hF
   rw[←hF]
   repeat'(first|refine zq0 ?_|exact zd0|(refine zaa ?_ ?_<;>intro hb)|(refine And.intro ?_ ?_;exact zI)|(refine And.intro ?_ ?_<;>intro hg)|exact zC|fail)
 ·have hs:lineB l=false:=by
   unfold lineB
   rw[show decide ((l.length:Int)≤3)=false by simp at h3⊢;omega,Bool.and_false]
  rw[hs]
  repeat'(first|refine zq (I h3 @zah) ?_|exact zd (I h3 @zah)|(refine zaa ?_ ?_<;>intro hb)|(refine And.intro ?_ ?_;exact zI)|(refine And.intro ?_ ?_<;>intro hg)|exact zC|fail)
theorem zsx {l:List Sess} {i:Nat} {n:Int} (h:∀k (hk:k<i) (hl:k<l.length),l[k].num≠n):numbered (l.take i) n=false:=by
 unfold numbered
 rw[List.any_eq_false]
 intro x hx
 obtain⟨k,hk,rfl⟩:=List.getElem_of_mem hx
 rw[List.length_take]at hk
 rw[List.getElem_take]
 have:=h k (by omega) (by omega)
 simpa using this
theorem zoS {l:List Sess} {i k:Nat} {n:Int} (hk:k<i) (hl:k<l.length) (h:l[k].num=n):numbered (l.take i) n=true:=by
 unfold numbered
 rw[List.any_eq_true]
 exact⟨l[k],List.mem_take_iff_getElem.2 ⟨k,by omega,rfl⟩,by simpa using h⟩
theorem zu9 (p:Bool) (n r:Int):(p&& !(decide (n<1))&& !(decide (n>zbD))&& !(decide (r<0))&& !(decide (r>zbD)))= !(!p|| !(decide (n≥1)&&decide (n≤2305843009213693952))|| !(decide (r≥0)&&decide (r≤2305843009213693952))):=by
 have hH:zbD=2305843009213693952:=rfl
 rw[Bool.eq_iff_iff]
 cases p
 ·simp
 ·simp only[hH,Bool.true_and,Bool.not_true,Bool.false_or,Bool.and_eq_true,Bool.not_eq_true',Bool.or_eq_false_iff,decide_eq_false_iff_not,Bool.not_eq_false',decide_eq_true_eq]
  omega
set_option maxHeartbeats 4000000 in
theorem zun (l:List Sess) (hl:l.length<2^30):CallOK Tryz.prog 79 [.f (al l.length (zaK l))] (fun r o=>r=[rb (sessB l)]∧o=[]):=by
 refine zac zao mixed (T:=Ty) (n:=63) Tryz.func79 (c:=Tryz.f79.body.getD .skip) rfl Tryz.results79 Tryz.ntmps79 Tryz.call79 ?_
 simp only[Tryz.f79,Option.getD]
 cases h5:decide ((l.length:Int)>5)
 ·have hs:sessB l=zbb (zgo l) 0 l:=by rw[sessB,h5];rfl
  rw[hs]
  repeat'(first|refine zq (I h5 @zaq) ?_|exact zd (I h5 @zaq)|(refine zaa ?_ ?_<;>intro hb)|(refine And.intro ?_ ?_;exact zI)|(refine And.intro ?_ ?_<;>intro hg)|exact zC|fail)
  refine zai (τ:=Nat) (fun i=>⟨[al l.length (zaK l),dd,dd,ai i,dd,dd,dd,dd,dd,dd,dd,dd,dd,dd,dd,dd,dd,dd,dd,dd,dd,dd,dd,dd,dd,dd,dd,dd,dd,dd,dd,dd,dd,dd,dd,dd,dd,dd,dd,dd,dd,dd,dd,dd,dd,dd,dd,dd,dd,dd,dd,dd,dd,dd,dd,dd,dd,dd,dd,dd,dd,dd,dd],[(4,⟨2,[]⟩)]⟩)
   (fun i=>i≤l.length) (fun i=>zbb (zgo l) i (l.drop i)) (fun i=>l.length - i) 0
   (Gh.canon [] [4] [] zK rfl rfl) (Nat.zero_le _) ?_
  intro i hi0 hF K hK
  simp only[List.drop_zero]at hF hK⊢
  refine zw ?_
  refine zaa (fun hlt=> ?_) (fun hge=> ?_)
  ·have hi:i<l.length:=by simpa using hlt
   have hat:=zbf hi
   have hw:=zak hi (by omega)
   rw[zaz hi]at hF
   have hcl:=zfS l[i].client
   have hh1:=zdX l[i].num 1
   have hh2:=zdX l[i].renewed 0
   cases e0:decide ((i:Int)>0)
   ·have hq:zgo l i l[i]=(!(!(isClient l[i].client)|| !(decide (l[i].num≥1)&&decide (l[i].num≤2305843009213693952))|| !(decide (l[i].renewed≥0)&&decide (l[i].renewed≤2305843009213693952)))&& !(numbered (l.take i) l[i].num)):=by
     unfold zgo zgc
     have h0:decide (i>0)=false:=by simpa using e0
     rw[h0,Bool.false_and,Bool.false_or]
     congr 1
     exact zu9 _ _ _
    have h0:i=0:=by simpa using e0
    have hp:(zaK l).drop ((IntKind.i64.wrap ((i:Int) - 1)).toNat*3)=l[i].enc++zaK (l.drop (i+1)):=by
     rw[←zbf hi,h0];rfl
    repeat'(first|refine zq (I hat (I hp (I e0 (I @zaq zca)))) ?_|exact zd (I hat (I hp (I e0 (I @zaq zca))))|refine zc (hcl) ?_|refine zg (hcl) ?_|refine zc (hh1) ?_|refine zg (hh1) ?_|refine zc (hh2) ?_|refine zg (hh2) ?_|(refine zaa ?_ ?_<;>intro hb)|(refine And.intro ?_ ?_;exact zI)|(refine And.intro ?_ ?_<;>intro hg)|exact zC|fail)
    ·rw[hq,hb,Bool.not_true,Bool.false_and,if_neg (by simp)]at hF
     rw[←hF]
    ·have hb1:=hb
     clear hb
     refine zai (τ:=Nat) (fun k=>⟨[al l.length (zaK l),dd,dd,ai i, .one (.ptr ⟨4,0,1⟩ 0),ai k,dd,dd,dd,dd,dd,dd,dd,dd,dd,dd,dd,dd,dd,dd,dd,dd,dd,dd,dd,dd,dd,dd,dd,dd,dd,dd,dd,dd,dd,dd,dd,dd,dd,dd,dd,dd,dd,dd,dd,dd,dd,dd,dd,dd,dd,dd,dd,dd,dd,dd,dd,dd,dd,dd,dd,dd,dd],[(4,{next:=2,l:=[some {e:=1,var:=true,fz:=false,sz:=0,cells:=[di l[i].client,di l[i].num,di l[i].renewed]},none,none,none]})]⟩)
      (fun k=>k≤i∧∀k' (hk:k'<k) (hkl:k'<l.length),l[k'].num≠l[i].num) (fun _=>()) (fun k=>i - k) 0
      (Gh.canon [4] [] [] zK rfl rfl) ⟨Nat.zero_le _,fun k' hk=>absurd hk (Nat.not_lt_zero _)⟩ ?_
     intro k ⟨k1,k2⟩ _ K2 hK2
     refine zw ?_
     refine zaa (fun hlt2=> ?_) (fun hge2=> ?_)
     ·have hk:k<i:=by simpa using hlt2
      have hat2:=zbf (show k<l.length by omega)
      have hw2:IntKind.i64.wrap ((k:Int)+1)=((k+1:Nat):Int):=zak hk (by omega)
      repeat'(first|refine zq (I hat2 (I @zaq zca)) ?_|exact zd (I hat2 (I @zaq zca))|(refine zaa ?_ ?_<;>intro hb)|(refine And.intro ?_ ?_;exact zI)|(refine And.intro ?_ ?_<;>intro hg)|exact zC|fail)
      ·rw[hq,hb1,zoS hk (by omega) (by simpa using hb),Bool.not_true,Bool.and_false,if_neg (by simp)]at hF
       rw[←hF]
      ·refine hK2 _ (k+1) (Gh.canon [4] [] [] (zk hw2) rfl rfl) ⟨by omega,fun k' hk' hl'=> ?_⟩ rfl (by omega)
       rcases Nat.lt_or_ge k' k with h|h
       ·exact k2 k' h hl'
       ·have:k'=k:=by omega
        subst this
        simpa using hb
     ·have hki:k=i:=by
       have:¬(k:Int)<i:=by simpa using hge2
       omega
      rw[hki]at k2
      repeat'(first|refine zq0 ?_|exact zd0|(refine zaa ?_ ?_<;>intro hb)|(refine And.intro ?_ ?_;exact zI)|(refine And.intro ?_ ?_<;>intro hg)|exact zC|fail)
      exact hK _ (i+1) (Gh.canon [] [] [] (zk hw) rfl rfl) hi (by rw[zaz hi,hq,hb1,zsx k2];rfl) (by omega)
   ·have hq:zgo l i l[i]=(!(!(isClient l[i].client)|| !(decide (l[i].num≥1)&&decide (l[i].num≤2305843009213693952))|| !(decide (l[i].renewed≥0)&&decide (l[i].renewed≤2305843009213693952))||decide (l[i].client≤(l[i - 1]'(by omega)).client))&& !(numbered (l.take i) l[i].num)):=by
     unfold zgo zgc zpw
     have h0:decide (i>0)=true:=by simpa using e0
     rw[h0,Bool.true_and,List.getElem?_eq_getElem (by omega),zu9]
     simp only[Bool.not_or,Bool.not_not,Option.map_some,Option.getD_some,ge_iff_le,Bool.and_assoc]
    have h0:0<i:=by simpa using e0
    have hp:=zbf (show i - 1<l.length by omega)
    have hw1:IntKind.i64.wrap ((i:Int) - 1)=((i - 1:Nat):Int):=by rw[wrap64 (by omega) (by omega)];omega
    repeat'(first|refine zq (I hat (I hp (I hw1 (I e0 (I @zaq zca))))) ?_|exact zd (I hat (I hp (I hw1 (I e0 (I @zaq zca)))))|refine zc (hcl) ?_|refine zg (hcl) ?_|refine zc (hh1) ?_|refine zg (hh1) ?_|refine zc (hh2) ?_|refine zg (hh2) ?_|(refine zaa ?_ ?_<;>intro hb)|(refine And.intro ?_ ?_;exact zI)|(refine And.intro ?_ ?_<;>intro hg)|exact zC|fail)
    ·rw[hq,hb,Bool.not_true,Bool.false_and,if_neg (by simp)]at hF
     rw[←hF]
    ·have hb1:=hb
     clear hb
     refine zai (τ:=Nat) (fun k=>⟨[al l.length (zaK l),dd,dd,ai i, .one (.ptr ⟨4,0,1⟩ 0),ai k,dd,dd,dd,dd,dd,dd,dd,dd,dd,dd,dd,dd,dd,dd,dd,dd,dd,dd,dd,dd,dd,dd,dd,dd,dd,dd,dd,dd,dd,dd,dd,dd,dd,dd,dd,dd,dd,dd,dd,dd,dd,dd,dd,dd,dd,dd,dd,dd,dd,dd,dd,dd,dd,dd,dd,dd,dd],[(4,{next:=2,l:=[some {e:=1,var:=true,fz:=false,sz:=0,cells:=[di l[i].client,di l[i].num,di l[i].renewed]},none,none,none]})]⟩)
      (fun k=>k≤i∧∀k' (hk:k'<k) (hkl:k'<l.length),l[k'].num≠l[i].num) (fun _=>()) (fun k=>i - k) 0
      (Gh.canon [4] [] [] zK rfl rfl) ⟨Nat.zero_le _,fun k' hk=>absurd hk (Nat.not_lt_zero _)⟩ ?_
     intro k ⟨k1,k2⟩ _ K2 hK2
     refine zw ?_
     refine zaa (fun hlt2=> ?_) (fun hge2=> ?_)
     ·have hk:k<i:=by simpa using hlt2
      have hat2:=zbf (show k<l.length by omega)
      have hw2:IntKind.i64.wrap ((k:Int)+1)=((k+1:Nat):Int):=zak hk (by omega)
      repeat'(first|refine zq (I hat2 (I @zaq zca)) ?_|exact zd (I hat2 (I @zaq zca))|(refine zaa ?_ ?_<;>intro hb)|(refine And.intro ?_ ?_;exact zI)|(refine And.intro ?_ ?_<;>intro hg)|exact zC|fail)
      ·rw[hq,hb1,zoS hk (by omega) (by simpa using hb),Bool.not_true,Bool.and_false,if_neg (by simp)]at hF
       rw[←hF]
      ·refine hK2 _ (k+1) (Gh.canon [4] [] [] (zk hw2) rfl rfl) ⟨by omega,fun k' hk' hl'=> ?_⟩ rfl (by omega)
       rcases Nat.lt_or_ge k' k with h|h
       ·exact k2 k' h hl'
       ·have:k'=k:=by omega
        subst this
        simpa using hb
     ·have hki:k=i:=by
       have:¬(k:Int)<i:=by simpa using hge2
       omega
      rw[hki]at k2
      repeat'(first|refine zq0 ?_|exact zd0|(refine zaa ?_ ?_<;>intro hb)|(refine And.intro ?_ ?_;exact zI)|(refine And.intro ?_ ?_<;>intro hg)|exact zC|fail)
      exact hK _ (i+1) (Gh.canon [] [] [] (zk hw) rfl rfl) hi (by rw[zaz hi,hq,hb1,zsx k2];rfl) (by omega)
  ·have hi:i=l.length:=by
    have:¬(i:Int)<l.length:=by simpa using hge
    omega
   rw[zch hi]at hF
   rw[←hF]
   repeat'(first|refine zq0 ?_|exact zd0|(refine zaa ?_ ?_<;>intro hb)|(refine And.intro ?_ ?_;exact zI)|(refine And.intro ?_ ?_<;>intro hg)|exact zC|fail)
 ·have hs:sessB l=false:=by rw[sessB,h5];rfl
  rw[hs]
  repeat'(first|refine zq (I h5 @zaq) ?_|exact zd (I h5 @zaq)|(refine zaa ?_ ?_<;>intro hb)|(refine And.intro ?_ ?_;exact zI)|(refine And.intro ?_ ?_<;>intro hg)|exact zC|fail)
theorem zsy {l:List Lk} {i:Nat} {n:Int} (h:∀k (hk:k<i) (hl:k<l.length),l[k].token≠n):((l.take i).any fun o=>o.token==n)=false:=by
 rw[List.any_eq_false]
 intro x hx
 obtain⟨k,hk,rfl⟩:=List.getElem_of_mem hx
 rw[List.length_take]at hk
 rw[List.getElem_take]
 have:=h k (by omega) (by omega)
 simpa using this
theorem zoT {l:List Lk} {i k:Nat} {n:Int} (hk:k<i) (hl:k<l.length) (h:l[k].token=n):((l.take i).any fun o=>o.token==n)=true:=by
 rw[List.any_eq_true]
 exact⟨l[k],List.mem_take_iff_getElem.2 ⟨k,by omega,rfl⟩,by simpa using h⟩
theorem zxg (a b:List UInt8):(!(Go.Op.bytesLess b a))=(Go.Op.bytesLess a b||a==b):=by
 cases h:Go.Op.bytesLess b a
 ·cases h2:Go.Op.bytesLess a b
  ·rw[zrI h2 h];simp
  ·rfl
 ·rw[ztH h]
  cases h3:a==b
  ·rfl
  ·rw[show a=b by simpa using h3,zj4]at h;cases h
theorem zva (p L H X:Bool) (h t:Int):(p&& !(decide (h<0))&& !(decide (h≥8))&& !(decide (t<1))&& !(decide (t>zbD))&& !(!L||H||X))= !(!p|| !(isClient h)|| !(decide (t≥1)&&decide (t≤2305843009213693952))|| !L||H||X):=by
 have hH:zbD=2305843009213693952:=rfl
 unfold isClient
 rw[Bool.eq_iff_iff]
 cases p<;>cases L<;>cases H<;>cases X<;>simp[hH]
 omega
set_option maxHeartbeats 4000000 in
theorem zsz (l:List Lk) (hl:l.length<2^30) (hll:∀k∈l,k.line.length<2^30∧k.name.size<2^62):CallOK Tryz.prog 80 [.f (al l.length (zaj l))] (fun r o=>r=[rb (lockB l)]∧o=[]):=by
 refine zac zao mixed (T:=Ty) (n:=76) Tryz.func80 (c:=Tryz.f80.body.getD .skip) rfl Tryz.results80 Tryz.ntmps80 Tryz.call80 ?_
 simp only[Tryz.f80,Option.getD]
 cases h5:decide ((l.length:Int)>4)
 ·have hs:lockB l=zbb (zg2 l) 0 l:=by
   unfold lockB
   rw[show decide ((l.length:Int)≤4)=true by simp at h5⊢;omega,Bool.and_true]
  rw[hs]
  repeat'(first|refine zq (I h5 @zaf) ?_|exact zd (I h5 @zaf)|(refine zaa ?_ ?_<;>intro hb)|(refine And.intro ?_ ?_;exact zI)|(refine And.intro ?_ ?_<;>intro hg)|exact zC|fail)
  refine zai (τ:=Nat) (fun i=>⟨[al l.length (zaj l),dd,dd,ai i,dd,dd,dd,dd,dd,dd,dd,dd,dd,dd,dd,dd,dd,dd,dd,dd,dd,dd,dd,dd,dd,dd,dd,dd,dd,dd,dd,dd,dd,dd,dd,dd,dd,dd,dd,dd,dd,dd,dd,dd,dd,dd,dd,dd,dd,dd,dd,dd,dd,dd,dd,dd,dd,dd,dd,dd,dd,dd,dd,dd,dd,dd,dd,dd,dd,dd,dd,dd,dd,dd,dd,dd],[(4,⟨2,[]⟩)]⟩)
   (fun i=>i≤l.length) (fun i=>zbb (zg2 l) i (l.drop i)) (fun i=>l.length - i) 0
   (Gh.canon [] [4] [] zK rfl rfl) (Nat.zero_le _) ?_
  intro i hi0 hF K hK
  simp only[List.drop_zero]at hF hK⊢
  refine zw ?_
  refine zaa (fun hlt=> ?_) (fun hge=> ?_)
  ·have hi:i<l.length:=by simpa using hlt
   have hat:=zaP hi
   obtain⟨hk1,hk2⟩:=hll _ (List.getElem_mem hi)
   have hw:=zak hi (by omega)
   rw[zaz hi]at hF
   have hnm:=zib l[i].name hk2
   have hlr:=zum l[i].line hk1
   have hcl:=zfS l[i].holder
   have hlc:=ztP l[i].line (by omega) l[i].holder
   have hh1:=zdX l[i].token 1
   cases e0:decide ((i:Int)>0)
   ·have hq:zg2 l i l[i]=(!(!(nameP l[i].name)|| !(isClient l[i].holder)|| !(decide (l[i].token≥1)&&decide (l[i].token≤2305843009213693952))|| !(lineB l[i].line)||hasI l[i].line l[i].holder)&& !((l.take i).any fun o=>o.token==l[i].token)):=by
     unfold zg2 znu
     have h0:decide (i>0)=false:=by simpa using e0
     rw[h0,Bool.false_and]
     congr 1
     rw[zva,Bool.or_false]
    have h0:i=0:=by simpa using e0
    have hp:(zaj l).drop ((IntKind.i64.wrap ((i:Int) - 1)).toNat*4)=l[i].enc++zaj (l.drop (i+1)):=by
     rw[←zaP hi,h0];rfl
    repeat'(first|refine zq (I hat (I hp (I e0 (I @zaf zca)))) ?_|exact zd (I hat (I hp (I e0 (I @zaf zca))))|refine zc (hnm) ?_|refine zg (hnm) ?_|refine zc (hlr) ?_|refine zg (hlr) ?_|refine zc (hcl) ?_|refine zg (hcl) ?_|refine zc (hlc) ?_|refine zg (hlc) ?_|refine zc (hh1) ?_|refine zg (hh1) ?_|(refine zaa ?_ ?_<;>intro hb)|(refine And.intro ?_ ?_;exact zI)|(refine And.intro ?_ ?_<;>intro hg)|exact zC|fail)
    ·rw[hq,hb,Bool.not_true,Bool.false_and,if_neg (by simp)]at hF
     rw[←hF]
    ·have hb1:=hb
     clear hb
     refine zai (τ:=Nat) (fun k=>⟨[al l.length (zaj l),dd,dd,ai i, .one (.ptr ⟨4,0,1⟩ 0),ai k,dd,dd,dd,dd,dd,dd,dd,dd,dd,dd,dd,dd,dd,dd,dd,dd,dd,dd,dd,dd,dd,dd,dd,dd,dd,dd,dd,dd,dd,dd,dd,dd,dd,dd,dd,dd,dd,dd,dd,dd,dd,dd,dd,dd,dd,dd,dd,dd,dd,dd,dd,dd,dd,dd,dd,dd,dd,dd,dd,dd,dd,dd,dd,dd,dd,dd,dd,dd,dd,dd],[(4,{next:=2,l:=[some {e:=1,var:=true,fz:=false,sz:=0,cells:=[.d (sD l[i].name),di l[i].holder,di l[i].token, .d (.sl l[i].line.length (zaJ l[i].line))]},none,none,none,none]})]⟩)
      (fun k=>k≤i∧∀k' (hk:k'<k) (hkl:k'<l.length),l[k'].token≠l[i].token) (fun _=>()) (fun k=>i - k) 0
      (Gh.canon [4] [] [] zK rfl rfl) ⟨Nat.zero_le _,fun k' hk=>absurd hk (Nat.not_lt_zero _)⟩ ?_
     intro k ⟨k1,k2⟩ _ K2 hK2
     refine zw ?_
     refine zaa (fun hlt2=> ?_) (fun hge2=> ?_)
     ·have hk:k<i:=by simpa using hlt2
      have hat2:=zaP (show k<l.length by omega)
      have hw2:IntKind.i64.wrap ((k:Int)+1)=((k+1:Nat):Int):=zak hk (by omega)
      repeat'(first|refine zq (I hat2 (I @zaf zca)) ?_|exact zd (I hat2 (I @zaf zca))|(refine zaa ?_ ?_<;>intro hb)|(refine And.intro ?_ ?_;exact zI)|(refine And.intro ?_ ?_<;>intro hg)|exact zC|fail)
      ·rw[hq,hb1,zoT hk (by omega) (by simpa using hb),Bool.not_true,Bool.and_false,if_neg (by simp)]at hF
       rw[←hF]
      ·refine hK2 _ (k+1) (Gh.canon [4] [] [] (zk hw2) rfl rfl) ⟨by omega,fun k' hk' hl'=> ?_⟩ rfl (by omega)
       rcases Nat.lt_or_ge k' k with h|h
       ·exact k2 k' h hl'
       ·have:k'=k:=by omega
        subst this
        simpa using hb
     ·have hki:k=i:=by
       have:¬(k:Int)<i:=by simpa using hge2
       omega
      rw[hki]at k2
      repeat'(first|refine zq0 ?_|exact zd0|(refine zaa ?_ ?_<;>intro hb)|(refine And.intro ?_ ?_;exact zI)|(refine And.intro ?_ ?_<;>intro hg)|exact zC|fail)
      exact hK _ (i+1) (Gh.canon [] [] [] (zk hw) rfl rfl) hi (by rw[zaz hi,hq,hb1,zsy k2];rfl) (by omega)
   ·have hq:zg2 l i l[i]=(!(!(nameP l[i].name)|| !(isClient l[i].holder)|| !(decide (l[i].token≥1)&&decide (l[i].token≤2305843009213693952))|| !(lineB l[i].line)||hasI l[i].line l[i].holder||(Go.Op.bytesLess l[i].name.toList (l[i - 1]'(by omega)).name.toList||l[i].name.toList==(l[i - 1]'(by omega)).name.toList))&& !((l.take i).any fun o=>o.token==l[i].token)):=by
     unfold zg2 znu zpx
     have h0:decide (i>0)=true:=by simpa using e0
     rw[h0,Bool.true_and,List.getElem?_eq_getElem (by omega)]
     congr 1
     rw[zva,←zxg]
     rfl
    have h0:0<i:=by simpa using e0
    have hp:=zaP (show i - 1<l.length by omega)
    have hw1:IntKind.i64.wrap ((i:Int) - 1)=((i - 1:Nat):Int):=by rw[wrap64 (by omega) (by omega)];omega
    repeat'(first|refine zq (I hat (I hp (I hw1 (I e0 (I @zaf zca))))) ?_|exact zd (I hat (I hp (I hw1 (I e0 (I @zaf zca)))))|refine zc (hnm) ?_|refine zg (hnm) ?_|refine zc (hlr) ?_|refine zg (hlr) ?_|refine zc (hcl) ?_|refine zg (hcl) ?_|refine zc (hlc) ?_|refine zg (hlc) ?_|refine zc (hh1) ?_|refine zg (hh1) ?_|(refine zaa ?_ ?_<;>intro hb)|(refine And.intro ?_ ?_;exact zI)|(refine And.intro ?_ ?_<;>intro hg)|exact zC|fail)
    ·rw[hq,hb,Bool.not_true,Bool.false_and,if_neg (by simp)]at hF
     rw[←hF]
    ·have hb1:=hb
     clear hb
     refine zai (τ:=Nat) (fun k=>⟨[al l.length (zaj l),dd,dd,ai i, .one (.ptr ⟨4,0,1⟩ 0),ai k,dd,dd,dd,dd,dd,dd,dd,dd,dd,dd,dd,dd,dd,dd,dd,dd,dd,dd,dd,dd,dd,dd,dd,dd,dd,dd,dd,dd,dd,dd,dd,dd,dd,dd,dd,dd,dd,dd,dd,dd,dd,dd,dd,dd,dd,dd,dd,dd,dd,dd,dd,dd,dd,dd,dd,dd,dd,dd,dd,dd,dd,dd,dd,dd,dd,dd,dd,dd,dd,dd],[(4,{next:=2,l:=[some {e:=1,var:=true,fz:=false,sz:=0,cells:=[.d (sD l[i].name),di l[i].holder,di l[i].token, .d (.sl l[i].line.length (zaJ l[i].line))]},none,none,none,none]})]⟩)
      (fun k=>k≤i∧∀k' (hk:k'<k) (hkl:k'<l.length),l[k'].token≠l[i].token) (fun _=>()) (fun k=>i - k) 0
      (Gh.canon [4] [] [] zK rfl rfl) ⟨Nat.zero_le _,fun k' hk=>absurd hk (Nat.not_lt_zero _)⟩ ?_
     intro k ⟨k1,k2⟩ _ K2 hK2
     refine zw ?_
     refine zaa (fun hlt2=> ?_) (fun hge2=> ?_)
     ·have hk:k<i:=by simpa using hlt2
      have hat2:=zaP (show k<l.length by omega)
      have hw2:IntKind.i64.wrap ((k:Int)+1)=((k+1:Nat):Int):=zak hk (by omega)
      repeat'(first|refine zq (I hat2 (I @zaf zca)) ?_|exact zd (I hat2 (I @zaf zca))|(refine zaa ?_ ?_<;>intro hb)|(refine And.intro ?_ ?_;exact zI)|(refine And.intro ?_ ?_<;>intro hg)|exact zC|fail)
      ·rw[hq,hb1,zoT hk (by omega) (by simpa using hb),Bool.not_true,Bool.and_false,if_neg (by simp)]at hF
       rw[←hF]
      ·refine hK2 _ (k+1) (Gh.canon [4] [] [] (zk hw2) rfl rfl) ⟨by omega,fun k' hk' hl'=> ?_⟩ rfl (by omega)
       rcases Nat.lt_or_ge k' k with h|h
       ·exact k2 k' h hl'
       ·have:k'=k:=by omega
        subst this
        simpa using hb
     ·have hki:k=i:=by
       have:¬(k:Int)<i:=by simpa using hge2
       omega
      rw[hki]at k2
      repeat'(first|refine zq0 ?_|exact zd0|(refine zaa ?_ ?_<;>intro hb)|(refine And.intro ?_ ?_;exact zI)|(refine And.intro ?_ ?_<;>intro hg)|exact zC|fail)
      exact hK _ (i+1) (Gh.canon [] [] [] (zk hw) rfl rfl) hi (by rw[zaz hi,hq,hb1,zsy k2];rfl) (by omega)
  ·have hi:i=l.length:=by
    have:¬(i:Int)<l.length:=by simpa using hge
    omega
   rw[zch hi]at hF
   rw[←hF]
   repeat'(first|refine zq0 ?_|exact zd0|(refine zaa ?_ ?_<;>intro hb)|(refine And.intro ?_ ?_;exact zI)|(refine And.intro ?_ ?_<;>intro hg)|exact zC|fail)
 ·have hs:lockB l=false:=by
   unfold lockB
   rw[show decide ((l.length:Int)≤4)=false by simp at h5⊢;omega,Bool.and_false]
  rw[hs]
  repeat'(first|refine zq (I h5 @zaf) ?_|exact zd (I h5 @zaf)|(refine zaa ?_ ?_<;>intro hb)|(refine And.intro ?_ ?_;exact zI)|(refine And.intro ?_ ?_<;>intro hg)|exact zC|fail)
set_option maxHeartbeats 4000000 in
theorem zsw (l:List Memo) (hl:l.length<2^30) (hll:∀m∈l,zbG m.reply):CallOK Tryz.prog 81 [.f (al l.length (zaD l))] (fun r o=>r=[rb (memoB l)]∧o=[]):=by
 refine zac zao mixed (T:=Ty) (n:=46) Tryz.func81 (c:=Tryz.f81.body.getD .skip) rfl Tryz.results81 Tryz.ntmps81 Tryz.call81 ?_
 simp only[Tryz.f81,Option.getD]
 repeat'(first|refine zq @zaA ?_|exact zd @zaA|(refine zaa ?_ ?_<;>intro hb)|(refine And.intro ?_ ?_;exact zI)|(refine And.intro ?_ ?_<;>intro hg)|exact zC|fail)
 refine zai (τ:=Nat) (fun i=>⟨[al l.length (zaD l),dd,dd,ai i,dd,dd,dd,dd,dd,dd,dd,dd,dd,dd,dd,dd,dd,dd,dd,dd,dd,dd,dd,dd,dd,dd,dd,dd,dd,dd,dd,dd,dd,dd,dd,dd,dd,dd,dd,dd,dd,dd,dd,dd,dd,dd],[]⟩)
  (fun i=>i≤l.length) (fun i=>zbb (zg3 l) i (l.drop i)) (fun i=>l.length - i) 0
  (Gh.canon [] [] [] zK rfl rfl) (Nat.zero_le _) ?_
 intro i hi0 hF K hK
 simp only[List.drop_zero]at hF hK⊢
 have hF:zbb (zg3 l) i (l.drop i)=memoB l:=hF
 refine zw ?_
 refine zaa (fun hlt=> ?_) (fun hge=> ?_)
 ·have hi:i<l.length:=by simpa using hlt
  have hat:=zcl hi
  have hw:=zak hi (by omega)
  rw[zaz hi]at hF
  have han:=zdF l[i] (hll _ (List.getElem_mem hi))
  cases e0:decide ((i:Int)>0)
  ·have hq:zg3 l i l[i]= !(!(answerB l[i])):=by
    unfold zg3
    have h0:decide (i>0)=false:=by simpa using e0
    rw[h0,Bool.false_and,Bool.or_false]
   have h0:i=0:=by simpa using e0
   have hp:(zaD l).drop ((IntKind.i64.wrap ((i:Int) - 1)).toNat*6)=l[i].enc++zaD (l.drop (i+1)):=by
    rw[←zcl hi,h0];rfl
   repeat'(first|refine zq (I hat (I hp (I e0 (I @zaA zca)))) ?_|exact zd (I hat (I hp (I e0 (I @zaA zca))))|refine zc (han) ?_|refine zg (han) ?_|(refine zaa ?_ ?_<;>intro hb)|(refine And.intro ?_ ?_;exact zI)|(refine And.intro ?_ ?_<;>intro hg)|exact zC|fail)
   ·rw[hq,hb,if_neg (by simp)]at hF
    rw[←hF]
   ·exact hK _ (i+1) (Gh.canon [] [] [] (zk hw) rfl rfl) hi (by rw[zaz hi,hq,hb];rfl) (by omega)
  ·have hq:zg3 l i l[i]= !(!(answerB l[i])||decide (l[i].client≤(l[i - 1]'(by omega)).client)):=by
    unfold zg3 zpy
    have h0:decide (i>0)=true:=by simpa using e0
    rw[h0,Bool.true_and,List.getElem?_eq_getElem (by omega)]
    rfl
   have h0:0<i:=by simpa using e0
   have hp:=zcl (show i - 1<l.length by omega)
   have hw1:IntKind.i64.wrap ((i:Int) - 1)=((i - 1:Nat):Int):=by rw[wrap64 (by omega) (by omega)];omega
   repeat'(first|refine zq (I hat (I hp (I hw1 (I e0 (I @zaA zca))))) ?_|exact zd (I hat (I hp (I hw1 (I e0 (I @zaA zca)))))|refine zc (han) ?_|refine zg (han) ?_|(refine zaa ?_ ?_<;>intro hb)|(refine And.intro ?_ ?_;exact zI)|(refine And.intro ?_ ?_<;>intro hg)|exact zC|fail)
   ·rw[hq,hb,if_neg (by simp)]at hF
    rw[←hF]
   ·exact hK _ (i+1) (Gh.canon [] [] [] (zk hw) rfl rfl) hi (by rw[zaz hi,hq,hb];rfl) (by omega)
 ·have hi:i=l.length:=by
   have:¬(i:Int)<l.length:=by simpa using hge
   omega
  rw[zch hi]at hF
  rw[←hF]
  repeat'(first|refine zq0 ?_|exact zd0|(refine zaa ?_ ?_<;>intro hb)|(refine And.intro ?_ ?_;exact zI)|(refine And.intro ?_ ?_<;>intro hg)|exact zC|fail)
def zgf (s:St) (k:Lk):Bool:=(zaE s.sess k.holder).isSome&&decide (k.token≤s.token)&&k.line.all fun c=>(zaE s.sess c).isSome
theorem zp8 (s:St):((s.locks.all fun k=>decide (k.token≤s.token))&&zfs s)=s.locks.all (zgf s):=by
 unfold zfs
 generalize s.locks=l
 induction l with
 |nil=>rfl
 |cons k l ih=>
  simp only[List.all_cons]at ih⊢
  rw[←ih]
  unfold zgf
  generalize (l.all fun k=>decide (k.token≤s.token))=a
  generalize (l.all fun k=>(zaE s.sess k.holder).isSome&&k.line.all fun c=>(zaE s.sess c).isSome)=b
  generalize (k.line.all fun c=>(zaE s.sess c).isSome)=c
  generalize (zaE s.sess k.holder).isSome=d
  generalize decide (k.token≤s.token)=e
  cases a<;>cases b<;>cases c<;>cases d<;>cases e<;>rfl
set_option maxHeartbeats 4000000 in
theorem zjk (s:St) (h:Small s):CallOK Tryz.prog 35 [.f (.agg s.lent)] (fun r o=>r=[rb (zb2 s)]∧o=[]):=by
 refine zac zao mixed (T:=Ty) (n:=110) Tryz.func35 (c:=Tryz.f35.body.getD .skip) rfl Tryz.results35 Tryz.ntmps35 Tryz.call35 ?_
 simp only[Tryz.f35,Option.getD]
 have w1:CallOK Tryz.prog 78 [.f (ai s.time), .f (ai 0)] (fun r o=>r=[rb (within s.time)]∧o=[]):=zdX s.time 0
 have w2:CallOK Tryz.prog 78 [.f (ai s.num), .f (ai 0)] (fun r o=>r=[rb (within s.num)]∧o=[]):=zdX s.num 0
 have w3:CallOK Tryz.prog 78 [.f (ai s.token), .f (ai 0)] (fun r o=>r=[rb (within s.token)]∧o=[]):=zdX s.token 0
 have hsr:=zun s.sess h.sess
 have hlr:=zsz s.locks h.locks h.line
 have hmr:=zsw s.memos h.memos h.held
 have hns:=h.sess
 have hnl:=h.locks
 cases hA:(!within s.time|| !within s.num|| !within s.token|| !sessB s.sess|| !lockB s.locks|| !memoB s.memos)
 ·have hrb:zb2 s=((s.sess.all fun x=>decide (x.num≤s.num))&&s.locks.all (zgf s)):=by
   rw[←zp8]
   unfold zb2
   simp at hA
   rw[hA.1.1.1.1.1,hA.1.1.1.1.2,hA.1.1.1.2,hA.1.1.2,hA.1.2,hA.2]
   simp only[Bool.true_and,Bool.and_assoc]
  repeat'(first|refine zq hA ?_|exact zd hA|refine zc (w1) ?_|refine zg (w1) ?_|refine zc (w2) ?_|refine zg (w2) ?_|refine zc (w3) ?_|refine zg (w3) ?_|refine zc (hsr) ?_|refine zg (hsr) ?_|refine zc (hlr) ?_|refine zg (hlr) ?_|refine zc (hmr) ?_|refine zg (hmr) ?_|(refine zaa ?_ ?_<;>intro hb)|(refine And.intro ?_ ?_;exact zI)|(refine And.intro ?_ ?_<;>intro hg)|exact zC|fail)
  refine zai (τ:=Nat) (fun i=>⟨[dd, .one (.ptr ⟨1,0,1⟩ 0),dd,ai i,dd,dd,dd,dd,dd,dd,dd,dd,dd,dd,dd,dd,dd,dd,dd,dd,dd,dd,dd,dd,dd,dd,dd,dd,dd,dd,dd,dd,dd,dd,dd,dd,dd,dd,dd,dd,dd,dd,dd,dd,dd,dd,dd,dd,dd,dd,dd,dd,dd,dd,dd,dd,dd,dd,dd,dd,dd,dd,dd,dd,dd,dd,dd,dd,dd,dd,dd,dd,dd,dd,dd,dd,dd,dd,dd,dd,dd,dd,dd,dd,dd,dd,dd,dd,dd,dd,dd,dd,dd,dd,dd,dd,dd,dd,dd,dd,dd,dd,dd,dd,dd,dd,dd,dd,dd,dd],[(1,{next:=2,l:=[some {e:=1,var:=true,fz:=false,sz:=0,cells:=[di s.time,di s.num,di s.token, .lent s.sess.length (zaK s.sess), .lent s.locks.length (zaj s.locks), .lent s.memos.length (zaD s.memos)]},none,none,none,none,none,none]})]⟩)
   (fun i=>i≤s.sess.length) (fun i=>(s.sess.drop i).all fun x=>decide (x.num≤s.num)) (fun i=>s.sess.length - i) 0
   (Gh.canon [1] [] [] zK rfl rfl) (Nat.zero_le _) ?_
  intro i hi0 hF K hK
  rw[List.drop_zero]at hF
  refine zw ?_
  refine zaa (fun hlt=> ?_) (fun hge=> ?_)
  ·have hi:i<s.sess.length:=by simpa using hlt
   have hat:=zbf hi
   have hw:=zak hi (by omega)
   rw[List.drop_eq_getElem_cons hi,List.all_cons]at hF
   repeat'(first|refine zq (I hat (I @zaq zca)) ?_|exact zd (I hat (I @zaq zca))|(refine zaa ?_ ?_<;>intro hb)|(refine And.intro ?_ ?_;exact zI)|(refine And.intro ?_ ?_<;>intro hg)|exact zC|fail)
   ·have e:decide (s.sess[i].num≤s.num)=false:=by simp at hb⊢;omega
    rw[e,Bool.false_and]at hF
    rw[hrb,←hF]
    rfl
   ·have e:decide (s.sess[i].num≤s.num)=true:=by simp at hb⊢;omega
    exact hK _ (i+1) (Gh.canon [1] [] [] (zk hw) rfl rfl) hi (by rw[List.drop_eq_getElem_cons hi,List.all_cons,e,Bool.true_and]) (by omega)
  ·have hi:i=s.sess.length:=by
    have:¬(i:Int)<s.sess.length:=by simpa using hge
    omega
   rw[hi,List.drop_length,List.all_nil]at hF
   rw[←hF,Bool.true_and]at hrb
   rw[hrb]
   repeat'(first|refine zq0 ?_|exact zd0|(refine zaa ?_ ?_<;>intro hb)|(refine And.intro ?_ ?_;exact zI)|(refine And.intro ?_ ?_<;>intro hg)|exact zC|fail)
   refine zai (τ:=Nat) (fun i=>⟨[dd, .one (.ptr ⟨1,0,1⟩ 0),dd,dd,ai i,dd,dd,dd,dd,dd,dd,dd,dd,dd,dd,dd,dd,dd,dd,dd,dd,dd,dd,dd,dd,dd,dd,dd,dd,dd,dd,dd,dd,dd,dd,dd,dd,dd,dd,dd,dd,dd,dd,dd,dd,dd,dd,dd,dd,dd,dd,dd,dd,dd,dd,dd,dd,dd,dd,dd,dd,dd,dd,dd,dd,dd,dd,dd,dd,dd,dd,dd,dd,dd,dd,dd,dd,dd,dd,dd,dd,dd,dd,dd,dd,dd,dd,dd,dd,dd,dd,dd,dd,dd,dd,dd,dd,dd,dd,dd,dd,dd,dd,dd,dd,dd,dd,dd,dd,dd],[(1,{next:=2,l:=[some {e:=1,var:=true,fz:=false,sz:=0,cells:=[di s.time,di s.num,di s.token, .lent s.sess.length (zaK s.sess), .lent s.locks.length (zaj s.locks), .lent s.memos.length (zaD s.memos)]},none,none,none,none,none,none]}),(5,⟨2,[]⟩),(6,⟨2,[]⟩),(9,⟨2,[]⟩)]⟩)
    (fun i=>i≤s.locks.length) (fun i=>(s.locks.drop i).all (zgf s)) (fun i=>s.locks.length - i) 0
    (Gh.canon [1] [5,6,9] [] zK rfl rfl) (Nat.zero_le _) ?_
   clear hF hK
   intro i hi0 hF K hK
   rw[List.drop_zero]at hF
   refine zw ?_
   refine zaa (fun hlt2=> ?_) (fun hge2=> ?_)
   ·have hi:i<s.locks.length:=by simpa using hlt2
    have hat:=zaP hi
    have hw:=zak hi (by omega)
    have hlo:=(h.line _ (List.getElem_mem hi)).1
    rw[List.drop_eq_getElem_cons hi,List.all_cons]at hF
    have hfi:=zdE s.sess (by omega) s.locks[i].holder
    cases ha:(zaE s.sess s.locks[i].holder).isSome
    ·have e:zgf s s.locks[i]=false:=by unfold zgf;rw[ha];rfl
     rw[e,Bool.false_and]at hF
     rw[ha]at hfi
     repeat'(first|refine zq (I hat (I @zaf zca)) ?_|exact zd (I hat (I @zaf zca))|refine zc (hfi) ?_|refine zg (hfi) ?_|(refine zaa ?_ ?_<;>intro hb)|(refine And.intro ?_ ?_;exact zI)|(refine And.intro ?_ ?_<;>intro hg)|exact zC|fail)
     rw[←hF]
    ·rw[ha]at hfi
     cases hb0:decide (s.locks[i].token>s.token)
     ·have e:zgf s s.locks[i]=s.locks[i].line.all fun c=>(zaE s.sess c).isSome:=by
       unfold zgf
       rw[ha,show decide (s.locks[i].token≤s.token)=true by simp at hb0⊢;omega];rfl
      rw[e]at hF
      repeat'(first|refine zq (I hat (I hb0 (I @zaf zca))) ?_|exact zd (I hat (I hb0 (I @zaf zca)))|refine zc (hfi) ?_|refine zg (hfi) ?_|(refine zaa ?_ ?_<;>intro hb)|(refine And.intro ?_ ?_;exact zI)|(refine And.intro ?_ ?_<;>intro hg)|exact zC|fail)
      refine zai (τ:=Nat) (fun j=>⟨[dd, .one (.ptr ⟨1,0,1⟩ 0),dd,dd,ai i, .one (.ptr ⟨5,0,1⟩ 0),dd,dd,ai j,dd,dd,dd,dd,dd,dd,dd,dd,dd,dd,dd,dd,dd,dd,dd,dd,dd,dd,dd,dd,dd,dd,dd,dd,dd,dd,dd,dd,dd,dd,dd,dd,dd,dd,dd,dd,dd,dd,dd,dd,dd,dd,dd,dd,dd,dd,dd,dd,dd,dd,dd,dd,dd,dd,dd,dd,dd,dd,dd,dd,dd,dd,dd,dd,dd,dd,dd,dd,dd,dd,dd,dd,dd,dd,dd,dd,dd,dd,dd,dd,dd,dd,dd,dd,dd,dd,dd,dd,dd,dd,dd,dd,dd,dd,dd,dd,dd,dd,dd,dd,dd],[(1,{next:=2,l:=[some {e:=1,var:=true,fz:=false,sz:=0,cells:=[di s.time,di s.num,di s.token, .lent s.sess.length (zaK s.sess), .lent s.locks.length (zaj s.locks), .lent s.memos.length (zaD s.memos)]},none,none,none,none,none,none]}),(5,{next:=2,l:=[some {e:=1,var:=true,fz:=false,sz:=0,cells:=[.d (sD s.locks[i].name),di s.locks[i].holder,di s.locks[i].token, .d (.sl s.locks[i].line.length (zaJ s.locks[i].line))]},none,none,none,none]}),(6,⟨2,[]⟩),(9,⟨2,[]⟩)]⟩)
       (fun j=>j≤s.locks[i].line.length) (fun j=>(s.locks[i].line.drop j).all fun c=>(zaE s.sess c).isSome) (fun j=>s.locks[i].line.length - j) 0
       (Gh.canon [1,5] [] [] zK rfl rfl) (Nat.zero_le _) ?_
      intro j hj0 hF2 K2 hK2
      rw[List.drop_zero]at hF2
      refine zw ?_
      refine zaa (fun hlt3=> ?_) (fun hge3=> ?_)
      ·have hj:j<s.locks[i].line.length:=by simpa using hlt3
       have haj:=zb7 hj
       have hwj:=zak hj (by omega)
       have hfj:=zdE s.sess (by omega) s.locks[i].line[j]
       rw[List.drop_eq_getElem_cons hj,List.all_cons]at hF2
       cases hb:(zaE s.sess s.locks[i].line[j]).isSome
       ·rw[hb]at hfj hF2
        rw[←hF2]at hF
        repeat'(first|refine zq (I haj (I @zah zca)) ?_|exact zd (I haj (I @zah zca))|refine zc (hfj) ?_|refine zg (hfj) ?_|(refine zaa ?_ ?_<;>intro hb)|(refine And.intro ?_ ?_;exact zI)|(refine And.intro ?_ ?_<;>intro hg)|exact zC|fail)
        rw[←hF]
        rfl
       ·rw[hb]at hfj hF2
        repeat'(first|refine zq (I haj (I @zah zca)) ?_|exact zd (I haj (I @zah zca))|refine zc (hfj) ?_|refine zg (hfj) ?_|(refine zaa ?_ ?_<;>intro hb)|(refine And.intro ?_ ?_;exact zI)|(refine And.intro ?_ ?_<;>intro hg)|exact zC|fail)
        exact hK2 _ (j+1) (Gh.canon [1,5] [] [] (zk hwj) rfl rfl) hj (by rw[List.drop_eq_getElem_cons hj,List.all_cons,hb,Bool.true_and]) (by omega)
      ·have hj:j=s.locks[i].line.length:=by
        have:¬(j:Int)<s.locks[i].line.length:=by simpa using hge3
        omega
       rw[hj,List.drop_length,List.all_nil]at hF2
       repeat'(first|refine zq0 ?_|exact zd0|(refine zaa ?_ ?_<;>intro hb)|(refine And.intro ?_ ?_;exact zI)|(refine And.intro ?_ ?_<;>intro hg)|exact zC|fail)
       exact hK _ (i+1) (Gh.canon [1] [] [] (zk hw) rfl rfl) hi (by rw[List.drop_eq_getElem_cons hi,List.all_cons,e,←hF2,Bool.true_and]) (by omega)
     ·have e:zgf s s.locks[i]=false:=by
       unfold zgf
       rw[ha,show decide (s.locks[i].token≤s.token)=false by simp at hb0⊢;omega];rfl
      rw[e,Bool.false_and]at hF
      repeat'(first|refine zq (I hat (I hb0 (I @zaf zca))) ?_|exact zd (I hat (I hb0 (I @zaf zca)))|refine zc (hfi) ?_|refine zg (hfi) ?_|(refine zaa ?_ ?_<;>intro hb)|(refine And.intro ?_ ?_;exact zI)|(refine And.intro ?_ ?_<;>intro hg)|exact zC|fail)
      rw[←hF]
   ·have hi:i=s.locks.length:=by
     have:¬(i:Int)<s.locks.length:=by simpa using hge2
     omega
    rw[hi,List.drop_length,List.all_nil]at hF
    rw[←hF]
    repeat'(first|refine zq0 ?_|exact zd0|(refine zaa ?_ ?_<;>intro hb)|(refine And.intro ?_ ?_;exact zI)|(refine And.intro ?_ ?_<;>intro hg)|exact zC|fail)
 ·have hrb:zb2 s=false:=by
   unfold zb2
   simp only[Bool.or_eq_true,Bool.not_eq_true']at hA
   rcases hA with((((h|h)|h)|h)|h)|h<;>rw[h]<;>simp
  rw[hrb]
  repeat'(first|refine zq hA ?_|exact zd hA|refine zc (w1) ?_|refine zg (w1) ?_|refine zc (w2) ?_|refine zg (w2) ?_|refine zc (w3) ?_|refine zg (w3) ?_|refine zc (hsr) ?_|refine zg (hsr) ?_|refine zc (hlr) ?_|refine zg (hlr) ?_|refine zc (hmr) ?_|refine zg (hmr) ?_|(refine zaa ?_ ?_<;>intro hb)|(refine And.intro ?_ ?_;exact zI)|(refine And.intro ?_ ?_<;>intro hg)|exact zC|fail)
def zzR (s:St):Bool:=zb2 s&&decide (s.num≤2305843009213692952)&&decide (s.token≤2305843009213692952)
def zz2 (k:Lk):Bool:=decide ((k.name.size:Int)>300)||decide ((k.line.length:Int)>20)
def zz3 (m:Memo):Bool:=decide ((m.reply.held.length:Int)>20)
def zzS (s:St):Bool:=if(decide ((s.sess.length:Int)>20)||decide ((s.locks.length:Int)>20)||decide ((s.memos.length:Int)>20))=true then true else if s.locks.any zz2=true then true else s.memos.any zz3
theorem zmL {α:Type} {f:Int→Int→α×Int×Int} {Q:α→Prop} (hf:∀p e,Q (f p e).1):∀{n:Nat} {p e:Int} {acc:List α},(∀a∈acc,Q a)→∀a∈(zco f n p e acc).1,Q a
 |0,p,e,acc,h=>h
 |n+1,p,e,acc,h=>by
  rw[zco]
  refine zmL hf fun a ha=> ?_
  rcases List.mem_append.1 ha with h1|h1
  ·exact h a h1
  ·rw[List.mem_singleton.1 h1];exact hf p e
theorem zmM {α:Type} {f:Int→Int→α×Int×Int}:∀{n:Nat} {p e:Int} {acc:List α},(zco f n p e acc).1.length=acc.length+n
 |0,p,e,acc=>rfl
 |n+1,p,e,acc=>by
  rw[zco,zmM,List.length_append,List.length_singleton]
  omega
theorem zmN {bs:List Int} (h:BsOk bs) {p:Int}:zbG (za0 bs p).1.reply:=by
 have h0:zbG memo0.reply:=⟨by simp[memo0],by simp[memo0]⟩
 unfold za0
 simp only
 split
 ·exact h0
 split
 ·exact h0
 split
 ·exact h0
 split
 ·exact h0
 exact(zdq h).2
theorem zkl {bs:List Int} (h:BsOk bs):∀{n:Nat} {p e:Int} {acc:List Memo},(∀a∈acc,zbG a.reply)→(∀a∈(zc9 bs n p e acc).1,zbG a.reply)∧(zc9 bs n p e acc).1.length≤acc.length+n
 |0,p,e,acc,hh=>⟨hh,by rw[zc9];exact Nat.le_refl _⟩
 |n+1,p,e,acc,hh=>by
  rw[zc9]
  split
  ·exact⟨hh,by simp only;omega⟩
  ·obtain⟨a,b⟩:=zkl h (n:=n) (p:=(za0 bs p).2.1) (e:=(za0 bs p).2.2) (acc:=acc++[(za0 bs p).1]) fun a ha=>by
    rcases List.mem_append.1 ha with h1|h1
    ·exact hh a h1
    ·rw[List.mem_singleton.1 h1];exact zmN h
   rw[List.length_append,List.length_singleton]at b
   exact⟨a,by omega⟩
theorem zjj {bs:List Int} (h:BsOk bs) {p e most:Int} (hp:i64 p) (hm:0≤most):(zbz bs p e most).1.toNat≤most.toNat:=by
 obtain⟨a,b,c⟩:=zcd (e:=e) (most:=most) h hp hm
 omega
theorem zp7 {bs:List Int} (h:BsOk bs) {p e:Int}:(zbz bs p e 3).1.toNat<1000:=by
 have h2:=zmR (p:=p) (e:=e) h
 unfold zbz
 split
 ·simp
 ·split
  ·simp
  ·omega
theorem zmO {bs:List Int} {p e:Int} (h:BsOk bs) (hp:i64 p):Small (zeE bs p e).1:=by
 have hsz:∀p e,(zdw bs p e).1.size<2^62:=fun p e=>by
  unfold zdw
  split
  ·simp
  ·have:=zhC (bs:=bs) (p:=p) (most:=12)
   have:=h.l
   omega
 unfold zeE
 simp only
 have p1:=zbP (e:=e) h hp
 generalize zcz bs p e=t at*
 have p2:=zbP (e:=t.2.2) h p1
 generalize zcz bs t.2.1 t.2.2=u at*
 have p3:=zbP (e:=u.2.2) h p2
 generalize zcz bs u.2.1 u.2.2=k at*
 have l4:=zjj (e:=k.2.2) (most:=5) h p3 (by decide)
 have p4:=(zcd (e:=k.2.2) (most:=5) h p3 (by decide)).1
 generalize zbz bs k.2.1 k.2.2 5=n at*
 have p5:=(zf2 (f:=zeV bs) (fun p e hp=>zkm h hp) (n:=n.1.toNat) (e:=n.2.2) (acc:=[]) p4)
 generalize zco (zeV bs) n.1.toNat n.2.1 n.2.2 []=ss at*
 have l6:=zjj (e:=ss.2.2) (most:=4) h p5.1 (by decide)
 have p6:=(zcd (e:=ss.2.2) (most:=4) h p5.1 (by decide)).1
 generalize zbz bs ss.2.1 ss.2.2 4=n2 at*
 have p7:=(zf2 (f:=ze1 bs) (fun p e hp=>zkn h hp) (n:=n2.1.toNat) (e:=n2.2.2) (acc:=[]) p6)
 have hline:∀k∈(zco (ze1 bs) n2.1.toNat n2.2.1 n2.2.2 []).1,k.line.length<2^30∧k.name.size<2^62:=by
  refine zmL (Q:=fun k:Lk=>k.line.length<2^30∧k.name.size<2^62) (fun p e=>⟨?_,hsz p e⟩) (fun a ha=>by cases ha)
  unfold ze1
  simp only
  rw[zmM]
  have:(zbz bs (zcz bs (zbC bs (zdw bs p e).2.1 (zdw bs p e).2.2).2.1 (zbC bs (zdw bs p e).2.1 (zdw bs p e).2.2).2.2).2.1 (zcz bs (zbC bs (zdw bs p e).2.1 (zdw bs p e).2.2).2.1 (zbC bs (zdw bs p e).2.1 (zdw bs p e).2.2).2.2).2.2 3).1.toNat<1000:=zp7 h
  simp only[List.length_nil]
  omega
 generalize zco (ze1 bs) n2.1.toNat n2.2.1 n2.2.2 []=ls at*
 have l8:=zjj (e:=ls.2.2) (most:=8) h p7.1 (by decide)
 have p8:=(zcd (e:=ls.2.2) (most:=8) h p7.1 (by decide)).1
 generalize zbz bs ls.2.1 ls.2.2 8=n3 at*
 have p9:=zkl h (n:=n3.1.toNat) (p:=n3.2.1) (e:=n3.2.2) (acc:=[]) (fun a ha=>by cases ha)
 refine⟨?_, ?_, ?_,hline,p9.1⟩
 ·rw[p5.2];simp only[List.length_nil];omega
 ·rw[p7.2];simp only[List.length_nil];omega
 ·have h9:=p9.2;simp only[List.length_nil]at h9;exact Nat.lt_of_le_of_lt h9 (by omega)
set_option maxHeartbeats 2000000 in
theorem zwl (bs:List Int) (p:Int) (h:BsOk bs) (hp:i64 p):
  CallOK Tryz.prog 17 [.f (asl bs.length (zad bs)), .f (ai p)] (fun r o=>r=[zu5 (dSt bs p).1,ri (dSt bs p).2.1,ri (dSt bs p).2.2]∧o=[]):=by
 refine CallOK.nil ?_
 refine zac zao mixed (T:=Ty) (n:=43) Tryz.func17 (c:=Tryz.f17.body.getD .skip) rfl Tryz.results17 Tryz.ntmps17 Tryz.call17 ?_
 simp only[Tryz.f17,Option.getD]
 have he:=zsF bs p 0 h hp
 have hr:=zjk (zeE bs p 0).1 (zmO h hp)
 have hsp:=zjm bs p
 unfold dSt
 generalize zeE bs p 0=y at*
 obtain⟨s,q,e⟩:=y
 simp only at he hr hsp
 repeat'(first|refine zq0 ?_|exact zd0|(refine zaa ?_ ?_<;>intro hb)|(refine And.intro ?_ ?_;exact zI)|(refine And.intro ?_ ?_<;>intro hg)|exact zC|fail)
 refine zj (he) ?_
 cases hs:zdo bs p with
 |ok z=>
  obtain⟨rfl,rfl,rfl⟩:=(by simpa using hsp.1 z hs:s=z.1∧q=z.2∧e=0)
  have hrt:=zd7 hs
  rw[hrt]at hr
  repeat'(first|(with_reducible first|refine za9 7 ?_|refine zaS 7 ?_|refine zaT 7 ?_)|refine zu (I @za4 (I @zam @zaQ)) ?_|exact zd (I @za4 (I @zam @zaQ))|(with_reducible first|refine zab _ _ ?_)|refine zc (hr) ?_|refine zg (hr) ?_|(refine zaa ?_ ?_<;>intro hb)|(refine And.intro ?_ ?_;exact zI)|(refine And.intro ?_ ?_<;>intro hg)|exact zC|fail)
  refine za6 (zaZ (Gh.sealF 8 3 (.own ⟨8,4,4⟩ 0 z.1.sess.length) ?_) ?_)
  ·exact zo @za4
  refine zf @za4 ?_
  refine zaZ (Gh.sealF 8 4 (.own ⟨8,5,5⟩ 0 z.1.locks.length) ?_) ?_
  ·exact zo @zam
  refine zf @zam ?_
  refine zaZ (Gh.sealF 8 5 (.own ⟨8,6,6⟩ 0 z.1.memos.length) ?_) ?_
  ·exact zo @zaQ
  refine zf @zaQ ?_
  repeat'(first|refine zq0 ?_|exact zd0|(refine zaa ?_ ?_<;>intro hb)|(refine And.intro ?_ ?_;exact zI)|(refine And.intro ?_ ?_<;>intro hg)|exact zC|fail)
  simp[zbA,zeF,zbq,zar]
 |error c=>
  obtain⟨hc,hd⟩:=hsp.2 c hs
  rcases hd with hd|⟨h0,h1,h2⟩
  ·have hd:e=c:=hd
   subst hd
   have n1:(e==(0:Int))=false:=by simpa using hc
   have n2:(e !=(0:Int))=true:=by simpa using hc
   repeat'(first|refine zq (I n1 n2) ?_|exact zd (I n1 n2)|(refine zaa ?_ ?_<;>intro hb)|(refine And.intro ?_ ?_;exact zI)|(refine And.intro ?_ ?_<;>intro hg)|exact zC|fail)
   simp[zbA,zeF,zbq,zar,st0]
  ·have h0:e=0:=h0
   have h1:zb2 s=false:=h1
   subst h0
   subst h2
   rw[h1]at hr
   repeat'(first|refine zq (I @za4 (I @zam @zaQ)) ?_|exact zd (I @za4 (I @zam @zaQ))|refine zc (hr) ?_|refine zg (hr) ?_|(refine zaa ?_ ?_<;>intro hb)|(refine And.intro ?_ ?_;exact zI)|(refine And.intro ?_ ?_<;>intro hg)|exact zC|fail)
   simp[zbA,zeF,zbq,zar,st0]
theorem zhG (n:Int):(decide (n≥0)&&decide (n≤2305843009213693952))=within n:=by
 rw[zcP]
 by_cases h1:n<0<;>by_cases h2:n>2305843009213693952<;>simp[h1,h2]<;>omega
theorem zp6 (v l:Int):CallOK Tryz.prog 44 [.f (.agg [di v,di l])] (fun r o=>r=[rb (within v&&within l)]∧o=[]):=by
 refine zac zao mixed (T:=Ty) (n:=21) Tryz.func44 (c:=Tryz.f44.body.getD .skip) rfl Tryz.results44 Tryz.ntmps44 Tryz.call44 ?_
 simp only[Tryz.f44,Option.getD]
 rw[←zhG v,←zhG l]
 cases h1:decide (v≥0)<;>cases h2:decide (v≤2305843009213693952)<;>cases h3:decide (l≥0)<;>cases h4:decide (l≤2305843009213693952)
 all_goals
  repeat'(first|refine zq (I h1 (I h2 (I h3 h4))) ?_|exact zd (I h1 (I h2 (I h3 h4)))|(refine zaa ?_ ?_<;>intro hb)|(refine And.intro ?_ ?_;exact zI)|(refine And.intro ?_ ?_<;>intro hg)|exact zC|fail)
theorem zji (s:Sn) (h:Small s.st):CallOK Tryz.prog 21 [.f (.agg s.lent)] (fun r o=>r=[rb (zbv s)]∧o=[]):=by
 refine zac zao mixed (T:=Ty) (n:=21) Tryz.func21 (c:=Tryz.f21.body.getD .skip) rfl Tryz.results21 Tryz.ntmps21 Tryz.call21 ?_
 simp only[Tryz.f21,Option.getD]
 have hm:=zp6 s.view s.slot
 have hr:=zjk s.st h
 rw[show zbv s=(decide (s.done≥0)&&decide (s.done≤2305843009213693952)&&(within s.view&&within s.slot)&&zb2 s.st) from by
  unfold zbv;rw[zhG,Bool.and_assoc,Bool.and_assoc]]
 cases h1:decide (s.done≥0)
 ·repeat'(first|refine zq h1 ?_|exact zd h1|(refine zaa ?_ ?_<;>intro hb)|(refine And.intro ?_ ?_;exact zI)|(refine And.intro ?_ ?_<;>intro hg)|exact zC|fail)
 cases h2:decide (s.done≤2305843009213693952)
 ·repeat'(first|refine zq (I h1 h2) ?_|exact zd (I h1 h2)|(refine zaa ?_ ?_<;>intro hb)|(refine And.intro ?_ ?_;exact zI)|(refine And.intro ?_ ?_<;>intro hg)|exact zC|fail)
 cases h3:(within s.view&&within s.slot)
 ·rw[h3]at hm
  repeat'(first|refine zq (I h1 h2) ?_|exact zd (I h1 h2)|refine zc (hm) ?_|refine zg (hm) ?_|(refine zaa ?_ ?_<;>intro hb)|(refine And.intro ?_ ?_;exact zI)|(refine And.intro ?_ ?_<;>intro hg)|exact zC|fail)
 ·rw[h3]at hm
  repeat'(first|refine zq (I h1 h2) ?_|exact zd (I h1 h2)|refine zc (hm) ?_|refine zg (hm) ?_|refine zc (hr) ?_|refine zg (hr) ?_|(refine zaa ?_ ?_<;>intro hb)|(refine And.intro ?_ ?_;exact zI)|(refine And.intro ?_ ?_<;>intro hg)|exact zC|fail)
theorem zwk (bs:List Int) (p:Int):(∃d v l,zef bs p= .ok d∧zef bs d.2= .ok v∧zef bs v.2= .ok l∧zcz bs p 0=(d.1,d.2,0)∧zcz bs d.2 0=(v.1,v.2,0)∧zcz bs v.2 0=(l.1,l.2,0))∨
  ∃x,x≠0∧zlf bs p= .error x∧(zcz bs (zcz bs (zcz bs p 0).2.1 (zcz bs p 0).2.2).2.1 (zcz bs (zcz bs p 0).2.1 (zcz bs p 0).2.2).2.2).2.2=x:=by
 have E1:=zjl (bs:=bs) (p:=p)
 unfold zlf
 cases e1:zef bs p with
 |error x=>
  obtain⟨a,b⟩:=zfA E1 e1
  refine .inr ⟨x,b,rfl, ?_⟩
  have k2:=zeZ (bs:=bs) (p:=(zcz bs p 0).2.1) (e:=(zcz bs p 0).2.2)
  have k3:=zeZ (bs:=bs) (p:=(zcz bs (zcz bs p 0).2.1 (zcz bs p 0).2.2).2.1) (e:=(zcz bs (zcz bs p 0).2.1 (zcz bs p 0).2.2).2.2)
  omega
 |ok d=>
 have F1:=zfz E1 e1
 rw[F1]
 simp only
 have E2':=zjl (bs:=bs) (p:=d.2)
 cases e2:zef bs d.2 with
 |error x=>
  obtain⟨a,b⟩:=zfA E2' e2
  refine .inr ⟨x,b,rfl, ?_⟩
  have k3:=zeZ (bs:=bs) (p:=(zcz bs d.2 0).2.1) (e:=(zcz bs d.2 0).2.2)
  omega
 |ok v=>
 have F2:=zfz E2' e2
 rw[F2]
 simp only
 have E3:=zjl (bs:=bs) (p:=v.2)
 cases e3:zef bs v.2 with
 |error x=>
  obtain⟨a,b⟩:=zfA E3 e3
  exact .inr ⟨x,b,rfl,a⟩
 |ok l=>exact .inl ⟨d,v,l,rfl,e2,e3,rfl,F2,zfz E3 e3⟩
set_option maxHeartbeats 2000000 in
theorem znP (bs:List Int) (p:Int) (h:BsOk bs) (hp:i64 p):
  CallOK Tryz.prog 20 [.f (asl bs.length (zad bs)), .f (ai p)] (fun r o=>r=[zxF (dSn bs p).1,ri (dSn bs p).2.1,ri (dSn bs p).2.2]∧o=[]):=by
 refine CallOK.nil ?_
 refine zac zao mixed (T:=Ty) (n:=59) Tryz.func20 (c:=Tryz.f20.body.getD .skip) rfl Tryz.results20 Tryz.ntmps20 Tryz.call20 ?_
 simp only[Tryz.f20,Option.getD]
 have h1:=zeW bs p 0 h hp
 have p1:=zbP (e:=0) h hp
 have h2:=zeW bs (zcz bs p 0).2.1 (zcz bs p 0).2.2 h p1
 have p2:=zbP (e:=(zcz bs p 0).2.2) h p1
 have h3:=zeW bs (zcz bs (zcz bs p 0).2.1 (zcz bs p 0).2.2).2.1 (zcz bs (zcz bs p 0).2.1 (zcz bs p 0).2.2).2.2 h p2
 have p3:=zbP (e:=(zcz bs (zcz bs p 0).2.1 (zcz bs p 0).2.2).2.2) h p2
 rcases zwk bs p with⟨d,v,l,r1,r2,r3,q1,q2,q3⟩|⟨x,hx,r1,r2⟩
 ·rw[q1]at h1 h2 h3 p1 p2 p3
  simp only at h2 h3 p1 p2 p3
  rw[q2]at h2 h3 p2 p3
  simp only at h3 p2 p3
  rw[q3]at h3 p3
  simp only at h1 h2 h3 p3
  repeat'(first|refine zq0 ?_|exact zd0|(refine zaa ?_ ?_<;>intro hb)|(refine And.intro ?_ ?_;exact zI)|(refine And.intro ?_ ?_<;>intro hg)|exact zC|fail)
  refine zj (h1) ?_
  repeat'(first|refine zq0 ?_|exact zd0|(refine zaa ?_ ?_<;>intro hb)|(refine And.intro ?_ ?_;exact zI)|(refine And.intro ?_ ?_<;>intro hg)|exact zC|fail)
  refine zj (h2) ?_
  repeat'(first|refine zq0 ?_|exact zd0|(refine zaa ?_ ?_<;>intro hb)|(refine And.intro ?_ ?_;exact zI)|(refine And.intro ?_ ?_<;>intro hg)|exact zC|fail)
  refine zj (h3) ?_
  have hg:=zwl bs l.2 h p3
  have hsp:=zjm bs l.2
  unfold dSt at hg
  cases hs:zdo bs l.2 with
  |error x=>
   rw[hs]at hg
   simp only at hg
   have n1:(x !=(0:Int))=true:=by simpa using(hsp.2 x hs).1
   have hsn:dSn bs p=(sn0,0,x):=by
    unfold dSn zlf;simp only[r1,r2,r3,hs]
   rw[hsn]
   repeat'(first|refine zq n1 ?_|exact zd n1|refine zc (hg) ?_|refine zg (hg) ?_|(refine zaa ?_ ?_<;>intro hb)|(refine And.intro ?_ ?_;exact zI)|(refine And.intro ?_ ?_<;>intro hg)|exact zC|fail)
   simp[zbA,zeF,zbq,zar,st0]
  |ok s=>
   rw[hs]at hg
   simp only at hg
   have hms:=zji ⟨d.1,v.1,l.1,s.1⟩ (zbo (zcv.1 (zd7 hs)))
   cases hm:zbv ⟨d.1,v.1,l.1,s.1⟩
   ·rw[hm]at hms
    have hsn:dSn bs p=(sn0,0,4):=by
     unfold dSn zlf;simp only[r1,r2,r3,hs,hm];rfl
    rw[hsn]
    repeat'(first|refine zq0 ?_|exact zd0|refine zc (hg) ?_|refine zg (hg) ?_|refine zc (hms) ?_|refine zg (hms) ?_|(refine zaa ?_ ?_<;>intro hb)|(refine And.intro ?_ ?_;exact zI)|(refine And.intro ?_ ?_<;>intro hg)|exact zC|fail)
    simp[zbA,zeF,zbq,zar,st0]
   ·rw[hm]at hms
    have hsn:dSn bs p=(⟨d.1,v.1,l.1,s.1⟩,s.2,0):=by
     unfold dSn zlf;simp only[r1,r2,r3,hs,hm];rfl
    rw[hsn]
    repeat'(first|refine zq0 ?_|exact zd0|refine zc (hg) ?_|refine zg (hg) ?_|refine zc (hms) ?_|refine zg (hms) ?_|(refine zaa ?_ ?_<;>intro hb)|(refine And.intro ?_ ?_;exact zI)|(refine And.intro ?_ ?_<;>intro hg)|exact zC|fail)
    simp[zbA,zeF,zbq,zar,st0]
 ·generalize zcz bs p 0=a at*
  generalize zcz bs a.2.1 a.2.2=b at*
  generalize zcz bs b.2.1 b.2.2=c at*
  unfold dSn
  rw[r1]
  have n1:(c.2.2 !=(0:Int))=true:=by rw[r2];simpa using hx
  repeat'(first|refine zq0 ?_|exact zd0|(refine zaa ?_ ?_<;>intro hb)|(refine And.intro ?_ ?_;exact zI)|(refine And.intro ?_ ?_<;>intro hg)|exact zC|fail)
  refine zj (h1) ?_
  repeat'(first|refine zq0 ?_|exact zd0|(refine zaa ?_ ?_<;>intro hb)|(refine And.intro ?_ ?_;exact zI)|(refine And.intro ?_ ?_<;>intro hg)|exact zC|fail)
  refine zj (h2) ?_
  repeat'(first|refine zq0 ?_|exact zd0|(refine zaa ?_ ?_<;>intro hb)|(refine And.intro ?_ ?_;exact zI)|(refine And.intro ?_ ?_<;>intro hg)|exact zC|fail)
  refine zj (h3) ?_
  repeat'(first|refine zq n1 ?_|exact zd n1|(refine zaa ?_ ?_<;>intro hb)|(refine And.intro ?_ ?_;exact zI)|(refine And.intro ?_ ?_<;>intro hg)|exact zC|fail)
  simp[zbA,zeF,zbq,zar,st0,r2]
end Go.Proofs.YtbpmcjeeeiffhaaGreat
