import Derived.Test.YtngleemijkaeoaaGreatK9
import Derived.Test.YtngleemijkaeoaaGreatM
namespace Go.Proofs.YtngleemijkaeoaaGreat
open Go.Pk
set_option maxRecDepth 100000
set_option linter.unusedSimpArgs false
set_option linter.unusedVariables false
def zqZ (a b:ByteArray):Int:=Lib.compareBytes a.data.toList b.data.toList
theorem zqj {a b:ByteArray}:zqZ a b<0↔zdx a b=true:=by
 unfold zqZ zdx
 rw[zcG,zdv,zdv]
 split
 ·simp[*]
 ·split<;>simp[*]
theorem zqk {a b:ByteArray}:(zqZ a b==0)=(a.toList==b.toList):=by
 unfold zqZ
 rw[zcG,←zdv,←zdv,Bool.eq_iff_iff]
 simp only[beq_iff_eq]
 constructor
 ·intro h
  split at h
  ·cases h
  ·split at h
   ·cases h
   ·rename_i h1 h2
    exact zo7 (by simpa using h1) (by simpa using h2)
 ·intro h
  rw[h,zks];simp
theorem zlw (a b:ByteArray):CallOK Tryz.prog 172 [.f (ast a), .f (ast b)] (fun r o=>r=[ri (zqZ a b)]∧o=[]):=by
 refine zac zar mixed (T:=Ty) (n:=8) Tryz.func172 (c:=Tryz.f172.body.getD .skip) rfl Tryz.results172 Tryz.ntmps172 Tryz.call172 ?_
 simp only[Tryz.f172,Option.getD]
 repeat'(first|refine zq0 ?_|exact zd0|(refine zaa ?_ ?_<;>intro hb)|(refine And.intro ?_ ?_;exact zI)|(refine And.intro ?_ ?_<;>intro hg)|exact zC|fail)
 refine zgW (zpl Tryz.func179 (by kernel_rfl) (by kernel_rfl) (by kernel_rfl) (by kernel_rfl) rfl rfl rfl rfl) ?_
 repeat'(first|refine zq0 ?_|exact zd0|(refine zaa ?_ ?_<;>intro hb)|(refine And.intro ?_ ?_;exact zI)|(refine And.intro ?_ ?_<;>intro hg)|exact zC|fail)
 rfl
theorem zfV (a b:ByteArray):CallOK Tryz.prog 157 [.f (ast a), .f (ast b)] (fun r o=>r=[ri (zqZ a b)]∧o=[]):=by
 refine zac zar mixed (T:=Ty) (n:=8) Tryz.func157 (c:=Tryz.f157.body.getD .skip) rfl Tryz.results157 Tryz.ntmps157 Tryz.call157 ?_
 simp only[Tryz.f157,Option.getD]
 repeat'(first|refine zq0 ?_|exact zd0|refine zc (zlw a b) ?_|refine zg (zlw a b) ?_|(refine zaa ?_ ?_<;>intro hb)|(refine And.intro ?_ ?_;exact zI)|(refine And.intro ?_ ?_<;>intro hg)|exact zC|fail)
theorem zop (k:Lk) (s:ByteArray):CallOK Tryz.prog 156 [.f (zky k), .f (ast s)] (fun r o=>r=[ri (zqZ k.name s)]∧o=[]):=by
 refine zac zar mixed (T:=Ty) (n:=9) Tryz.func156 (c:=Tryz.f156.body.getD .skip) rfl Tryz.results156 Tryz.ntmps156 Tryz.call156 ?_
 simp only[Tryz.f156,Option.getD]
 repeat'(first|refine zq0 ?_|exact zd0|refine zc (zfV k.name s) ?_|refine zg (zfV k.name s) ?_|(refine zaa ?_ ?_<;>intro hb)|(refine And.intro ?_ ?_;exact zI)|(refine And.intro ?_ ?_<;>intro hg)|exact zC|fail)
theorem zlx (l:List Lk) (hs:SL l) (hl:l.length<2^62) (s:ByteArray):CallOK Tryz.prog 122 [.f (al l.length (zaf l)), .f (ast s)] (fun r o=>r=[ri (zbf l s),rb (zcs l s).isSome]∧o=[]):=by
 refine zac zar mixed (T:=Ty) (n:=11) Tryz.func122 (c:=Tryz.f122.body.getD .skip) rfl Tryz.results122 Tryz.ntmps122 Tryz.call122 ?_
 simp only[Tryz.f122,Option.getD]
 have h:=zkC l hl s (fun x=>zqZ x.name s) 156 (zbf l s) zcq
  (fun j hj h=>zqj.2 (zgb hj h))
  (fun j hj h=>by
   have h1:=zgc hj (zjf hs s) h
   have h2:= @zqj l[j].name s
   rw[h1]at h2
   have h3:¬zqZ l[j].name s<0:=by rw[h2];simp
   omega) (fun x _=>zop x s)
 have e:((l[zbf l s]?.map fun x=>zqZ x.name s==0).getD false)=(zcs l s).isSome:=by
  rw[zkt hs,zjT]
  simp only[zqk]
  rfl
 rw[e]at h
 repeat'(first|refine zq0 ?_|exact zd0|refine zc (h) ?_|refine zg (h) ?_|(refine zaa ?_ ?_<;>intro hb)|(refine And.intro ?_ ?_;exact zI)|(refine And.intro ?_ ?_<;>intro hg)|exact zC|fail)
theorem zgp (l:List Lk) (hl:l.length<2^30) (hll:∀k∈l,k.line.length<2^30):CallOK Tryz.prog 113 [.f (al l.length (zaf l))] (fun r o=>r=[.one (.own 4 l.length (zaf l) false)]∧o=[]):=by
 refine zac zar mixed (T:=Ty) (n:=24) Tryz.func113 (c:=Tryz.f113.body.getD .skip) rfl Tryz.results113 Tryz.ntmps113 Tryz.call113 ?_
 simp only[Tryz.f113,Option.getD]
 have hcn:=zgd l.length (zaf l) zae (by omega)
 repeat'(first|refine zq @zae ?_|exact zd @zae|refine zc (hcn) ?_|refine zg (hcn) ?_|(refine zaa ?_ ?_<;>intro hb)|(refine And.intro ?_ ?_;exact zI)|(refine And.intro ?_ ?_<;>intro hg)|exact zC|fail)
 refine zao (τ:=Nat) (fun i=>⟨[dd,dd,dd, .one (.own ⟨3,1,1⟩ 0 l.length),dd,dd,dd,dd,ai l.length,ai i,dd,dd,dd,dd,dd,dd,dd,dd,dd,dd,dd,dd,dd,dd],[(6,⟨2,[]⟩),(3,{next:=2,l:=[none,some {e:=1,var:=false,fz:=false,sz:=4,cells:=(zaf l).map C.d}]}),(19,⟨2,[]⟩)]⟩)
  (fun i=>i≤l.length) (fun _=>()) (fun i=>l.length - i) 0
  (Gh.canon [3] [19] [] zK rfl rfl) (Nat.zero_le _) ?_
 intro i hi0 hF K hK
 refine zw ?_
 refine zaa (fun hlt=> ?_) (fun hge=> ?_)
 ·have hi:i<l.length:=by simpa using hlt
  have hat:=zaO hi
  have hat2:(zaf l).drop (i*4+3)= .sl l[i].line.length (zaw l[i].line)::zaf (l.drop (i+1)):=by rw[←List.drop_drop,hat];rfl
  have hw:=zan hi (by omega)
  have hci:=zc5 l[i].line.length (zaw l[i].line) zah (by have:=hll _ (List.getElem_mem hi);omega)
  have hset:=zb2 Lk.enc 4 (fun _=>rfl) hi (k:=3) (by decide) (.sl l[i].line.length (zaw l[i].line)) l[i] rfl
  rw[List.set_getElem_self]at hset
  repeat'(first|refine zq (I hat2 (I hset (I @zmd (I @List.map_cons.{0,0} @zae)))) ?_|exact zd (I hat2 (I hset (I @zmd (I @List.map_cons.{0,0} @zae))))|refine zc (hci) ?_|refine zg (hci) ?_|(refine zaa ?_ ?_<;>intro hb)|(refine And.intro ?_ ?_;exact zI)|(refine And.intro ?_ ?_<;>intro hg)|exact zC|fail)
  exact hK _ (i+1) (Gh.canon [3] [] [] (zk hw) rfl rfl) hi rfl (by omega)
 ·have hi:i=l.length:=by
   have:¬(i:Int)<l.length:=by simpa using hge
   omega
  repeat'(first|refine zq0 ?_|exact zd0|(refine zaa ?_ ?_<;>intro hb)|(refine And.intro ?_ ?_;exact zI)|(refine And.intro ?_ ?_<;>intro hg)|exact zC|fail)
theorem ztZ (l:List Int) (hl:l.length<2^30):CallOK Tryz.prog 148 [.f (al l.length (zaw l))] (fun r o=>r=[ri (l.headD 0),zfc l.tail,rb (!l.isEmpty)]∧o=[]):=by
 refine CallOK.nil ?_
 refine zac zar mixed (T:=Ty) (n:=14) Tryz.func148 (c:=Tryz.f148.body.getD .skip) rfl Tryz.results148 Tryz.ntmps148 Tryz.call148 ?_
 simp only[Tryz.f148,Option.getD]
 cases l with
 |nil=>
  have h0:(((0:Nat):Int)==0)=true:=rfl
  repeat'(first|refine zq (I @List.length_nil.{0} h0) ?_|exact zd (I @List.length_nil.{0} h0)|(refine zaa ?_ ?_<;>intro hb)|(refine And.intro ?_ ?_;exact zI)|(refine And.intro ?_ ?_<;>intro hg)|exact zC|fail)
  simp[zfx,zfc,za4]
 |cons c l=>
  have h0:(((l.length+1:Nat):Int)==0)=false:=by simp;omega
  have hcn:=zc5 l.length (zaw l) zah (by simp at hl;omega)
  have hn:l.length+1 - 1=l.length:=rfl
  repeat'(first|refine zq (I @List.length_cons.{0} (I h0 (I hn (I @zah (I @List.flatMap_cons.{0,0} zca))))) ?_|exact zd (I @List.length_cons.{0} (I h0 (I hn (I @zah (I @List.flatMap_cons.{0,0} zca)))))|refine zc (hcn) ?_|refine zg (hcn) ?_|(refine zaa ?_ ?_<;>intro hb)|(refine And.intro ?_ ?_;exact zI)|(refine And.intro ?_ ?_<;>intro hg)|exact zC|fail)
  simp[zfx,zfc,za4]
theorem zly (l:List Int) (hl:l.length<2^30):CallOK Tryz.prog 175 [.f (al l.length (zaw l))] (fun r o=>r=[rb (lineB l)]∧o=[]):=by
 refine zac zar mixed (T:=Ty) (n:=26) Tryz.func175 (c:=Tryz.f175.body.getD .skip) rfl Tryz.results175 Tryz.ntmps175 Tryz.call175 ?_
 simp only[Tryz.f175,Option.getD]
 repeat'(first|refine zq @zah ?_|exact zd @zah|(refine zaa ?_ ?_<;>intro hb)|(refine And.intro ?_ ?_;exact zI)|(refine And.intro ?_ ?_<;>intro hg)|exact zC|fail)
 refine zao (τ:=Nat) (fun i=>⟨[al l.length (zaw l),dd,dd,dd,dd,al l.length (zaw l),ai l.length,ai i,dd,dd,dd,dd,dd,dd,dd,dd,dd,dd,dd,dd,dd,dd,dd,dd,dd,dd],[]⟩)
  (fun i=>i≤l.length) (fun i=>zbK (zo4 l) i (l.drop i)) (fun i=>l.length - i) 0
  (Gh.canon [] [] [] zK rfl rfl) (Nat.zero_le _) ?_
 intro i hi0 hF K hK
 rw[List.drop_zero]at hF
 refine zw ?_
 refine zaa (fun hlt=> ?_) (fun hge=> ?_)
 ·have hi:i<l.length:=by simpa using hlt
  have hat:=zcN hi
  have hw:=zan hi (by omega)
  rw[za0 hi]at hF
  have hcl:=zd2 l[i]
  have hlt2:(l.take i).length=i:=by rw[List.length_take];omega
  have htk:(zaw l).take i=zaw (l.take i):=zkv (by omega)
  have hco:=zbk (l.take i) (by omega) l[i]
  rw[hlt2]at hco
  have hq:zo4 l i l[i]= !(!(decide (l[i]≥0)&&decide (l[i]<8))||(l.take i).any fun x=>l[i]==x):=rfl
  repeat'(first|refine zq (I hat (I htk (I @zah zca))) ?_|exact zd (I hat (I htk (I @zah zca)))|refine zc (hcl) ?_|refine zg (hcl) ?_|refine zc (hco) ?_|refine zg (hco) ?_|(refine zaa ?_ ?_<;>intro hb)|(refine And.intro ?_ ?_;exact zI)|(refine And.intro ?_ ?_<;>intro hg)|exact zC|fail)
  ·rw[hq,hb,if_neg (by simp)]at hF
   unfold lineB
   rw[←hF];rfl
  ·exact hK _ (i+1) (Gh.canon [] [] [] (zk hw) rfl rfl) hi (by rw[za0 hi,hq,hb];rfl) (by omega)
 ·have hi:i=l.length:=by
   have:¬(i:Int)<l.length:=by simpa using hge
   omega
  rw[zc0 hi]at hF
  unfold lineB
  rw[←hF]
  repeat'(first|refine zq0 ?_|exact zd0|(refine zaa ?_ ?_<;>intro hb)|(refine And.intro ?_ ?_;exact zI)|(refine And.intro ?_ ?_<;>intro hg)|exact zC|fail)
theorem zoq (k j:Lk):CallOK Tryz.prog 177 [.f (zky k), .f (.one (.elt j.enc))] (fun r o=>r=[rb (k.token==j.token)]∧o=[]):=by
 refine zac zar mixed (T:=Ty) (n:=9) Tryz.func177 (c:=Tryz.f177.body.getD .skip) rfl Tryz.results177 Tryz.ntmps177 Tryz.call177 ?_
 simp only[Tryz.f177,Option.getD]
 repeat'(first|refine zq0 ?_|exact zd0|(refine zaa ?_ ?_<;>intro hb)|(refine And.intro ?_ ?_;exact zI)|(refine And.intro ?_ ?_<;>intro hg)|exact zC|fail)
theorem zlz (l:List Lk) (hl:l.length<2^30) (hll:∀k∈l,k.line.length<2^30∧k.name.size<2^62):CallOK Tryz.prog 165 [.f (al l.length (zaf l))] (fun r o=>r=[rb (lockB l)]∧o=[]):=by
 refine zac zar mixed (T:=Ty) (n:=71) Tryz.func165 (c:=Tryz.f165.body.getD .skip) rfl Tryz.results165 Tryz.ntmps165 Tryz.call165 ?_
 simp only[Tryz.f165,Option.getD]
 repeat'(first|refine zq @zae ?_|exact zd @zae|(refine zaa ?_ ?_<;>intro hb)|(refine And.intro ?_ ?_;exact zI)|(refine And.intro ?_ ?_<;>intro hg)|exact zC|fail)
 refine zao (τ:=Nat) (fun i=>⟨[al l.length (zaf l),dd,dd,dd,dd,al l.length (zaf l),ai l.length,ai i,dd,dd,dd,dd,dd,dd,dd,dd,dd,dd,dd,dd,dd,dd,dd,dd,dd,dd,dd,dd,dd,dd,dd,dd,dd,dd,dd,dd,dd,dd,dd,dd,dd,dd,dd,dd,dd,dd,dd,dd,dd,dd,dd,dd,dd,dd,dd,dd,dd,dd,dd,dd,dd,dd,dd,dd,dd,dd,dd,dd,dd,dd,dd],[(4,⟨2,[]⟩)]⟩)
  (fun i=>i≤l.length) (fun i=>zbK (zkp l) i (l.drop i)) (fun i=>l.length - i) 0
  (Gh.canon [] [4] [] zK rfl rfl) (Nat.zero_le _) ?_
 intro i hi0 hF K hK
 rw[List.drop_zero]at hF
 refine zw ?_
 refine zaa (fun hlt=> ?_) (fun hge=> ?_)
 ·have hi:i<l.length:=by simpa using hlt
  have hat:=zaO hi
  obtain⟨hk1,hk2⟩:=hll _ (List.getElem_mem hi)
  have hw:=zan hi (by omega)
  rw[za0 hi]at hF
  have hnm:=zjP l[i].name hk2
  have hlr:=zly l[i].line hk1
  have hlc:=zbk l[i].line (by omega) l[i].holder
  have hlt2:(l.take i).length=i:=by rw[List.length_take];omega
  have htk:(zaf l).take (i*4)=zaf (l.take i):=zc8 Lk.enc 4 (fun _=>rfl) (by omega)
  have hco:=zjj (l.take i) (by omega) (fun o=>o.token==l[i].token) 177 [.elt l[i].enc] rfl rfl (fun x _=>zoq x _)
  rw[hlt2]at hco
  cases e0:decide ((i:Int)>0)
  ·have h0:i=0:=by simpa using e0
   have hq:zkp l i l[i]=(!(!nameP l[i].name||decide (l[i].holder<0)||decide (l[i].holder≥8)||decide (l[i].token<1)||decide (l[i].token>2305843009213693952))&& !(!lineB l[i].line||l[i].line.any fun x=>l[i].holder==x)&& !((l.take i).any fun o=>o.token==l[i].token)):=by
    unfold zkp znT hasI
    have:decide (i>0)=false:=by simpa using e0
    rw[this]
    simp only[Bool.not_or,Bool.not_not,Bool.false_and,Bool.or_false]
   have hp:(zaf l).drop ((IntKind.i64.wrap ((i:Int) - 1)).toNat*4)=l[i].enc++zaf (l.drop (i+1)):=by
    rw[←zaO hi,h0];rfl
   repeat'(first|refine zq (I hat (I hp (I htk (I e0 (I @zae zca))))) ?_|exact zd (I hat (I hp (I htk (I e0 (I @zae zca)))))|refine zc (hnm) ?_|refine zg (hnm) ?_|refine zc (hlr) ?_|refine zg (hlr) ?_|refine zc (hlc) ?_|refine zg (hlc) ?_|refine zc (hco) ?_|refine zg (hco) ?_|(refine zaa ?_ ?_<;>intro hb)|(refine And.intro ?_ ?_;exact zI)|(refine And.intro ?_ ?_<;>intro hg)|exact zC|fail)
   ·rw[hq,hb,if_neg (by simp)]at hF
    unfold lockB
    rw[←hF];rfl
   ·rename_i ha
    rw[hq,ha,hb,if_neg (by simp)]at hF
    unfold lockB
    rw[←hF];rfl
   ·rename_i ha hc
    rw[hq,ha,hc,hb,if_neg (by simp)]at hF
    unfold lockB
    rw[←hF];rfl
   ·rename_i ha hc
    exact hK _ (i+1) (Gh.canon [] [] [] (zk hw) rfl rfl) hi (by rw[za0 hi,hq,ha,hc,hb];rfl) (by omega)
  ·have h0:0<i:=by simpa using e0
   have hq:zkp l i l[i]=(!(!nameP l[i].name||decide (l[i].holder<0)||decide (l[i].holder≥8)||decide (l[i].token<1)||decide (l[i].token>2305843009213693952))&& !(!lineB l[i].line||(l[i].line.any fun x=>l[i].holder==x)|| !(zdx (l[i - 1]'(by omega)).name l[i].name))&& !((l.take i).any fun o=>o.token==l[i].token)):=by
    unfold zkp znT hasI zo5
    have:decide (i>0)=true:=by simpa using e0
    rw[this,List.getElem?_eq_getElem (by omega)]
    simp only[Bool.not_or,Bool.not_not,Bool.true_and,Option.map_some,Option.getD_some]
   have hp:=zaO (show i - 1<l.length by omega)
   have hw1:IntKind.i64.wrap ((i:Int) - 1)=((i - 1:Nat):Int):=by rw[wrap64 (by omega) (by omega)];omega
   repeat'(first|refine zq (I hat (I hp (I hw1 (I htk (I e0 (I @zae zca)))))) ?_|exact zd (I hat (I hp (I hw1 (I htk (I e0 (I @zae zca))))))|refine zc (hnm) ?_|refine zg (hnm) ?_|refine zc (hlr) ?_|refine zg (hlr) ?_|refine zc (hlc) ?_|refine zg (hlc) ?_|refine zc (hco) ?_|refine zg (hco) ?_|(refine zaa ?_ ?_<;>intro hb)|(refine And.intro ?_ ?_;exact zI)|(refine And.intro ?_ ?_<;>intro hg)|exact zC|fail)
   ·rw[hq,hb,if_neg (by simp)]at hF
    unfold lockB
    rw[←hF];rfl
   ·rename_i ha
    rw[hq,ha,hb,if_neg (by simp)]at hF
    unfold lockB
    rw[←hF];rfl
   ·rename_i ha hc
    rw[hq,ha,hc,hb,if_neg (by simp)]at hF
    unfold lockB
    rw[←hF];rfl
   ·rename_i ha hc
    exact hK _ (i+1) (Gh.canon [] [] [] (zk hw) rfl rfl) hi (by rw[za0 hi,hq,ha,hc,hb];rfl) (by omega)
 ·have hi:i=l.length:=by
   have:¬(i:Int)<l.length:=by simpa using hge
   omega
  rw[zc0 hi]at hF
  unfold lockB
  rw[←hF]
  repeat'(first|refine zq0 ?_|exact zd0|(refine zaa ?_ ?_<;>intro hb)|(refine And.intro ?_ ?_;exact zI)|(refine And.intro ?_ ?_<;>intro hg)|exact zC|fail)
theorem zjR (l:List Lk) (hl:l.length<2^30) (c:Int):CallOK Tryz.prog 85 [.f (al l.length (zaf l)), .f (ai c)] (fun r o=>r=[.one (.own 2 (zbd l c).length (zaH (zbd l c)) false)]∧o=[]):=by
 refine CallOK.nil ?_
 refine zac zar mixed (T:=Ty) (n:=28) Tryz.func85 (c:=Tryz.f85.body.getD .skip) rfl Tryz.results85 Tryz.ntmps85 Tryz.call85 ?_
 simp only[Tryz.f85,Option.getD]
 repeat'(first|refine zq @zae ?_|exact zd @zae|(refine zaa ?_ ?_<;>intro hb)|(refine And.intro ?_ ?_;exact zI)|(refine And.intro ?_ ?_<;>intro hg)|exact zC|fail)
 refine zao (τ:=Nat×List Grant) (fun t=>⟨[dd,ai c,dd,dd,dd, .one (.own ⟨5,1,1⟩ 0 t.2.length),dd,dd,al l.length (zaf l),ai l.length,ai t.1,dd,dd,dd,dd,dd,dd,dd,dd,dd,dd,dd,dd,dd,dd,dd,dd,dd],[(5,{next:=2,l:=[none,some {e:=1,var:=false,fz:=false,sz:=2,cells:=(zaH t.2).map C.d}]}),(7,⟨2,[]⟩),(24,⟨2,[]⟩),(25,⟨2,[]⟩)]⟩)
  (fun t=>t.1≤l.length∧t.2.length≤t.1) (fun t=>t.2++zbd (l.drop t.1) c) (fun t=>l.length - t.1) (0,[])
  ((Gh.nil (i:=5) (s:=5) (sz:=2) rfl).trans (Gh.canon [5] [7,24,25] [] zK rfl rfl)) ⟨Nat.zero_le _,Nat.zero_le _⟩ ?_
 intro⟨i,acc⟩ ⟨hi0,ha⟩ hF K hK
 simp only[List.drop_zero,List.nil_append]at hi0 ha hF hK⊢
 refine zw ?_
 refine zaa (fun hlt=> ?_) (fun hge=> ?_)
 ·have hi:i<l.length:=by simpa using hlt
  have hat:=zaO hi
  have hw:=zan hi (by omega)
  have hFs:zbd (l.drop i) c=if(l[i].holder==c)=true then⟨l[i].name,l[i].token⟩::zbd (l.drop (i+1)) c else zbd (l.drop (i+1)) c:=by
   unfold zbd
   rw[List.drop_eq_getElem_cons hi,List.filter_cons]
   split<;>simp
  cases hb:l[i].holder==c
  ·rw[hb,if_neg (by simp)]at hFs
   repeat'(first|refine zq (I hat (I hb (I @zae zca))) ?_|exact zd (I hat (I hb (I @zae zca)))|(refine zaa ?_ ?_<;>intro hb)|(refine And.intro ?_ ?_;exact zI)|(refine And.intro ?_ ?_<;>intro hg)|exact zC|fail)
   exact hK _ (i+1,acc) (Gh.canon [5] [] [] (zk hw) rfl rfl) ⟨hi,by simp only;omega⟩ (by simp only;rw[hFs]) (by simp only;omega)
  ·rw[hb,if_pos rfl]at hFs
   repeat'(first|refine zq (I hat (I hb (I @zae zca))) ?_|exact zd (I hat (I hb (I @zae zca)))|(refine zaa ?_ ?_<;>intro hb)|(refine And.intro ?_ ?_;exact zI)|(refine And.intro ?_ ?_<;>intro hg)|exact zC|fail)
   exact hK _ (i+1,acc++[⟨l[i].name,l[i].token⟩]) (Gh.canon [5] [] [] (zk (I hw (I @List.length_append.{0} @List.length_singleton.{0}))) rfl (by simp only[List.length_append,List.length_singleton];rw[zgx];rfl)) ⟨hi,by simp only[List.length_append,List.length_singleton];omega⟩ (by simp only[List.append_assoc,List.singleton_append];rw[hFs]) (by simp only;omega)
 ·have hi:i=l.length:=by
   have:¬(i:Int)<l.length:=by simpa using hge
   omega
  rw[hi,List.drop_length,show zbd [] c=[] from rfl,List.append_nil]at hF
  rw[←hF]
  repeat'(first|refine zq0 ?_|exact zd0|(refine zaa ?_ ?_<;>intro hb)|(refine And.intro ?_ ?_;exact zI)|(refine And.intro ?_ ?_<;>intro hg)|exact zC|fail)
  simp[zh9,za4]
theorem zql (l:List Lk) (i:Nat) (hi:i<l.length) (hl:l.length<2^30) (hll:∀k∈l,k.line.length<2^30) (t:Int) (ht:0≤t∧t<2^62):
  CallOK Tryz.prog 115 [.row 4 l.length (zaf l), .f (ai i), .f (ai t)]
  (fun r o=>r=[.one (.own 4 (zcC l i l[i] t).1.length (zaf (zcC l i l[i] t).1) true),ri (zcC l i l[i] t).2]∧o=[[]]):=by
 refine zac zar mixed (T:=Ty) (n:=42) Tryz.func115 (c:=Tryz.f115.body.getD .skip) rfl Tryz.results115 Tryz.ntmps115 Tryz.call115 ?_
 simp only[Tryz.f115,Option.getD]
 have hat:=zaO hi
 simp only[List.cons_append,List.nil_append]at hat
 have hat2:(zaf l).drop (i*4+3)= .sl l[i].line.length (zaw l[i].line)::zaf (l.drop (i+1)):=by rw[←List.drop_drop,hat];rfl
 have hnx:=ztZ l[i].line (hll _ (List.getElem_mem hi))
 have hw:=zan hi (by omega)
 have hwt:IntKind.i64.wrap (t+1)=t+1:=wrap64 (by omega) (by omega)
 cases hline:l[i].line with
 |nil=>
  rw[hline]at hnx
  simp only[List.headD_nil,List.tail_nil,List.isEmpty_nil]at hnx
  rw[hline]at hat2
  obtain⟨n,hn⟩:∃n,l.length=n+1:=⟨l.length - 1,by omega⟩
  have hdl:=znW n i (zaf l) (by rw[zae,hn]) (by omega) (by omega)
  rw[←hn]at hdl
  repeat'(first|(with_reducible first|refine zab _ _ ?_|refine zaV ?_|refine zaW ?_)|rw[zaj]|simp only[hat2,hw,hwt,←List.map_drop,List.map_cons,zae,zfc,zY,Int.reduceEq,Int.reduceBEq,Int.reduceBNe,Nat.reduceSub,Nat.reduceEqDiff,Nat.reduceAdd,Nat.reduceMul,Nat.reduceLeDiff,Nat.reduceLT,Nat.reduceBEq,reduceCtorEq]|((first|((try refine zax ?_);apply zaA)|(apply zaB;intro _));(solve|exact(hnx)|(refine CallOK.le (hnx) ?_;exact zM)|fail);try case hn=>rfl)|refine zal ?_|refine zaa (fun hb=> ?_) (fun hb=> ?_)|(refine And.intro ?_ ?_;exact zI)|refine And.intro (fun hg=> ?_) (fun hg=> ?_)|exact zC|fail)
  refine zbT (mv:= ?mv1) (lent:= ?le1) 0 ?ha1 (hdl) ?hb1 ?hc1
  case ha1=>(try simp only[zB,zaG,Nat.reduceSub,Nat.reduceEqDiff,Nat.reduceAdd,Nat.reduceMul,Nat.reduceLeDiff,Nat.reduceLT,Nat.reduceBEq,reduceCtorEq]);exact rfl
  case hb1=>(try simp only[zB,scM,Nat.reduceSub,Nat.reduceEqDiff,Nat.reduceAdd,Nat.reduceMul,Nat.reduceLeDiff,Nat.reduceLT,Nat.reduceBEq,reduceCtorEq]);repeat'(first|rfl|trivial|omega|with_reducible refine And.intro ?_ ?_)
  show aops _ _ _ _ _ _ _ _
  repeat'(first|refine zq0 ?_|exact zd0|(refine zaa ?_ ?_<;>intro hb)|(refine And.intro ?_ ?_;exact zI)|(refine And.intro ?_ ?_<;>intro hg)|exact zC|fail)
  have hp:zcC l i l[i] t=(l.eraseIdx i,0):=by unfold zcC;rw[hline]
  rw[hp]
  have h1:=zkw Lk.enc 4 (fun _=>rfl) hi
  have h2:=zkx hi
  simp only[h1,h2,show l.length - 1=n by omega]
 |cons c rest=>
  rw[hline]at hnx
  simp only[List.headD_cons,List.tail_cons,List.isEmpty_cons]at hnx
  rw[hline]at hat2
  have hset:=zeI Lk.enc 4 (fun _=>rfl) hi ⟨l[i].name,c,t+1,rest⟩
  simp only[fillAt,List.map_cons,List.map_nil]at hset
  have hp:zcC l i l[i] t=(l.set i ⟨l[i].name,c,t+1,rest⟩,1):=by unfold zcC;rw[hline]
  rw[hp]
  repeat'(first|(with_reducible first|refine zab _ _ ?_|refine zaV ?_|refine zaW ?_)|rw[zaj]|simp only[hat,hat2,hw,hwt,hset,←List.map_drop,List.map_cons,zae,zfc,zY,Int.reduceEq,Int.reduceBEq,Int.reduceBNe,Nat.reduceSub,Nat.reduceEqDiff,Nat.reduceAdd,Nat.reduceMul,Nat.reduceLeDiff,Nat.reduceLT,Nat.reduceBEq,reduceCtorEq]|((first|((try refine zax ?_);apply zaA)|(apply zaB;intro _));(solve|exact(hnx)|(refine CallOK.le (hnx) ?_;exact zM)|fail);try case hn=>rfl)|refine zal ?_|refine zaa (fun hb=> ?_) (fun hb=> ?_)|(refine And.intro ?_ ?_;exact zI)|refine And.intro (fun hg=> ?_) (fun hg=> ?_)|exact zC|fail)
  rw[List.length_set]
theorem zt1 (l:List Lk) (hs:SL l) (hl:l.length<2^30) (hll:∀k∈l,k.line.length<2^30) (name:ByteArray) (c t:Int) (ht:0≤t∧t<2^62) (w:Bool):
  CallOK Tryz.prog 83 [.f (al l.length (zaf l)), .f (ast name), .f (ai c), .f (ai t), .f (ab w)]
  (fun r o=>r=[.one (.own 4 (zaI l name c t w).1.length (zaf (zaI l name c t w).1) false),ri (zaI l name c t w).2.1,ri (zaI l name c t w).2.2]∧o=[]):=by
 refine CallOK.nil ?_
 refine zac zar mixed (T:=Ty) (n:=96) Tryz.func83 (c:=Tryz.f83.body.getD .skip) rfl Tryz.results83 Tryz.ntmps83 Tryz.call83 ?_
 simp only[Tryz.f83,Option.getD]
 have hp:=zlx l hs (by omega) name
 have hco:=zgp l hl hll
 have hwt:IntKind.i64.wrap (t+1)=t+1:=wrap64 (by omega) (by omega)
 cases hf:zcs l name with
 |none=>
  rw[hf]at hp
  simp only[Option.isSome_none]at hp
  have hin:=znX l.length (zbf l name) (zaf l) [sD name,iD c,iD (t+1), .sl 0 []] zae rfl zcq hl
  have htk:zaI l name c t w=if decide ((l.length:Int)≥4)=true then([],0,5)else(l.take (zbf l name)++⟨name,c,t+1,[]⟩::l.drop (zbf l name),0,0):=by unfold zaI;rw[hf]
  rw[htk]
  have hti:=zma Lk.enc 4 (fun _=>rfl) (l:=l) (k:=zbf l name) zcq ⟨name,c,t+1,[]⟩
  have htl:=zjg (l:=l) (k:=zbf l name) zcq ⟨name,c,t+1,[]⟩
  cases h4:decide ((l.length:Int)≥4)
  ·rw[if_neg (by simp)]
   simp only[hti,htl]
   repeat'(first|refine zq (I hwt (I h4 @zae)) ?_|exact zd (I hwt (I h4 @zae))|refine zc (hp) ?_|refine zg (hp) ?_|refine zc (hco) ?_|refine zg (hco) ?_|(refine zaa ?_ ?_<;>intro hb)|(refine And.intro ?_ ?_;exact zI)|(refine And.intro ?_ ?_<;>intro hg)|exact zC|fail)
   refine zbT (mv:= ?mv2) (lent:= ?le2) 0 ?ha2 (hin) ?hb2 ?hc2
   case ha2=>(try simp only[zB,zaG,Nat.reduceSub,Nat.reduceEqDiff,Nat.reduceAdd,Nat.reduceMul,Nat.reduceLeDiff,Nat.reduceLT,Nat.reduceBEq,reduceCtorEq]);exact rfl
   case hb2=>(try simp only[zB,scM,Nat.reduceSub,Nat.reduceEqDiff,Nat.reduceAdd,Nat.reduceMul,Nat.reduceLeDiff,Nat.reduceLT,Nat.reduceBEq,reduceCtorEq]);repeat'(first|rfl|trivial|omega|with_reducible refine And.intro ?_ ?_)
   show aops _ _ _ _ _ _ _ _
   repeat'(first|refine zq0 ?_|exact zd0|(refine zaa ?_ ?_<;>intro hb)|(refine And.intro ?_ ?_;exact zI)|(refine And.intro ?_ ?_<;>intro hg)|exact zC|fail)
   simp[zfx,za4]
  ·rw[if_pos rfl]
   repeat'(first|refine zq (I h4 @zae) ?_|exact zd (I h4 @zae)|refine zc (hp) ?_|refine zg (hp) ?_|(refine zaa ?_ ?_<;>intro hb)|(refine And.intro ?_ ?_;exact zI)|(refine And.intro ?_ ?_<;>intro hg)|exact zC|fail)
   simp[zfx,za4]
 |some k=>
  rw[hf]at hp
  simp only[Option.isSome_some]at hp
  obtain⟨⟨hi,he⟩,hn⟩:=zct hs hf
  have hat:=zaO hi
  rw[he]at hat
  simp only[List.cons_append,List.nil_append]at hat
  have hkl:=hll k (he▸List.getElem_mem hi)
  have hah:=zrb k.line (by omega) c
  have hj:=zte k.line hkl c
  have htk:zaI l name c t w=if(k.holder==c)=true then([],0,7)else if(!w)=true then([],0,8)else
    if hasI k.line c=true then(l,zhi k.line c,10)else
    if((zdn k.line c).2.2 !=0)=true then([],0,(zdn k.line c).2.2)else(l.set (zbf l name) ⟨k.name,k.holder,k.token,(zdn k.line c).1⟩,(zdn k.line c).2.1,10):=by
   unfold zaI
   rw[hf]
   simp only[bne_iff_ne]
  generalize zaI l name c t w=R at htk⊢
  have hset:=zb2 Lk.enc 4 (fun _=>rfl) hi (k:=3) (by decide) (.sl (zdn k.line c).1.length (zaw (zdn k.line c).1)) ⟨k.name,k.holder,k.token,(zdn k.line c).1⟩ (by rw[he];rfl)
  repeat'(first|(with_reducible first|refine zab _ _ ?_|refine zaV ?_|refine zaW ?_)|rw[zaj]|simp only[hat,hset,zfc,List.drop_succ_cons,List.drop_zero,zae,zY,Int.reduceEq,Int.reduceBEq,Int.reduceBNe,Nat.reduceSub,Nat.reduceEqDiff,Nat.reduceAdd,Nat.reduceMul,Nat.reduceLeDiff,Nat.reduceLT,Nat.reduceBEq,reduceCtorEq]|((first|((try refine zax ?_);apply zaA)|(apply zaB;intro _));(solve|exact(hp)|exact(hco)|exact(hah)|exact(hj)|(refine CallOK.le (hp) ?_;exact zM)|(refine CallOK.le (hco) ?_;exact zM)|(refine CallOK.le (hah) ?_;exact zM)|(refine CallOK.le (hj) ?_;exact zM)|fail);try case hn=>rfl)|refine zal ?_|refine zaa (fun hb=> ?_) (fun hb=> ?_)|(refine And.intro ?_ ?_;exact zI)|refine And.intro (fun hg=> ?_) (fun hg=> ?_)|exact zC|fail)
  ·rw[if_pos hb]at htk;rw[htk];simp[zfx,za4]
  ·rename_i h1
   rw[if_neg (by rw[h1];simp),if_pos hb]at htk;rw[htk];simp[zfx,za4]
  ·rename_i h1 h2
   rw[if_neg (by rw[h1];simp),if_neg (by rw[h2];simp),if_pos hb]at htk;rw[htk];simp[zfx,za4,zhi]
  ·rename_i h1 h2 h3
   rw[if_neg (by rw[h1];simp),if_neg (by rw[h2];simp),if_neg (by rw[h3];simp),if_pos hb]at htk;rw[htk];simp[zfx,za4]
  ·rename_i h1 h2 h3
   rw[if_neg (by rw[h1];simp),if_neg (by rw[h2];simp),if_neg (by rw[h3];simp),if_neg (by rw[hb];simp)]at htk;rw[htk];simp[zfx,za4]
theorem zt2 (l:List Lk) (hs:SL l) (hl:l.length<2^30) (hll:∀k∈l,k.line.length<2^30) (name:ByteArray) (c t:Int) (ht:0≤t∧t<2^62):
  CallOK Tryz.prog 84 [.f (al l.length (zaf l)), .f (ast name), .f (ai c), .f (ai t)]
  (fun r o=>r=[.one (.own 4 (zbb l name c t).1.length (zaf (zbb l name c t).1) false),ri (zbb l name c t).2.1,ri (zbb l name c t).2.2]∧o=[]):=by
 refine CallOK.nil ?_
 refine zac zar mixed (T:=Ty) (n:=62) Tryz.func84 (c:=Tryz.f84.body.getD .skip) rfl Tryz.results84 Tryz.ntmps84 Tryz.call84 ?_
 simp only[Tryz.f84,Option.getD]
 have hp:=zlx l hs (by omega) name
 have hco:=zgp l hl hll
 cases hf:zcs l name with
 |none=>
  rw[hf]at hp
  simp only[Option.isSome_none]at hp
  have hfr:zbb l name c t=([],0,6):=by unfold zbb;rw[hf]
  rw[hfr]
  repeat'(first|refine zq @zae ?_|exact zd @zae|refine zc (hp) ?_|refine zg (hp) ?_|(refine zaa ?_ ?_<;>intro hb)|(refine And.intro ?_ ?_;exact zI)|(refine And.intro ?_ ?_<;>intro hg)|exact zC|fail)
  simp[zfx,za4]
 |some k=>
  rw[hf]at hp
  simp only[Option.isSome_some]at hp
  obtain⟨⟨hi,he⟩,hn⟩:=zct hs hf
  have hat:=zaO hi
  rw[he]at hat
  simp only[List.cons_append,List.nil_append]at hat
  have hat1:(zaf l).drop (zbf l name*4+1)=iD k.holder::iD k.token:: .sl k.line.length (zaw k.line)::zaf (l.drop (zbf l name+1)):=by rw[←List.drop_drop,hat];rfl
  have hat3:(zaf l).drop (zbf l name*4+3)= .sl k.line.length (zaw k.line)::zaf (l.drop (zbf l name+1)):=by rw[←List.drop_drop,hat];rfl
  have hkl:=hll k (he▸List.getElem_mem hi)
  have hps:=zql l (zbf l name) hi hl hll t ht
  rw[he]at hps
  have hlv:=zrc k.line hkl c
  have hset:=zb2 Lk.enc 4 (fun _=>rfl) hi (k:=3) (by decide) (.sl (zcu k.line c).1.length (zaw (zcu k.line c).1)) ⟨k.name,k.holder,k.token,(zcu k.line c).1⟩ (by rw[he];rfl)
  have hlb:(zcu k.line c).2=hasI k.line c:=by
   unfold zcu hasI
   have:=zdu (fun x=>c==x) k.line
   split
   ·rename_i h;rw[←this];simp;omega
   ·rename_i h;rw[←this];simp;omega
  have hfr:zbb l name c t=if(k.holder==c)=true then((zcC l (zbf l name) k t).1,(zcC l (zbf l name) k t).2,0)else
    if hasI k.line c=true then(l.set (zbf l name) ⟨k.name,k.holder,k.token,(zcu k.line c).1⟩,0,0)else([],0,6):=by unfold zbb;rw[hf]
  rw[hfr]
  rw[hlb]at hlv
  cases hh:k.holder==c
  ·rw[if_neg (by simp)]
   cases hi:hasI k.line c
   ·rw[hi]at hlv
    rw[if_neg (by simp)]
    repeat'(first|(with_reducible first|refine zab _ _ ?_|refine zaV ?_|refine zaW ?_)|rw[zaj]|simp only[hat1,hat3,hh,←List.map_drop,List.map_cons,hset,zfc,zae,zY,Int.reduceEq,Int.reduceBEq,Int.reduceBNe,Nat.reduceSub,Nat.reduceEqDiff,Nat.reduceAdd,Nat.reduceMul,Nat.reduceLeDiff,Nat.reduceLT,Nat.reduceBEq,reduceCtorEq]|((first|((try refine zax ?_);apply zaA)|(apply zaB;intro _));(solve|exact(hp)|exact(hco)|exact(hlv)|(refine CallOK.le (hp) ?_;exact zM)|(refine CallOK.le (hco) ?_;exact zM)|(refine CallOK.le (hlv) ?_;exact zM)|fail);try case hn=>rfl)|refine zal ?_|refine zaa (fun hb=> ?_) (fun hb=> ?_)|(refine And.intro ?_ ?_;exact zI)|refine And.intro (fun hg=> ?_) (fun hg=> ?_)|exact zC|fail)
    simp[zfx,za4]
   ·rw[hi]at hlv
    rw[if_pos rfl]
    repeat'(first|(with_reducible first|refine zab _ _ ?_|refine zaV ?_|refine zaW ?_)|rw[zaj]|simp only[hat1,hat3,hh,←List.map_drop,List.map_cons,hset,zfc,zae,zY,Int.reduceEq,Int.reduceBEq,Int.reduceBNe,Nat.reduceSub,Nat.reduceEqDiff,Nat.reduceAdd,Nat.reduceMul,Nat.reduceLeDiff,Nat.reduceLT,Nat.reduceBEq,reduceCtorEq]|((first|((try refine zax ?_);apply zaA)|(apply zaB;intro _));(solve|exact(hp)|exact(hco)|exact(hlv)|(refine CallOK.le (hp) ?_;exact zM)|(refine CallOK.le (hco) ?_;exact zM)|(refine CallOK.le (hlv) ?_;exact zM)|fail);try case hn=>rfl)|refine zal ?_|refine zaa (fun hb=> ?_) (fun hb=> ?_)|(refine And.intro ?_ ?_;exact zI)|refine And.intro (fun hg=> ?_) (fun hg=> ?_)|exact zC|fail)
    simp[zfx,za4]
  ·rw[if_pos rfl]
   repeat'(first|refine zq (I hat1 (I hh (I @zmd (I @List.map_cons.{0,0} @zae)))) ?_|exact zd (I hat1 (I hh (I @zmd (I @List.map_cons.{0,0} @zae))))|refine zc (hp) ?_|refine zg (hp) ?_|refine zc (hco) ?_|refine zg (hco) ?_|(refine zaa ?_ ?_<;>intro hb)|(refine And.intro ?_ ?_;exact zI)|(refine And.intro ?_ ?_<;>intro hg)|exact zC|fail)
   refine zbT (mv:= ?mv3) (lent:= ?le3) 0 ?ha3 (hps) ?hb3 ?hc3
   case ha3=>(try simp only[zB,zaG,Nat.reduceSub,Nat.reduceEqDiff,Nat.reduceAdd,Nat.reduceMul,Nat.reduceLeDiff,Nat.reduceLT,Nat.reduceBEq,reduceCtorEq]);exact rfl
   case hb3=>(try simp only[zB,scM,Nat.reduceSub,Nat.reduceEqDiff,Nat.reduceAdd,Nat.reduceMul,Nat.reduceLeDiff,Nat.reduceLT,Nat.reduceBEq,reduceCtorEq]);repeat'(first|rfl|trivial|omega|with_reducible refine And.intro ?_ ?_)
   show aops _ _ _ _ _ _ _ _
   repeat'(first|refine zq0 ?_|exact zd0|(refine zaa ?_ ?_<;>intro hb)|(refine And.intro ?_ ?_;exact zI)|(refine And.intro ?_ ?_<;>intro hg)|exact zC|fail)
   simp[zfx,za4]
def curL (l:List Lk) (gone:List Int) (i:Nat):List Lk:=(l.take i).map (zam gone)++l.drop i
theorem znC {l:List Lk} {gone:List Int} {i:Nat} (hi:i≤l.length):(curL l gone i).length=l.length:=by
 unfold curL
 rw[List.length_append,List.length_map,List.length_take,List.length_drop];omega
theorem zqm {l:List Lk} {gone:List Int} {i:Nat} (hi:i<l.length):∃h:i<(curL l gone i).length,(curL l gone i)[i]=l[i]:=by
 have hl:((l.take i).map (zam gone)).length=i:=by rw[List.length_map,List.length_take];omega
 have h:(curL l gone i)[i]? =some l[i]:=by
  unfold curL
  rw[List.getElem?_append_right (by omega),hl,Nat.sub_self,List.getElem?_drop,Nat.add_zero,List.getElem?_eq_getElem hi]
 exact zku h
theorem zlC {l:List Lk} {gone:List Int} {i:Nat} (hi:i<l.length):(curL l gone i).set i (zam gone l[i])=curL l gone (i+1):=by
 have hl:((l.take i).map (zam gone)).length=i:=by rw[List.length_map,List.length_take];omega
 unfold curL
 rw[List.set_append_right _ _ (by omega),hl,Nat.sub_self,List.drop_eq_getElem_cons hi,List.set_cons_zero,List.take_add_one,List.getElem?_eq_getElem hi]
 simp only[Option.toList,List.map_append,List.map_cons,List.map_nil,List.append_assoc,List.cons_append,List.nil_append]
theorem znD (l:List Lk) (gone:List Int):curL l gone l.length=l.map (zam gone):=by
 unfold curL
 rw[List.take_length,List.drop_length,List.append_nil]
theorem ziX {gone:List Int} {t:Int} {L:List Lk} {i:Nat} {g:Int} (hi:i<L.length):zbw gone t (L.drop i) g=if hasI gone L[i].holder=true then
   match L[i].line with
   |[]=>zbw gone t (L.drop (i+1)) g
   |c::rest=>(⟨L[i].name,c,t+g+1,rest⟩::(zbw gone t (L.drop (i+1)) (g+1)).1,(zbw gone t (L.drop (i+1)) (g+1)).2)
  else(L[i]::(zbw gone t (L.drop (i+1)) g).1,(zbw gone t (L.drop (i+1)) g).2):=by
 rw[List.drop_eq_getElem_cons hi,zbw]
 all_goals (cases L[i].line<;>rfl)
theorem zt5 (l:List Lk) (hl:l.length<2^30) (hll:∀k∈l,k.line.length<2^30) (gone:List Int) (hg:gone.length<2^30) (t:Int) (ht:0≤t∧t≤2^61):
  CallOK Tryz.prog 75 [.f (al l.length (zaf l)), .f (al gone.length (zaw gone)), .f (ai t)]
  (fun r o=>r=[.one (.own 4 (zcb l gone t).1.length (zaf (zcb l gone t).1) false),ri (zcb l gone t).2]∧o=[]):=by
 refine zac zar mixed (T:=Ty) (n:=63) Tryz.func75 (c:=Tryz.f75.body.getD .skip) rfl Tryz.results75 Tryz.ntmps75 Tryz.call75 ?_
 simp only[Tryz.f75,Option.getD]
 have hco:=zgp l hl hll
 repeat'(first|refine zq @zae ?_|exact zd @zae|refine zc (hco) ?_|refine zg (hco) ?_|(refine zaa ?_ ?_<;>intro hb)|(refine And.intro ?_ ?_;exact zI)|(refine And.intro ?_ ?_<;>intro hg)|exact zC|fail)
 refine zao (τ:=Nat) (fun i=>⟨[dd,al gone.length (zaw gone),ai t,dd,dd,dd,dd,dd, .one (.own ⟨8,1,1⟩ 0 l.length),dd,dd,dd,dd,dd,dd,dd,ai l.length,ai i,dd,dd,dd,dd,dd,dd,dd,dd,dd,dd,dd,dd,dd,dd,dd,dd,dd,dd,dd,dd,dd,dd,dd,dd,dd,dd,dd,dd,dd,dd,dd,dd,dd,dd,dd,dd,dd,dd,dd,dd,dd,dd,dd,dd,dd],[(14,⟨2,[]⟩),(8,{next:=2,l:=[none,some {e:=1,var:=false,fz:=false,sz:=4,cells:=(zaf (curL l gone i)).map C.d}]}),(28,⟨2,[]⟩)]⟩)
  (fun i=>i≤l.length) (fun _=>()) (fun i=>l.length - i) 0
  (Gh.canon [8] [28] [] zK rfl rfl) (Nat.zero_le _) ?_
 intro i hi0 hF K hK
 refine zw ?_
 refine zaa (fun hlt=> ?_) (fun hge=> ?_)
 ·have hi:i<l.length:=by simpa using hlt
  obtain⟨hic,hce⟩:=zqm (gone:=gone) hi
  have hat:=zaO hic
  rw[hce]at hat
  have hat2:(zaf (curL l gone i)).drop (i*4+3)= .sl l[i].line.length (zaw l[i].line)::zaf ((curL l gone i).drop (i+1)):=by rw[←List.drop_drop,hat];rfl
  have hw:=zan hi (by omega)
  have hwo:=znU l[i].line gone (hll _ (List.getElem_mem hi)) hg
  have hset:=zb2 Lk.enc 4 (fun _=>rfl) hic (k:=3) (by decide) (.sl (zaY l[i].line gone).length (zaw (zaY l[i].line gone))) (zam gone l[i]) (by rw[hce];rfl)
  rw[zlC hi]at hset
  repeat'(first|(with_reducible first|refine zab _ _ ?_|refine zaV ?_|refine zaW ?_)|rw[zaj]|simp only[hat2,hset,zfc,←List.map_drop,List.map_cons,zae,znC hi0,zY,Int.reduceEq,Int.reduceBEq,Int.reduceBNe,Nat.reduceSub,Nat.reduceEqDiff,Nat.reduceAdd,Nat.reduceMul,Nat.reduceLeDiff,Nat.reduceLT,Nat.reduceBEq,reduceCtorEq]|((first|((try refine zax ?_);apply zaA)|(apply zaB;intro _));(solve|exact(hwo)|(refine CallOK.le (hwo) ?_;exact zM)|fail);try case hn=>rfl)|refine zal ?_|refine zaa (fun hb=> ?_) (fun hb=> ?_)|(refine And.intro ?_ ?_;exact zI)|refine And.intro (fun hg=> ?_) (fun hg=> ?_)|exact zC|fail)
  exact hK _ (i+1) (Gh.canon [8] [] [] (zk hw) rfl rfl) hi rfl (by omega)
 ·have hi:i=l.length:=by
   have:¬(i:Int)<l.length:=by simpa using hge
   omega
  rw[hi,znD]
  have hml:(l.map (zam gone)).length=l.length:=List.length_map ..
  repeat'(first|refine zq0 ?_|exact zd0|(refine zaa ?_ ?_<;>intro hb)|(refine And.intro ?_ ?_;exact zI)|(refine And.intro ?_ ?_<;>intro hg)|exact zC|fail)
  refine zao (τ:=List Lk×Nat×Int) (fun q=>⟨[dd,al gone.length (zaw gone),ai t,dd,dd,dd,dd,dd, .one (.own ⟨8,1,1⟩ 0 q.1.length),dd,ai q.2.2,ai q.2.1,dd,dd,dd,dd,dd,dd,dd,dd,dd,dd,dd,dd,dd,dd,dd,dd,dd,dd,dd,dd,dd,dd,dd,dd,dd,dd,dd,dd,dd,dd,dd,dd,dd,dd,dd,dd,dd,dd,dd,dd,dd,dd,dd,dd,dd,dd,dd,dd,dd,dd,dd],[(14,⟨2,[]⟩),(8,{next:=2,l:=[none,some {e:=1,var:=false,fz:=false,sz:=4,cells:=(zaf q.1).map C.d}]}),(28,⟨2,[]⟩),(52,⟨2,[]⟩)]⟩)
   (fun q=>q.2.1≤q.1.length∧q.1.length≤l.length∧(0≤q.2.2∧q.2.2+q.1.length≤q.2.1+l.length)∧∀k∈q.1,k.line.length<2^30)
   (fun q=>(q.1.take q.2.1++(zbw gone t (q.1.drop q.2.1) q.2.2).1,(zbw gone t (q.1.drop q.2.1) q.2.2).2)) (fun q=>q.1.length - q.2.1) (l.map (zam gone),0,0)
   (Gh.canon [8] [52] [] zK rfl rfl) ⟨Nat.zero_le _,by simp,by simp, ?_⟩ ?_
  ·intro k hk
   obtain⟨k0,hk0,rfl⟩:=List.mem_map.1 hk
   exact Nat.lt_of_le_of_lt (List.length_filter_le ..) (hll k0 hk0)
  intro⟨L,i,g⟩ ⟨j1,j2,j3,j4⟩ hF K hK
  simp only[List.drop_zero,List.take_zero,List.nil_append]at j1 j2 j3 j4 hF hK⊢
  refine zw ?_
  refine zaa (fun hlt=> ?_) (fun hge=> ?_)
  ·have hi:i<L.length:=by simpa using hlt
   have hat:=zaO hi
   have hat1:(zaf L).drop (i*4+1)=iD L[i].holder::iD L[i].token:: .sl L[i].line.length (zaw L[i].line)::zaf (L.drop (i+1)):=by rw[←List.drop_drop,hat];rfl
   have hcn:=zbk gone (by omega) L[i].holder
   have hps:=zql L i hi (by omega) j4 (t+g) (by omega)
   have hwt:IntKind.i64.wrap (t+g)=t+g:=wrap64 (by omega) (by omega)
   have hw:=zan hi (by omega)
   have hdr:=ziX (gone:=gone) (t:=t) (g:=g) hi
   cases hh:hasI gone L[i].holder
   ·rw[hh,if_neg (by simp)]at hdr
    rw[show(gone.any fun x=>L[i].holder==x)=false from hh]at hcn
    repeat'(first|refine zq (I hat1 (I @zmd (I @List.map_cons.{0,0} @zae))) ?_|exact zd (I hat1 (I @zmd (I @List.map_cons.{0,0} @zae)))|refine zc (hcn) ?_|refine zg (hcn) ?_|(refine zaa ?_ ?_<;>intro hb)|(refine And.intro ?_ ?_;exact zI)|(refine And.intro ?_ ?_<;>intro hg)|exact zC|fail)
    exact hK _ (L,i+1,g) (Gh.canon [8] [] [] (zk hw) rfl rfl) ⟨hi,j2,by simp only;omega,j4⟩ (by simp only;rw[hdr,List.take_add_one,List.getElem?_eq_getElem hi];simp only[Option.toList,List.append_assoc,List.cons_append,List.nil_append]) (by simp only;omega)
   ·rw[show(gone.any fun x=>L[i].holder==x)=true from hh]at hcn
    rw[hh,if_pos rfl]at hdr
    cases hline:L[i].line with
    |nil=>
     have hp:zcC L i L[i] (t+g)=(L.eraseIdx i,0):=by unfold zcC;rw[hline]
     rw[hp]at hps
     rw[hline]at hdr hat1
     simp only at hdr
     have hel:=zkx hi
     repeat'(first|refine zq (I hat1 (I hwt (I @zmd (I @List.map_cons.{0,0} @zae)))) ?_|exact zd (I hat1 (I hwt (I @zmd (I @List.map_cons.{0,0} @zae))))|refine zc (hcn) ?_|refine zg (hcn) ?_|(refine zaa ?_ ?_<;>intro hb)|(refine And.intro ?_ ?_;exact zI)|(refine And.intro ?_ ?_<;>intro hg)|exact zC|fail)
     refine zbT (mv:= ?mv1) (lent:= ?le1) 0 ?ha1 (hps) ?hb1 ?hc1
     case ha1=>(try simp only[zB,zaG,Nat.reduceSub,Nat.reduceEqDiff,Nat.reduceAdd,Nat.reduceMul,Nat.reduceLeDiff,Nat.reduceLT,Nat.reduceBEq,reduceCtorEq]);exact rfl
     case hb1=>(try simp only[zB,scM,Nat.reduceSub,Nat.reduceEqDiff,Nat.reduceAdd,Nat.reduceMul,Nat.reduceLeDiff,Nat.reduceLT,Nat.reduceBEq,reduceCtorEq]);repeat'(first|rfl|trivial|omega|with_reducible refine And.intro ?_ ?_)
     show aops _ _ _ _ _ _ _ _
     repeat'(first|refine zq0 ?_|exact zd0|(refine zaa ?_ ?_<;>intro hb)|(refine And.intro ?_ ?_;exact zI)|(refine And.intro ?_ ?_<;>intro hg)|exact zC|fail)
     have hw0:IntKind.i64.wrap ((i:Int)+0)=(i:Int):=by rw[Int.add_zero];exact wrap64 (by omega) (by omega)
     have hg0:IntKind.i64.wrap (g+0)=g:=by rw[Int.add_zero];exact wrap64 (by omega) (by omega)
     refine hK _ (L.eraseIdx i,i,g) (Gh.canon [8] [] [] (zk (I hw0 hg0)) rfl rfl) ⟨by simp only;omega,by simp only;omega,by simp only;omega,fun k hk=>j4 k (List.mem_of_mem_eraseIdx hk)⟩ ?_ (by simp only;omega)
     simp only
     rw[hdr]
     have e1:(L.eraseIdx i).take i=L.take i:=by rw[List.eraseIdx_eq_take_drop_succ,List.take_left' (by rw[List.length_take];omega)]
     have e2:(L.eraseIdx i).drop i=L.drop (i+1):=by rw[List.eraseIdx_eq_take_drop_succ,List.drop_left' (by rw[List.length_take];omega)]
     rw[e1,e2]
    |cons c rest=>
     have hp:zcC L i L[i] (t+g)=(L.set i ⟨L[i].name,c,t+g+1,rest⟩,1):=by unfold zcC;rw[hline]
     rw[hp]at hps
     rw[hline]at hdr hat1
     simp only at hdr
     repeat'(first|refine zq (I hat1 (I hwt (I @zmd (I @List.map_cons.{0,0} @zae)))) ?_|exact zd (I hat1 (I hwt (I @zmd (I @List.map_cons.{0,0} @zae))))|refine zc (hcn) ?_|refine zg (hcn) ?_|(refine zaa ?_ ?_<;>intro hb)|(refine And.intro ?_ ?_;exact zI)|(refine And.intro ?_ ?_<;>intro hg)|exact zC|fail)
     refine zbT (mv:= ?mv2) (lent:= ?le2) 0 ?ha2 (hps) ?hb2 ?hc2
     case ha2=>(try simp only[zB,zaG,Nat.reduceSub,Nat.reduceEqDiff,Nat.reduceAdd,Nat.reduceMul,Nat.reduceLeDiff,Nat.reduceLT,Nat.reduceBEq,reduceCtorEq]);exact rfl
     case hb2=>(try simp only[zB,scM,Nat.reduceSub,Nat.reduceEqDiff,Nat.reduceAdd,Nat.reduceMul,Nat.reduceLeDiff,Nat.reduceLT,Nat.reduceBEq,reduceCtorEq]);repeat'(first|rfl|trivial|omega|with_reducible refine And.intro ?_ ?_)
     show aops _ _ _ _ _ _ _ _
     repeat'(first|refine zq0 ?_|exact zd0|(refine zaa ?_ ?_<;>intro hb)|(refine And.intro ?_ ?_;exact zI)|(refine And.intro ?_ ?_<;>intro hg)|exact zC|fail)
     have hg1:IntKind.i64.wrap (g+1)=g+1:=wrap64 (by omega) (by omega)
     refine hK _ (L.set i ⟨L[i].name,c,t+g+1,rest⟩,i+1,g+1) (Gh.canon [8] [] [] (zk (I hw hg1)) rfl rfl) ⟨by simp only[List.length_set];omega,by simp only[List.length_set];omega,by simp only[List.length_set];omega,fun k hk=> ?_⟩ ?_ (by simp only[List.length_set];omega)
     ·rcases List.mem_or_eq_of_mem_set hk with h|h
      ·exact j4 k h
      ·subst h
       have:=j4 _ (List.getElem_mem hi)
       rw[hline]at this
       simp only[List.length_cons]at this⊢
       omega
     ·simp only
      rw[hdr,zd3 hi,zfd (by omega)]
      simp only[List.append_assoc,List.cons_append,List.nil_append]
  ·have hi:i=L.length:=by
    have:¬(i:Int)<L.length:=by simpa using hge
    omega
   rw[hi,List.drop_length,List.take_length,show zbw gone t [] g=([],g) from rfl,List.append_nil]at hF
   repeat'(first|refine zq0 ?_|exact zd0|(refine zaa ?_ ?_<;>intro hb)|(refine And.intro ?_ ?_;exact zI)|(refine And.intro ?_ ?_<;>intro hg)|exact zC|fail)
   unfold zcb
   rw[←(Prod.mk.inj hF).1,←(Prod.mk.inj hF).2]
theorem zmu {a b:Int}:(a==b)=(b==a):=by rw[Bool.eq_iff_iff,beq_iff_eq,beq_iff_eq];exact eq_comm
theorem zva (l:List Int) (hl:l.length<2^62) (x:Int):CallOK Tryz.prog 134 [.f (al l.length (zaw l)), .f (ai x)] (fun r o=>r=[rb (hasI l x)]∧o=[]):=by
 refine zac zar mixed (T:=Ty) (n:=18) Tryz.func134 (c:=Tryz.f134.body.getD .skip) rfl Tryz.results134 Tryz.ntmps134 Tryz.call134 ?_
 simp only[Tryz.f134,Option.getD]
 repeat'(first|refine zq0 ?_|exact zd0|(refine zaa ?_ ?_<;>intro hb)|(refine And.intro ?_ ?_;exact zI)|(refine And.intro ?_ ?_<;>intro hg)|exact zC|fail)
 refine zao (τ:=Nat) (fun i=>⟨[al l.length (zaw l),ai x,dd,dd,dd,ai i,dd,dd,dd,dd,dd,dd,dd,dd,dd,dd,dd,dd],[]⟩)
  (fun i=>i≤l.length) (fun i=>hasI (l.drop i) x) (fun i=>l.length - i) 0
  (Gh.canon [] [] [] zK rfl rfl) (Nat.zero_le _) ?_
 intro i hi0 hF K hK
 rw[List.drop_zero]at hF
 refine zw ?_
 refine zaa (fun hlt=> ?_) (fun hge=> ?_)
 ·have hi:i<l.length:=by simpa using hlt
  have hat:=zcN hi
  have hw:=zan hi hl
  have hq:hasI (l.drop i) x=(l[i]==x||hasI (l.drop (i+1)) x):=by rw[List.drop_eq_getElem_cons hi];unfold hasI;rw[List.any_cons,zmu]
  rw[hq]at hF
  repeat'(first|refine zq (I hat (I @zah zca)) ?_|exact zd (I hat (I @zah zca))|(refine zaa ?_ ?_<;>intro hb)|(refine And.intro ?_ ?_;exact zI)|(refine And.intro ?_ ?_<;>intro hg)|exact zC|fail)
  ·rw[hb]at hF
   rw[←hF];rfl
  ·rw[hb]at hq
   exact hK _ (i+1) (Gh.canon [] [] [] (zk hw) rfl rfl) hi (by rw[hq];rfl) (by omega)
 ·have hi:i=l.length:=by
   have:¬(i:Int)<l.length:=by simpa using hge
   omega
  rw[hi,List.drop_length]at hF
  rw[←hF]
  repeat'(first|refine zq0 ?_|exact zd0|(refine zaa ?_ ?_<;>intro hb)|(refine And.intro ?_ ?_;exact zI)|(refine And.intro ?_ ?_<;>intro hg)|exact zC|fail)
  rfl
abbrev zvb (x:Sess):RF:= .agg [.d (iD x.client), .d (iD x.num), .d (iD x.renewed)]
theorem zea (l:List Sess) (hl:l.length<2^62) (c:Int):CallOK Tryz.prog 57 [.f (al l.length (zaE l)), .f (ai c)]
  (fun r o=>r=[zvb ((zaF l c).getD zee),rb (zaF l c).isSome]∧o=[]):=by
 refine zac zar mixed (T:=Ty) (n:=25) Tryz.func57 (c:=Tryz.f57.body.getD .skip) rfl Tryz.results57 Tryz.ntmps57 Tryz.call57 ?_
 simp only[Tryz.f57,Option.getD]
 repeat'(first|refine zq0 ?_|exact zd0|(refine zaa ?_ ?_<;>intro hb)|(refine And.intro ?_ ?_;exact zI)|(refine And.intro ?_ ?_<;>intro hg)|exact zC|fail)
 refine zao (τ:=Nat) (fun i=>⟨[al l.length (zaE l),ai c,dd,dd, .one (.ptr ⟨4,0,1⟩ 0),dd,ai i,dd,dd,dd,dd,dd,dd,dd,dd,dd,dd,dd,dd,dd,dd,dd,dd,dd,dd],[(4,{next:=2,l:=[some {e:=1,var:=true,fz:=false,sz:=0,cells:=[di 0,di 0,di 0]},none,none,none]})]⟩)
  (fun i=>i≤l.length) (fun i=>zaF (l.drop i) c) (fun i=>l.length - i) 0
  (Gh.canon [4] [] [] zK rfl rfl) (Nat.zero_le _) ?_
 intro i hi0 hF K hK
 rw[List.drop_zero]at hF
 refine zw ?_
 refine zaa (fun hlt=> ?_) (fun hge=> ?_)
 ·have hi:i<l.length:=by simpa using hlt
  have hat:=zbM hi
  have hw:=zan hi hl
  have hq:zaF (l.drop i) c=if(l[i].client==c)=true then some l[i]else zaF (l.drop (i+1)) c:=by
   unfold zaF
   rw[List.drop_eq_getElem_cons hi,List.find?_cons]
   cases l[i].client==c<;>rfl
  rw[hq]at hF
  repeat'(first|refine zq (I hat (I @zai zca)) ?_|exact zd (I hat (I @zai zca))|(refine zaa ?_ ?_<;>intro hb)|(refine And.intro ?_ ?_;exact zI)|(refine And.intro ?_ ?_<;>intro hg)|exact zC|fail)
  ·rw[if_pos hb]at hF
   rw[←hF];rfl
  ·rw[if_neg (by rw[hb];simp)]at hq
   exact hK _ (i+1) (Gh.canon [4] [] [] (zk hw) rfl rfl) hi hq.symm (by omega)
 ·have hi:i=l.length:=by
   have:¬(i:Int)<l.length:=by simpa using hge
   omega
  rw[hi,List.drop_length]at hF
  rw[←hF]
  repeat'(first|refine zq0 ?_|exact zd0|(refine zaa ?_ ?_<;>intro hb)|(refine And.intro ?_ ?_;exact zI)|(refine And.intro ?_ ?_<;>intro hg)|exact zC|fail)
  rfl
theorem zhU (l:List Lk) (hl:l.length<2^62) (s:ByteArray):CallOK Tryz.prog 140 [.f (al l.length (zaf l)), .f (ast s)] (fun r o=>r=[ri (zck (isL s) l 0)]∧o=[]):=by
 refine zac zar mixed (T:=Ty) (n:=20) Tryz.func140 (c:=Tryz.f140.body.getD .skip) rfl Tryz.results140 Tryz.ntmps140 Tryz.call140 ?_
 simp only[Tryz.f140,Option.getD]
 repeat'(first|refine zq0 ?_|exact zd0|(refine zaa ?_ ?_<;>intro hb)|(refine And.intro ?_ ?_;exact zI)|(refine And.intro ?_ ?_<;>intro hg)|exact zC|fail)
 refine zao (τ:=Nat) (fun i=>⟨[al l.length (zaf l),ast s,dd,dd,dd,ai i,dd,dd,dd,dd,dd,dd,dd,dd,dd,dd,dd,dd,dd,dd],[]⟩)
  (fun i=>i≤l.length) (fun i=>zck (isL s) (l.drop i) i) (fun i=>l.length - i) 0
  (Gh.canon [] [] [] zK rfl rfl) (Nat.zero_le _) ?_
 intro i hi0 hF K hK
 rw[List.drop_zero]at hF
 refine zw ?_
 refine zaa (fun hlt=> ?_) (fun hge=> ?_)
 ·have hi:i<l.length:=by simpa using hlt
  have hat:=zaO hi
  have hw:=zan hi hl
  have hq:zck (isL s) (l.drop i) i=if(l[i].name.toList==s.toList)=true then(i:Int)else zck (isL s) (l.drop (i+1)) ((i+1:Nat):Int):=by
   rw[List.drop_eq_getElem_cons hi,zck];rfl
  rw[hq]at hF
  repeat'(first|refine zq (I hat (I @zae zca)) ?_|exact zd (I hat (I @zae zca))|(refine zaa ?_ ?_<;>intro hb)|(refine And.intro ?_ ?_;exact zI)|(refine And.intro ?_ ?_<;>intro hg)|exact zC|fail)
  ·rw[if_pos hb]at hF
   have hF:(i:Int)=zck (isL s) l 0:=hF
   rw[←hF]
  ·rw[if_neg (by rw[hb];simp)]at hq
   exact hK _ (i+1) (Gh.canon [] [] [] (zk hw) rfl rfl) hi hq.symm (by omega)
 ·have hi:i=l.length:=by
   have:¬(i:Int)<l.length:=by simpa using hge
   omega
  rw[hi,List.drop_length]at hF
  have hF:(-1:Int)=zck (isL s) l 0:=hF
  rw[←hF]
  repeat'(first|refine zq0 ?_|exact zd0|(refine zaa ?_ ?_<;>intro hb)|(refine And.intro ?_ ?_;exact zI)|(refine And.intro ?_ ?_<;>intro hg)|exact zC|fail)
end Go.Proofs.YtngleemijkaeoaaGreat
