import Derived.Test.YtbpmcjeeeiffhaaGreatK8
import Derived.Test.YtbpmcjeeeiffhaaGreatM
namespace Go.Proofs.YtbpmcjeeeiffhaaGreat
open Go.Pk
set_option maxRecDepth 100000
set_option linter.unusedSimpArgs false
set_option linter.unusedVariables false
def zsq (a b:ByteArray):Int:=Lib.compareBytes a.data.toList b.data.toList
theorem zrE {a b:ByteArray}:zsq a b<0↔zdP a b=true:=by
 unfold zsq zdP
 rw[zcY,zdG,zdG]
 split
 ·simp[*]
 ·split<;>simp[*]
theorem zrF {a b:ByteArray}:(zsq a b==0)=(a.toList==b.toList):=by
 unfold zsq
 rw[zcY,←zdG,←zdG,Bool.eq_iff_iff]
 simp only[beq_iff_eq]
 constructor
 ·intro h
  split at h
  ·cases h
  ·split at h
   ·cases h
   ·rename_i h1 h2
    exact zry (by simpa using h1) (by simpa using h2)
 ·intro h
  rw[h,zmh];simp
theorem zms (a b:ByteArray):CallOK Tryz.prog 203 [.f (ast a), .f (ast b)] (fun r o=>r=[ri (zsq a b)]∧o=[]):=by
 refine zac zak mixed (T:=Ty) (n:=8) Tryz.func203 (c:=Tryz.f203.body.getD .skip) rfl Tryz.results203 Tryz.ntmps203 Tryz.call203 ?_
 simp only[Tryz.f203,Option.getD]
 repeat'(first|refine zq0 ?_|exact zd0|(refine zaa ?_ ?_<;>intro hb)|(refine And.intro ?_ ?_;exact zI)|(refine And.intro ?_ ?_<;>intro hg)|exact zC|fail)
 refine zhu (zqc Tryz.func207 (by kernel_rfl) (by kernel_rfl) (by kernel_rfl) (by kernel_rfl) rfl rfl rfl rfl) ?_
 repeat'(first|refine zq0 ?_|exact zd0|(refine zaa ?_ ?_<;>intro hb)|(refine And.intro ?_ ?_;exact zI)|(refine And.intro ?_ ?_<;>intro hg)|exact zC|fail)
 rfl
theorem zgu (a b:ByteArray):CallOK Tryz.prog 193 [.f (ast a), .f (ast b)] (fun r o=>r=[ri (zsq a b)]∧o=[]):=by
 refine zac zak mixed (T:=Ty) (n:=8) Tryz.func193 (c:=Tryz.f193.body.getD .skip) rfl Tryz.results193 Tryz.ntmps193 Tryz.call193 ?_
 simp only[Tryz.f193,Option.getD]
 repeat'(first|refine zq0 ?_|exact zd0|refine zc (zms a b) ?_|refine zg (zms a b) ?_|(refine zaa ?_ ?_<;>intro hb)|(refine And.intro ?_ ?_;exact zI)|(refine And.intro ?_ ?_<;>intro hg)|exact zC|fail)
theorem zpt (k:Lk) (s:ByteArray):CallOK Tryz.prog 192 [.f (zmn k), .f (ast s)] (fun r o=>r=[ri (zsq k.name s)]∧o=[]):=by
 refine zac zak mixed (T:=Ty) (n:=9) Tryz.func192 (c:=Tryz.f192.body.getD .skip) rfl Tryz.results192 Tryz.ntmps192 Tryz.call192 ?_
 simp only[Tryz.f192,Option.getD]
 repeat'(first|refine zq0 ?_|exact zd0|refine zc (zgu k.name s) ?_|refine zg (zgu k.name s) ?_|(refine zaa ?_ ?_<;>intro hb)|(refine And.intro ?_ ?_;exact zI)|(refine And.intro ?_ ?_<;>intro hg)|exact zC|fail)
theorem zmt (l:List Lk) (hs:SL l) (hl:l.length<2^62) (s:ByteArray):CallOK Tryz.prog 164 [.f (al l.length (zah l)), .f (ast s)] (fun r o=>r=[ri (za9 l s),rb (zcL l s).isSome]∧o=[]):=by
 refine zac zak mixed (T:=Ty) (n:=11) Tryz.func164 (c:=Tryz.f164.body.getD .skip) rfl Tryz.results164 Tryz.ntmps164 Tryz.call164 ?_
 simp only[Tryz.f164,Option.getD]
 have h:=zmq l hl s (fun x=>zsq x.name s) 192 (za9 l s) zcJ
  (fun j hj h=>zrE.2 (zgU hj h))
  (fun j hj h=>by
   have h1:=zgV hj (zkI hs s) h
   have h2:= @zrE l[j].name s
   rw[h1]at h2
   have h3:¬zsq l[j].name s<0:=by rw[h2];simp
   omega) (fun x _=>zpt x s)
 have e:((l[za9 l s]?.map fun x=>zsq x.name s==0).getD false)=(zcL l s).isSome:=by
  rw[zmi hs,zkR]
  simp only[zrF]
  rfl
 rw[e]at h
 repeat'(first|refine zq0 ?_|exact zd0|refine zc (h) ?_|refine zg (h) ?_|(refine zaa ?_ ?_<;>intro hb)|(refine And.intro ?_ ?_;exact zI)|(refine And.intro ?_ ?_<;>intro hg)|exact zC|fail)
theorem zgX (l:List Lk) (hl:l.length<2^30) (hll:∀k∈l,k.line.length<2^30):CallOK Tryz.prog 152 [.f (al l.length (zah l))] (fun r o=>r=[.one (.own 4 l.length (zah l) false)]∧o=[]):=by
 refine zac zak mixed (T:=Ty) (n:=24) Tryz.func152 (c:=Tryz.f152.body.getD .skip) rfl Tryz.results152 Tryz.ntmps152 Tryz.call152 ?_
 simp only[Tryz.f152,Option.getD]
 have hcn:=zjB l.length (zah l) zad (by omega)
 repeat'(first|refine zq @zad ?_|exact zd @zad|refine zc (hcn) ?_|refine zg (hcn) ?_|(refine zaa ?_ ?_<;>intro hb)|(refine And.intro ?_ ?_;exact zI)|(refine And.intro ?_ ?_<;>intro hg)|exact zC|fail)
 refine zam (τ:=Nat) (fun i=>⟨[dd,dd,dd, .one (.own ⟨3,1,1⟩ 0 l.length),dd,dd,dd,dd,ai l.length,ai i,dd,dd,dd,dd,dd,dd,dd,dd,dd,dd,dd,dd,dd,dd],[(6,⟨2,[]⟩),(3,{next:=2,l:=[none,some {e:=1,var:=false,fz:=false,sz:=4,cells:=(zah l).map C.d}]}),(19,⟨2,[]⟩)]⟩)
  (fun i=>i≤l.length) (fun _=>()) (fun i=>l.length - i) 0
  (Gh.canon [3] [19] [] zK rfl rfl) (Nat.zero_le _) ?_
 intro i hi0 hF K hK
 refine zw ?_
 refine zaa (fun hlt=> ?_) (fun hge=> ?_)
 ·have hi:i<l.length:=by simpa using hlt
  have hat:=zaK hi
  have hat2:(zah l).drop (i*4+3)= .sl l[i].line.length (zaw l[i].line)::zah (l.drop (i+1)):=by rw[←List.drop_drop,hat];rfl
  have hw:=zal hi (by omega)
  have hci:=zeb l[i].line.length (zaw l[i].line) zaf (by have:=hll _ (List.getElem_mem hi);omega)
  have hset:=zcx Lk.enc 4 (fun _=>rfl) hi (k:=3) (by decide) (.sl l[i].line.length (zaw l[i].line)) l[i] rfl
  rw[List.set_getElem_self]at hset
  repeat'(first|refine zq (I hat2 (I hset (I @zmd (I @List.map_cons.{0,0} @zad)))) ?_|exact zd (I hat2 (I hset (I @zmd (I @List.map_cons.{0,0} @zad))))|refine zc (hci) ?_|refine zg (hci) ?_|(refine zaa ?_ ?_<;>intro hb)|(refine And.intro ?_ ?_;exact zI)|(refine And.intro ?_ ?_<;>intro hg)|exact zC|fail)
  exact hK _ (i+1) (Gh.canon [3] [] [] (zk hw) rfl rfl) hi rfl (by omega)
 ·have hi:i=l.length:=by
   have:¬(i:Int)<l.length:=by simpa using hge
   omega
  repeat'(first|refine zq0 ?_|exact zd0|(refine zaa ?_ ?_<;>intro hb)|(refine And.intro ?_ ?_;exact zI)|(refine And.intro ?_ ?_<;>intro hg)|exact zC|fail)
theorem zvG (l:List Int) (hl:l.length<2^30):CallOK Tryz.prog 185 [.f (al l.length (zaw l))] (fun r o=>r=[ri (l.headD 0),zfT l.tail,rb (!l.isEmpty)]∧o=[]):=by
 refine CallOK.nil ?_
 refine zac zak mixed (T:=Ty) (n:=14) Tryz.func185 (c:=Tryz.f185.body.getD .skip) rfl Tryz.results185 Tryz.ntmps185 Tryz.call185 ?_
 simp only[Tryz.f185,Option.getD]
 cases l with
 |nil=>
  have h0:(((0:Nat):Int)==0)=true:=rfl
  repeat'(first|refine zq (I @List.length_nil.{0} h0) ?_|exact zd (I @List.length_nil.{0} h0)|(refine zaa ?_ ?_<;>intro hb)|(refine And.intro ?_ ?_;exact zI)|(refine And.intro ?_ ?_<;>intro hg)|exact zC|fail)
  simp[zgs,zfT,zaA]
 |cons c l=>
  have h0:(((l.length+1:Nat):Int)==0)=false:=by simp;omega
  have hcn:=zeb l.length (zaw l) zaf (by simp at hl;omega)
  have hn:l.length+1 - 1=l.length:=rfl
  repeat'(first|refine zq (I @List.length_cons.{0} (I h0 (I hn (I @zaf (I @List.flatMap_cons.{0,0} zca))))) ?_|exact zd (I @List.length_cons.{0} (I h0 (I hn (I @zaf (I @List.flatMap_cons.{0,0} zca)))))|refine zc (hcn) ?_|refine zg (hcn) ?_|(refine zaa ?_ ?_<;>intro hb)|(refine And.intro ?_ ?_;exact zI)|(refine And.intro ?_ ?_<;>intro hg)|exact zC|fail)
  simp[zgs,zfT,zaA]
theorem zmu (l:List Int) (hl:l.length<2^30):CallOK Tryz.prog 125 [.f (al l.length (zaw l))] (fun r o=>r=[rb (lineB l)]∧o=[]):=by
 refine zac zak mixed (T:=Ty) (n:=26) Tryz.func125 (c:=Tryz.f125.body.getD .skip) rfl Tryz.results125 Tryz.ntmps125 Tryz.call125 ?_
 simp only[Tryz.f125,Option.getD]
 repeat'(first|refine zq @zaf ?_|exact zd @zaf|(refine zaa ?_ ?_<;>intro hb)|(refine And.intro ?_ ?_;exact zI)|(refine And.intro ?_ ?_<;>intro hg)|exact zC|fail)
 refine zam (τ:=Nat) (fun i=>⟨[al l.length (zaw l),dd,dd,dd,dd,al l.length (zaw l),ai l.length,ai i,dd,dd,dd,dd,dd,dd,dd,dd,dd,dd,dd,dd,dd,dd,dd,dd,dd,dd],[]⟩)
  (fun i=>i≤l.length) (fun i=>zbx (zrv l) i (l.drop i)) (fun i=>l.length - i) 0
  (Gh.canon [] [] [] zK rfl rfl) (Nat.zero_le _) ?_
 intro i hi0 hF K hK
 rw[List.drop_zero]at hF
 refine zw ?_
 refine zaa (fun hlt=> ?_) (fun hge=> ?_)
 ·have hi:i<l.length:=by simpa using hlt
  have hat:=zce hi
  have hw:=zal hi (by omega)
  rw[zaS hi]at hF
  have hcl:=zem l[i]
  have hlt2:(l.take i).length=i:=by rw[List.length_take];omega
  have htk:(zaw l).take i=zaw (l.take i):=zmk (by omega)
  have hco:=zbj (l.take i) (by omega) l[i]
  rw[hlt2]at hco
  have hq:zrv l i l[i]= !(!(decide (l[i]≥0)&&decide (l[i]<8))||(l.take i).any fun x=>l[i]==x):=rfl
  repeat'(first|refine zq (I hat (I htk (I @zaf zca))) ?_|exact zd (I hat (I htk (I @zaf zca)))|refine zc (hcl) ?_|refine zg (hcl) ?_|refine zc (hco) ?_|refine zg (hco) ?_|(refine zaa ?_ ?_<;>intro hb)|(refine And.intro ?_ ?_;exact zI)|(refine And.intro ?_ ?_<;>intro hg)|exact zC|fail)
  ·rw[hq,hb,if_neg (by simp)]at hF
   unfold lineB
   rw[←hF];rfl
  ·exact hK _ (i+1) (Gh.canon [] [] [] (zk hw) rfl rfl) hi (by rw[zaS hi,hq,hb];rfl) (by omega)
 ·have hi:i=l.length:=by
   have:¬(i:Int)<l.length:=by simpa using hge
   omega
  rw[zdo hi]at hF
  unfold lineB
  rw[←hF]
  repeat'(first|refine zq0 ?_|exact zd0|(refine zaa ?_ ?_<;>intro hb)|(refine And.intro ?_ ?_;exact zI)|(refine And.intro ?_ ?_<;>intro hg)|exact zC|fail)
theorem zpu (k j:Lk):CallOK Tryz.prog 127 [.f (zmn k), .f (.one (.elt j.enc))] (fun r o=>r=[rb (k.token==j.token)]∧o=[]):=by
 refine zac zak mixed (T:=Ty) (n:=9) Tryz.func127 (c:=Tryz.f127.body.getD .skip) rfl Tryz.results127 Tryz.ntmps127 Tryz.call127 ?_
 simp only[Tryz.f127,Option.getD]
 repeat'(first|refine zq0 ?_|exact zd0|(refine zaa ?_ ?_<;>intro hb)|(refine And.intro ?_ ?_;exact zI)|(refine And.intro ?_ ?_<;>intro hg)|exact zC|fail)
theorem zmv (l:List Lk) (hl:l.length<2^30) (hll:∀k∈l,k.line.length<2^30∧k.name.size<2^62):CallOK Tryz.prog 73 [.f (al l.length (zah l))] (fun r o=>r=[rb (lockB l)]∧o=[]):=by
 refine zac zak mixed (T:=Ty) (n:=71) Tryz.func73 (c:=Tryz.f73.body.getD .skip) rfl Tryz.results73 Tryz.ntmps73 Tryz.call73 ?_
 simp only[Tryz.f73,Option.getD]
 repeat'(first|refine zq @zad ?_|exact zd @zad|(refine zaa ?_ ?_<;>intro hb)|(refine And.intro ?_ ?_;exact zI)|(refine And.intro ?_ ?_<;>intro hg)|exact zC|fail)
 refine zam (τ:=Nat) (fun i=>⟨[al l.length (zah l),dd,dd,dd,dd,al l.length (zah l),ai l.length,ai i,dd,dd,dd,dd,dd,dd,dd,dd,dd,dd,dd,dd,dd,dd,dd,dd,dd,dd,dd,dd,dd,dd,dd,dd,dd,dd,dd,dd,dd,dd,dd,dd,dd,dd,dd,dd,dd,dd,dd,dd,dd,dd,dd,dd,dd,dd,dd,dd,dd,dd,dd,dd,dd,dd,dd,dd,dd,dd,dd,dd,dd,dd,dd],[(4,⟨2,[]⟩)]⟩)
  (fun i=>i≤l.length) (fun i=>zbx (zme l) i (l.drop i)) (fun i=>l.length - i) 0
  (Gh.canon [] [4] [] zK rfl rfl) (Nat.zero_le _) ?_
 intro i hi0 hF K hK
 rw[List.drop_zero]at hF
 refine zw ?_
 refine zaa (fun hlt=> ?_) (fun hge=> ?_)
 ·have hi:i<l.length:=by simpa using hlt
  have hat:=zaK hi
  obtain⟨hk1,hk2⟩:=hll _ (List.getElem_mem hi)
  have hw:=zal hi (by omega)
  rw[zaS hi]at hF
  have hnm:=zkO l[i].name hk2
  have hlr:=zmu l[i].line hk1
  have hlc:=zbj l[i].line (by omega) l[i].holder
  have hlt2:(l.take i).length=i:=by rw[List.length_take];omega
  have htk:(zah l).take (i*4)=zah (l.take i):=zdr Lk.enc 4 (fun _=>rfl) (by omega)
  have hco:=zkM (l.take i) (by omega) (fun o=>o.token==l[i].token) 127 [.elt l[i].enc] rfl rfl (fun x _=>zpu x _)
  rw[hlt2]at hco
  cases e0:decide ((i:Int)>0)
  ·have h0:i=0:=by simpa using e0
   have hq:zme l i l[i]=(!(!nameP l[i].name||decide (l[i].holder<0)||decide (l[i].holder≥8)||decide (l[i].token<1)||decide (l[i].token>2305843009213693952))&& !(!lineB l[i].line||l[i].line.any fun x=>l[i].holder==x)&& !((l.take i).any fun o=>o.token==l[i].token)):=by
    unfold zme zpk hasI
    have:decide (i>0)=false:=by simpa using e0
    rw[this]
    simp only[Bool.not_or,Bool.not_not,Bool.false_and,Bool.or_false]
   have hp:(zah l).drop ((IntKind.i64.wrap ((i:Int) - 1)).toNat*4)=l[i].enc++zah (l.drop (i+1)):=by
    rw[←zaK hi,h0];rfl
   repeat'(first|refine zq (I hat (I hp (I htk (I e0 (I @zad zca))))) ?_|exact zd (I hat (I hp (I htk (I e0 (I @zad zca)))))|refine zc (hnm) ?_|refine zg (hnm) ?_|refine zc (hlr) ?_|refine zg (hlr) ?_|refine zc (hlc) ?_|refine zg (hlc) ?_|refine zc (hco) ?_|refine zg (hco) ?_|(refine zaa ?_ ?_<;>intro hb)|(refine And.intro ?_ ?_;exact zI)|(refine And.intro ?_ ?_<;>intro hg)|exact zC|fail)
   ·rw[hq,hb,if_neg (by simp)]at hF
    unfold lockB
    rw[←hF];rfl
   ·rename_i ha
    rw[hq,ha,hb,if_neg (by simp)]at hF
    unfold lockB
    rw[←hF];rfl
   ·rename_i ha hc
    rw[hq,ha,hc,hb,if_neg (by simp)]at hF
    unfold lockB
    rw[←hF];rfl
   ·rename_i ha hc
    exact hK _ (i+1) (Gh.canon [] [] [] (zk hw) rfl rfl) hi (by rw[zaS hi,hq,ha,hc,hb];rfl) (by omega)
  ·have h0:0<i:=by simpa using e0
   have hq:zme l i l[i]=(!(!nameP l[i].name||decide (l[i].holder<0)||decide (l[i].holder≥8)||decide (l[i].token<1)||decide (l[i].token>2305843009213693952))&& !(!lineB l[i].line||(l[i].line.any fun x=>l[i].holder==x)|| !(zdP (l[i - 1]'(by omega)).name l[i].name))&& !((l.take i).any fun o=>o.token==l[i].token)):=by
    unfold zme zpk hasI zrw
    have:decide (i>0)=true:=by simpa using e0
    rw[this,List.getElem?_eq_getElem (by omega)]
    simp only[Bool.not_or,Bool.not_not,Bool.true_and,Option.map_some,Option.getD_some]
   have hp:=zaK (show i - 1<l.length by omega)
   have hw1:IntKind.i64.wrap ((i:Int) - 1)=((i - 1:Nat):Int):=by rw[wrap64 (by omega) (by omega)];omega
   repeat'(first|refine zq (I hat (I hp (I hw1 (I htk (I e0 (I @zad zca)))))) ?_|exact zd (I hat (I hp (I hw1 (I htk (I e0 (I @zad zca))))))|refine zc (hnm) ?_|refine zg (hnm) ?_|refine zc (hlr) ?_|refine zg (hlr) ?_|refine zc (hlc) ?_|refine zg (hlc) ?_|refine zc (hco) ?_|refine zg (hco) ?_|(refine zaa ?_ ?_<;>intro hb)|(refine And.intro ?_ ?_;exact zI)|(refine And.intro ?_ ?_<;>intro hg)|exact zC|fail)
   ·rw[hq,hb,if_neg (by simp)]at hF
    unfold lockB
    rw[←hF];rfl
   ·rename_i ha
    rw[hq,ha,hb,if_neg (by simp)]at hF
    unfold lockB
    rw[←hF];rfl
   ·rename_i ha hc
    rw[hq,ha,hc,hb,if_neg (by simp)]at hF
    unfold lockB
    rw[←hF];rfl
   ·rename_i ha hc
    exact hK _ (i+1) (Gh.canon [] [] [] (zk hw) rfl rfl) hi (by rw[zaS hi,hq,ha,hc,hb];rfl) (by omega)
 ·have hi:i=l.length:=by
   have:¬(i:Int)<l.length:=by simpa using hge
   omega
  rw[zdo hi]at hF
  unfold lockB
  rw[←hF]
  repeat'(first|refine zq0 ?_|exact zd0|(refine zaa ?_ ?_<;>intro hb)|(refine And.intro ?_ ?_;exact zI)|(refine And.intro ?_ ?_<;>intro hg)|exact zC|fail)
theorem zkP (l:List Lk) (hl:l.length<2^30) (c:Int):CallOK Tryz.prog 119 [.f (al l.length (zah l)), .f (ai c)] (fun r o=>r=[.one (.own 2 (za7 l c).length (zaD (za7 l c)) false)]∧o=[]):=by
 refine CallOK.nil ?_
 refine zac zak mixed (T:=Ty) (n:=28) Tryz.func119 (c:=Tryz.f119.body.getD .skip) rfl Tryz.results119 Tryz.ntmps119 Tryz.call119 ?_
 simp only[Tryz.f119,Option.getD]
 repeat'(first|refine zq @zad ?_|exact zd @zad|(refine zaa ?_ ?_<;>intro hb)|(refine And.intro ?_ ?_;exact zI)|(refine And.intro ?_ ?_<;>intro hg)|exact zC|fail)
 refine zam (τ:=Nat×List Grant) (fun t=>⟨[dd,ai c,dd,dd,dd, .one (.own ⟨5,1,1⟩ 0 t.2.length),dd,dd,al l.length (zah l),ai l.length,ai t.1,dd,dd,dd,dd,dd,dd,dd,dd,dd,dd,dd,dd,dd,dd,dd,dd,dd],[(5,{next:=2,l:=[none,some {e:=1,var:=false,fz:=false,sz:=2,cells:=(zaD t.2).map C.d}]}),(7,⟨2,[]⟩),(24,⟨2,[]⟩),(25,⟨2,[]⟩)]⟩)
  (fun t=>t.1≤l.length∧t.2.length≤t.1) (fun t=>t.2++za7 (l.drop t.1) c) (fun t=>l.length - t.1) (0,[])
  ((Gh.nil (i:=5) (s:=5) (sz:=2) rfl).trans (Gh.canon [5] [7,24,25] [] zK rfl rfl)) ⟨Nat.zero_le _,Nat.zero_le _⟩ ?_
 intro⟨i,acc⟩ ⟨hi0,ha⟩ hF K hK
 simp only[List.drop_zero,List.nil_append]at hi0 ha hF hK⊢
 refine zw ?_
 refine zaa (fun hlt=> ?_) (fun hge=> ?_)
 ·have hi:i<l.length:=by simpa using hlt
  have hat:=zaK hi
  have hw:=zal hi (by omega)
  have hFs:za7 (l.drop i) c=if(l[i].holder==c)=true then⟨l[i].name,l[i].token⟩::za7 (l.drop (i+1)) c else za7 (l.drop (i+1)) c:=by
   unfold za7
   rw[List.drop_eq_getElem_cons hi,List.filter_cons]
   split<;>simp
  cases hb:l[i].holder==c
  ·rw[hb,if_neg (by simp)]at hFs
   repeat'(first|refine zq (I hat (I hb (I @zad zca))) ?_|exact zd (I hat (I hb (I @zad zca)))|(refine zaa ?_ ?_<;>intro hb)|(refine And.intro ?_ ?_;exact zI)|(refine And.intro ?_ ?_<;>intro hg)|exact zC|fail)
   exact hK _ (i+1,acc) (Gh.canon [5] [] [] (zk hw) rfl rfl) ⟨hi,by simp only;omega⟩ (by simp only;rw[hFs]) (by simp only;omega)
  ·rw[hb,if_pos rfl]at hFs
   repeat'(first|refine zq (I hat (I hb (I @zad zca))) ?_|exact zd (I hat (I hb (I @zad zca)))|(refine zaa ?_ ?_<;>intro hb)|(refine And.intro ?_ ?_;exact zI)|(refine And.intro ?_ ?_<;>intro hg)|exact zC|fail)
   exact hK _ (i+1,acc++[⟨l[i].name,l[i].token⟩]) (Gh.canon [5] [] [] (zk (I hw (I @List.length_append.{0} @List.length_singleton.{0}))) rfl (by simp only[List.length_append,List.length_singleton];rw[zeD];rfl)) ⟨hi,by simp only[List.length_append,List.length_singleton];omega⟩ (by simp only[List.append_assoc,List.singleton_append];rw[hFs]) (by simp only;omega)
 ·have hi:i=l.length:=by
   have:¬(i:Int)<l.length:=by simpa using hge
   omega
  rw[hi,List.drop_length,show za7 [] c=[] from rfl,List.append_nil]at hF
  rw[←hF]
  repeat'(first|refine zq0 ?_|exact zd0|(refine zaa ?_ ?_<;>intro hb)|(refine And.intro ?_ ?_;exact zI)|(refine And.intro ?_ ?_<;>intro hg)|exact zC|fail)
  simp[ziK,zaA]
theorem zrG (l:List Lk) (i:Nat) (hi:i<l.length) (hl:l.length<2^30) (hll:∀k∈l,k.line.length<2^30) (t:Int) (ht:0≤t∧t<2^62):
  CallOK Tryz.prog 154 [.row 4 l.length (zah l), .f (ai i), .f (ai t)]
  (fun r o=>r=[.one (.own 4 (zcV l i l[i] t).1.length (zah (zcV l i l[i] t).1) true),ri (zcV l i l[i] t).2]∧o=[[]]):=by
 refine zac zak mixed (T:=Ty) (n:=42) Tryz.func154 (c:=Tryz.f154.body.getD .skip) rfl Tryz.results154 Tryz.ntmps154 Tryz.call154 ?_
 simp only[Tryz.f154,Option.getD]
 have hat:=zaK hi
 simp only[List.cons_append,List.nil_append]at hat
 have hat2:(zah l).drop (i*4+3)= .sl l[i].line.length (zaw l[i].line)::zah (l.drop (i+1)):=by rw[←List.drop_drop,hat];rfl
 have hnx:=zvG l[i].line (hll _ (List.getElem_mem hi))
 have hw:=zal hi (by omega)
 have hwt:IntKind.i64.wrap (t+1)=t+1:=wrap64 (by omega) (by omega)
 cases hline:l[i].line with
 |nil=>
  rw[hline]at hnx
  simp only[List.headD_nil,List.tail_nil,List.isEmpty_nil]at hnx
  rw[hline]at hat2
  obtain⟨n,hn⟩:∃n,l.length=n+1:=⟨l.length - 1,by omega⟩
  have hdl:=zpn n i (zah l) (by rw[zad,hn]) (by omega) (by omega)
  rw[←hn]at hdl
  repeat'(first|(with_reducible first|refine zab _ _ ?_|refine zaU ?_|refine zaV ?_)|rw[zat]|simp only[hat2,hw,hwt,←List.map_drop,List.map_cons,zad,zfT,zY,Int.reduceEq,Int.reduceBEq,Int.reduceBNe,Nat.reduceSub,Nat.reduceEqDiff,Nat.reduceAdd,Nat.reduceMul,Nat.reduceLeDiff,Nat.reduceLT,Nat.reduceBEq,reduceCtorEq]|((first|((try refine zaJ ?_);apply zaP)|(apply zaM;intro _));(solve|exact(hnx)|(refine CallOK.le (hnx) ?_;exact zM)|fail);try case hn=>rfl)|refine zay ?_|refine zaa (fun hb=> ?_) (fun hb=> ?_)|(refine And.intro ?_ ?_;exact zI)|refine And.intro (fun hg=> ?_) (fun hg=> ?_)|exact zC|fail)
  refine zbY (mv:= ?mv1) (lent:= ?le1) 0 ?ha1 (hdl) ?hb1 ?hc1
  case ha1=>(try simp only[zB,zaG,Nat.reduceSub,Nat.reduceEqDiff,Nat.reduceAdd,Nat.reduceMul,Nat.reduceLeDiff,Nat.reduceLT,Nat.reduceBEq,reduceCtorEq]);exact rfl
  case hb1=>(try simp only[zB,scM,Nat.reduceSub,Nat.reduceEqDiff,Nat.reduceAdd,Nat.reduceMul,Nat.reduceLeDiff,Nat.reduceLT,Nat.reduceBEq,reduceCtorEq]);repeat'(first|rfl|trivial|omega|with_reducible refine And.intro ?_ ?_)
  show aops _ _ _ _ _ _ _ _
  repeat'(first|refine zq0 ?_|exact zd0|(refine zaa ?_ ?_<;>intro hb)|(refine And.intro ?_ ?_;exact zI)|(refine And.intro ?_ ?_<;>intro hg)|exact zC|fail)
  have hp:zcV l i l[i] t=(l.eraseIdx i,0):=by unfold zcV;rw[hline]
  rw[hp]
  have h1:=zml Lk.enc 4 (fun _=>rfl) hi
  have h2:=zmm hi
  simp only[h1,h2,show l.length - 1=n by omega]
 |cons c rest=>
  rw[hline]at hnx
  simp only[List.headD_cons,List.tail_cons,List.isEmpty_cons]at hnx
  rw[hline]at hat2
  have hset:=zfm Lk.enc 4 (fun _=>rfl) hi ⟨l[i].name,c,t+1,rest⟩
  simp only[fillAt,List.map_cons,List.map_nil]at hset
  have hp:zcV l i l[i] t=(l.set i ⟨l[i].name,c,t+1,rest⟩,1):=by unfold zcV;rw[hline]
  rw[hp]
  repeat'(first|(with_reducible first|refine zab _ _ ?_|refine zaU ?_|refine zaV ?_)|rw[zat]|simp only[hat,hat2,hw,hwt,hset,←List.map_drop,List.map_cons,zad,zfT,zY,Int.reduceEq,Int.reduceBEq,Int.reduceBNe,Nat.reduceSub,Nat.reduceEqDiff,Nat.reduceAdd,Nat.reduceMul,Nat.reduceLeDiff,Nat.reduceLT,Nat.reduceBEq,reduceCtorEq]|((first|((try refine zaJ ?_);apply zaP)|(apply zaM;intro _));(solve|exact(hnx)|(refine CallOK.le (hnx) ?_;exact zM)|fail);try case hn=>rfl)|refine zay ?_|refine zaa (fun hb=> ?_) (fun hb=> ?_)|(refine And.intro ?_ ?_;exact zI)|refine And.intro (fun hg=> ?_) (fun hg=> ?_)|exact zC|fail)
  rw[List.length_set]
theorem zvH (l:List Lk) (hs:SL l) (hl:l.length<2^30) (hll:∀k∈l,k.line.length<2^30) (name:ByteArray) (c t:Int) (ht:0≤t∧t<2^62) (w:Bool):
  CallOK Tryz.prog 117 [.f (al l.length (zah l)), .f (ast name), .f (ai c), .f (ai t), .f (ab w)]
  (fun r o=>r=[.one (.own 4 (zaI l name c t w).1.length (zah (zaI l name c t w).1) false),ri (zaI l name c t w).2.1,ri (zaI l name c t w).2.2]∧o=[]):=by
 refine CallOK.nil ?_
 refine zac zak mixed (T:=Ty) (n:=96) Tryz.func117 (c:=Tryz.f117.body.getD .skip) rfl Tryz.results117 Tryz.ntmps117 Tryz.call117 ?_
 simp only[Tryz.f117,Option.getD]
 have hp:=zmt l hs (by omega) name
 have hco:=zgX l hl hll
 have hwt:IntKind.i64.wrap (t+1)=t+1:=wrap64 (by omega) (by omega)
 cases hf:zcL l name with
 |none=>
  rw[hf]at hp
  simp only[Option.isSome_none]at hp
  have hin:=zpo l.length (za9 l name) (zah l) [sD name,iD c,iD (t+1), .sl 0 []] zad rfl zcJ hl
  have htk:zaI l name c t w=if decide ((l.length:Int)≥4)=true then([],0,5)else(l.take (za9 l name)++⟨name,c,t+1,[]⟩::l.drop (za9 l name),0,0):=by unfold zaI;rw[hf]
  rw[htk]
  have hti:=znq Lk.enc 4 (fun _=>rfl) (l:=l) (k:=za9 l name) zcJ ⟨name,c,t+1,[]⟩
  have htl:=zkJ (l:=l) (k:=za9 l name) zcJ ⟨name,c,t+1,[]⟩
  cases h4:decide ((l.length:Int)≥4)
  ·rw[if_neg (by simp)]
   simp only[hti,htl]
   repeat'(first|refine zq (I hwt (I h4 @zad)) ?_|exact zd (I hwt (I h4 @zad))|refine zc (hp) ?_|refine zg (hp) ?_|refine zc (hco) ?_|refine zg (hco) ?_|(refine zaa ?_ ?_<;>intro hb)|(refine And.intro ?_ ?_;exact zI)|(refine And.intro ?_ ?_<;>intro hg)|exact zC|fail)
   refine zbY (mv:= ?mv2) (lent:= ?le2) 0 ?ha2 (hin) ?hb2 ?hc2
   case ha2=>(try simp only[zB,zaG,Nat.reduceSub,Nat.reduceEqDiff,Nat.reduceAdd,Nat.reduceMul,Nat.reduceLeDiff,Nat.reduceLT,Nat.reduceBEq,reduceCtorEq]);exact rfl
   case hb2=>(try simp only[zB,scM,Nat.reduceSub,Nat.reduceEqDiff,Nat.reduceAdd,Nat.reduceMul,Nat.reduceLeDiff,Nat.reduceLT,Nat.reduceBEq,reduceCtorEq]);repeat'(first|rfl|trivial|omega|with_reducible refine And.intro ?_ ?_)
   show aops _ _ _ _ _ _ _ _
   repeat'(first|refine zq0 ?_|exact zd0|(refine zaa ?_ ?_<;>intro hb)|(refine And.intro ?_ ?_;exact zI)|(refine And.intro ?_ ?_<;>intro hg)|exact zC|fail)
   simp[zgs,zaA]
  ·rw[if_pos rfl]
   repeat'(first|refine zq (I h4 @zad) ?_|exact zd (I h4 @zad)|refine zc (hp) ?_|refine zg (hp) ?_|(refine zaa ?_ ?_<;>intro hb)|(refine And.intro ?_ ?_;exact zI)|(refine And.intro ?_ ?_<;>intro hg)|exact zC|fail)
   simp[zgs,zaA]
 |some k=>
  rw[hf]at hp
  simp only[Option.isSome_some]at hp
  obtain⟨⟨hi,he⟩,hn⟩:=zcM hs hf
  have hat:=zaK hi
  rw[he]at hat
  simp only[List.cons_append,List.nil_append]at hat
  have hkl:=hll k (he▸List.getElem_mem hi)
  have hah:=ztr k.line (by omega) c
  have hj:=zvC k.line hkl c
  have htk:zaI l name c t w=if(k.holder==c)=true then([],0,7)else if(!w)=true then([],0,8)else
    if hasI k.line c=true then(l,zim k.line c,10)else
    if((zdE k.line c).2.2 !=0)=true then([],0,(zdE k.line c).2.2)else(l.set (za9 l name) ⟨k.name,k.holder,k.token,(zdE k.line c).1⟩,(zdE k.line c).2.1,10):=by
   unfold zaI
   rw[hf]
   simp only[bne_iff_ne]
  generalize zaI l name c t w=R at htk⊢
  have hset:=zcx Lk.enc 4 (fun _=>rfl) hi (k:=3) (by decide) (.sl (zdE k.line c).1.length (zaw (zdE k.line c).1)) ⟨k.name,k.holder,k.token,(zdE k.line c).1⟩ (by rw[he];rfl)
  repeat'(first|(with_reducible first|refine zab _ _ ?_|refine zaU ?_|refine zaV ?_)|rw[zat]|simp only[hat,hset,zfT,List.drop_succ_cons,List.drop_zero,zad,zY,Int.reduceEq,Int.reduceBEq,Int.reduceBNe,Nat.reduceSub,Nat.reduceEqDiff,Nat.reduceAdd,Nat.reduceMul,Nat.reduceLeDiff,Nat.reduceLT,Nat.reduceBEq,reduceCtorEq]|((first|((try refine zaJ ?_);apply zaP)|(apply zaM;intro _));(solve|exact(hp)|exact(hco)|exact(hah)|exact(hj)|(refine CallOK.le (hp) ?_;exact zM)|(refine CallOK.le (hco) ?_;exact zM)|(refine CallOK.le (hah) ?_;exact zM)|(refine CallOK.le (hj) ?_;exact zM)|fail);try case hn=>rfl)|refine zay ?_|refine zaa (fun hb=> ?_) (fun hb=> ?_)|(refine And.intro ?_ ?_;exact zI)|refine And.intro (fun hg=> ?_) (fun hg=> ?_)|exact zC|fail)
  ·rw[if_pos hb]at htk;rw[htk];simp[zgs,zaA]
  ·rename_i h1
   rw[if_neg (by rw[h1];simp),if_pos hb]at htk;rw[htk];simp[zgs,zaA]
  ·rename_i h1 h2
   rw[if_neg (by rw[h1];simp),if_neg (by rw[h2];simp),if_pos hb]at htk;rw[htk];simp[zgs,zaA,zim]
  ·rename_i h1 h2 h3
   rw[if_neg (by rw[h1];simp),if_neg (by rw[h2];simp),if_neg (by rw[h3];simp),if_pos hb]at htk;rw[htk];simp[zgs,zaA]
  ·rename_i h1 h2 h3
   rw[if_neg (by rw[h1];simp),if_neg (by rw[h2];simp),if_neg (by rw[h3];simp),if_neg (by rw[hb];simp)]at htk;rw[htk];simp[zgs,zaA]
theorem zvI (l:List Lk) (hs:SL l) (hl:l.length<2^30) (hll:∀k∈l,k.line.length<2^30) (name:ByteArray) (c t:Int) (ht:0≤t∧t<2^62):
  CallOK Tryz.prog 118 [.f (al l.length (zah l)), .f (ast name), .f (ai c), .f (ai t)]
  (fun r o=>r=[.one (.own 4 (za2 l name c t).1.length (zah (za2 l name c t).1) false),ri (za2 l name c t).2.1,ri (za2 l name c t).2.2]∧o=[]):=by
 refine CallOK.nil ?_
 refine zac zak mixed (T:=Ty) (n:=62) Tryz.func118 (c:=Tryz.f118.body.getD .skip) rfl Tryz.results118 Tryz.ntmps118 Tryz.call118 ?_
 simp only[Tryz.f118,Option.getD]
 have hp:=zmt l hs (by omega) name
 have hco:=zgX l hl hll
 cases hf:zcL l name with
 |none=>
  rw[hf]at hp
  simp only[Option.isSome_none]at hp
  have hfr:za2 l name c t=([],0,6):=by unfold za2;rw[hf]
  rw[hfr]
  repeat'(first|refine zq @zad ?_|exact zd @zad|refine zc (hp) ?_|refine zg (hp) ?_|(refine zaa ?_ ?_<;>intro hb)|(refine And.intro ?_ ?_;exact zI)|(refine And.intro ?_ ?_<;>intro hg)|exact zC|fail)
  simp[zgs,zaA]
 |some k=>
  rw[hf]at hp
  simp only[Option.isSome_some]at hp
  obtain⟨⟨hi,he⟩,hn⟩:=zcM hs hf
  have hat:=zaK hi
  rw[he]at hat
  simp only[List.cons_append,List.nil_append]at hat
  have hat1:(zah l).drop (za9 l name*4+1)=iD k.holder::iD k.token:: .sl k.line.length (zaw k.line)::zah (l.drop (za9 l name+1)):=by rw[←List.drop_drop,hat];rfl
  have hat3:(zah l).drop (za9 l name*4+3)= .sl k.line.length (zaw k.line)::zah (l.drop (za9 l name+1)):=by rw[←List.drop_drop,hat];rfl
  have hkl:=hll k (he▸List.getElem_mem hi)
  have hps:=zrG l (za9 l name) hi hl hll t ht
  rw[he]at hps
  have hlv:=zts k.line hkl c
  have hset:=zcx Lk.enc 4 (fun _=>rfl) hi (k:=3) (by decide) (.sl (zcN k.line c).1.length (zaw (zcN k.line c).1)) ⟨k.name,k.holder,k.token,(zcN k.line c).1⟩ (by rw[he];rfl)
  have hlb:(zcN k.line c).2=hasI k.line c:=by
   unfold zcN hasI
   have:=zfn (fun x=>c==x) k.line
   split
   ·rename_i h;rw[←this];simp;omega
   ·rename_i h;rw[←this];simp;omega
  have hfr:za2 l name c t=if(k.holder==c)=true then((zcV l (za9 l name) k t).1,(zcV l (za9 l name) k t).2,0)else
    if hasI k.line c=true then(l.set (za9 l name) ⟨k.name,k.holder,k.token,(zcN k.line c).1⟩,0,0)else([],0,6):=by unfold za2;rw[hf]
  rw[hfr]
  rw[hlb]at hlv
  cases hh:k.holder==c
  ·rw[if_neg (by simp)]
   cases hi:hasI k.line c
   ·rw[hi]at hlv
    rw[if_neg (by simp)]
    repeat'(first|(with_reducible first|refine zab _ _ ?_|refine zaU ?_|refine zaV ?_)|rw[zat]|simp only[hat1,hat3,hh,←List.map_drop,List.map_cons,hset,zfT,zad,zY,Int.reduceEq,Int.reduceBEq,Int.reduceBNe,Nat.reduceSub,Nat.reduceEqDiff,Nat.reduceAdd,Nat.reduceMul,Nat.reduceLeDiff,Nat.reduceLT,Nat.reduceBEq,reduceCtorEq]|((first|((try refine zaJ ?_);apply zaP)|(apply zaM;intro _));(solve|exact(hp)|exact(hco)|exact(hlv)|(refine CallOK.le (hp) ?_;exact zM)|(refine CallOK.le (hco) ?_;exact zM)|(refine CallOK.le (hlv) ?_;exact zM)|fail);try case hn=>rfl)|refine zay ?_|refine zaa (fun hb=> ?_) (fun hb=> ?_)|(refine And.intro ?_ ?_;exact zI)|refine And.intro (fun hg=> ?_) (fun hg=> ?_)|exact zC|fail)
    simp[zgs,zaA]
   ·rw[hi]at hlv
    rw[if_pos rfl]
    repeat'(first|(with_reducible first|refine zab _ _ ?_|refine zaU ?_|refine zaV ?_)|rw[zat]|simp only[hat1,hat3,hh,←List.map_drop,List.map_cons,hset,zfT,zad,zY,Int.reduceEq,Int.reduceBEq,Int.reduceBNe,Nat.reduceSub,Nat.reduceEqDiff,Nat.reduceAdd,Nat.reduceMul,Nat.reduceLeDiff,Nat.reduceLT,Nat.reduceBEq,reduceCtorEq]|((first|((try refine zaJ ?_);apply zaP)|(apply zaM;intro _));(solve|exact(hp)|exact(hco)|exact(hlv)|(refine CallOK.le (hp) ?_;exact zM)|(refine CallOK.le (hco) ?_;exact zM)|(refine CallOK.le (hlv) ?_;exact zM)|fail);try case hn=>rfl)|refine zay ?_|refine zaa (fun hb=> ?_) (fun hb=> ?_)|(refine And.intro ?_ ?_;exact zI)|refine And.intro (fun hg=> ?_) (fun hg=> ?_)|exact zC|fail)
    simp[zgs,zaA]
  ·rw[if_pos rfl]
   repeat'(first|refine zq (I hat1 (I hh (I @zmd (I @List.map_cons.{0,0} @zad)))) ?_|exact zd (I hat1 (I hh (I @zmd (I @List.map_cons.{0,0} @zad))))|refine zc (hp) ?_|refine zg (hp) ?_|refine zc (hco) ?_|refine zg (hco) ?_|(refine zaa ?_ ?_<;>intro hb)|(refine And.intro ?_ ?_;exact zI)|(refine And.intro ?_ ?_<;>intro hg)|exact zC|fail)
   refine zbY (mv:= ?mv3) (lent:= ?le3) 0 ?ha3 (hps) ?hb3 ?hc3
   case ha3=>(try simp only[zB,zaG,Nat.reduceSub,Nat.reduceEqDiff,Nat.reduceAdd,Nat.reduceMul,Nat.reduceLeDiff,Nat.reduceLT,Nat.reduceBEq,reduceCtorEq]);exact rfl
   case hb3=>(try simp only[zB,scM,Nat.reduceSub,Nat.reduceEqDiff,Nat.reduceAdd,Nat.reduceMul,Nat.reduceLeDiff,Nat.reduceLT,Nat.reduceBEq,reduceCtorEq]);repeat'(first|rfl|trivial|omega|with_reducible refine And.intro ?_ ?_)
   show aops _ _ _ _ _ _ _ _
   repeat'(first|refine zq0 ?_|exact zd0|(refine zaa ?_ ?_<;>intro hb)|(refine And.intro ?_ ?_;exact zI)|(refine And.intro ?_ ?_<;>intro hg)|exact zC|fail)
   simp[zgs,zaA]
def curL (l:List Lk) (gone:List Int) (i:Nat):List Lk:=(l.take i).map (zar gone)++l.drop i
theorem zoA {l:List Lk} {gone:List Int} {i:Nat} (hi:i≤l.length):(curL l gone i).length=l.length:=by
 unfold curL
 rw[List.length_append,List.length_map,List.length_take,List.length_drop];omega
theorem zrH {l:List Lk} {gone:List Int} {i:Nat} (hi:i<l.length):∃h:i<(curL l gone i).length,(curL l gone i)[i]=l[i]:=by
 have hl:((l.take i).map (zar gone)).length=i:=by rw[List.length_map,List.length_take];omega
 have h:(curL l gone i)[i]? =some l[i]:=by
  unfold curL
  rw[List.getElem?_append_right (by omega),hl,Nat.sub_self,List.getElem?_drop,Nat.add_zero,List.getElem?_eq_getElem hi]
 exact zmj h
theorem zmy {l:List Lk} {gone:List Int} {i:Nat} (hi:i<l.length):(curL l gone i).set i (zar gone l[i])=curL l gone (i+1):=by
 have hl:((l.take i).map (zar gone)).length=i:=by rw[List.length_map,List.length_take];omega
 unfold curL
 rw[List.set_append_right _ _ (by omega),hl,Nat.sub_self,List.drop_eq_getElem_cons hi,List.set_cons_zero,List.take_add_one,List.getElem?_eq_getElem hi]
 simp only[Option.toList,List.map_append,List.map_cons,List.map_nil,List.append_assoc,List.cons_append,List.nil_append]
theorem zoB (l:List Lk) (gone:List Int):curL l gone l.length=l.map (zar gone):=by
 unfold curL
 rw[List.take_length,List.drop_length,List.append_nil]
theorem zjD {gone:List Int} {t:Int} {L:List Lk} {i:Nat} {g:Int} (hi:i<L.length):zbO gone t (L.drop i) g=if hasI gone L[i].holder=true then
   match L[i].line with
   |[]=>zbO gone t (L.drop (i+1)) g
   |c::rest=>(⟨L[i].name,c,t+g+1,rest⟩::(zbO gone t (L.drop (i+1)) (g+1)).1,(zbO gone t (L.drop (i+1)) (g+1)).2)
  else(L[i]::(zbO gone t (L.drop (i+1)) g).1,(zbO gone t (L.drop (i+1)) g).2):=by
 rw[List.drop_eq_getElem_cons hi,zbO]
 cases L[i].line<;>rfl
theorem zvL (l:List Lk) (hl:l.length<2^30) (hll:∀k∈l,k.line.length<2^30) (gone:List Int) (hg:gone.length<2^30) (t:Int) (ht:0≤t∧t≤2^61):
  CallOK Tryz.prog 107 [.f (al l.length (zah l)), .f (al gone.length (zaw gone)), .f (ai t)]
  (fun r o=>r=[.one (.own 4 (zcs l gone t).1.length (zah (zcs l gone t).1) false),ri (zcs l gone t).2]∧o=[]):=by
 refine zac zak mixed (T:=Ty) (n:=63) Tryz.func107 (c:=Tryz.f107.body.getD .skip) rfl Tryz.results107 Tryz.ntmps107 Tryz.call107 ?_
 simp only[Tryz.f107,Option.getD]
 have hco:=zgX l hl hll
 repeat'(first|refine zq @zad ?_|exact zd @zad|refine zc (hco) ?_|refine zg (hco) ?_|(refine zaa ?_ ?_<;>intro hb)|(refine And.intro ?_ ?_;exact zI)|(refine And.intro ?_ ?_<;>intro hg)|exact zC|fail)
 refine zam (τ:=Nat) (fun i=>⟨[dd,al gone.length (zaw gone),ai t,dd,dd,dd,dd,dd, .one (.own ⟨8,1,1⟩ 0 l.length),dd,dd,dd,dd,dd,dd,dd,ai l.length,ai i,dd,dd,dd,dd,dd,dd,dd,dd,dd,dd,dd,dd,dd,dd,dd,dd,dd,dd,dd,dd,dd,dd,dd,dd,dd,dd,dd,dd,dd,dd,dd,dd,dd,dd,dd,dd,dd,dd,dd,dd,dd,dd,dd,dd,dd],[(14,⟨2,[]⟩),(8,{next:=2,l:=[none,some {e:=1,var:=false,fz:=false,sz:=4,cells:=(zah (curL l gone i)).map C.d}]}),(28,⟨2,[]⟩)]⟩)
  (fun i=>i≤l.length) (fun _=>()) (fun i=>l.length - i) 0
  (Gh.canon [8] [28] [] zK rfl rfl) (Nat.zero_le _) ?_
 intro i hi0 hF K hK
 refine zw ?_
 refine zaa (fun hlt=> ?_) (fun hge=> ?_)
 ·have hi:i<l.length:=by simpa using hlt
  obtain⟨hic,hce⟩:=zrH (gone:=gone) hi
  have hat:=zaK hic
  rw[hce]at hat
  have hat2:(zah (curL l gone i)).drop (i*4+3)= .sl l[i].line.length (zaw l[i].line)::zah ((curL l gone i).drop (i+1)):=by rw[←List.drop_drop,hat];rfl
  have hw:=zal hi (by omega)
  have hwo:=zpl l[i].line gone (hll _ (List.getElem_mem hi)) hg
  have hset:=zcx Lk.enc 4 (fun _=>rfl) hic (k:=3) (by decide) (.sl (zaX l[i].line gone).length (zaw (zaX l[i].line gone))) (zar gone l[i]) (by rw[hce];rfl)
  rw[zmy hi]at hset
  repeat'(first|(with_reducible first|refine zab _ _ ?_|refine zaU ?_|refine zaV ?_)|rw[zat]|simp only[hat2,hset,zfT,←List.map_drop,List.map_cons,zad,zoA hi0,zY,Int.reduceEq,Int.reduceBEq,Int.reduceBNe,Nat.reduceSub,Nat.reduceEqDiff,Nat.reduceAdd,Nat.reduceMul,Nat.reduceLeDiff,Nat.reduceLT,Nat.reduceBEq,reduceCtorEq]|((first|((try refine zaJ ?_);apply zaP)|(apply zaM;intro _));(solve|exact(hwo)|(refine CallOK.le (hwo) ?_;exact zM)|fail);try case hn=>rfl)|refine zay ?_|refine zaa (fun hb=> ?_) (fun hb=> ?_)|(refine And.intro ?_ ?_;exact zI)|refine And.intro (fun hg=> ?_) (fun hg=> ?_)|exact zC|fail)
  exact hK _ (i+1) (Gh.canon [8] [] [] (zk hw) rfl rfl) hi rfl (by omega)
 ·have hi:i=l.length:=by
   have:¬(i:Int)<l.length:=by simpa using hge
   omega
  rw[hi,zoB]
  have hml:(l.map (zar gone)).length=l.length:=List.length_map ..
  repeat'(first|refine zq0 ?_|exact zd0|(refine zaa ?_ ?_<;>intro hb)|(refine And.intro ?_ ?_;exact zI)|(refine And.intro ?_ ?_<;>intro hg)|exact zC|fail)
  refine zam (τ:=List Lk×Nat×Int) (fun q=>⟨[dd,al gone.length (zaw gone),ai t,dd,dd,dd,dd,dd, .one (.own ⟨8,1,1⟩ 0 q.1.length),dd,ai q.2.2,ai q.2.1,dd,dd,dd,dd,dd,dd,dd,dd,dd,dd,dd,dd,dd,dd,dd,dd,dd,dd,dd,dd,dd,dd,dd,dd,dd,dd,dd,dd,dd,dd,dd,dd,dd,dd,dd,dd,dd,dd,dd,dd,dd,dd,dd,dd,dd,dd,dd,dd,dd,dd,dd],[(14,⟨2,[]⟩),(8,{next:=2,l:=[none,some {e:=1,var:=false,fz:=false,sz:=4,cells:=(zah q.1).map C.d}]}),(28,⟨2,[]⟩),(52,⟨2,[]⟩)]⟩)
   (fun q=>q.2.1≤q.1.length∧q.1.length≤l.length∧(0≤q.2.2∧q.2.2+q.1.length≤q.2.1+l.length)∧∀k∈q.1,k.line.length<2^30)
   (fun q=>(q.1.take q.2.1++(zbO gone t (q.1.drop q.2.1) q.2.2).1,(zbO gone t (q.1.drop q.2.1) q.2.2).2)) (fun q=>q.1.length - q.2.1) (l.map (zar gone),0,0)
   (Gh.canon [8] [52] [] zK rfl rfl) ⟨Nat.zero_le _,by simp,by simp, ?_⟩ ?_
  ·intro k hk
   obtain⟨k0,hk0,rfl⟩:=List.mem_map.1 hk
   exact Nat.lt_of_le_of_lt (List.length_filter_le ..) (hll k0 hk0)
  intro⟨L,i,g⟩ ⟨j1,j2,j3,j4⟩ hF K hK
  simp only[List.drop_zero,List.take_zero,List.nil_append]at j1 j2 j3 j4 hF hK⊢
  refine zw ?_
  refine zaa (fun hlt=> ?_) (fun hge=> ?_)
  ·have hi:i<L.length:=by simpa using hlt
   have hat:=zaK hi
   have hat1:(zah L).drop (i*4+1)=iD L[i].holder::iD L[i].token:: .sl L[i].line.length (zaw L[i].line)::zah (L.drop (i+1)):=by rw[←List.drop_drop,hat];rfl
   have hcn:=zbj gone (by omega) L[i].holder
   have hps:=zrG L i hi (by omega) j4 (t+g) (by omega)
   have hwt:IntKind.i64.wrap (t+g)=t+g:=wrap64 (by omega) (by omega)
   have hw:=zal hi (by omega)
   have hdr:=zjD (gone:=gone) (t:=t) (g:=g) hi
   cases hh:hasI gone L[i].holder
   ·rw[hh,if_neg (by simp)]at hdr
    rw[show(gone.any fun x=>L[i].holder==x)=false from hh]at hcn
    repeat'(first|refine zq (I hat1 (I @zmd (I @List.map_cons.{0,0} @zad))) ?_|exact zd (I hat1 (I @zmd (I @List.map_cons.{0,0} @zad)))|refine zc (hcn) ?_|refine zg (hcn) ?_|(refine zaa ?_ ?_<;>intro hb)|(refine And.intro ?_ ?_;exact zI)|(refine And.intro ?_ ?_<;>intro hg)|exact zC|fail)
    exact hK _ (L,i+1,g) (Gh.canon [8] [] [] (zk hw) rfl rfl) ⟨hi,j2,by simp only;omega,j4⟩ (by simp only;rw[hdr,List.take_add_one,List.getElem?_eq_getElem hi];simp only[Option.toList,List.append_assoc,List.cons_append,List.nil_append]) (by simp only;omega)
   ·rw[show(gone.any fun x=>L[i].holder==x)=true from hh]at hcn
    rw[hh,if_pos rfl]at hdr
    cases hline:L[i].line with
    |nil=>
     have hp:zcV L i L[i] (t+g)=(L.eraseIdx i,0):=by unfold zcV;rw[hline]
     rw[hp]at hps
     rw[hline]at hdr hat1
     simp only at hdr
     have hel:=zmm hi
     repeat'(first|refine zq (I hat1 (I hwt (I @zmd (I @List.map_cons.{0,0} @zad)))) ?_|exact zd (I hat1 (I hwt (I @zmd (I @List.map_cons.{0,0} @zad))))|refine zc (hcn) ?_|refine zg (hcn) ?_|(refine zaa ?_ ?_<;>intro hb)|(refine And.intro ?_ ?_;exact zI)|(refine And.intro ?_ ?_<;>intro hg)|exact zC|fail)
     refine zbY (mv:= ?mv1) (lent:= ?le1) 0 ?ha1 (hps) ?hb1 ?hc1
     case ha1=>(try simp only[zB,zaG,Nat.reduceSub,Nat.reduceEqDiff,Nat.reduceAdd,Nat.reduceMul,Nat.reduceLeDiff,Nat.reduceLT,Nat.reduceBEq,reduceCtorEq]);exact rfl
     case hb1=>(try simp only[zB,scM,Nat.reduceSub,Nat.reduceEqDiff,Nat.reduceAdd,Nat.reduceMul,Nat.reduceLeDiff,Nat.reduceLT,Nat.reduceBEq,reduceCtorEq]);repeat'(first|rfl|trivial|omega|with_reducible refine And.intro ?_ ?_)
     show aops _ _ _ _ _ _ _ _
     repeat'(first|refine zq0 ?_|exact zd0|(refine zaa ?_ ?_<;>intro hb)|(refine And.intro ?_ ?_;exact zI)|(refine And.intro ?_ ?_<;>intro hg)|exact zC|fail)
     have hw0:IntKind.i64.wrap ((i:Int)+0)=(i:Int):=by rw[Int.add_zero];exact wrap64 (by omega) (by omega)
     have hg0:IntKind.i64.wrap (g+0)=g:=by rw[Int.add_zero];exact wrap64 (by omega) (by omega)
     refine hK _ (L.eraseIdx i,i,g) (Gh.canon [8] [] [] (zk (I hw0 hg0)) rfl rfl) ⟨by simp only;omega,by simp only;omega,by simp only;omega,fun k hk=>j4 k (List.mem_of_mem_eraseIdx hk)⟩ ?_ (by simp only;omega)
     simp only
     rw[hdr]
     have e1:(L.eraseIdx i).take i=L.take i:=by rw[List.eraseIdx_eq_take_drop_succ,List.take_left' (by rw[List.length_take];omega)]
     have e2:(L.eraseIdx i).drop i=L.drop (i+1):=by rw[List.eraseIdx_eq_take_drop_succ,List.drop_left' (by rw[List.length_take];omega)]
     rw[e1,e2]
    |cons c rest=>
     have hp:zcV L i L[i] (t+g)=(L.set i ⟨L[i].name,c,t+g+1,rest⟩,1):=by unfold zcV;rw[hline]
     rw[hp]at hps
     rw[hline]at hdr hat1
     simp only at hdr
     repeat'(first|refine zq (I hat1 (I hwt (I @zmd (I @List.map_cons.{0,0} @zad)))) ?_|exact zd (I hat1 (I hwt (I @zmd (I @List.map_cons.{0,0} @zad))))|refine zc (hcn) ?_|refine zg (hcn) ?_|(refine zaa ?_ ?_<;>intro hb)|(refine And.intro ?_ ?_;exact zI)|(refine And.intro ?_ ?_<;>intro hg)|exact zC|fail)
     refine zbY (mv:= ?mv2) (lent:= ?le2) 0 ?ha2 (hps) ?hb2 ?hc2
     case ha2=>(try simp only[zB,zaG,Nat.reduceSub,Nat.reduceEqDiff,Nat.reduceAdd,Nat.reduceMul,Nat.reduceLeDiff,Nat.reduceLT,Nat.reduceBEq,reduceCtorEq]);exact rfl
     case hb2=>(try simp only[zB,scM,Nat.reduceSub,Nat.reduceEqDiff,Nat.reduceAdd,Nat.reduceMul,Nat.reduceLeDiff,Nat.reduceLT,Nat.reduceBEq,reduceCtorEq]);repeat'(first|rfl|trivial|omega|with_reducible refine And.intro ?_ ?_)
     show aops _ _ _ _ _ _ _ _
     repeat'(first|refine zq0 ?_|exact zd0|(refine zaa ?_ ?_<;>intro hb)|(refine And.intro ?_ ?_;exact zI)|(refine And.intro ?_ ?_<;>intro hg)|exact zC|fail)
     have hg1:IntKind.i64.wrap (g+1)=g+1:=wrap64 (by omega) (by omega)
     refine hK _ (L.set i ⟨L[i].name,c,t+g+1,rest⟩,i+1,g+1) (Gh.canon [8] [] [] (zk (I hw hg1)) rfl rfl) ⟨by simp only[List.length_set];omega,by simp only[List.length_set];omega,by simp only[List.length_set];omega,fun k hk=> ?_⟩ ?_ (by simp only[List.length_set];omega)
     ·rcases List.mem_or_eq_of_mem_set hk with h|h
      ·exact j4 k h
      ·subst h
       have:=j4 _ (List.getElem_mem hi)
       rw[hline]at this
       simp only[List.length_cons]at this⊢
       omega
     ·simp only
      rw[hdr,zen hi,zfU (by omega)]
      simp only[List.append_assoc,List.cons_append,List.nil_append]
  ·have hi:i=L.length:=by
    have:¬(i:Int)<L.length:=by simpa using hge
    omega
   rw[hi,List.drop_length,List.take_length,show zbO gone t [] g=([],g) from rfl,List.append_nil]at hF
   repeat'(first|refine zq0 ?_|exact zd0|(refine zaa ?_ ?_<;>intro hb)|(refine And.intro ?_ ?_;exact zI)|(refine And.intro ?_ ?_<;>intro hg)|exact zC|fail)
   unfold zcs
   rw[←(Prod.mk.inj hF).1,←(Prod.mk.inj hF).2]
theorem znr {a b:Int}:(a==b)=(b==a):=by rw[Bool.eq_iff_iff,beq_iff_eq,beq_iff_eq];exact eq_comm
theorem zwG (l:List Int) (hl:l.length<2^62) (x:Int):CallOK Tryz.prog 132 [.f (al l.length (zaw l)), .f (ai x)] (fun r o=>r=[rb (hasI l x)]∧o=[]):=by
 refine zac zak mixed (T:=Ty) (n:=18) Tryz.func132 (c:=Tryz.f132.body.getD .skip) rfl Tryz.results132 Tryz.ntmps132 Tryz.call132 ?_
 simp only[Tryz.f132,Option.getD]
 repeat'(first|refine zq0 ?_|exact zd0|(refine zaa ?_ ?_<;>intro hb)|(refine And.intro ?_ ?_;exact zI)|(refine And.intro ?_ ?_<;>intro hg)|exact zC|fail)
 refine zam (τ:=Nat) (fun i=>⟨[al l.length (zaw l),ai x,dd,dd,dd,ai i,dd,dd,dd,dd,dd,dd,dd,dd,dd,dd,dd,dd],[]⟩)
  (fun i=>i≤l.length) (fun i=>hasI (l.drop i) x) (fun i=>l.length - i) 0
  (Gh.canon [] [] [] zK rfl rfl) (Nat.zero_le _) ?_
 intro i hi0 hF K hK
 rw[List.drop_zero]at hF
 refine zw ?_
 refine zaa (fun hlt=> ?_) (fun hge=> ?_)
 ·have hi:i<l.length:=by simpa using hlt
  have hat:=zce hi
  have hw:=zal hi hl
  have hq:hasI (l.drop i) x=(l[i]==x||hasI (l.drop (i+1)) x):=by rw[List.drop_eq_getElem_cons hi];unfold hasI;rw[List.any_cons,znr]
  rw[hq]at hF
  repeat'(first|refine zq (I hat (I @zaf zca)) ?_|exact zd (I hat (I @zaf zca))|(refine zaa ?_ ?_<;>intro hb)|(refine And.intro ?_ ?_;exact zI)|(refine And.intro ?_ ?_<;>intro hg)|exact zC|fail)
  ·rw[hb]at hF
   rw[←hF];rfl
  ·rw[hb]at hq
   exact hK _ (i+1) (Gh.canon [] [] [] (zk hw) rfl rfl) hi (by rw[hq];rfl) (by omega)
 ·have hi:i=l.length:=by
   have:¬(i:Int)<l.length:=by simpa using hge
   omega
  rw[hi,List.drop_length]at hF
  rw[←hF]
  repeat'(first|refine zq0 ?_|exact zd0|(refine zaa ?_ ?_<;>intro hb)|(refine And.intro ?_ ?_;exact zI)|(refine And.intro ?_ ?_<;>intro hg)|exact zC|fail)
  rfl
abbrev zwH (x:Sess):RF:= .agg [.d (iD x.client), .d (iD x.num), .d (iD x.renewed)]
theorem zer (l:List Sess) (hl:l.length<2^62) (c:Int):CallOK Tryz.prog 62 [.f (al l.length (zaF l)), .f (ai c)]
  (fun r o=>r=[zwH ((zaH l c).getD zey),rb (zaH l c).isSome]∧o=[]):=by
 refine zac zak mixed (T:=Ty) (n:=25) Tryz.func62 (c:=Tryz.f62.body.getD .skip) rfl Tryz.results62 Tryz.ntmps62 Tryz.call62 ?_
 simp only[Tryz.f62,Option.getD]
 repeat'(first|refine zq0 ?_|exact zd0|(refine zaa ?_ ?_<;>intro hb)|(refine And.intro ?_ ?_;exact zI)|(refine And.intro ?_ ?_<;>intro hg)|exact zC|fail)
 refine zam (τ:=Nat) (fun i=>⟨[al l.length (zaF l),ai c,dd,dd, .one (.ptr ⟨4,0,1⟩ 0),dd,ai i,dd,dd,dd,dd,dd,dd,dd,dd,dd,dd,dd,dd,dd,dd,dd,dd,dd,dd],[(4,{next:=2,l:=[some {e:=1,var:=true,fz:=false,sz:=0,cells:=[di 0,di 0,di 0]},none,none,none]})]⟩)
  (fun i=>i≤l.length) (fun i=>zaH (l.drop i) c) (fun i=>l.length - i) 0
  (Gh.canon [4] [] [] zK rfl rfl) (Nat.zero_le _) ?_
 intro i hi0 hF K hK
 rw[List.drop_zero]at hF
 refine zw ?_
 refine zaa (fun hlt=> ?_) (fun hge=> ?_)
 ·have hi:i<l.length:=by simpa using hlt
  have hat:=zbv hi
  have hw:=zal hi hl
  have hq:zaH (l.drop i) c=if(l[i].client==c)=true then some l[i]else zaH (l.drop (i+1)) c:=by
   unfold zaH
   rw[List.drop_eq_getElem_cons hi,List.find?_cons]
   cases l[i].client==c<;>rfl
  rw[hq]at hF
  repeat'(first|refine zq (I hat (I @zai zca)) ?_|exact zd (I hat (I @zai zca))|(refine zaa ?_ ?_<;>intro hb)|(refine And.intro ?_ ?_;exact zI)|(refine And.intro ?_ ?_<;>intro hg)|exact zC|fail)
  ·rw[if_pos hb]at hF
   rw[←hF];rfl
  ·rw[if_neg (by rw[hb];simp)]at hq
   exact hK _ (i+1) (Gh.canon [4] [] [] (zk hw) rfl rfl) hi hq.symm (by omega)
 ·have hi:i=l.length:=by
   have:¬(i:Int)<l.length:=by simpa using hge
   omega
  rw[hi,List.drop_length]at hF
  rw[←hF]
  repeat'(first|refine zq0 ?_|exact zd0|(refine zaa ?_ ?_<;>intro hb)|(refine And.intro ?_ ?_;exact zI)|(refine And.intro ?_ ?_<;>intro hg)|exact zC|fail)
  rfl
theorem ziu (l:List Lk) (hl:l.length<2^62) (s:ByteArray):CallOK Tryz.prog 180 [.f (al l.length (zah l)), .f (ast s)] (fun r o=>r=[ri (zcT (isL s) l 0)]∧o=[]):=by
 refine zac zak mixed (T:=Ty) (n:=20) Tryz.func180 (c:=Tryz.f180.body.getD .skip) rfl Tryz.results180 Tryz.ntmps180 Tryz.call180 ?_
 simp only[Tryz.f180,Option.getD]
 repeat'(first|refine zq0 ?_|exact zd0|(refine zaa ?_ ?_<;>intro hb)|(refine And.intro ?_ ?_;exact zI)|(refine And.intro ?_ ?_<;>intro hg)|exact zC|fail)
 refine zam (τ:=Nat) (fun i=>⟨[al l.length (zah l),ast s,dd,dd,dd,ai i,dd,dd,dd,dd,dd,dd,dd,dd,dd,dd,dd,dd,dd,dd],[]⟩)
  (fun i=>i≤l.length) (fun i=>zcT (isL s) (l.drop i) i) (fun i=>l.length - i) 0
  (Gh.canon [] [] [] zK rfl rfl) (Nat.zero_le _) ?_
 intro i hi0 hF K hK
 rw[List.drop_zero]at hF
 refine zw ?_
 refine zaa (fun hlt=> ?_) (fun hge=> ?_)
 ·have hi:i<l.length:=by simpa using hlt
  have hat:=zaK hi
  have hw:=zal hi hl
  have hq:zcT (isL s) (l.drop i) i=if(l[i].name.toList==s.toList)=true then(i:Int)else zcT (isL s) (l.drop (i+1)) ((i+1:Nat):Int):=by
   rw[List.drop_eq_getElem_cons hi,zcT];rfl
  rw[hq]at hF
  repeat'(first|refine zq (I hat (I @zad zca)) ?_|exact zd (I hat (I @zad zca))|(refine zaa ?_ ?_<;>intro hb)|(refine And.intro ?_ ?_;exact zI)|(refine And.intro ?_ ?_<;>intro hg)|exact zC|fail)
  ·rw[if_pos hb]at hF
   have hF:(i:Int)=zcT (isL s) l 0:=hF
   rw[←hF]
  ·rw[if_neg (by rw[hb];simp)]at hq
   exact hK _ (i+1) (Gh.canon [] [] [] (zk hw) rfl rfl) hi hq.symm (by omega)
 ·have hi:i=l.length:=by
   have:¬(i:Int)<l.length:=by simpa using hge
   omega
  rw[hi,List.drop_length]at hF
  have hF:(-1:Int)=zcT (isL s) l 0:=hF
  rw[←hF]
  repeat'(first|refine zq0 ?_|exact zd0|(refine zaa ?_ ?_<;>intro hb)|(refine And.intro ?_ ?_;exact zI)|(refine And.intro ?_ ?_<;>intro hg)|exact zC|fail)
end Go.Proofs.YtbpmcjeeeiffhaaGreat
