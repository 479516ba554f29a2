import Derived.Test.YtbpmcjeeeiffhaaGreatK8
import Derived.Test.YtbpmcjeeeiffhaaGreatW
namespace Go.Proofs.YtbpmcjeeeiffhaaGreat
open Go.Pk
set_option maxRecDepth 100000
set_option linter.unusedSimpArgs false
set_option linter.unusedVariables false
theorem ziw (v a:Int):CallOK Tryz.prog 78 [.f (ai v), .f (ai a)] (fun r o=>r=[rb (decide (v≥a)&&decide (v≤2305843009213693952))]∧o=[]):=by
 refine zac zak mixed (T:=Ty) (n:=12) Tryz.func78 (c:=Tryz.f78.body.getD .skip) rfl Tryz.results78 Tryz.ntmps78 Tryz.call78 ?_
 simp only[Tryz.f78,Option.getD]
 repeat'(first|refine zq0 ?_|exact zd0|(refine zaa ?_ ?_<;>intro hb)|(refine And.intro ?_ ?_;exact zI)|(refine And.intro ?_ ?_<;>intro hg)|exact zC|fail)
theorem zpB (c:Int):CallOK Tryz.prog 129 [.f (ai c)] (fun r o=>r=[rb (isClient c)]∧o=[]):=by
 refine zac zak mixed (T:=Ty) (n:=9) Tryz.func129 (c:=Tryz.f129.body.getD .skip) rfl Tryz.results129 Tryz.ntmps129 Tryz.call129 ?_
 simp only[Tryz.f129,Option.getD]
 repeat'(first|refine zq0 ?_|exact zd0|(refine zaa ?_ ?_<;>intro hb)|(refine And.intro ?_ ?_;exact zI)|(refine And.intro ?_ ?_<;>intro hg)|exact zC|fail)
 rfl
theorem zix (l:List Int) (hl:l.length<2^62) (c:Int):CallOK Tryz.prog 181 [.f (al l.length (zaw l)), .f (ai c)] (fun r o=>r=[ri (zim l c),rb (hasI l c)]∧o=[]):=by
 refine zac zak mixed (T:=Ty) (n:=20) Tryz.func181 (c:=Tryz.f181.body.getD .skip) rfl Tryz.results181 Tryz.ntmps181 Tryz.call181 ?_
 simp only[Tryz.f181,Option.getD]
 have hh:hasI l c=decide (zcT (fun x=>c==x) l 0≥0):=(zfn _ l).symm
 rw[hh]
 unfold zim
 repeat'(first|refine zq0 ?_|exact zd0|(refine zaa ?_ ?_<;>intro hb)|(refine And.intro ?_ ?_;exact zI)|(refine And.intro ?_ ?_<;>intro hg)|exact zC|fail)
 refine zam (τ:=Nat) (fun i=>⟨[al l.length (zaw l),ai c,dd,dd,dd,dd,ai i,dd,dd,dd,dd,dd,dd,dd,dd,dd,dd,dd,dd,dd],[]⟩)
  (fun i=>i≤l.length) (fun i=>zcT (fun x=>c==x) (l.drop i) i) (fun i=>l.length - i) 0
  (Gh.canon [] [] [] zK rfl rfl) (Nat.zero_le _) ?_
 intro i hi0 hF K hK
 rw[List.drop_zero]at hF
 refine zw ?_
 refine zaa (fun hlt=> ?_) (fun hge=> ?_)
 ·have hi:i<l.length:=by simpa using hlt
  have hat:=zce hi
  have hw:=zal hi hl
  have hq:zcT (fun x=>c==x) (l.drop i) i=if(l[i]==c)=true then(i:Int)else zcT (fun x=>c==x) (l.drop (i+1)) ((i+1:Nat):Int):=by
   rw[List.drop_eq_getElem_cons hi,zcT,znr];rfl
  rw[hq]at hF
  repeat'(first|refine zq (I hat (I @zaf zca)) ?_|exact zd (I hat (I @zaf zca))|(refine zaa ?_ ?_<;>intro hb)|(refine And.intro ?_ ?_;exact zI)|(refine And.intro ?_ ?_<;>intro hg)|exact zC|fail)
  ·rw[if_pos hb]at hF
   have hF:(i:Int)=zcT (fun x=>c==x) l 0:=hF
   rw[←hF,if_pos (by omega)]
   simp
  ·rw[if_neg (by rw[hb];simp)]at hq
   exact hK _ (i+1) (Gh.canon [] [] [] (zk hw) rfl rfl) hi hq.symm (by omega)
 ·have hi:i=l.length:=by
   have:¬(i:Int)<l.length:=by simpa using hge
   omega
  rw[hi,List.drop_length]at hF
  have hF:(-1:Int)=zcT (fun x=>c==x) l 0:=hF
  rw[←hF]
  repeat'(first|refine zq0 ?_|exact zd0|(refine zaa ?_ ?_<;>intro hb)|(refine And.intro ?_ ?_;exact zI)|(refine And.intro ?_ ?_<;>intro hg)|exact zC|fail)
  rfl
theorem ziy (l gone:List Int) (hl:l.length<2^30) (hg:gone.length<2^30):CallOK Tryz.prog 178 [.f (al l.length (zaw l)), .f (al gone.length (zaw gone))] (fun r o=>r=[zfT (zaX l gone)]∧o=[]):=by
 refine CallOK.nil ?_
 refine zac zak mixed (T:=Ty) (n:=28) Tryz.func178 (c:=Tryz.f178.body.getD .skip) rfl Tryz.results178 Tryz.ntmps178 Tryz.call178 ?_
 simp only[Tryz.f178,Option.getD]
 repeat'(first|refine zq0 ?_|exact zd0|(refine zaa ?_ ?_<;>intro hb)|(refine And.intro ?_ ?_;exact zI)|(refine And.intro ?_ ?_<;>intro hg)|exact zC|fail)
 refine zam (τ:=Nat×List Int) (fun t=>⟨[al l.length (zaw l),al gone.length (zaw gone),dd,dd,dd, .one (.own ⟨5,1,1⟩ 0 t.2.length),ai t.1,dd,dd,dd,dd,dd,dd,dd,dd,dd,dd,dd,dd,dd,dd,dd,dd,dd,dd,dd,dd,dd],[(5,{next:=2,l:=[none,some {e:=1,var:=false,fz:=false,sz:=1,cells:=(zaw t.2).map C.d}]}),(25,⟨2,[]⟩),(26,⟨2,[]⟩)]⟩)
  (fun t=>t.1≤l.length∧t.2.length≤t.1) (fun t=>t.2++zaX (l.drop t.1) gone) (fun t=>l.length - t.1) (0,[])
  ((Gh.nil (i:=5) (s:=5) (sz:=1) rfl).trans (Gh.canon [5] [25,26] [] zK rfl rfl)) ⟨Nat.zero_le _,Nat.zero_le _⟩ ?_
 intro⟨i,acc⟩ ⟨hi0,hac⟩ hF K hK
 simp only[List.drop_zero,List.nil_append]at hi0 hac hF hK⊢
 refine zw ?_
 refine zaa (fun hlt=> ?_) (fun hge=> ?_)
 ·have hi:i<l.length:=by simpa using hlt
  have hat:=zce hi
  have hw:=zal hi (by omega)
  have hin:=zwG gone (by omega) l[i]
  have hFs:zaX (l.drop i) gone=if(!hasI gone l[i])=true then l[i]::zaX (l.drop (i+1)) gone else zaX (l.drop (i+1)) gone:=by
   unfold zaX
   rw[List.drop_eq_getElem_cons hi,List.filter_cons]
  cases hb:(!hasI gone l[i])
  ·rw[hb,if_neg (by simp)]at hFs
   repeat'(first|refine zq (I hat (I hb (I @zaf zca))) ?_|exact zd (I hat (I hb (I @zaf zca)))|refine zc (hin) ?_|refine zg (hin) ?_|(refine zaa ?_ ?_<;>intro hb)|(refine And.intro ?_ ?_;exact zI)|(refine And.intro ?_ ?_<;>intro hg)|exact zC|fail)
   exact hK _ (i+1,acc) (Gh.canon [5] [] [] (zk hw) rfl rfl) ⟨hi,by simp only;omega⟩ (by simp only;rw[hFs]) (by simp only;omega)
  ·rw[hb,if_pos rfl]at hFs
   repeat'(first|refine zq (I hat (I hb (I @zaf zca))) ?_|exact zd (I hat (I hb (I @zaf zca)))|refine zc (hin) ?_|refine zg (hin) ?_|(refine zaa ?_ ?_<;>intro hb)|(refine And.intro ?_ ?_;exact zI)|(refine And.intro ?_ ?_<;>intro hg)|exact zC|fail)
   exact hK _ (i+1,acc++[l[i]]) (Gh.canon [5] [] [] (zk (I hw (I @List.length_append.{0} @List.length_singleton.{0}))) rfl (by simp only[List.length_append,List.length_singleton];rw[ze6];rfl)) ⟨hi,by simp only[List.length_append,List.length_singleton];omega⟩ (by simp only[List.append_assoc,List.singleton_append];rw[hFs]) (by simp only;omega)
 ·have hi:i=l.length:=by
   have:¬(i:Int)<l.length:=by simpa using hge
   omega
  rw[hi,List.drop_length]at hF
  have hF:acc++[]=zaX l gone:=hF
  rw[←hF,List.append_nil]
  repeat'(first|refine zq0 ?_|exact zd0|(refine zaa ?_ ?_<;>intro hb)|(refine And.intro ?_ ?_;exact zI)|(refine And.intro ?_ ?_<;>intro hg)|exact zC|fail)
  simp[ziK,zaA,zfT]
abbrev zvO (l:List Sess) (now lease:Int):List Int:=(l.filter fun s=>decide (now - s.renewed≥lease)).map Sess.client
theorem zvP (l:List Sess) (hl:l.length<2^30) (now lease:Int) (hr:∀s∈l,0≤s.renewed∧s.renewed≤zbg) (hn:0≤now∧now≤zbg):CallOK Tryz.prog 97 [.f (al l.length (zaF l)), .f (ai now), .f (ai lease)] (fun r o=>r=[zfT (zkG l now lease)]∧o=[]):=by
 refine CallOK.nil ?_
 refine zac zak mixed (T:=Ty) (n:=41) Tryz.func97 (c:=Tryz.f97.body.getD .skip) rfl Tryz.results97 Tryz.ntmps97 Tryz.call97 ?_
 simp only[Tryz.f97,Option.getD]
 have hg1:=ziw now 0
 have hg2:=ziw lease 0
 rw[show(decide (now≥0)&&decide (now≤2305843009213693952))=true by have:zbg=2305843009213693952:=rfl;simp;omega]at hg1
 cases hle:(decide (lease≥0)&&decide (lease≤2305843009213693952))
 ·rw[hle]at hg2
  have hd:zkG l now lease=[]:=by
   unfold zkG
   rw[if_pos]
   have:zbg=2305843009213693952:=rfl
   simp at hle⊢
   omega
  rw[hd]
  repeat'(first|refine zq0 ?_|exact zd0|refine zc (hg1) ?_|refine zg (hg1) ?_|refine zc (hg2) ?_|refine zg (hg2) ?_|(refine zaa ?_ ?_<;>intro hb)|(refine And.intro ?_ ?_;exact zI)|(refine And.intro ?_ ?_<;>intro hg)|exact zC|fail)
  simp[ziK,zaA,zfT]
 rw[hle]at hg2
 have hd:zkG l now lease=zvO l now lease:=by
  unfold zkG
  rw[if_neg]
  have:zbg=2305843009213693952:=rfl
  simp at hle⊢
  omega
 rw[hd]
 repeat'(first|refine zq0 ?_|exact zd0|refine zc (hg1) ?_|refine zg (hg1) ?_|refine zc (hg2) ?_|refine zg (hg2) ?_|(refine zaa ?_ ?_<;>intro hb)|(refine And.intro ?_ ?_;exact zI)|(refine And.intro ?_ ?_<;>intro hg)|exact zC|fail)
 refine zam (τ:=Nat×List Int) (fun t=>⟨[al l.length (zaF l),ai now,ai lease,dd,dd,dd,dd, .one (.own ⟨7,1,1⟩ 0 t.2.length),ai t.1,dd,dd,dd,dd,dd,dd,dd,dd,dd,dd,dd,dd,dd,dd,dd,dd,dd,dd,dd,dd,dd,dd,dd,dd,dd,dd,dd,dd,dd,dd,dd,dd],[(7,{next:=2,l:=[none,some {e:=1,var:=false,fz:=false,sz:=1,cells:=(zaw t.2).map C.d}]}),(38,⟨2,[]⟩),(39,⟨2,[]⟩)]⟩)
  (fun t=>t.1≤l.length∧t.2.length≤t.1) (fun t=>t.2++zvO (l.drop t.1) now lease) (fun t=>l.length - t.1) (0,[])
  ((Gh.nil (i:=7) (s:=7) (sz:=1) rfl).trans (Gh.canon [7] [38,39] [] zK rfl rfl)) ⟨Nat.zero_le _,Nat.zero_le _⟩ ?_
 intro⟨i,acc⟩ ⟨hi0,hac⟩ hF K hK
 simp only[List.drop_zero,List.nil_append]at hi0 hac hF hK⊢
 refine zw ?_
 refine zaa (fun hlt=> ?_) (fun hge=> ?_)
 ·have hi:i<l.length:=by simpa using hlt
  have hat:=zbv hi
  have hw:=zal hi (by omega)
  have hrb:=hr _ (List.getElem_mem hi)
  have hH:zbg=2305843009213693952:=rfl
  have hw2:IntKind.i64.wrap (now - l[i].renewed)=now - l[i].renewed:=wrap64 (by omega) (by omega)
  have hFs:zvO (l.drop i) now lease=if(decide (now - l[i].renewed≥lease))=true then l[i].client::zvO (l.drop (i+1)) now lease else zvO (l.drop (i+1)) now lease:=by
   unfold zvO
   rw[List.drop_eq_getElem_cons hi,List.filter_cons]
   split<;>simp
  cases hb:(decide (now - l[i].renewed≥lease))
  ·rw[hb,if_neg (by simp)]at hFs
   repeat'(first|refine zq (I hat (I hb (I hw2 (I @zai zca)))) ?_|exact zd (I hat (I hb (I hw2 (I @zai zca))))|(refine zaa ?_ ?_<;>intro hb)|(refine And.intro ?_ ?_;exact zI)|(refine And.intro ?_ ?_<;>intro hg)|exact zC|fail)
   exact hK _ (i+1,acc) (Gh.canon [7] [] [] (zk hw) rfl rfl) ⟨hi,by simp only;omega⟩ (by simp only;rw[hFs]) (by simp only;omega)
  ·rw[hb,if_pos rfl]at hFs
   repeat'(first|refine zq (I hat (I hb (I hw2 (I @zai zca)))) ?_|exact zd (I hat (I hb (I hw2 (I @zai zca))))|(refine zaa ?_ ?_<;>intro hb)|(refine And.intro ?_ ?_;exact zI)|(refine And.intro ?_ ?_<;>intro hg)|exact zC|fail)
   exact hK _ (i+1,acc++[l[i].client]) (Gh.canon [7] [] [] (zk (I hw (I @List.length_append.{0} @List.length_singleton.{0}))) rfl (by simp only[List.length_append,List.length_singleton];rw[ze6];rfl)) ⟨hi,by simp only[List.length_append,List.length_singleton];omega⟩ (by simp only[List.append_assoc,List.singleton_append];rw[hFs]) (by simp only;omega)
 ·have hi:i=l.length:=by
   have:¬(i:Int)<l.length:=by simpa using hge
   omega
  rw[hi,List.drop_length]at hF
  have hF:acc++[]=zvO l now lease:=hF
  rw[←hF,List.append_nil]
  repeat'(first|refine zq0 ?_|exact zd0|(refine zaa ?_ ?_<;>intro hb)|(refine And.intro ?_ ?_;exact zI)|(refine And.intro ?_ ?_<;>intro hg)|exact zC|fail)
  simp[ziK,zaA,zfT]
theorem ztA (l:List Lk) (hl:l.length<2^30) (c:Int):CallOK Tryz.prog 182 [.f (al l.length (zah l)), .f (ai c)] (fun r o=>r=[.one (.own 2 (za7 l c).length (zaD (za7 l c)) false)]∧o=[]):=by
 refine CallOK.nil ?_
 refine zac zak mixed (T:=Ty) (n:=35) Tryz.func182 (c:=Tryz.f182.body.getD .skip) rfl Tryz.results182 Tryz.ntmps182 Tryz.call182 ?_
 simp only[Tryz.f182,Option.getD]
 repeat'(first|refine zq0 ?_|exact zd0|(refine zaa ?_ ?_<;>intro hb)|(refine And.intro ?_ ?_;exact zI)|(refine And.intro ?_ ?_<;>intro hg)|exact zC|fail)
 refine zam (τ:=Nat×List Grant) (fun t=>⟨[al l.length (zah l),ai c,dd,dd,dd, .one (.own ⟨5,1,1⟩ 0 t.2.length),ai t.1,dd,dd,dd,dd,dd,dd,dd,dd,dd,dd,dd,dd,dd,dd,dd,dd,dd,dd,dd,dd,dd,dd,dd,dd,dd,dd,dd,dd],[(5,{next:=2,l:=[none,some {e:=1,var:=false,fz:=false,sz:=2,cells:=(zaD t.2).map C.d}]}),(32,⟨2,[]⟩),(33,⟨2,[]⟩)]⟩)
  (fun t=>t.1≤l.length∧t.2.length≤t.1) (fun t=>t.2++za7 (l.drop t.1) c) (fun t=>l.length - t.1) (0,[])
  ((Gh.nil (i:=5) (s:=5) (sz:=2) rfl).trans (Gh.canon [5] [32,33] [] zK rfl rfl)) ⟨Nat.zero_le _,Nat.zero_le _⟩ ?_
 intro⟨i,acc⟩ ⟨hi0,hac⟩ hF K hK
 simp only[List.drop_zero,List.nil_append]at hi0 hac hF hK⊢
 refine zw ?_
 refine zaa (fun hlt=> ?_) (fun hge=> ?_)
 ·have hi:i<l.length:=by simpa using hlt
  have hat:=zaK hi
  have hw:=zal hi (by omega)
  have hFs:za7 (l.drop i) c=if(l[i].holder==c)=true then⟨l[i].name,l[i].token⟩::za7 (l.drop (i+1)) c else za7 (l.drop (i+1)) c:=by
   unfold za7
   rw[List.drop_eq_getElem_cons hi,List.filter_cons]
   split<;>simp
  cases hb:(l[i].holder==c)
  ·rw[hb,if_neg (by simp)]at hFs
   repeat'(first|refine zq (I hat (I hb (I @zad zca))) ?_|exact zd (I hat (I hb (I @zad zca)))|(refine zaa ?_ ?_<;>intro hb)|(refine And.intro ?_ ?_;exact zI)|(refine And.intro ?_ ?_<;>intro hg)|exact zC|fail)
   exact hK _ (i+1,acc) (Gh.canon [5] [] [] (zk hw) rfl rfl) ⟨hi,by simp only;omega⟩ (by simp only;rw[hFs]) (by simp only;omega)
  ·rw[hb,if_pos rfl]at hFs
   repeat'(first|refine zq (I hat (I hb (I @zad zca))) ?_|exact zd (I hat (I hb (I @zad zca)))|(refine zaa ?_ ?_<;>intro hb)|(refine And.intro ?_ ?_;exact zI)|(refine And.intro ?_ ?_<;>intro hg)|exact zC|fail)
   exact hK _ (i+1,acc++[⟨l[i].name,l[i].token⟩]) (Gh.canon [5] [] [] (zk (I hw (I @List.length_append.{0} @List.length_singleton.{0}))) rfl (by simp only[List.length_append,List.length_singleton];rw[zeD];rfl)) ⟨hi,by simp only[List.length_append,List.length_singleton];omega⟩ (by simp only[List.append_assoc,List.singleton_append];rw[hFs]) (by simp only;omega)
 ·have hi:i=l.length:=by
   have:¬(i:Int)<l.length:=by simpa using hge
   omega
  rw[hi,List.drop_length]at hF
  have hF:acc++[]=za7 l c:=hF
  rw[←hF,List.append_nil]
  repeat'(first|refine zq0 ?_|exact zd0|(refine zaa ?_ ?_<;>intro hb)|(refine And.intro ?_ ?_;exact zI)|(refine And.intro ?_ ?_<;>intro hg)|exact zC|fail)
  simp[ziK,zaA]
theorem zmG {x:Value}:normD (.raw x)= .raw x:=rfl
structure LkD where
 k:Lk
 x:D
abbrev LkD.enc (m:LkD):List D:=[sD m.k.name,iD m.k.holder,iD m.k.token,m.x]
abbrev zdQ (l:List LkD):List D:=l.flatMap LkD.enc
def plain (k:Lk):LkD:=⟨k, .sl k.line.length (zaw k.line)⟩
theorem ziz {l:List Lk}:zdQ (l.map plain)=zah l:=by
 induction l with
 |nil=>rfl
 |cons k l ih=>rw[List.map_cons,zdQ,List.flatMap_cons,zah,List.flatMap_cons];exact congrArg (_++·) ih
theorem zoF {l:List LkD} {i:Nat} (hi:i<l.length):(zdQ l).drop (i*4)=l[i].enc++(zdQ (l.drop (i+1))):=zdI _ 4 l i hi fun _=>rfl
theorem zbH {l:List LkD}:(zdQ l).length=l.length*4:=zcZ _ 4 (fun _=>rfl) l
theorem zjG {l:List LkD}:(zdQ l).take (l.length*4)=zdQ l:=zdg LkD.enc 4 (fun _=>rfl) l
theorem zjH {l:List LkD} {m:LkD}:zdQ (l++[m])=zdQ l++m.enc:=by simp[zdQ]
theorem zfp {l:List Lk} {m:Lk}:zah (l++[m])=zah l++m.enc:=by simp[zah]
theorem zhH (l:List Lk) (hl:l.length<2^30) (hll:∀k∈l,k.line.length<2^30):CallOK Tryz.prog 9 [.f (al l.length (zah l))] (fun r o=>r=[.one (.own 4 l.length (zah l) false)]∧o=[]):=by
 refine CallOK.nil ?_
 refine zac zak mixed (T:=Ty) (n:=26) Tryz.func9 (c:=Tryz.f9.body.getD .skip) rfl Tryz.results9 Tryz.ntmps9 Tryz.call9 ?_
 simp only[Tryz.f9,Option.getD]
 repeat'(first|refine zq0 ?_|exact zd0|(refine zaa ?_ ?_<;>intro hb)|(refine And.intro ?_ ?_;exact zI)|(refine And.intro ?_ ?_<;>intro hg)|exact zC|fail)
 refine zam (τ:=Nat) (fun i=>⟨[al l.length (zah l),dd,dd, .one (.own ⟨3,1,1⟩ 0 i),ai i,dd,dd,dd,dd,dd,dd,dd,dd,dd,dd,dd,dd,dd,dd,dd,dd,dd,dd,dd,dd,dd],[(3,{next:=2,l:=[none,some {e:=1,var:=false,fz:=false,sz:=4,cells:=(zah (l.take i)).map C.d}]}),(5,⟨2,[]⟩),(16,⟨2,[]⟩),(19,⟨2,[]⟩),(23,⟨2,[]⟩),(24,⟨2,[]⟩)]⟩)
  (fun i=>i≤l.length) (fun _=>()) (fun i=>l.length - i) 0
  ((Gh.nil (i:=3) (s:=3) (sz:=4) rfl).trans (Gh.canon [3] [5,16,19,23,24] [] zK rfl rfl)) (Nat.zero_le _) ?_
 intro i hi0 hF K hK
 refine zw ?_
 refine zaa (fun hlt=> ?_) (fun hge=> ?_)
 ·have hi:i<l.length:=by simpa using hlt
  have hat:=zaK hi
  have hw:=zal hi (by omega)
  have hlk:=hll _ (List.getElem_mem hi)
  have h1:(l[i].line.length*8≤2^47)=True:=eq_true (by omega)
  have htl:(l.take i).length=i:=by rw[List.length_take];omega
  have htk:=zas (l:=l.take i)
  rw[htl]at htk
  have hsn:zah (l.take i)++[sD l[i].name,iD l[i].holder,iD l[i].token, .sl l[i].line.length (zaw l[i].line)]=zah (l.take (i+1)):=by
   rw[←List.take_append_getElem hi,zfp]
  repeat'(first|refine zq (I hat (I @zad (I @zaf (I h1 (I htl (I htk (I hsn zca))))))) ?_|exact zd (I hat (I @zad (I @zaf (I h1 (I htl (I htk (I hsn zca)))))))|(refine zaa ?_ ?_<;>intro hb)|(refine And.intro ?_ ?_;exact zI)|(refine And.intro ?_ ?_<;>intro hg)|exact zC|fail)
  exact hK _ (i+1) (Gh.canon [3] [] [] (zk hw) rfl rfl) hi rfl (by omega)
 ·have hi:i=l.length:=by
   have:¬(i:Int)<l.length:=by simpa using hge
   omega
  subst hi
  repeat'(first|refine zq @List.take_length.{0} ?_|exact zd @List.take_length.{0}|(refine zaa ?_ ?_<;>intro hb)|(refine And.intro ?_ ?_;exact zI)|(refine And.intro ?_ ?_<;>intro hg)|exact zC|fail)
  show zaA _ _∧True
  simp[zaA]
def zjI (l:List Lk) (i:Nat) (x:D):List LkD:=l.zipIdx.map fun p=>if p.2=i then⟨p.1,x⟩else plain p.1
theorem zba {l:List Lk} {i:Nat} {x:D}:(zjI l i x).length=l.length:=by simp[zjI]
theorem zet {l:List Lk} {i j:Nat} {x:D} (hj:j<l.length):(zjI l i x)[j]'(by rw[zba];exact hj)=if j=i then⟨l[j],x⟩else plain l[j]:=by simp[zjI]
theorem zwK {l:List Lk} {i:Nat} {x:D}:(zjI l i x).map LkD.k=l:=by
 refine List.ext_getElem (by simp[zba]) fun j h1 h2=> ?_
 rw[List.getElem_map,zet h2]
 split<;>rfl
set_option maxHeartbeats 4000000 in
theorem zrY (l:List Lk) (hl:l.length<2^30) (hll:∀k∈l,k.line.length<2^30) (i0:Nat) (hi0:i0<l.length):
  zrb Tryz.prog 9 [.f (al l.length (zah l))] (fun bs r o=>∃x,(∃a cap,x=Value.slice a l[i0].line.length cap)∧bs=[.val x]∧r=[.one (.own 4 l.length (zdQ (zjI l i0 (.raw x))) false)]∧o=[[.own 1 l[i0].line.length (zaw l[i0].line) false]]):=by
 refine zsx zak mixed (T:=Ty) (n:=26) Tryz.func9 (c:=Tryz.f9.body.getD .skip) (q:=1000) (n2:=l[i0].line.length) rfl Tryz.results9 Tryz.ntmps9 Tryz.call9 (R:=fun x=>_) ?_
 simp only[Tryz.f9,Option.getD]
 repeat'(first|refine zq0 ?_|exact zd0|(refine zaa ?_ ?_<;>intro hb)|(refine And.intro ?_ ?_;exact zI)|(refine And.intro ?_ ?_<;>intro hg)|exact zC|fail)
 refine zam (τ:=Nat×Option (Option Addr×Nat)) (fun t=>match t.2 with
  |none=>⟨[al l.length (zah l),dd,dd, .one (.own ⟨3,1,1⟩ 0 t.1),ai t.1,dd,dd,dd,dd,dd,dd,dd,dd,dd,dd,dd,dd,dd,dd,dd,dd,dd,dd,dd,dd,dd],[(3,{next:=2,l:=[none,some {e:=1,var:=false,fz:=false,sz:=4,cells:=(zah (l.take t.1)).map C.d}]}),(5,⟨2,[]⟩),(16,⟨2,[]⟩),(19,⟨2,[]⟩),(23,⟨2,[]⟩),(24,⟨2,[]⟩)]⟩
  |some x=>⟨[al l.length (zah l), .one (.lk ⟨1000,1,0⟩ l[i0].line.length (.slice x.1 l[i0].line.length x.2)),dd, .one (.own ⟨3,1,1⟩ 0 t.1),ai t.1,dd,dd,dd,dd,dd,dd,dd,dd,dd,dd,dd,dd,dd,dd,dd,dd,dd,dd,dd,dd,dd],[(3,{next:=2,l:=[none,some {e:=1,var:=false,fz:=false,sz:=4,cells:=(zdQ ((zjI l i0 (.raw (.slice x.1 l[i0].line.length x.2))).take t.1)).map C.d}]}),(5,⟨2,[]⟩),(16,⟨2,[]⟩),(19,⟨2,[]⟩),(23,⟨2,[]⟩),(24,⟨2,[]⟩),(1000,⟨1,[none,some {e:=0,var:=false,fz:=false,sz:=1,cells:=(zaw l[i0].line).map C.d}]⟩)]⟩)
  (fun t=>t.1≤l.length∧(t.1≤i0↔t.2=none)) (fun _=>()) (fun t=>l.length - t.1) (0,none)
  ((Gh.nil (i:=3) (s:=3) (sz:=4) rfl).trans (Gh.canon [3] [5,16,19,23,24] [] zK rfl rfl)) ⟨Nat.zero_le _,by simp⟩ ?_
 rintro⟨i,x⟩ ⟨hi1,hx⟩ hF K hK
 cases x with
 |none=>
  simp only at hi1 hx hK⊢
  have hx0:i≤i0:=hx.2 trivial
  refine zw ?_
  refine zaa (fun hlt=> ?_) (fun hge=> ?_)
  ·have hi:i<l.length:=by simpa using hlt
   have hat:=zaK hi
   have hw:=zal hi (by omega)
   have hlk:=hll _ (List.getElem_mem hi)
   have h1:(l[i].line.length*8≤2^47)=True:=eq_true (by omega)
   have htl:(l.take i).length=i:=by rw[List.length_take];omega
   have htk:=zas (l:=l.take i)
   rw[htl]at htk
   have hsn:zah (l.take i)++[sD l[i].name,iD l[i].holder,iD l[i].token, .sl l[i].line.length (zaw l[i].line)]=zah (l.take (i+1)):=by
    rw[←List.take_append_getElem hi,zfp]
   repeat'(first|(with_reducible first|refine za0 7 ?_|refine zaN 7 ?_|refine zaO 7 ?_)|refine zu (I hat (I @zad (I @zaf (I h1 (I htl (I htk (I hsn zca))))))) ?_|exact zd (I hat (I @zad (I @zaf (I h1 (I htl (I htk (I hsn zca)))))))|(with_reducible first|refine zab _ _ ?_)|(refine zaa ?_ ?_<;>intro hb)|(refine And.intro ?_ ?_;exact zI)|(refine And.intro ?_ ?_<;>intro hg)|exact zC|fail)
   by_cases hii:i=i0
   ·subst hii
    refine zaZ (zej _ _ (zv9 zak mixed _ _ (zoQ (s:=5) (k:=3) (k':=4) (e:=7) (j:=1) (q:=1000) rfl rfl rfl rfl rfl rfl (by decide) rfl rfl) ?_))
    intro x _
    have hsx:zah (l.take i)++[sD l[i].name,iD l[i].holder,iD l[i].token, .raw (.slice x.1 l[i].line.length x.2)]=zdQ ((zjI l i (.raw (.slice x.1 l[i].line.length x.2))).take (i+1)):=by
     rw[←List.take_append_getElem (by rw[zba];exact hi),zjH,zet hi,if_pos rfl]
     congr 1
     rw[←ziz]
     congr 1
     refine List.ext_getElem (by simp[zba]) fun j h1 h2=> ?_
     have hji:j<i:=by simp at h1;omega
     rw[List.getElem_map,List.getElem_take,List.getElem_take,zet (by omega),if_neg (by omega)]
    repeat'(first|refine zq (I hat (I @zad (I @zaf (I h1 (I htl (I htk (I hsx (I @zmG zca)))))))) ?_|exact zd (I hat (I @zad (I @zaf (I h1 (I htl (I htk (I hsx (I @zmG zca))))))))|(refine zaa ?_ ?_<;>intro hb)|(refine And.intro ?_ ?_;exact zI)|(refine And.intro ?_ ?_<;>intro hg)|exact zC|fail)
    exact hK _ (i+1,some x) (Gh.canon [3,1000] [] [1000] (zk (I hw @zt2)) rfl rfl) ⟨hi,by simp⟩ trivial (by simp only;omega)
   ·refine zaZ ?_
    repeat'(first|refine zq (I hat (I @zad (I @zaf (I h1 (I htl (I htk (I hsn zca))))))) ?_|exact zd (I hat (I @zad (I @zaf (I h1 (I htl (I htk (I hsn zca)))))))|(refine zaa ?_ ?_<;>intro hb)|(refine And.intro ?_ ?_;exact zI)|(refine And.intro ?_ ?_<;>intro hg)|exact zC|fail)
    exact hK _ (i+1,none) (Gh.canon [3] [] [] (zk hw) rfl rfl) ⟨hi,by simp;omega⟩ trivial (by simp only;omega)
  ·exfalso
   have:¬(i:Int)<l.length:=by simpa using hge
   omega
 |some x=>
  simp only at hi1 hx hK⊢
  have hx0:¬i≤i0:=fun h=>by cases hx.1 h
  refine zw ?_
  refine zaa (fun hlt=> ?_) (fun hge=> ?_)
  ·have hi:i<l.length:=by simpa using hlt
   have hat:=zaK hi
   have hw:=zal hi (by omega)
   have hlk:=hll _ (List.getElem_mem hi)
   have h1:(l[i].line.length*8≤2^47)=True:=eq_true (by omega)
   have htl:((zjI l i0 (.raw (.slice x.1 l[i0].line.length x.2))).take i).length=i:=by rw[List.length_take,zba];omega
   have htk:=zjG (l:=(zjI l i0 (.raw (.slice x.1 l[i0].line.length x.2))).take i)
   rw[htl]at htk
   have hsn:zdQ ((zjI l i0 (.raw (.slice x.1 l[i0].line.length x.2))).take i)++[sD l[i].name,iD l[i].holder,iD l[i].token, .sl l[i].line.length (zaw l[i].line)]=zdQ ((zjI l i0 (.raw (.slice x.1 l[i0].line.length x.2))).take (i+1)):=by
    rw[←List.take_append_getElem (by rw[zba];exact hi),zjH,zet hi,if_neg (by omega)];rfl
   repeat'(first|refine zq (I hat (I @zad (I @zaf (I @zbH (I h1 (I htl (I htk (I hsn zca)))))))) ?_|exact zd (I hat (I @zad (I @zaf (I @zbH (I h1 (I htl (I htk (I hsn zca))))))))|(refine zaa ?_ ?_<;>intro hb)|(refine And.intro ?_ ?_;exact zI)|(refine And.intro ?_ ?_<;>intro hg)|exact zC|fail)
   exact hK _ (i+1,some x) (Gh.canon [3,1000] [] [1000] (zk (I hw @zt2)) rfl rfl) ⟨hi,by simp;omega⟩ trivial (by simp only;omega)
  ·have hi:i=l.length:=by
    have:¬(i:Int)<l.length:=by simpa using hge
    omega
   subst hi
   repeat'(first|refine zq0 ?_|exact zd0|(refine zaa ?_ ?_<;>intro hb)|(refine And.intro ?_ ?_;exact zI)|(refine And.intro ?_ ?_<;>intro hg)|exact zC|fail)
   refine⟨1, .slice x.1 l[i0].line.length x.2,rfl,⟨_,_,rfl⟩, ?_,rfl⟩
   rw[List.take_of_length_le (by rw[zba];exact Nat.le_refl _)]
theorem zrS (l:List LkD) (hl:l.length<2^62) (s:ByteArray):CallOK Tryz.prog 180 [.f (al l.length (zdQ l)), .f (ast s)] (fun r o=>r=[ri (zcT (isL s) (l.map LkD.k) 0)]∧o=[]):=by
 refine zac zak mixed (T:=Ty) (n:=20) Tryz.func180 (c:=Tryz.f180.body.getD .skip) rfl Tryz.results180 Tryz.ntmps180 Tryz.call180 ?_
 simp only[Tryz.f180,Option.getD]
 repeat'(first|refine zq0 ?_|exact zd0|(refine zaa ?_ ?_<;>intro hb)|(refine And.intro ?_ ?_;exact zI)|(refine And.intro ?_ ?_<;>intro hg)|exact zC|fail)
 refine zam (τ:=Nat) (fun i=>⟨[al l.length (zdQ l),ast s,dd,dd,dd,ai i,dd,dd,dd,dd,dd,dd,dd,dd,dd,dd,dd,dd,dd,dd],[]⟩)
  (fun i=>i≤l.length) (fun i=>zcT (isL s) ((l.drop i).map LkD.k) i) (fun i=>l.length - i) 0
  (Gh.canon [] [] [] zK rfl rfl) (Nat.zero_le _) ?_
 intro i hi0 hF K hK
 rw[List.drop_zero]at hF
 refine zw ?_
 refine zaa (fun hlt=> ?_) (fun hge=> ?_)
 ·have hi:i<l.length:=by simpa using hlt
  have hat:=zoF hi
  have hw:=zal hi hl
  have hq:zcT (isL s) ((l.drop i).map LkD.k) i=if(l[i].k.name.toList==s.toList)=true then(i:Int)else zcT (isL s) ((l.drop (i+1)).map LkD.k) ((i+1:Nat):Int):=by
   rw[List.drop_eq_getElem_cons hi,List.map_cons,zcT];rfl
  rw[hq]at hF
  repeat'(first|refine zq (I hat (I @zbH zca)) ?_|exact zd (I hat (I @zbH zca))|(refine zaa ?_ ?_<;>intro hb)|(refine And.intro ?_ ?_;exact zI)|(refine And.intro ?_ ?_<;>intro hg)|exact zC|fail)
  ·rw[if_pos hb]at hF
   have hF:(i:Int)=zcT (isL s) (l.map LkD.k) 0:=hF
   rw[←hF]
  ·rw[if_neg (by rw[hb];simp)]at hq
   exact hK _ (i+1) (Gh.canon [] [] [] (zk hw) rfl rfl) hi hq.symm (by omega)
 ·have hi:i=l.length:=by
   have:¬(i:Int)<l.length:=by simpa using hge
   omega
  rw[hi,List.drop_length]at hF
  have hF:(-1:Int)=zcT (isL s) (l.map LkD.k) 0:=hF
  rw[←hF]
  repeat'(first|refine zq0 ?_|exact zd0|(refine zaa ?_ ?_<;>intro hb)|(refine And.intro ?_ ?_;exact zI)|(refine And.intro ?_ ?_<;>intro hg)|exact zC|fail)
theorem zgv {l:List Lk} (hs:SL l) (s:ByteArray):zcT (isL s) l 0=match zcL l s with|none=> -1|some _=>(za9 l s:Int):=by
 rcases zeo (isL s) l 0 with⟨h1,h2⟩|⟨k,hk,h2,h3,h4⟩
 ·have:zcL l s=none:=List.find?_eq_none.2 fun x hx=>by rw[h1 x hx];simp
  rw[this];exact h2
 ·cases hf:zcL l s with
  |none=>exact absurd h3 (List.find?_eq_none.1 hf _ (List.getElem_mem hk))
  |some x=>
   obtain⟨⟨hp,he⟩,hx⟩:=zcM hs hf
   have hkp:k=za9 l s:=by
    have hne:∀{i j:Nat} (hi:i<l.length) (hj:j<l.length),i<j→isL s l[i]=true→isL s l[j]=true→False:=fun hi hj hij h1 h2=>by
     have:=List.pairwise_iff_getElem.1 hs _ _ hi hj hij
     simp only[isL,beq_iff_eq]at h1 h2
     simp only[zdP,h1,h2,zmh]at this
     cases this
    rcases Nat.lt_trichotomy k (za9 l s)with h|h|h
    ·exact(hne hk hp h h3 (by rw[he];exact hx)).elim
    ·exact h
    ·exact(hne hp hk h (by rw[he];exact hx) h3).elim
   have h2':zcT (isL s) l 0=((0+k:Nat):Int):=h2
   rw[h2']
   show((0+k:Nat):Int)=(za9 l s:Int)
   omega
theorem zpC {l:List Lk} {name:ByteArray} {c t:Int} {w:Bool} (hf:zcL l name=none):zaI l name c t w=if decide ((l.length:Int)≥4)=true then([],0,5)else(l.take (za9 l name)++⟨name,c,t+1,[]⟩::l.drop (za9 l name),0,0):=by unfold zaI;rw[hf]
theorem zmF {α:Type} {l:List α} {j:Nat} {y:α} (hj:j≤l.length):(l.take j++y::l.drop j).length=l.length+1:=by
 rw[List.length_append,List.length_take,List.length_cons,List.length_drop];omega
theorem zrT {α:Type} {l:List α} {j i:Nat} {y:α} (hj:j≤l.length) (hi:i<j):(l.take j++y::l.drop j)[i]'(by rw[zmF hj];omega)=l[i]:=by
 rw[List.getElem_append_left (by rw[List.length_take];omega),List.getElem_take]
theorem zpD {α:Type} {l:List α} {j:Nat} {y:α} (hj:j≤l.length) (h0:0<j):(l.take j++y::l.drop j).set j (l[j - 1]'(by omega))=l.take (j - 1)++(l[j - 1]'(by omega))::l.drop (j - 1):=by
 rw[List.set_append_right _ _ (by rw[List.length_take];omega)]
 rw[show j - (l.take j).length=0 by rw[List.length_take];omega,List.set_cons_zero]
 rw[show l.take j=l.take (j - 1)++[l[j - 1]'(by omega)] by
  rw[List.take_append_getElem (by omega),show j - 1+1=j by omega]]
 rw[List.append_assoc]
 congr 1
 rw[List.drop_eq_getElem_cons (show j - 1<l.length by omega),show j - 1+1=j by omega]
 rfl
theorem zrU {α:Type} {l:List α} {j:Nat} {y x:α} (hj:j≤l.length):(l.take j++y::l.drop j).set j x=l.take j++x::l.drop j:=by
 rw[List.set_append_right _ _ (by rw[List.length_take];omega),show j - (l.take j).length=0 by rw[List.length_take];omega,List.set_cons_zero]
abbrev zze:Lk:=⟨.empty,0,0,[]⟩
set_option maxHeartbeats 4000000 in
theorem zrV (l:List Lk) (hs:SL l) (hl:l.length<2^30) (hll:∀k∈l,k.line.length<2^30) (name:ByteArray) (c t:Int) (ht:0≤t∧t<2^62) (w:Bool) (hf:zcL l name=none):
  CallOK Tryz.prog 149 [.f (al l.length (zah l)), .f (ast name), .f (ai c), .f (ai t), .f (ab w)]
  (fun r o=>r=[.one (.own 4 (zaI l name c t w).1.length (zah (zaI l name c t w).1) false),ri (zaI l name c t w).2.1,ri (zaI l name c t w).2.2]∧o=[]):=by
 refine CallOK.nil ?_
 refine zac zak mixed (T:=Ty) (n:=122) Tryz.func149 (c:=Tryz.f149.body.getD .skip) rfl Tryz.results149 Tryz.ntmps149 Tryz.call149 ?_
 simp only[Tryz.f149,Option.getD]
 have hco:=zhH l hl hll
 have hfi:=ziu l (by omega) name
 rw[zgv hs,hf]at hfi
 simp only at hfi
 rw[zpC hf]
 have hwt:IntKind.i64.wrap (t+1)=t+1:=wrap64 (by omega) (by omega)
 have hm1:decide ((-1:Int)<0)=true:=rfl
 cases h4:decide ((l.length:Int)≥4)
 ·rw[if_neg (by simp)]
  have hlt4:l.length<4:=by simp at h4;omega
  have hp:=zcJ (p:=fun x:Lk=>zdP x.name name) (l:=l)
  repeat'(first|refine zq (I hm1 (I h4 (I @zad @zas))) ?_|exact zd (I hm1 (I h4 (I @zad @zas)))|refine zc (hco) ?_|refine zg (hco) ?_|refine zc (hfi) ?_|refine zg (hfi) ?_|(refine zaa ?_ ?_<;>intro hb)|(refine And.intro ?_ ?_;exact zI)|(refine And.intro ?_ ?_<;>intro hg)|exact zC|fail)
  refine zuR (τ:=Unit) (fun _=>⟨[dd,ast name,ai c,ai t,dd,dd,dd,dd,dd,dd,dd,dd,dd, .one (.own ⟨13,1,1⟩ 0 l.length),dd,ai (za9 l name:Int),dd,dd,dd,dd,dd,dd,dd,dd,dd,dd,dd,dd,dd,dd,dd,dd,dd,dd,dd,dd,dd,dd,dd,dd,dd,dd,dd,dd,dd,dd,dd,dd,dd,dd,dd,dd,dd,dd,dd,dd,dd,dd,dd,dd,dd,dd,dd,dd,dd,dd,dd,dd,dd,dd,dd,dd,dd,dd,dd,dd,dd,dd,dd,dd,dd,dd,dd,dd,dd,dd,dd,dd,dd,dd,dd,dd,dd,dd,dd,dd,dd,dd,dd,dd,dd,dd,dd,dd,dd,dd,dd,dd,dd,dd,dd,dd,dd,dd,dd,dd,dd,dd,dd,dd,dd,dd],[(20,⟨2,[]⟩),(13,{next:=2,l:=[none,some {e:=1,var:=false,fz:=false,sz:=4,cells:=(zah l).map C.d}]})]⟩) (fun _=>True) (fun _ _=> ?_) (fun Kx hKx=> ?_)
  ·have hlz:zah l++[D.v (.string .empty),D.v (.int .i64 0),D.v (.int .i64 0), .sl 0 []]=zah (l.take l.length++zze::l.drop l.length):=by rw[List.take_length,List.drop_length,zfp];rfl
   have hw1:IntKind.i64.wrap (((l.length+1:Nat):Int) - 1)=(l.length:Int):=by rw[wrap64 (by omega) (by omega)];omega
   have hbig:((l.length+1)*48≤2^47)=True:=eq_true (by omega)
   repeat'(first|refine zq (I @zad (I @zas (I hlz (I hw1 hbig)))) ?_|exact zd (I @zad (I @zas (I hlz (I hw1 hbig))))|(refine zaa ?_ ?_<;>intro hb)|(refine And.intro ?_ ?_;exact zI)|(refine And.intro ?_ ?_<;>intro hg)|exact zC|fail)
   refine zam (τ:=Nat×Lk) (fun q=>⟨[dd,ast name,ai c,ai t,dd,dd,dd,dd,dd,dd,dd,dd,dd, .one (.own ⟨13,1,1⟩ 0 (l.length+1)),dd,ai (za9 l name:Int),ai q.1,dd,dd,dd,dd,dd,dd,dd,dd,dd,dd,dd,dd,dd,dd,dd,dd,dd,dd,dd,dd,dd,dd,dd,dd,dd,dd,dd,dd,dd,dd,dd,dd,dd,dd,dd,dd,dd,dd,dd,dd,dd,dd,dd,dd,dd,dd,dd,dd,dd,dd,dd,dd,dd,dd,dd,dd,dd,dd,dd,dd,dd,dd,dd,dd,dd,dd,dd,dd,dd,dd,dd,dd,dd,dd,dd,dd,dd,dd,dd,dd,dd,dd,dd,dd,dd,dd,dd,dd,dd,dd,dd,dd,dd,dd,dd,dd,dd,dd,dd,dd,dd,dd,dd,dd,dd],[(20,⟨2,[]⟩),(13,{next:=2,l:=[none,some {e:=1,var:=false,fz:=false,sz:=4,cells:=(zah (l.take q.1++q.2::l.drop q.1)).map C.d}]}),(46,⟨2,[]⟩)]⟩)
    (fun q=>za9 l name≤q.1∧q.1≤l.length) (fun _=>()) (fun q=>q.1) (l.length,zze) (Gh.canon [13] [] [] zK rfl rfl) ⟨hp,Nat.le_refl _⟩ ?_
   rintro⟨j,y⟩ ⟨hj1,hj2⟩ hF K hK
   simp only at hj1 hj2 hK⊢
   have hlen:=zmF (l:=l) (j:=j) (y:=y) hj2
   by_cases hjp:za9 l name<j
   ·have hd:decide ((j:Int)>(za9 l name:Int))=true:=by simpa using hjp
    have hw:IntKind.i64.wrap ((j:Int) - 1)=((j - 1:Nat):Int):=by rw[wrap64 (by omega) (by omega)];omega
    have hat:=zaK (l:=l.take j++y::l.drop j) (i:=j - 1) (by omega)
    rw[zrT hj2 (by omega)]at hat
    have hset:=zfm Lk.enc 4 (fun _=>rfl) (l:=l.take j++y::l.drop j) (i:=j) (by omega) (l[j - 1]'(by omega))
    rw[zpD hj2 (by omega)]at hset
    simp only[fillAt,List.map_cons,List.map_nil]at hset
    repeat'(first|(with_reducible first|refine zab _ _ ?_|refine zaU ?_|refine zaV ?_)|rw[zat]|simp only[hd,hw,hat,List.cons_append,List.nil_append,←List.map_drop,List.map_cons,zad,hlen,fillAt,hset,zY,Int.reduceEq,Int.reduceBEq,Int.reduceBNe,Nat.reduceSub,Nat.reduceEqDiff,Nat.reduceAdd,Nat.reduceMul,Nat.reduceLeDiff,Nat.reduceLT,Nat.reduceBEq,reduceCtorEq]|refine zay ?_|refine zaa (fun hb=> ?_) (fun hb=> ?_)|(refine And.intro ?_ ?_;exact zI)|refine And.intro (fun hg=> ?_) (fun hg=> ?_)|exact zC|fail)
    exact hK _ (j - 1,l[j - 1]'(by omega)) (Gh.canon [13] [] [] zK rfl rfl) ⟨by omega,by omega⟩ trivial (by simp only;omega)
   ·have hjj:j=za9 l name:=by omega
    have hd:decide ((j:Int)>(za9 l name:Int))=false:=by simp;omega
    have hset:=zfm Lk.enc 4 (fun _=>rfl) (l:=l.take j++y::l.drop j) (i:=j) (by omega) ⟨name,c,t+1,[]⟩
    rw[zrU hj2]at hset
    simp only[fillAt,List.map_cons,List.map_nil,List.length_nil,List.flatMap_nil]at hset
    subst hjj
    repeat'(first|(with_reducible first|refine zab _ _ ?_|refine zaU ?_|refine zaV ?_)|rw[zat]|simp only[hd,hwt,zad,hlen,fillAt,hset,zY,Int.reduceEq,Int.reduceBEq,Int.reduceBNe,Nat.reduceSub,Nat.reduceEqDiff,Nat.reduceAdd,Nat.reduceMul,Nat.reduceLeDiff,Nat.reduceLT,Nat.reduceBEq,reduceCtorEq]|refine zay ?_|refine zaa (fun hb=> ?_) (fun hb=> ?_)|(refine And.intro ?_ ?_;exact zI)|refine And.intro (fun hg=> ?_) (fun hg=> ?_)|exact zC|fail)
    have hp':za9 l name≤l.length:=hp
    simp[zgs,zaA]
    omega
  ·refine zam (τ:=Nat) (fun i=>⟨[dd,ast name,ai c,ai t,dd,dd,dd,dd,dd,dd,dd,dd,dd, .one (.own ⟨13,1,1⟩ 0 l.length),dd,ai i,dd,dd,dd,dd,dd,dd,dd,dd,dd,dd,dd,dd,dd,dd,dd,dd,dd,dd,dd,dd,dd,dd,dd,dd,dd,dd,dd,dd,dd,dd,dd,dd,dd,dd,dd,dd,dd,dd,dd,dd,dd,dd,dd,dd,dd,dd,dd,dd,dd,dd,dd,dd,dd,dd,dd,dd,dd,dd,dd,dd,dd,dd,dd,dd,dd,dd,dd,dd,dd,dd,dd,dd,dd,dd,dd,dd,dd,dd,dd,dd,dd,dd,dd,dd,dd,dd,dd,dd,dd,dd,dd,dd,dd,dd,dd,dd,dd,dd,dd,dd,dd,dd,dd,dd,dd,dd],[(20,⟨2,[]⟩),(13,{next:=2,l:=[none,some {e:=1,var:=false,fz:=false,sz:=4,cells:=(zah l).map C.d}]})]⟩)
    (fun i=>i≤za9 l name) (fun _=>()) (fun i=>l.length - i) 0 (Gh.canon [13] [] [] zK rfl rfl) (Nat.zero_le _) ?_
   intro i hi0 hF K hK
   by_cases hi:i<l.length
   ·have hat:=zaK hi
    have hd:decide ((i:Int)<(l.length:Int))=true:=by simpa using hi
    have hw:=zal hi (by omega)
    repeat'(first|refine zq (I hd (I hat (I @zmd (I @List.map_cons.{0,0} (I @zad zca))))) ?_|exact zd (I hd (I hat (I @zmd (I @List.map_cons.{0,0} (I @zad zca)))))|(refine zaa ?_ ?_<;>intro hb)|(refine And.intro ?_ ?_;exact zI)|(refine And.intro ?_ ?_<;>intro hg)|exact zC|fail)
    ·have hip:i<za9 l name:=Nat.lt_of_not_le fun h=>by
      have:Go.Op.bytesLess l[i].name.toList name.toList=false:=zgV hi (zkI hs name) h
      rw[hb]at this
      cases this
     exact hK _ (i+1) (Gh.canon [13] [] [] (zk hw) rfl rfl) hip rfl (by omega)
    ·have hip:i=za9 l name:=Nat.le_antisymm hi0 (Nat.le_of_not_lt fun h=>by
      have:Go.Op.bytesLess l[i].name.toList name.toList=true:=zgU hi h
      rw[hb]at this
      cases this)
     subst hip
     exact hKx _ () (Gh.canon [13] [] [] zK rfl rfl) trivial
   ·have hd:decide ((i:Int)<(l.length:Int))=false:=by simpa using hi
    have hdr:(zah l).drop (i*4)=[]:=List.drop_eq_nil_of_le (by rw[zad];omega)
    repeat'(first|refine zq (I hd (I hdr (I @zmd (I @List.map_nil.{0,0} @zad)))) ?_|exact zd (I hd (I hdr (I @zmd (I @List.map_nil.{0,0} @zad))))|(refine zaa ?_ ?_<;>intro hb)|(refine And.intro ?_ ?_;exact zI)|(refine And.intro ?_ ?_<;>intro hg)|exact zC|fail)
    have hip:i=za9 l name:=by have:za9 l name≤l.length:=hp;omega
    subst hip
    exact hKx _ () (Gh.canon [13] [] [] zK rfl rfl) trivial
 ·rw[if_pos rfl]
  repeat'(first|refine zq (I hm1 (I h4 (I @zad @zas))) ?_|exact zd (I hm1 (I h4 (I @zad @zas)))|refine zc (hco) ?_|refine zg (hco) ?_|refine zc (hfi) ?_|refine zg (hfi) ?_|(refine zaa ?_ ?_<;>intro hb)|(refine And.intro ?_ ?_;exact zI)|(refine And.intro ?_ ?_<;>intro hg)|exact zC|fail)
  simp[zgs,zaA]
theorem zjF {l:List Lk} {name:ByteArray} {c t:Int} {w:Bool} {k:Lk} (hf:zcL l name=some k) (hc:isClient c=true):zaI l name c t w=if(k.holder==c)=true then([],0,7)else if(!w)=true then([],0,8)else
  if hasI k.line c=true then(l,zim k.line c,10)else if decide ((k.line.length:Int)≥3)=true then([],0,5)else(l.set (za9 l name) ⟨k.name,k.holder,k.token,k.line++[c]⟩,k.line.length,10):=by
 unfold zaI
 rw[hf]
 simp only
 split
 ·rfl
 ·split
  ·rfl
  ·split
   ·rfl
   ·rename_i h
    have hj:zdE k.line c=if decide ((k.line.length:Int)≥3)=true then([],0,5)else(k.line++[c],(k.line.length:Int),0):=by
     unfold zdE
     rw[if_neg (by rw[hc];simp),if_neg h]
    rw[hj]
    cases decide ((k.line.length:Int)≥3)
    ·rfl
    ·rfl
set_option maxHeartbeats 4000000 in
theorem zrW (l:List Lk) (hs:SL l) (hl:l.length<2^30) (hll:∀k∈l,k.line.length<2^30) (name:ByteArray) (c t:Int) (hc:isClient c=true) (w:Bool) (k:Lk) (hf:zcL l name=some k)
  (hx:(k.holder==c)=true∨w=false∨hasI k.line c=true∨decide ((k.line.length:Int)≥3)=true):
  CallOK Tryz.prog 149 [.f (al l.length (zah l)), .f (ast name), .f (ai c), .f (ai t), .f (ab w)]
  (fun r o=>r=[.one (.own 4 (zaI l name c t w).1.length (zah (zaI l name c t w).1) false),ri (zaI l name c t w).2.1,ri (zaI l name c t w).2.2]∧o=[]):=by
 refine CallOK.nil ?_
 refine zac zak mixed (T:=Ty) (n:=122) Tryz.func149 (c:=Tryz.f149.body.getD .skip) rfl Tryz.results149 Tryz.ntmps149 Tryz.call149 ?_
 simp only[Tryz.f149,Option.getD]
 have hco:=zhH l hl hll
 have hfi:=ziu l (by omega) name
 rw[zgv hs,hf]at hfi
 simp only at hfi
 have htk:=zjF (t:=t) (w:=w) hf hc
 generalize zaI l name c t w=R at htk⊢
 obtain⟨⟨hi,he⟩,hn⟩:=zcM hs hf
 have hat:=zaK hi
 rw[he]at hat
 have hkl:=hll k (he▸List.getElem_mem hi)
 have hah:=zix k.line (by omega) c
 have hm1:decide ((za9 l name:Int)<0)=false:=by simp
 have hat1:(zah l).drop (za9 l name*4+1)=iD k.holder::iD k.token:: .sl k.line.length (zaw k.line)::zah (l.drop (za9 l name+1)):=by rw[←List.drop_drop,hat];rfl
 have hat3:(zah l).drop (za9 l name*4+3)= .sl k.line.length (zaw k.line)::zah (l.drop (za9 l name+1)):=by rw[←List.drop_drop,hat];rfl
 cases h1:(k.holder==c)
 ·cases w
  ·repeat'(first|refine zq (I hm1 (I h1 (I hat1 (I @zmd (I @List.map_cons.{0,0} (I @List.drop_succ_cons.{0} (I @List.drop_zero.{0} (I @zad (I @zas zca))))))))) ?_|exact zd (I hm1 (I h1 (I hat1 (I @zmd (I @List.map_cons.{0,0} (I @List.drop_succ_cons.{0} (I @List.drop_zero.{0} (I @zad (I @zas zca)))))))))|refine zc (hco) ?_|refine zg (hco) ?_|refine zc (hfi) ?_|refine zg (hfi) ?_|(refine zaa ?_ ?_<;>intro hb)|(refine And.intro ?_ ?_;exact zI)|(refine And.intro ?_ ?_<;>intro hg)|exact zC|fail)
   rw[if_neg (by rw[h1];simp),if_pos (show(!false)=true from rfl)]at htk
   rw[htk];simp[zgs,zaA]
  ·rw[if_neg (by rw[h1];simp),if_neg (by simp)]at htk
   cases h3:hasI k.line c
   ·rw[if_neg (by rw[h3];simp)]at htk
    have h4:decide ((k.line.length:Int)≥3)=true:=by rcases hx with h|h|h|h<;>simp_all
    rw[if_pos h4]at htk
    rw[h3]at hah
    repeat'(first|refine zq (I hm1 (I h1 (I h3 (I h4 (I hat1 (I hat3 (I @zmd (I @List.map_cons.{0,0} (I @List.drop_succ_cons.{0} (I @List.drop_zero.{0} (I @zad (I @zas zca)))))))))))) ?_|exact zd (I hm1 (I h1 (I h3 (I h4 (I hat1 (I hat3 (I @zmd (I @List.map_cons.{0,0} (I @List.drop_succ_cons.{0} (I @List.drop_zero.{0} (I @zad (I @zas zca))))))))))))|refine zc (hco) ?_|refine zg (hco) ?_|refine zc (hfi) ?_|refine zg (hfi) ?_|refine zc (hah) ?_|refine zg (hah) ?_|(refine zaa ?_ ?_<;>intro hb)|(refine And.intro ?_ ?_;exact zI)|(refine And.intro ?_ ?_<;>intro hg)|exact zC|fail)
    rw[htk];simp[zgs,zaA]
   ·rw[if_pos h3]at htk
    rw[h3]at hah
    repeat'(first|refine zq (I hm1 (I h1 (I h3 (I hat1 (I hat3 (I @zmd (I @List.map_cons.{0,0} (I @List.drop_succ_cons.{0} (I @List.drop_zero.{0} (I @zad (I @zas zca))))))))))) ?_|exact zd (I hm1 (I h1 (I h3 (I hat1 (I hat3 (I @zmd (I @List.map_cons.{0,0} (I @List.drop_succ_cons.{0} (I @List.drop_zero.{0} (I @zad (I @zas zca)))))))))))|refine zc (hco) ?_|refine zg (hco) ?_|refine zc (hfi) ?_|refine zg (hfi) ?_|refine zc (hah) ?_|refine zg (hah) ?_|(refine zaa ?_ ?_<;>intro hb)|(refine And.intro ?_ ?_;exact zI)|(refine And.intro ?_ ?_<;>intro hg)|exact zC|fail)
    rw[htk];simp[zgs,zaA]
 ·repeat'(first|refine zq (I hm1 (I h1 (I hat1 (I @zmd (I @List.map_cons.{0,0} (I @List.drop_succ_cons.{0} (I @List.drop_zero.{0} (I @zad (I @zas zca))))))))) ?_|exact zd (I hm1 (I h1 (I hat1 (I @zmd (I @List.map_cons.{0,0} (I @List.drop_succ_cons.{0} (I @List.drop_zero.{0} (I @zad (I @zas zca)))))))))|refine zc (hco) ?_|refine zg (hco) ?_|refine zc (hfi) ?_|refine zg (hfi) ?_|(refine zaa ?_ ?_<;>intro hb)|(refine And.intro ?_ ?_;exact zI)|(refine And.intro ?_ ?_<;>intro hg)|exact zC|fail)
  rw[if_pos h1]at htk
  rw[htk];simp[zgs,zaA]
set_option maxHeartbeats 4000000 in
theorem zrX (l:List Lk) (hs:SL l) (hl:l.length<2^30) (hll:∀k∈l,k.line.length<2^30) (name:ByteArray) (c t:Int) (hc:isClient c=true) (w:Bool) (k:Lk) (hf:zcL l name=some k)
  (h1:(k.holder==c)=false) (hw:w=true) (h3:hasI k.line c=false) (h4:decide ((k.line.length:Int)≥3)=false):
  CallOK Tryz.prog 149 [.f (al l.length (zah l)), .f (ast name), .f (ai c), .f (ai t), .f (ab w)]
  (fun r o=>r=[.one (.own 4 (zaI l name c t w).1.length (zah (zaI l name c t w).1) false),ri (zaI l name c t w).2.1,ri (zaI l name c t w).2.2]∧o=[]):=by
 refine CallOK.nil ?_
 refine zac zak mixed (T:=Ty) (n:=122) Tryz.func149 (c:=Tryz.f149.body.getD .skip) rfl Tryz.results149 Tryz.ntmps149 Tryz.call149 ?_
 simp only[Tryz.f149,Option.getD]
 have htk:=zjF (t:=t) (w:=w) hf hc
 subst hw
 rw[if_neg (by rw[h1];simp),if_neg (by simp),if_neg (by rw[h3];simp),if_neg (by rw[h4];simp)]at htk
 rw[htk]
 obtain⟨⟨hi,he⟩,hn⟩:=zcM hs hf
 have hco:=zrY l hl hll (za9 l name) hi
 rw[he]at hco
 have hkl:=hll k (he▸List.getElem_mem hi)
 have hah:=zix k.line (by omega) c
 rw[h3]at hah
 have hm1:decide ((za9 l name:Int)<0)=false:=by simp
 repeat'(first|(with_reducible first|refine za0 1 ?_|refine zaN 1 ?_|refine zaO 1 ?_)|refine zu0 ?_|exact zd0|(with_reducible first|refine zab _ _ ?_)|(refine zaa ?_ ?_<;>intro hb)|(refine And.intro ?_ ?_;exact zI)|(refine And.intro ?_ ?_<;>intro hg)|exact zC|fail)
 refine zaZ (zej _ _ (zqf zak mixed 1 (q:=5) (v1:=[al l.length (zah l),ast name,ai c,ai t,ab true,dd,dd,dd,dd,dd, .one (.d (.v (.slice none 0 0))),ai 0,ai 0,dd,dd,dd,dd,dd,dd,al l.length (zah l),dd,dd,dd,dd,dd,dd,dd,dd,dd,dd,dd,dd,dd,dd,dd,dd,dd,dd,dd,dd,dd,dd,dd,dd,dd,dd,dd,dd,dd,dd,dd,dd,dd,dd,dd,dd,dd,dd,dd,dd,dd,dd,dd,dd,dd,dd,dd,dd,dd,dd,dd,dd,dd,dd,dd,dd,dd,dd,dd,dd,dd,dd,dd,dd,dd,dd,dd,dd,dd,dd,dd,dd,dd,dd,dd,dd,dd,dd,dd,dd,dd,dd,dd,dd,dd,dd,dd,dd,dd,dd,dd,dd,dd,dd,dd,dd,dd,dd,dd,dd,dd,dd]) (r1:=[]) rfl rfl rfl rfl (fun K hK=> ?_) ?_ ?_ rfl hco rfl (by decide) ?_))
 ·repeat'(first|refine zq (I @List.take_succ_cons.{0} @List.take_zero.{0}) ?_|exact zd (I @List.take_succ_cons.{0} @List.take_zero.{0})|(refine zaa ?_ ?_<;>intro hb)|(refine And.intro ?_ ?_;exact zI)|(refine And.intro ?_ ?_<;>intro hg)|exact zC|fail)
  exact hK
 ·exact trivial
 ·exact⟨trivial,trivial⟩
 rintro x ⟨a,cap,rfl⟩
 have hfi:=zrS (zjI l (za9 l name) (.raw (.slice a k.line.length cap))) (by rw[zba];omega) name
 rw[zwK,zgv hs,hf,zba]at hfi
 simp only at hfi
 have hil:za9 l name<(zjI l (za9 l name) (.raw (.slice a k.line.length cap))).length:=by rw[zba];exact hi
 have hat:=zoF hil
 rw[zet hi,if_pos rfl,he]at hat
 have htk:=zjG (l:=zjI l (za9 l name) (.raw (.slice a k.line.length cap)))
 rw[zba]at htk
 have hat1:(zdQ (zjI l (za9 l name) (.raw (.slice a k.line.length cap)))).drop (za9 l name*4+1)=iD k.holder::iD k.token:: .raw (.slice a k.line.length cap)::zdQ ((zjI l (za9 l name) (.raw (.slice a k.line.length cap))).drop (za9 l name+1)):=by rw[←List.drop_drop,hat];rfl
 have hat3:(zdQ (zjI l (za9 l name) (.raw (.slice a k.line.length cap)))).drop (za9 l name*4+3)= .raw (.slice a k.line.length cap)::zdQ ((zjI l (za9 l name) (.raw (.slice a k.line.length cap))).drop (za9 l name+1)):=by rw[←List.drop_drop,hat];rfl
 repeat'(first|(with_reducible first|refine za0 20 ?_|refine zaN 20 ?_|refine zaO 20 ?_)|refine zu (I hm1 (I h1 (I @List.drop_succ_cons.{0} (I @List.drop_zero.{0} (I hat1 (I htk (I @zmd (I @List.map_cons.{0,0} (I @zbH @zba))))))))) ?_|exact zd (I hm1 (I h1 (I @List.drop_succ_cons.{0} (I @List.drop_zero.{0} (I hat1 (I htk (I @zmd (I @List.map_cons.{0,0} (I @zbH @zba)))))))))|(with_reducible first|refine zab _ _ ?_)|refine zc (hfi) ?_|refine zg (hfi) ?_|(refine zaa ?_ ?_<;>intro hb)|(refine And.intro ?_ ?_;exact zI)|(refine And.intro ?_ ?_<;>intro hg)|exact zC|fail)
 refine zaZ (zej _ _ (znW zak mixed 5 ?_))
 repeat'(first|refine zq (I @List.take_succ_cons.{0} (I @List.take_zero.{0} (I hat3 (I @zmd (I @List.map_cons.{0,0} (I @zbH @zba)))))) ?_|exact zd (I @List.take_succ_cons.{0} (I @List.take_zero.{0} (I hat3 (I @zmd (I @List.map_cons.{0,0} (I @zbH @zba))))))|(refine zaa ?_ ?_<;>intro hb)|(refine And.intro ?_ ?_;exact zI)|(refine And.intro ?_ ?_<;>intro hg)|exact zC|fail)
 refine⟨_,Gh.view (i:=87) (j:=5) rfl rfl, ?_⟩
 repeat'(first|(with_reducible first|refine za0 26 ?_|refine zaN 26 ?_|refine zaO 26 ?_)|refine zu (I @List.drop_succ_cons.{0} (I @List.drop_zero.{0} (I h4 (I hat3 (I @zmd (I @List.map_cons.{0,0} (I @zbH @zba))))))) ?_|exact zd (I @List.drop_succ_cons.{0} (I @List.drop_zero.{0} (I h4 (I hat3 (I @zmd (I @List.map_cons.{0,0} (I @zbH @zba)))))))|(with_reducible first|refine zab _ _ ?_)|refine zc (hah) ?_|refine zg (hah) ?_|(refine zaa ?_ ?_<;>intro hb)|(refine And.intro ?_ ?_;exact zI)|(refine And.intro ?_ ?_<;>intro hg)|exact zC|fail)
 refine zaZ (zej _ _ (znW zak mixed 7 ?_))
 repeat'(first|refine zq (I @List.take_succ_cons.{0} (I @List.take_zero.{0} (I hat3 (I @zmd (I @List.map_cons.{0,0} (I @zbH @zba)))))) ?_|exact zd (I @List.take_succ_cons.{0} (I @List.take_zero.{0} (I hat3 (I @zmd (I @List.map_cons.{0,0} (I @zbH @zba))))))|(refine zaa ?_ ?_<;>intro hb)|(refine And.intro ?_ ?_;exact zI)|(refine And.intro ?_ ?_<;>intro hg)|exact zC|fail)
 refine⟨_,Gh.view (i:=114) (j:=5) rfl rfl, ?_⟩
 have hie:zaw (k.line++[c])=zaw k.line++[iD c]:=by simp[zaw]
 have hset:=zcx LkD.enc 4 (fun _=>rfl) hil (k:=3) (by decide) (.sl (k.line.length+1) (zaw k.line++[iD c])) (plain ⟨k.name,k.holder,k.token,k.line++[c]⟩)
  (by rw[zet hi,if_pos rfl,he,plain];simp only[LkD.enc,List.length_append,List.length_singleton,hie];rfl)
 rw[show(zjI l (za9 l name) (.raw (.slice a k.line.length cap))).set (za9 l name) (plain ⟨k.name,k.holder,k.token,k.line++[c]⟩)=(l.set (za9 l name) ⟨k.name,k.holder,k.token,k.line++[c]⟩).map plain from by
  refine List.ext_getElem (by simp[zba]) fun j h1 h2=> ?_
  have hj:j<l.length:=by simpa using h2
  rw[List.getElem_set,List.getElem_map,List.getElem_set]
  split
  ·rfl
  ·rw[zet hj,if_neg (by omega)],show List.flatMap LkD.enc ((l.set (za9 l name) ⟨k.name,k.holder,k.token,k.line++[c]⟩).map plain)=zah (l.set (za9 l name) ⟨k.name,k.holder,k.token,k.line++[c]⟩) from ziz]at hset
 have hi1:(zaw k.line).take (k.line.length*1)=zaw k.line:=List.take_of_length_le (by rw[zaf];omega)
 have hi2:(zaw k.line++[D.v (.int .i64 c)]).take (k.line.length+1)=zaw k.line++[D.v (.int .i64 c)]:=List.take_of_length_le (by rw[List.length_append,zaf];exact Nat.le_refl _)
 have hbig:((k.line.length+1)*8≤2^47)=True:=eq_true (by omega)
 repeat'(first|refine zq (I @List.drop_succ_cons.{0} (I @List.drop_zero.{0} (I hset (I @zaf (I hi1 (I hi2 (I hbig (I @zmd (I @List.map_cons.{0,0} (I @zbH @zba)))))))))) ?_|exact zd (I @List.drop_succ_cons.{0} (I @List.drop_zero.{0} (I hset (I @zaf (I hi1 (I hi2 (I hbig (I @zmd (I @List.map_cons.{0,0} (I @zbH @zba))))))))))|(refine zaa ?_ ?_<;>intro hb)|(refine And.intro ?_ ?_;exact zI)|(refine And.intro ?_ ?_<;>intro hg)|exact zC|fail)
 simp[zgs,zaA]
theorem ztD (l:List Lk) (hs:SL l) (hl:l.length<2^30) (hll:∀k∈l,k.line.length<2^30) (name:ByteArray) (c t:Int) (ht:0≤t∧t<2^62) (hc:isClient c=true) (w:Bool):
  CallOK Tryz.prog 149 [.f (al l.length (zah l)), .f (ast name), .f (ai c), .f (ai t), .f (ab w)]
  (fun r o=>r=[.one (.own 4 (zaI l name c t w).1.length (zah (zaI l name c t w).1) false),ri (zaI l name c t w).2.1,ri (zaI l name c t w).2.2]∧o=[]):=by
 cases hf:zcL l name with
 |none=>exact zrV l hs hl hll name c t ht w hf
 |some k=>
  by_cases hx:(k.holder==c)=true∨w=false∨hasI k.line c=true∨decide ((k.line.length:Int)≥3)=true
  ·exact zrW l hs hl hll name c t hc w k hf hx
  ·simp only[not_or,Bool.not_eq_true,Bool.not_eq_false]at hx
   exact zrX l hs hl hll name c t hc w k hf hx.1 hx.2.1 hx.2.2.1 hx.2.2.2
theorem ztC {l:List Int} {c:Int}:zaX l [c]=l.filter fun x=> !(x==c):=by
 unfold zaX hasI
 congr 1
 funext x
 simp[znr]
theorem zkW:∀{l:List Int} {c:Int},l.Nodup→hasI l c=true→(zcN l c).1=zaX l [c]:=fun {l c} hn hc=>by
 rw[ztC]
 unfold zcN
 rcases zeo (fun x=>c==x) l 0 with⟨h1,_⟩|⟨k,hk,h2,h3,h4⟩
 ·exfalso
  unfold hasI at hc
  obtain⟨x,hx,hx2⟩:=List.any_eq_true.1 hc
  rw[h1 x hx]at hx2;cases hx2
 ·have h2':zcT (fun x=>c==x) l 0=((0+k:Nat):Int):=h2
  rw[h2',if_neg (by omega)]
  simp only[Nat.zero_add,Int.toNat_natCast]
  have hck:c=l[k]:=by simpa using h3
  subst hck
  clear h2 h2' h3 h4 hc
  induction l generalizing k with
  |nil=>simp at hk
  |cons y l ih=>
   have hn':=List.nodup_cons.1 hn
   cases k with
   |zero=>
    simp only[List.eraseIdx_cons_zero,List.getElem_cons_zero,List.filter_cons,beq_self_eq_true,Bool.not_true,Bool.false_eq_true,if_false]
    refine(List.filter_eq_self.2 fun x hx=> ?_).symm
    have:x≠y:=fun e=>hn'.1 (e▸hx)
    simpa using this
   |succ k=>
    have hk':k<l.length:=by simpa using hk
    simp only[List.eraseIdx_cons_succ,List.getElem_cons_succ,List.filter_cons]
    have:y≠l[k]:=fun e=>hn'.1 (e▸List.getElem_mem hk')
    rw[if_pos (by simpa using this),ih hn'.2 k hk']
set_option maxHeartbeats 4000000 in
theorem zoE (l:List Lk) (hs:SL l) (hl:l.length<2^30) (hll:∀k∈l,k.line.length<2^30∧k.line.Nodup) (name:ByteArray) (c t:Int) (ht:0≤t∧t<2^62):
  CallOK Tryz.prog 151 [.f (al l.length (zah l)), .f (ast name), .f (ai c), .f (ai t)]
  (fun r o=>r=[.one (.own 4 (za2 l name c t).1.length (zah (za2 l name c t).1) false),ri (za2 l name c t).2.1,ri (za2 l name c t).2.2]∧o=[]):=by
 refine CallOK.nil ?_
 refine zac zak mixed (T:=Ty) (n:=101) Tryz.func151 (c:=Tryz.f151.body.getD .skip) rfl Tryz.results151 Tryz.ntmps151 Tryz.call151 ?_
 simp only[Tryz.f151,Option.getD]
 have hco:=zhH l hl (fun k hk=>(hll k hk).1)
 have hfi:=ziu l (by omega) name
 rw[zgv hs]at hfi
 have hwt:IntKind.i64.wrap (t+1)=t+1:=wrap64 (by omega) (by omega)
 cases hf:zcL l name with
 |none=>
  rw[hf]at hfi
  simp only at hfi
  have hm1:decide ((-1:Int)<0)=true:=rfl
  have hfr:za2 l name c t=([],0,6):=by unfold za2;rw[hf]
  rw[hfr]
  repeat'(first|refine zq (I hm1 @zas) ?_|exact zd (I hm1 @zas)|refine zc (hco) ?_|refine zg (hco) ?_|refine zc (hfi) ?_|refine zg (hfi) ?_|(refine zaa ?_ ?_<;>intro hb)|(refine And.intro ?_ ?_;exact zI)|(refine And.intro ?_ ?_<;>intro hg)|exact zC|fail)
  simp[zgs,zaA]
 |some k=>
  rw[hf]at hfi
  simp only at hfi
  obtain⟨⟨hi,he⟩,hn⟩:=zcM hs hf
  have hat:=zaK hi
  rw[he]at hat
  obtain⟨hkl,hkn⟩:=hll k (he▸List.getElem_mem hi)
  have hah:=zix k.line (by omega) c
  have hm1:decide ((za9 l name:Int)<0)=false:=by simp
  have hat1:(zah l).drop (za9 l name*4+1)=iD k.holder::iD k.token:: .sl k.line.length (zaw k.line)::zah (l.drop (za9 l name+1)):=by rw[←List.drop_drop,hat];rfl
  have hat3:(zah l).drop (za9 l name*4+3)= .sl k.line.length (zaw k.line)::zah (l.drop (za9 l name+1)):=by rw[←List.drop_drop,hat];rfl
  have hfr:za2 l name c t=if(k.holder==c)=true then((zcV l (za9 l name) k t).1,(zcV l (za9 l name) k t).2,0)else
    if hasI k.line c=true then(l.set (za9 l name) ⟨k.name,k.holder,k.token,(zcN k.line c).1⟩,0,0)else([],0,6):=by unfold za2;rw[hf]
  cases h1:(k.holder==c)
  ·have h1':(k.holder !=c)=true:=by rw[bne,h1];rfl
   rw[if_neg (by rw[h1];simp)]at hfr
   cases h3:hasI k.line c
   ·rw[if_neg (by rw[h3];simp)]at hfr
    rw[hfr]
    rw[h3]at hah
    repeat'(first|refine zq (I hm1 (I h1' (I hat1 (I hat3 (I @zmd (I @List.map_cons.{0,0} (I @zad @zas))))))) ?_|exact zd (I hm1 (I h1' (I hat1 (I hat3 (I @zmd (I @List.map_cons.{0,0} (I @zad @zas)))))))|refine zc (hco) ?_|refine zg (hco) ?_|refine zc (hfi) ?_|refine zg (hfi) ?_|refine zc (hah) ?_|refine zg (hah) ?_|(refine zaa ?_ ?_<;>intro hb)|(refine And.intro ?_ ?_;exact zI)|(refine And.intro ?_ ?_<;>intro hg)|exact zC|fail)
    simp[zgs,zaA]
   ·rw[if_pos h3,zkW hkn h3]at hfr
    rw[hfr]
    rw[h3]at hah
    have hwo:=ziy k.line [c] hkl (by simp)
    have hset:=zcx Lk.enc 4 (fun _=>rfl) hi (k:=3) (by decide) (.sl (zaX k.line [c]).length (zaw (zaX k.line [c]))) ⟨k.name,k.holder,k.token,zaX k.line [c]⟩ (by rw[he];rfl)
    have hwl:(zaw (zaX k.line [c])).take ((zaX k.line [c]).length*1)=zaw (zaX k.line [c]):=List.take_of_length_le (by rw[zaf];omega)
    repeat'(first|(with_reducible first|refine zab _ _ ?_|refine zaU ?_|refine zaV ?_)|rw[zat]|simp only[hm1,h1',hat1,hat3,hset,hwl,zfT,zaf,←List.map_drop,List.map_cons,zad,zas,zY,Int.reduceEq,Int.reduceBEq,Int.reduceBNe,Nat.reduceSub,Nat.reduceEqDiff,Nat.reduceAdd,Nat.reduceMul,Nat.reduceLeDiff,Nat.reduceLT,Nat.reduceBEq,reduceCtorEq]|((first|((try refine zaJ ?_);apply zaP)|(apply zaM;intro _));(solve|exact(hco)|exact(hfi)|exact(hah)|exact(hwo)|(refine CallOK.le (hco) ?_;exact zM)|(refine CallOK.le (hfi) ?_;exact zM)|(refine CallOK.le (hah) ?_;exact zM)|(refine CallOK.le (hwo) ?_;exact zM)|fail);try case hn=>rfl)|refine zay ?_|refine zaa (fun hb=> ?_) (fun hb=> ?_)|(refine And.intro ?_ ?_;exact zI)|refine And.intro (fun hg=> ?_) (fun hg=> ?_)|exact zC|fail)
    simp[zgs,zaA]
  ·have h1':(k.holder !=c)=false:=by rw[bne,h1];rfl
   rw[if_pos h1]at hfr
   rw[hfr]
   unfold zcV
   cases hk:k.line with
   |nil=>
    rw[hk]at hat1 hat3
    simp only[List.length_nil,List.flatMap_nil]at hat1 hat3
    have hE:=zml Lk.enc 4 (fun _=>rfl) hi
    have hE2:((zah l).drop ((za9 l name+1)*4)).take ((l.length - (za9 l name+1))*4)=(zah l).drop ((za9 l name+1)*4):=List.take_of_length_le (by rw[List.length_drop,zad];omega)
    have hz:(((0:Nat):Int)==0)=true:=rfl
    have hw:IntKind.i64.wrap ((za9 l name:Int)+1)=((za9 l name+1:Nat):Int):=by rw[wrap64 (by omega) (by omega)];omega
    have hq1:((zah l).take (za9 l name*4)).length=za9 l name*4:=by rw[List.length_take,zad];omega
    have hq2:((zah l).drop ((za9 l name+1)*4)).length=(l.length - (za9 l name+1))*4:=by rw[List.length_drop,zad];omega
    have hB1:(za9 l name*56≤2^47)=True:=eq_true (by omega)
    have hB2:((za9 l name+(l.length - (za9 l name+1)))*56≤2^47)=True:=eq_true (by omega)
    have hB3:(((za9 l name+1:Nat):Int)≤(l.length:Int))=True:=eq_true (by omega)
    have hB4:((za9 l name:Int)≤(l.length:Int))=True:=eq_true (by omega)
    have hB5:(0≤((za9 l name+1:Nat):Int))=True:=eq_true (by omega)
    have hTT:((zah l).take (za9 l name*4)).take (za9 l name*4)=(zah l).take (za9 l name*4):=List.take_of_length_le (by omega)
    have hTA:(zah l).take (za9 l name*4)++(zah l).drop ((za9 l name+1)*4)=zah (l.eraseIdx (za9 l name)):=hE.symm
    have hle:(l.eraseIdx (za9 l name)).length=za9 l name+(l.length - (za9 l name+1)):=by rw[List.length_eraseIdx_of_lt hi];omega
    repeat'(first|(with_reducible first|refine zab _ _ ?_|refine zaU ?_|refine zaV ?_)|rw[zat]|simp only[hm1,h1',hat1,hat3,hz,hw,hE2,hq1,hq2,hB1,hB2,hB3,hB4,hB5,hTT,hTA,Int.le_refl,←List.map_drop,List.map_cons,zad,zas,zY,Int.reduceEq,Int.reduceBEq,Int.reduceBNe,Nat.reduceSub,Nat.reduceEqDiff,Nat.reduceAdd,Nat.reduceMul,Nat.reduceLeDiff,Nat.reduceLT,Nat.reduceBEq,reduceCtorEq]|((first|((try refine zaJ ?_);apply zaP)|(apply zaM;intro _));(solve|exact(hco)|exact(hfi)|(refine CallOK.le (hco) ?_;exact zM)|(refine CallOK.le (hfi) ?_;exact zM)|fail);try case hn=>rfl)|refine zay ?_|refine zaa (fun hb=> ?_) (fun hb=> ?_)|(refine And.intro ?_ ?_;exact zI)|refine And.intro (fun hg=> ?_) (fun hg=> ?_)|exact zC|fail)
    simp[zgs,zaA,hle]
   |cons x rest=>
    rw[hk]at hat1 hat3
    have hz:(((rest.length+1:Nat):Int)==0)=false:=by simp;omega
    have hrl:rest.length<2^30:=by rw[hk,List.length_cons]at hkl;omega
    have hn1:rest.length+1 - 1=rest.length:=rfl
    have hT:(zaw rest).take rest.length=zaw rest:=List.take_of_length_le (by rw[zaf];exact Nat.le_refl _)
    have hBr:(rest.length*8≤2^47)=True:=eq_true (by omega)
    have hnx:=List.nodup_cons.1 (hk▸hkn)
    have hset1:=zcx Lk.enc 4 (fun _=>rfl) hi (k:=1) (by decide) (iD x) ⟨k.name,x,k.token,x::rest⟩ (by rw[he,←hk];rfl)
    obtain⟨l1,hl1⟩:∃l1,l1=l.set (za9 l name) ⟨k.name,x,k.token,x::rest⟩:=⟨_,rfl⟩
    have hi1:za9 l name<l1.length:=by rw[hl1];simpa using hi
    have hg1:l1[za9 l name]=⟨k.name,x,k.token,x::rest⟩:=by simp[hl1]
    have hset2:=zcx Lk.enc 4 (fun _=>rfl) hi1 (k:=3) (by decide) (.sl rest.length (zaw rest)) ⟨k.name,x,k.token,rest⟩ (by rw[hg1];rfl)
    obtain⟨l2,hl2⟩:∃l2,l2=l1.set (za9 l name) ⟨k.name,x,k.token,rest⟩:=⟨_,rfl⟩
    have hi2:za9 l name<l2.length:=by rw[hl2];simpa using hi1
    have hg2:l2[za9 l name]=⟨k.name,x,k.token,rest⟩:=by simp[hl2]
    have hset3:=zcx Lk.enc 4 (fun _=>rfl) hi2 (k:=2) (by decide) (iD (t+1)) ⟨k.name,x,t+1,rest⟩ (by rw[hg2];rfl)
    have hl3:l2.set (za9 l name) ⟨k.name,x,t+1,rest⟩=l.set (za9 l name) ⟨k.name,x,t+1,rest⟩:=by rw[hl2,hl1,List.set_set,List.set_set]
    rw[←hl1]at hset1
    rw[←hl2]at hset2
    rw[hl3]at hset3
    have hat3':=zaK hi1
    rw[hg1]at hat3'
    have hat3':(zah l1).drop (za9 l name*4+3)= .sl (x::rest).length (zaw (x::rest))::zah (l1.drop (za9 l name+1)):=by rw[←List.drop_drop,hat3'];rfl
    have hll1:l1.length=l.length:=by rw[hl1,List.length_set]
    repeat'(first|refine zq (I hm1 (I h1' (I hat1 (I hat3 (I hat3' (I hz (I hwt (I hset1 (I hset2 (I hset3 (I @zaf (I hn1 (I hT (I hBr (I hll1 (I @zmd (I @List.map_cons.{0,0} (I @zad @zas)))))))))))))))))) ?_|exact zd (I hm1 (I h1' (I hat1 (I hat3 (I hat3' (I hz (I hwt (I hset1 (I hset2 (I hset3 (I @zaf (I hn1 (I hT (I hBr (I hll1 (I @zmd (I @List.map_cons.{0,0} (I @zad @zas))))))))))))))))))|refine zc (hco) ?_|refine zg (hco) ?_|refine zc (hfi) ?_|refine zg (hfi) ?_|(refine zaa ?_ ?_<;>intro hb)|(refine And.intro ?_ ?_;exact zI)|(refine And.intro ?_ ?_<;>intro hg)|exact zC|fail)
    simp[zgs,zaA]
end Go.Proofs.YtbpmcjeeeiffhaaGreat
