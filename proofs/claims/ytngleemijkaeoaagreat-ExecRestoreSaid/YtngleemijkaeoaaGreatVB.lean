import Derived.Test.YtngleemijkaeoaaGreatK9
import Derived.Test.YtngleemijkaeoaaGreatW
namespace Go.Proofs.YtngleemijkaeoaaGreat
open Go.Pk
set_option maxRecDepth 100000
set_option linter.unusedSimpArgs false
set_option linter.unusedVariables false
theorem zhX (v a:Int):CallOK Tryz.prog 91 [.f (ai v), .f (ai a)] (fun r o=>r=[rb (decide (v≥a)&&decide (v≤2305843009213693952))]∧o=[]):=by
 refine zac zar mixed (T:=Ty) (n:=12) Tryz.func91 (c:=Tryz.f91.body.getD .skip) rfl Tryz.results91 Tryz.ntmps91 Tryz.call91 ?_
 simp only[Tryz.f91,Option.getD]
 repeat'(first|refine zq0 ?_|exact zd0|(refine zaa ?_ ?_<;>intro hb)|(refine And.intro ?_ ?_;exact zI)|(refine And.intro ?_ ?_<;>intro hg)|exact zC|fail)
theorem zow (c:Int):CallOK Tryz.prog 131 [.f (ai c)] (fun r o=>r=[rb (isClient c)]∧o=[]):=by
 refine zac zar mixed (T:=Ty) (n:=9) Tryz.func131 (c:=Tryz.f131.body.getD .skip) rfl Tryz.results131 Tryz.ntmps131 Tryz.call131 ?_
 simp only[Tryz.f131,Option.getD]
 repeat'(first|refine zq0 ?_|exact zd0|(refine zaa ?_ ?_<;>intro hb)|(refine And.intro ?_ ?_;exact zI)|(refine And.intro ?_ ?_<;>intro hg)|exact zC|fail)
 rfl
theorem zhY (l:List Int) (hl:l.length<2^62) (c:Int):CallOK Tryz.prog 141 [.f (al l.length (zaw l)), .f (ai c)] (fun r o=>r=[ri (zhi l c),rb (hasI l c)]∧o=[]):=by
 refine zac zar mixed (T:=Ty) (n:=20) Tryz.func141 (c:=Tryz.f141.body.getD .skip) rfl Tryz.results141 Tryz.ntmps141 Tryz.call141 ?_
 simp only[Tryz.f141,Option.getD]
 have hh:hasI l c=decide (zck (fun x=>c==x) l 0≥0):=(zdu _ l).symm
 rw[hh]
 unfold zhi
 repeat'(first|refine zq0 ?_|exact zd0|(refine zaa ?_ ?_<;>intro hb)|(refine And.intro ?_ ?_;exact zI)|(refine And.intro ?_ ?_<;>intro hg)|exact zC|fail)
 refine zao (τ:=Nat) (fun i=>⟨[al l.length (zaw l),ai c,dd,dd,dd,dd,ai i,dd,dd,dd,dd,dd,dd,dd,dd,dd,dd,dd,dd,dd],[]⟩)
  (fun i=>i≤l.length) (fun i=>zck (fun x=>c==x) (l.drop i) i) (fun i=>l.length - i) 0
  (Gh.canon [] [] [] zK rfl rfl) (Nat.zero_le _) ?_
 intro i hi0 hF K hK
 rw[List.drop_zero]at hF
 refine zw ?_
 refine zaa (fun hlt=> ?_) (fun hge=> ?_)
 ·have hi:i<l.length:=by simpa using hlt
  have hat:=zcN hi
  have hw:=zan hi hl
  have hq:zck (fun x=>c==x) (l.drop i) i=if(l[i]==c)=true then(i:Int)else zck (fun x=>c==x) (l.drop (i+1)) ((i+1:Nat):Int):=by
   rw[List.drop_eq_getElem_cons hi,zck,zmu];rfl
  rw[hq]at hF
  repeat'(first|refine zq (I hat (I @zah zca)) ?_|exact zd (I hat (I @zah zca))|(refine zaa ?_ ?_<;>intro hb)|(refine And.intro ?_ ?_;exact zI)|(refine And.intro ?_ ?_<;>intro hg)|exact zC|fail)
  ·rw[if_pos hb]at hF
   have hF:(i:Int)=zck (fun x=>c==x) l 0:=hF
   rw[←hF,if_pos (by omega)]
   simp
  ·rw[if_neg (by rw[hb];simp)]at hq
   exact hK _ (i+1) (Gh.canon [] [] [] (zk hw) rfl rfl) hi hq.symm (by omega)
 ·have hi:i=l.length:=by
   have:¬(i:Int)<l.length:=by simpa using hge
   omega
  rw[hi,List.drop_length]at hF
  have hF:(-1:Int)=zck (fun x=>c==x) l 0:=hF
  rw[←hF]
  repeat'(first|refine zq0 ?_|exact zd0|(refine zaa ?_ ?_<;>intro hb)|(refine And.intro ?_ ?_;exact zI)|(refine And.intro ?_ ?_<;>intro hg)|exact zC|fail)
  rfl
theorem zhZ (l gone:List Int) (hl:l.length<2^30) (hg:gone.length<2^30):CallOK Tryz.prog 138 [.f (al l.length (zaw l)), .f (al gone.length (zaw gone))] (fun r o=>r=[zfc (zaY l gone)]∧o=[]):=by
 refine CallOK.nil ?_
 refine zac zar mixed (T:=Ty) (n:=28) Tryz.func138 (c:=Tryz.f138.body.getD .skip) rfl Tryz.results138 Tryz.ntmps138 Tryz.call138 ?_
 simp only[Tryz.f138,Option.getD]
 repeat'(first|refine zq0 ?_|exact zd0|(refine zaa ?_ ?_<;>intro hb)|(refine And.intro ?_ ?_;exact zI)|(refine And.intro ?_ ?_<;>intro hg)|exact zC|fail)
 refine zao (τ:=Nat×List Int) (fun t=>⟨[al l.length (zaw l),al gone.length (zaw gone),dd,dd,dd, .one (.own ⟨5,1,1⟩ 0 t.2.length),ai t.1,dd,dd,dd,dd,dd,dd,dd,dd,dd,dd,dd,dd,dd,dd,dd,dd,dd,dd,dd,dd,dd],[(5,{next:=2,l:=[none,some {e:=1,var:=false,fz:=false,sz:=1,cells:=(zaw t.2).map C.d}]}),(25,⟨2,[]⟩),(26,⟨2,[]⟩)]⟩)
  (fun t=>t.1≤l.length∧t.2.length≤t.1) (fun t=>t.2++zaY (l.drop t.1) gone) (fun t=>l.length - t.1) (0,[])
  ((Gh.nil (i:=5) (s:=5) (sz:=1) rfl).trans (Gh.canon [5] [25,26] [] zK rfl rfl)) ⟨Nat.zero_le _,Nat.zero_le _⟩ ?_
 intro⟨i,acc⟩ ⟨hi0,hac⟩ hF K hK
 simp only[List.drop_zero,List.nil_append]at hi0 hac hF hK⊢
 refine zw ?_
 refine zaa (fun hlt=> ?_) (fun hge=> ?_)
 ·have hi:i<l.length:=by simpa using hlt
  have hat:=zcN hi
  have hw:=zan hi (by omega)
  have hin:=zva gone (by omega) l[i]
  have hFs:zaY (l.drop i) gone=if(!hasI gone l[i])=true then l[i]::zaY (l.drop (i+1)) gone else zaY (l.drop (i+1)) gone:=by
   unfold zaY
   rw[List.drop_eq_getElem_cons hi,List.filter_cons]
  cases hb:(!hasI gone l[i])
  ·rw[hb,if_neg (by simp)]at hFs
   repeat'(first|refine zq (I hat (I hb (I @zah zca))) ?_|exact zd (I hat (I hb (I @zah zca)))|refine zc (hin) ?_|refine zg (hin) ?_|(refine zaa ?_ ?_<;>intro hb)|(refine And.intro ?_ ?_;exact zI)|(refine And.intro ?_ ?_<;>intro hg)|exact zC|fail)
   exact hK _ (i+1,acc) (Gh.canon [5] [] [] (zk hw) rfl rfl) ⟨hi,by simp only;omega⟩ (by simp only;rw[hFs]) (by simp only;omega)
  ·rw[hb,if_pos rfl]at hFs
   repeat'(first|refine zq (I hat (I hb (I @zah zca))) ?_|exact zd (I hat (I hb (I @zah zca)))|refine zc (hin) ?_|refine zg (hin) ?_|(refine zaa ?_ ?_<;>intro hb)|(refine And.intro ?_ ?_;exact zI)|(refine And.intro ?_ ?_<;>intro hg)|exact zC|fail)
   exact hK _ (i+1,acc++[l[i]]) (Gh.canon [5] [] [] (zk (I hw (I @List.length_append.{0} @List.length_singleton.{0}))) rfl (by simp only[List.length_append,List.length_singleton];rw[zgg];rfl)) ⟨hi,by simp only[List.length_append,List.length_singleton];omega⟩ (by simp only[List.append_assoc,List.singleton_append];rw[hFs]) (by simp only;omega)
 ·have hi:i=l.length:=by
   have:¬(i:Int)<l.length:=by simpa using hge
   omega
  rw[hi,List.drop_length]at hF
  have hF:acc++[]=zaY l gone:=hF
  rw[←hF,List.append_nil]
  repeat'(first|refine zq0 ?_|exact zd0|(refine zaa ?_ ?_<;>intro hb)|(refine And.intro ?_ ?_;exact zI)|(refine And.intro ?_ ?_<;>intro hg)|exact zC|fail)
  simp[zh9,za4,zfc]
abbrev zt9 (l:List Sess) (now lease:Int):List Int:=(l.filter fun s=>decide (now - s.renewed≥lease)).map Sess.client
theorem zua (l:List Sess) (hl:l.length<2^30) (now lease:Int) (hr:∀s∈l,0≤s.renewed∧s.renewed≤zaL) (hn:0≤now∧now≤zaL):CallOK Tryz.prog 62 [.f (al l.length (zaE l)), .f (ai now), .f (ai lease)] (fun r o=>r=[zfc (zgP l now lease)]∧o=[]):=by
 refine CallOK.nil ?_
 refine zac zar mixed (T:=Ty) (n:=41) Tryz.func62 (c:=Tryz.f62.body.getD .skip) rfl Tryz.results62 Tryz.ntmps62 Tryz.call62 ?_
 simp only[Tryz.f62,Option.getD]
 have hg1:=zhX now 0
 have hg2:=zhX lease 0
 rw[show(decide (now≥0)&&decide (now≤2305843009213693952))=true by have:zaL=2305843009213693952:=rfl;simp;omega]at hg1
 cases hle:(decide (lease≥0)&&decide (lease≤2305843009213693952))
 ·rw[hle]at hg2
  have hd:zgP l now lease=[]:=by
   unfold zgP
   rw[if_pos]
   have:zaL=2305843009213693952:=rfl
   simp at hle⊢
   omega
  rw[hd]
  repeat'(first|refine zq0 ?_|exact zd0|refine zc (hg1) ?_|refine zg (hg1) ?_|refine zc (hg2) ?_|refine zg (hg2) ?_|(refine zaa ?_ ?_<;>intro hb)|(refine And.intro ?_ ?_;exact zI)|(refine And.intro ?_ ?_<;>intro hg)|exact zC|fail)
  simp[zh9,za4,zfc]
 rw[hle]at hg2
 have hd:zgP l now lease=zt9 l now lease:=by
  unfold zgP
  rw[if_neg]
  have:zaL=2305843009213693952:=rfl
  simp at hle⊢
  omega
 rw[hd]
 repeat'(first|refine zq0 ?_|exact zd0|refine zc (hg1) ?_|refine zg (hg1) ?_|refine zc (hg2) ?_|refine zg (hg2) ?_|(refine zaa ?_ ?_<;>intro hb)|(refine And.intro ?_ ?_;exact zI)|(refine And.intro ?_ ?_<;>intro hg)|exact zC|fail)
 refine zao (τ:=Nat×List Int) (fun t=>⟨[al l.length (zaE l),ai now,ai lease,dd,dd,dd,dd, .one (.own ⟨7,1,1⟩ 0 t.2.length),ai t.1,dd,dd,dd,dd,dd,dd,dd,dd,dd,dd,dd,dd,dd,dd,dd,dd,dd,dd,dd,dd,dd,dd,dd,dd,dd,dd,dd,dd,dd,dd,dd,dd],[(7,{next:=2,l:=[none,some {e:=1,var:=false,fz:=false,sz:=1,cells:=(zaw t.2).map C.d}]}),(38,⟨2,[]⟩),(39,⟨2,[]⟩)]⟩)
  (fun t=>t.1≤l.length∧t.2.length≤t.1) (fun t=>t.2++zt9 (l.drop t.1) now lease) (fun t=>l.length - t.1) (0,[])
  ((Gh.nil (i:=7) (s:=7) (sz:=1) rfl).trans (Gh.canon [7] [38,39] [] zK rfl rfl)) ⟨Nat.zero_le _,Nat.zero_le _⟩ ?_
 intro⟨i,acc⟩ ⟨hi0,hac⟩ hF K hK
 simp only[List.drop_zero,List.nil_append]at hi0 hac hF hK⊢
 refine zw ?_
 refine zaa (fun hlt=> ?_) (fun hge=> ?_)
 ·have hi:i<l.length:=by simpa using hlt
  have hat:=zbM hi
  have hw:=zan hi (by omega)
  have hrb:=hr _ (List.getElem_mem hi)
  have hH:zaL=2305843009213693952:=rfl
  have hw2:IntKind.i64.wrap (now - l[i].renewed)=now - l[i].renewed:=wrap64 (by omega) (by omega)
  have hFs:zt9 (l.drop i) now lease=if(decide (now - l[i].renewed≥lease))=true then l[i].client::zt9 (l.drop (i+1)) now lease else zt9 (l.drop (i+1)) now lease:=by
   unfold zt9
   rw[List.drop_eq_getElem_cons hi,List.filter_cons]
   split<;>simp
  cases hb:(decide (now - l[i].renewed≥lease))
  ·rw[hb,if_neg (by simp)]at hFs
   repeat'(first|refine zq (I hat (I hb (I hw2 (I @zai zca)))) ?_|exact zd (I hat (I hb (I hw2 (I @zai zca))))|(refine zaa ?_ ?_<;>intro hb)|(refine And.intro ?_ ?_;exact zI)|(refine And.intro ?_ ?_<;>intro hg)|exact zC|fail)
   exact hK _ (i+1,acc) (Gh.canon [7] [] [] (zk hw) rfl rfl) ⟨hi,by simp only;omega⟩ (by simp only;rw[hFs]) (by simp only;omega)
  ·rw[hb,if_pos rfl]at hFs
   repeat'(first|refine zq (I hat (I hb (I hw2 (I @zai zca)))) ?_|exact zd (I hat (I hb (I hw2 (I @zai zca))))|(refine zaa ?_ ?_<;>intro hb)|(refine And.intro ?_ ?_;exact zI)|(refine And.intro ?_ ?_<;>intro hg)|exact zC|fail)
   exact hK _ (i+1,acc++[l[i].client]) (Gh.canon [7] [] [] (zk (I hw (I @List.length_append.{0} @List.length_singleton.{0}))) rfl (by simp only[List.length_append,List.length_singleton];rw[zgg];rfl)) ⟨hi,by simp only[List.length_append,List.length_singleton];omega⟩ (by simp only[List.append_assoc,List.singleton_append];rw[hFs]) (by simp only;omega)
 ·have hi:i=l.length:=by
   have:¬(i:Int)<l.length:=by simpa using hge
   omega
  rw[hi,List.drop_length]at hF
  have hF:acc++[]=zt9 l now lease:=hF
  rw[←hF,List.append_nil]
  repeat'(first|refine zq0 ?_|exact zd0|(refine zaa ?_ ?_<;>intro hb)|(refine And.intro ?_ ?_;exact zI)|(refine And.intro ?_ ?_<;>intro hg)|exact zC|fail)
  simp[zh9,za4,zfc]
theorem zsb (l:List Lk) (hl:l.length<2^30) (c:Int):CallOK Tryz.prog 142 [.f (al l.length (zaf l)), .f (ai c)] (fun r o=>r=[.one (.own 2 (zbd l c).length (zaH (zbd l c)) false)]∧o=[]):=by
 refine CallOK.nil ?_
 refine zac zar mixed (T:=Ty) (n:=35) Tryz.func142 (c:=Tryz.f142.body.getD .skip) rfl Tryz.results142 Tryz.ntmps142 Tryz.call142 ?_
 simp only[Tryz.f142,Option.getD]
 repeat'(first|refine zq0 ?_|exact zd0|(refine zaa ?_ ?_<;>intro hb)|(refine And.intro ?_ ?_;exact zI)|(refine And.intro ?_ ?_<;>intro hg)|exact zC|fail)
 refine zao (τ:=Nat×List Grant) (fun t=>⟨[al l.length (zaf l),ai c,dd,dd,dd, .one (.own ⟨5,1,1⟩ 0 t.2.length),ai t.1,dd,dd,dd,dd,dd,dd,dd,dd,dd,dd,dd,dd,dd,dd,dd,dd,dd,dd,dd,dd,dd,dd,dd,dd,dd,dd,dd,dd],[(5,{next:=2,l:=[none,some {e:=1,var:=false,fz:=false,sz:=2,cells:=(zaH t.2).map C.d}]}),(32,⟨2,[]⟩),(33,⟨2,[]⟩)]⟩)
  (fun t=>t.1≤l.length∧t.2.length≤t.1) (fun t=>t.2++zbd (l.drop t.1) c) (fun t=>l.length - t.1) (0,[])
  ((Gh.nil (i:=5) (s:=5) (sz:=2) rfl).trans (Gh.canon [5] [32,33] [] zK rfl rfl)) ⟨Nat.zero_le _,Nat.zero_le _⟩ ?_
 intro⟨i,acc⟩ ⟨hi0,hac⟩ hF K hK
 simp only[List.drop_zero,List.nil_append]at hi0 hac hF hK⊢
 refine zw ?_
 refine zaa (fun hlt=> ?_) (fun hge=> ?_)
 ·have hi:i<l.length:=by simpa using hlt
  have hat:=zaO hi
  have hw:=zan hi (by omega)
  have hFs:zbd (l.drop i) c=if(l[i].holder==c)=true then⟨l[i].name,l[i].token⟩::zbd (l.drop (i+1)) c else zbd (l.drop (i+1)) c:=by
   unfold zbd
   rw[List.drop_eq_getElem_cons hi,List.filter_cons]
   split<;>simp
  cases hb:(l[i].holder==c)
  ·rw[hb,if_neg (by simp)]at hFs
   repeat'(first|refine zq (I hat (I hb (I @zae zca))) ?_|exact zd (I hat (I hb (I @zae zca)))|(refine zaa ?_ ?_<;>intro hb)|(refine And.intro ?_ ?_;exact zI)|(refine And.intro ?_ ?_<;>intro hg)|exact zC|fail)
   exact hK _ (i+1,acc) (Gh.canon [5] [] [] (zk hw) rfl rfl) ⟨hi,by simp only;omega⟩ (by simp only;rw[hFs]) (by simp only;omega)
  ·rw[hb,if_pos rfl]at hFs
   repeat'(first|refine zq (I hat (I hb (I @zae zca))) ?_|exact zd (I hat (I hb (I @zae zca)))|(refine zaa ?_ ?_<;>intro hb)|(refine And.intro ?_ ?_;exact zI)|(refine And.intro ?_ ?_<;>intro hg)|exact zC|fail)
   exact hK _ (i+1,acc++[⟨l[i].name,l[i].token⟩]) (Gh.canon [5] [] [] (zk (I hw (I @List.length_append.{0} @List.length_singleton.{0}))) rfl (by simp only[List.length_append,List.length_singleton];rw[zgx];rfl)) ⟨hi,by simp only[List.length_append,List.length_singleton];omega⟩ (by simp only[List.append_assoc,List.singleton_append];rw[hFs]) (by simp only;omega)
 ·have hi:i=l.length:=by
   have:¬(i:Int)<l.length:=by simpa using hge
   omega
  rw[hi,List.drop_length]at hF
  have hF:acc++[]=zbd l c:=hF
  rw[←hF,List.append_nil]
  repeat'(first|refine zq0 ?_|exact zd0|(refine zaa ?_ ?_<;>intro hb)|(refine And.intro ?_ ?_;exact zI)|(refine And.intro ?_ ?_<;>intro hg)|exact zC|fail)
  simp[zh9,za4]
theorem zlJ {x:Value}:normD (.raw x)= .raw x:=rfl
structure LkD where
 k:Lk
 x:D
abbrev LkD.enc (m:LkD):List D:=[sD m.k.name,iD m.k.holder,iD m.k.token,m.x]
abbrev zdy (l:List LkD):List D:=l.flatMap LkD.enc
def plain (k:Lk):LkD:=⟨k, .sl k.line.length (zaw k.line)⟩
theorem zh0 {l:List Lk}:zdy (l.map plain)=zaf l:=by
 induction l with
 |nil=>rfl
 |cons k l ih=>rw[List.map_cons,zdy,List.flatMap_cons,zaf,List.flatMap_cons];exact congrArg (_++·) ih
theorem znH {l:List LkD} {i:Nat} (hi:i<l.length):(zdy l).drop (i*4)=l[i].enc++(zdy (l.drop (i+1))):=zcO _ 4 l i hi fun _=>rfl
theorem zbA {l:List LkD}:(zdy l).length=l.length*4:=zcl _ 4 (fun _=>rfl) l
theorem zi0 {l:List LkD}:(zdy l).take (l.length*4)=zdy l:=zcM LkD.enc 4 (fun _=>rfl) l
theorem zi1 {l:List LkD} {m:LkD}:zdy (l++[m])=zdy l++m.enc:=by simp[zdy]
theorem zgr {l:List Lk} {m:Lk}:zaf (l++[m])=zaf l++m.enc:=by simp[zaf]
theorem zg3 (l:List Lk) (hl:l.length<2^30) (hll:∀k∈l,k.line.length<2^30):CallOK Tryz.prog 137 [.f (al l.length (zaf l))] (fun r o=>r=[.one (.own 4 l.length (zaf l) false)]∧o=[]):=by
 refine CallOK.nil ?_
 refine zac zar mixed (T:=Ty) (n:=26) Tryz.func137 (c:=Tryz.f137.body.getD .skip) rfl Tryz.results137 Tryz.ntmps137 Tryz.call137 ?_
 simp only[Tryz.f137,Option.getD]
 repeat'(first|refine zq0 ?_|exact zd0|(refine zaa ?_ ?_<;>intro hb)|(refine And.intro ?_ ?_;exact zI)|(refine And.intro ?_ ?_<;>intro hg)|exact zC|fail)
 refine zao (τ:=Nat) (fun i=>⟨[al l.length (zaf l),dd,dd, .one (.own ⟨3,1,1⟩ 0 i),ai i,dd,dd,dd,dd,dd,dd,dd,dd,dd,dd,dd,dd,dd,dd,dd,dd,dd,dd,dd,dd,dd],[(3,{next:=2,l:=[none,some {e:=1,var:=false,fz:=false,sz:=4,cells:=(zaf (l.take i)).map C.d}]}),(5,⟨2,[]⟩),(16,⟨2,[]⟩),(19,⟨2,[]⟩),(23,⟨2,[]⟩),(24,⟨2,[]⟩)]⟩)
  (fun i=>i≤l.length) (fun _=>()) (fun i=>l.length - i) 0
  ((Gh.nil (i:=3) (s:=3) (sz:=4) rfl).trans (Gh.canon [3] [5,16,19,23,24] [] zK rfl rfl)) (Nat.zero_le _) ?_
 intro i hi0 hF K hK
 refine zw ?_
 refine zaa (fun hlt=> ?_) (fun hge=> ?_)
 ·have hi:i<l.length:=by simpa using hlt
  have hat:=zaO hi
  have hw:=zan hi (by omega)
  have hlk:=hll _ (List.getElem_mem hi)
  have h1:(l[i].line.length*8≤2^47)=True:=eq_true (by omega)
  have htl:(l.take i).length=i:=by rw[List.length_take];omega
  have htk:=zay (l:=l.take i)
  rw[htl]at htk
  have hsn:zaf (l.take i)++[sD l[i].name,iD l[i].holder,iD l[i].token, .sl l[i].line.length (zaw l[i].line)]=zaf (l.take (i+1)):=by
   rw[←List.take_append_getElem hi,zgr]
  repeat'(first|refine zq (I hat (I @zae (I @zah (I h1 (I htl (I htk (I hsn zca))))))) ?_|exact zd (I hat (I @zae (I @zah (I h1 (I htl (I htk (I hsn zca)))))))|(refine zaa ?_ ?_<;>intro hb)|(refine And.intro ?_ ?_;exact zI)|(refine And.intro ?_ ?_<;>intro hg)|exact zC|fail)
  exact hK _ (i+1) (Gh.canon [3] [] [] (zk hw) rfl rfl) hi rfl (by omega)
 ·have hi:i=l.length:=by
   have:¬(i:Int)<l.length:=by simpa using hge
   omega
  subst hi
  repeat'(first|refine zq @List.take_length.{0} ?_|exact zd @List.take_length.{0}|(refine zaa ?_ ?_<;>intro hb)|(refine And.intro ?_ ?_;exact zI)|(refine And.intro ?_ ?_<;>intro hg)|exact zC|fail)
  show za4 _ _∧True
  simp[za4]
def zi2 (l:List Lk) (i:Nat) (x:D):List LkD:=l.zipIdx.map fun p=>if p.2=i then⟨p.1,x⟩else plain p.1
theorem zbh {l:List Lk} {i:Nat} {x:D}:(zi2 l i x).length=l.length:=by simp[zi2]
theorem zec {l:List Lk} {i j:Nat} {x:D} (hj:j<l.length):(zi2 l i x)[j]'(by rw[zbh];exact hj)=if j=i then⟨l[j],x⟩else plain l[j]:=by simp[zi2]
theorem zve {l:List Lk} {i:Nat} {x:D}:(zi2 l i x).map LkD.k=l:=by
 refine List.ext_getElem (by simp[zbh]) fun j h1 h2=> ?_
 rw[List.getElem_map,zec h2]
 split<;>rfl
set_option maxHeartbeats 4000000 in
theorem zqA (l:List Lk) (hl:l.length<2^30) (hll:∀k∈l,k.line.length<2^30) (i0:Nat) (hi0:i0<l.length):
  zqi Tryz.prog 137 [.f (al l.length (zaf l))] (fun bs r o=>∃x,(∃a cap,x=Value.slice a l[i0].line.length cap)∧bs=[.val x]∧r=[.one (.own 4 l.length (zdy (zi2 l i0 (.raw x))) false)]∧o=[[.own 1 l[i0].line.length (zaw l[i0].line) false]]):=by
 refine zri zar mixed (T:=Ty) (n:=26) Tryz.func137 (c:=Tryz.f137.body.getD .skip) (q:=1000) (n2:=l[i0].line.length) rfl Tryz.results137 Tryz.ntmps137 Tryz.call137 (R:=fun x=>_) ?_
 simp only[Tryz.f137,Option.getD]
 repeat'(first|refine zq0 ?_|exact zd0|(refine zaa ?_ ?_<;>intro hb)|(refine And.intro ?_ ?_;exact zI)|(refine And.intro ?_ ?_<;>intro hg)|exact zC|fail)
 refine zao (τ:=Nat×Option (Option Addr×Nat)) (fun t=>match t.2 with
  |none=>⟨[al l.length (zaf l),dd,dd, .one (.own ⟨3,1,1⟩ 0 t.1),ai t.1,dd,dd,dd,dd,dd,dd,dd,dd,dd,dd,dd,dd,dd,dd,dd,dd,dd,dd,dd,dd,dd],[(3,{next:=2,l:=[none,some {e:=1,var:=false,fz:=false,sz:=4,cells:=(zaf (l.take t.1)).map C.d}]}),(5,⟨2,[]⟩),(16,⟨2,[]⟩),(19,⟨2,[]⟩),(23,⟨2,[]⟩),(24,⟨2,[]⟩)]⟩
  |some x=>⟨[al l.length (zaf l), .one (.lk ⟨1000,1,0⟩ l[i0].line.length (.slice x.1 l[i0].line.length x.2)),dd, .one (.own ⟨3,1,1⟩ 0 t.1),ai t.1,dd,dd,dd,dd,dd,dd,dd,dd,dd,dd,dd,dd,dd,dd,dd,dd,dd,dd,dd,dd,dd],[(3,{next:=2,l:=[none,some {e:=1,var:=false,fz:=false,sz:=4,cells:=(zdy ((zi2 l i0 (.raw (.slice x.1 l[i0].line.length x.2))).take t.1)).map C.d}]}),(5,⟨2,[]⟩),(16,⟨2,[]⟩),(19,⟨2,[]⟩),(23,⟨2,[]⟩),(24,⟨2,[]⟩),(1000,⟨1,[none,some {e:=0,var:=false,fz:=false,sz:=1,cells:=(zaw l[i0].line).map C.d}]⟩)]⟩)
  (fun t=>t.1≤l.length∧(t.1≤i0↔t.2=none)) (fun _=>()) (fun t=>l.length - t.1) (0,none)
  ((Gh.nil (i:=3) (s:=3) (sz:=4) rfl).trans (Gh.canon [3] [5,16,19,23,24] [] zK rfl rfl)) ⟨Nat.zero_le _,by simp⟩ ?_
 rintro⟨i,x⟩ ⟨hi1,hx⟩ hF K hK
 cases x with
 |none=>
  simp only at hi1 hx hK⊢
  have hx0:i≤i0:=hx.2 trivial
  refine zw ?_
  refine zaa (fun hlt=> ?_) (fun hge=> ?_)
  ·have hi:i<l.length:=by simpa using hlt
   have hat:=zaO hi
   have hw:=zan hi (by omega)
   have hlk:=hll _ (List.getElem_mem hi)
   have h1:(l[i].line.length*8≤2^47)=True:=eq_true (by omega)
   have htl:(l.take i).length=i:=by rw[List.length_take];omega
   have htk:=zay (l:=l.take i)
   rw[htl]at htk
   have hsn:zaf (l.take i)++[sD l[i].name,iD l[i].holder,iD l[i].token, .sl l[i].line.length (zaw l[i].line)]=zaf (l.take (i+1)):=by
    rw[←List.take_append_getElem hi,zgr]
   repeat'(first|(with_reducible first|refine za3 7 ?_|refine zaP 7 ?_|refine zaQ 7 ?_)|refine zu (I hat (I @zae (I @zah (I h1 (I htl (I htk (I hsn zca))))))) ?_|exact zd (I hat (I @zae (I @zah (I h1 (I htl (I htk (I hsn zca)))))))|(with_reducible first|refine zab _ _ ?_)|(refine zaa ?_ ?_<;>intro hb)|(refine And.intro ?_ ?_;exact zI)|(refine And.intro ?_ ?_<;>intro hg)|exact zC|fail)
   by_cases hii:i=i0
   ·subst hii
    refine za9 (zg2 _ _ (zuD zar mixed _ _ (zn2 (s:=5) (k:=3) (k':=4) (e:=7) (j:=1) (q:=1000) rfl rfl rfl rfl rfl rfl (by decide) rfl rfl) ?_))
    intro x _
    have hsx:zaf (l.take i)++[sD l[i].name,iD l[i].holder,iD l[i].token, .raw (.slice x.1 l[i].line.length x.2)]=zdy ((zi2 l i (.raw (.slice x.1 l[i].line.length x.2))).take (i+1)):=by
     rw[←List.take_append_getElem (by rw[zbh];exact hi),zi1,zec hi,if_pos rfl]
     congr 1
     rw[←zh0]
     congr 1
     refine List.ext_getElem (by simp[zbh]) fun j h1 h2=> ?_
     have hji:j<i:=by simp at h1;omega
     rw[List.getElem_map,List.getElem_take,List.getElem_take,zec (by omega),if_neg (by omega)]
    repeat'(first|refine zq (I hat (I @zae (I @zah (I h1 (I htl (I htk (I hsx (I @zlJ zca)))))))) ?_|exact zd (I hat (I @zae (I @zah (I h1 (I htl (I htk (I hsx (I @zlJ zca))))))))|(refine zaa ?_ ?_<;>intro hb)|(refine And.intro ?_ ?_;exact zI)|(refine And.intro ?_ ?_<;>intro hg)|exact zC|fail)
    exact hK _ (i+1,some x) (Gh.canon [3,1000] [] [1000] (zk (I hw @zsu)) rfl rfl) ⟨hi,by simp⟩ trivial (by simp only;omega)
   ·refine za9 ?_
    repeat'(first|refine zq (I hat (I @zae (I @zah (I h1 (I htl (I htk (I hsn zca))))))) ?_|exact zd (I hat (I @zae (I @zah (I h1 (I htl (I htk (I hsn zca)))))))|(refine zaa ?_ ?_<;>intro hb)|(refine And.intro ?_ ?_;exact zI)|(refine And.intro ?_ ?_<;>intro hg)|exact zC|fail)
    exact hK _ (i+1,none) (Gh.canon [3] [] [] (zk hw) rfl rfl) ⟨hi,by simp;omega⟩ trivial (by simp only;omega)
  ·exfalso
   have:¬(i:Int)<l.length:=by simpa using hge
   omega
 |some x=>
  simp only at hi1 hx hK⊢
  have hx0:¬i≤i0:=fun h=>by cases hx.1 h
  refine zw ?_
  refine zaa (fun hlt=> ?_) (fun hge=> ?_)
  ·have hi:i<l.length:=by simpa using hlt
   have hat:=zaO hi
   have hw:=zan hi (by omega)
   have hlk:=hll _ (List.getElem_mem hi)
   have h1:(l[i].line.length*8≤2^47)=True:=eq_true (by omega)
   have htl:((zi2 l i0 (.raw (.slice x.1 l[i0].line.length x.2))).take i).length=i:=by rw[List.length_take,zbh];omega
   have htk:=zi0 (l:=(zi2 l i0 (.raw (.slice x.1 l[i0].line.length x.2))).take i)
   rw[htl]at htk
   have hsn:zdy ((zi2 l i0 (.raw (.slice x.1 l[i0].line.length x.2))).take i)++[sD l[i].name,iD l[i].holder,iD l[i].token, .sl l[i].line.length (zaw l[i].line)]=zdy ((zi2 l i0 (.raw (.slice x.1 l[i0].line.length x.2))).take (i+1)):=by
    rw[←List.take_append_getElem (by rw[zbh];exact hi),zi1,zec hi,if_neg (by omega)];rfl
   repeat'(first|refine zq (I hat (I @zae (I @zah (I @zbA (I h1 (I htl (I htk (I hsn zca)))))))) ?_|exact zd (I hat (I @zae (I @zah (I @zbA (I h1 (I htl (I htk (I hsn zca))))))))|(refine zaa ?_ ?_<;>intro hb)|(refine And.intro ?_ ?_;exact zI)|(refine And.intro ?_ ?_<;>intro hg)|exact zC|fail)
   exact hK _ (i+1,some x) (Gh.canon [3,1000] [] [1000] (zk (I hw @zsu)) rfl rfl) ⟨hi,by simp;omega⟩ trivial (by simp only;omega)
  ·have hi:i=l.length:=by
    have:¬(i:Int)<l.length:=by simpa using hge
    omega
   subst hi
   repeat'(first|refine zq0 ?_|exact zd0|(refine zaa ?_ ?_<;>intro hb)|(refine And.intro ?_ ?_;exact zI)|(refine And.intro ?_ ?_<;>intro hg)|exact zC|fail)
   refine⟨1, .slice x.1 l[i0].line.length x.2,rfl,⟨_,_,rfl⟩, ?_,rfl⟩
   rw[List.take_of_length_le (by rw[zbh];exact Nat.le_refl _)]
theorem zqu (l:List LkD) (hl:l.length<2^62) (s:ByteArray):CallOK Tryz.prog 140 [.f (al l.length (zdy l)), .f (ast s)] (fun r o=>r=[ri (zck (isL s) (l.map LkD.k) 0)]∧o=[]):=by
 refine zac zar mixed (T:=Ty) (n:=20) Tryz.func140 (c:=Tryz.f140.body.getD .skip) rfl Tryz.results140 Tryz.ntmps140 Tryz.call140 ?_
 simp only[Tryz.f140,Option.getD]
 repeat'(first|refine zq0 ?_|exact zd0|(refine zaa ?_ ?_<;>intro hb)|(refine And.intro ?_ ?_;exact zI)|(refine And.intro ?_ ?_<;>intro hg)|exact zC|fail)
 refine zao (τ:=Nat) (fun i=>⟨[al l.length (zdy l),ast s,dd,dd,dd,ai i,dd,dd,dd,dd,dd,dd,dd,dd,dd,dd,dd,dd,dd,dd],[]⟩)
  (fun i=>i≤l.length) (fun i=>zck (isL s) ((l.drop i).map LkD.k) i) (fun i=>l.length - i) 0
  (Gh.canon [] [] [] zK rfl rfl) (Nat.zero_le _) ?_
 intro i hi0 hF K hK
 rw[List.drop_zero]at hF
 refine zw ?_
 refine zaa (fun hlt=> ?_) (fun hge=> ?_)
 ·have hi:i<l.length:=by simpa using hlt
  have hat:=znH hi
  have hw:=zan hi hl
  have hq:zck (isL s) ((l.drop i).map LkD.k) i=if(l[i].k.name.toList==s.toList)=true then(i:Int)else zck (isL s) ((l.drop (i+1)).map LkD.k) ((i+1:Nat):Int):=by
   rw[List.drop_eq_getElem_cons hi,List.map_cons,zck];rfl
  rw[hq]at hF
  repeat'(first|refine zq (I hat (I @zbA zca)) ?_|exact zd (I hat (I @zbA zca))|(refine zaa ?_ ?_<;>intro hb)|(refine And.intro ?_ ?_;exact zI)|(refine And.intro ?_ ?_<;>intro hg)|exact zC|fail)
  ·rw[if_pos hb]at hF
   have hF:(i:Int)=zck (isL s) (l.map LkD.k) 0:=hF
   rw[←hF]
  ·rw[if_neg (by rw[hb];simp)]at hq
   exact hK _ (i+1) (Gh.canon [] [] [] (zk hw) rfl rfl) hi hq.symm (by omega)
 ·have hi:i=l.length:=by
   have:¬(i:Int)<l.length:=by simpa using hge
   omega
  rw[hi,List.drop_length]at hF
  have hF:(-1:Int)=zck (isL s) (l.map LkD.k) 0:=hF
  rw[←hF]
  repeat'(first|refine zq0 ?_|exact zd0|(refine zaa ?_ ?_<;>intro hb)|(refine And.intro ?_ ?_;exact zI)|(refine And.intro ?_ ?_<;>intro hg)|exact zC|fail)
theorem zfX {l:List Lk} (hs:SL l) (s:ByteArray):zck (isL s) l 0=match zcs l s with|none=> -1|some _=>(zbf l s:Int):=by
 rcases zd4 (isL s) l 0 with⟨h1,h2⟩|⟨k,hk,h2,h3,h4⟩
 ·have:zcs l s=none:=List.find?_eq_none.2 fun x hx=>by rw[h1 x hx];simp
  rw[this];exact h2
 ·cases hf:zcs l s with
  |none=>exact absurd h3 (List.find?_eq_none.1 hf _ (List.getElem_mem hk))
  |some x=>
   obtain⟨⟨hp,he⟩,hx⟩:=zct hs hf
   have hkp:k=zbf l s:=by
    have hne:∀{i j:Nat} (hi:i<l.length) (hj:j<l.length),i<j→isL s l[i]=true→isL s l[j]=true→False:=fun hi hj hij h1 h2=>by
     have:=List.pairwise_iff_getElem.1 hs _ _ hi hj hij
     simp only[isL,beq_iff_eq]at h1 h2
     simp only[zdx,h1,h2,zks]at this
     cases this
    rcases Nat.lt_trichotomy k (zbf l s)with h|h|h
    ·exact(hne hk hp h h3 (by rw[he];exact hx)).elim
    ·exact h
    ·exact(hne hp hk h (by rw[he];exact hx) h3).elim
   have h2':zck (isL s) l 0=((0+k:Nat):Int):=h2
   rw[h2']
   show((0+k:Nat):Int)=(zbf l s:Int)
   omega
theorem zox {l:List Lk} {name:ByteArray} {c t:Int} {w:Bool} (hf:zcs l name=none):zaI l name c t w=if decide ((l.length:Int)≥4)=true then([],0,5)else(l.take (zbf l name)++⟨name,c,t+1,[]⟩::l.drop (zbf l name),0,0):=by unfold zaI;rw[hf]
theorem zlI {α:Type} {l:List α} {j:Nat} {y:α} (hj:j≤l.length):(l.take j++y::l.drop j).length=l.length+1:=by
 rw[List.length_append,List.length_take,List.length_cons,List.length_drop];omega
theorem zqv {α:Type} {l:List α} {j i:Nat} {y:α} (hj:j≤l.length) (hi:i<j):(l.take j++y::l.drop j)[i]'(by rw[zlI hj];omega)=l[i]:=by
 rw[List.getElem_append_left (by rw[List.length_take];omega),List.getElem_take]
theorem zoy {α:Type} {l:List α} {j:Nat} {y:α} (hj:j≤l.length) (h0:0<j):(l.take j++y::l.drop j).set j (l[j - 1]'(by omega))=l.take (j - 1)++(l[j - 1]'(by omega))::l.drop (j - 1):=by
 rw[List.set_append_right _ _ (by rw[List.length_take];omega)]
 rw[show j - (l.take j).length=0 by rw[List.length_take];omega,List.set_cons_zero]
 rw[show l.take j=l.take (j - 1)++[l[j - 1]'(by omega)] by
  rw[List.take_append_getElem (by omega),show j - 1+1=j by omega]]
 rw[List.append_assoc]
 congr 1
 rw[List.drop_eq_getElem_cons (show j - 1<l.length by omega),show j - 1+1=j by omega]
 rfl
theorem zqw {α:Type} {l:List α} {j:Nat} {y x:α} (hj:j≤l.length):(l.take j++y::l.drop j).set j x=l.take j++x::l.drop j:=by
 rw[List.set_append_right _ _ (by rw[List.length_take];omega),show j - (l.take j).length=0 by rw[List.length_take];omega,List.set_cons_zero]
abbrev zxI:Lk:=⟨.empty,0,0,[]⟩
set_option maxHeartbeats 4000000 in
theorem zqx (l:List Lk) (hs:SL l) (hl:l.length<2^30) (hll:∀k∈l,k.line.length<2^30) (name:ByteArray) (c t:Int) (ht:0≤t∧t<2^62) (w:Bool) (hf:zcs l name=none):
  CallOK Tryz.prog 103 [.f (al l.length (zaf l)), .f (ast name), .f (ai c), .f (ai t), .f (ab w)]
  (fun r o=>r=[.one (.own 4 (zaI l name c t w).1.length (zaf (zaI l name c t w).1) false),ri (zaI l name c t w).2.1,ri (zaI l name c t w).2.2]∧o=[]):=by
 refine CallOK.nil ?_
 refine zac zar mixed (T:=Ty) (n:=122) Tryz.func103 (c:=Tryz.f103.body.getD .skip) rfl Tryz.results103 Tryz.ntmps103 Tryz.call103 ?_
 simp only[Tryz.f103,Option.getD]
 have hco:=zg3 l hl hll
 have hfi:=zhU l (by omega) name
 rw[zfX hs,hf]at hfi
 simp only at hfi
 rw[zox hf]
 have hwt:IntKind.i64.wrap (t+1)=t+1:=wrap64 (by omega) (by omega)
 have hm1:decide ((-1:Int)<0)=true:=rfl
 cases h4:decide ((l.length:Int)≥4)
 ·rw[if_neg (by simp)]
  have hlt4:l.length<4:=by simp at h4;omega
  have hp:=zcq (p:=fun x:Lk=>zdx x.name name) (l:=l)
  repeat'(first|refine zq (I hm1 (I h4 (I @zae @zay))) ?_|exact zd (I hm1 (I h4 (I @zae @zay)))|refine zc (hco) ?_|refine zg (hco) ?_|refine zc (hfi) ?_|refine zg (hfi) ?_|(refine zaa ?_ ?_<;>intro hb)|(refine And.intro ?_ ?_;exact zI)|(refine And.intro ?_ ?_<;>intro hg)|exact zC|fail)
  refine ztl (τ:=Unit) (fun _=>⟨[dd,ast name,ai c,ai t,dd,dd,dd,dd,dd,dd,dd,dd,dd, .one (.own ⟨13,1,1⟩ 0 l.length),dd,ai (zbf l name:Int),dd,dd,dd,dd,dd,dd,dd,dd,dd,dd,dd,dd,dd,dd,dd,dd,dd,dd,dd,dd,dd,dd,dd,dd,dd,dd,dd,dd,dd,dd,dd,dd,dd,dd,dd,dd,dd,dd,dd,dd,dd,dd,dd,dd,dd,dd,dd,dd,dd,dd,dd,dd,dd,dd,dd,dd,dd,dd,dd,dd,dd,dd,dd,dd,dd,dd,dd,dd,dd,dd,dd,dd,dd,dd,dd,dd,dd,dd,dd,dd,dd,dd,dd,dd,dd,dd,dd,dd,dd,dd,dd,dd,dd,dd,dd,dd,dd,dd,dd,dd,dd,dd,dd,dd,dd,dd],[(20,⟨2,[]⟩),(13,{next:=2,l:=[none,some {e:=1,var:=false,fz:=false,sz:=4,cells:=(zaf l).map C.d}]})]⟩) (fun _=>True) (fun _ _=> ?_) (fun Kx hKx=> ?_)
  ·have hlz:zaf l++[D.v (.string .empty),D.v (.int .i64 0),D.v (.int .i64 0), .sl 0 []]=zaf (l.take l.length++zxI::l.drop l.length):=by rw[List.take_length,List.drop_length,zgr];rfl
   have hw1:IntKind.i64.wrap (((l.length+1:Nat):Int) - 1)=(l.length:Int):=by rw[wrap64 (by omega) (by omega)];omega
   have hbig:((l.length+1)*48≤2^47)=True:=eq_true (by omega)
   repeat'(first|refine zq (I @zae (I @zay (I hlz (I hw1 hbig)))) ?_|exact zd (I @zae (I @zay (I hlz (I hw1 hbig))))|(refine zaa ?_ ?_<;>intro hb)|(refine And.intro ?_ ?_;exact zI)|(refine And.intro ?_ ?_<;>intro hg)|exact zC|fail)
   refine zao (τ:=Nat×Lk) (fun q=>⟨[dd,ast name,ai c,ai t,dd,dd,dd,dd,dd,dd,dd,dd,dd, .one (.own ⟨13,1,1⟩ 0 (l.length+1)),dd,ai (zbf l name:Int),ai q.1,dd,dd,dd,dd,dd,dd,dd,dd,dd,dd,dd,dd,dd,dd,dd,dd,dd,dd,dd,dd,dd,dd,dd,dd,dd,dd,dd,dd,dd,dd,dd,dd,dd,dd,dd,dd,dd,dd,dd,dd,dd,dd,dd,dd,dd,dd,dd,dd,dd,dd,dd,dd,dd,dd,dd,dd,dd,dd,dd,dd,dd,dd,dd,dd,dd,dd,dd,dd,dd,dd,dd,dd,dd,dd,dd,dd,dd,dd,dd,dd,dd,dd,dd,dd,dd,dd,dd,dd,dd,dd,dd,dd,dd,dd,dd,dd,dd,dd,dd,dd,dd,dd,dd,dd,dd],[(20,⟨2,[]⟩),(13,{next:=2,l:=[none,some {e:=1,var:=false,fz:=false,sz:=4,cells:=(zaf (l.take q.1++q.2::l.drop q.1)).map C.d}]}),(46,⟨2,[]⟩)]⟩)
    (fun q=>zbf l name≤q.1∧q.1≤l.length) (fun _=>()) (fun q=>q.1) (l.length,zxI) (Gh.canon [13] [] [] zK rfl rfl) ⟨hp,Nat.le_refl _⟩ ?_
   rintro⟨j,y⟩ ⟨hj1,hj2⟩ hF K hK
   simp only at hj1 hj2 hK⊢
   have hlen:=zlI (l:=l) (j:=j) (y:=y) hj2
   by_cases hjp:zbf l name<j
   ·have hd:decide ((j:Int)>(zbf l name:Int))=true:=by simpa using hjp
    have hw:IntKind.i64.wrap ((j:Int) - 1)=((j - 1:Nat):Int):=by rw[wrap64 (by omega) (by omega)];omega
    have hat:=zaO (l:=l.take j++y::l.drop j) (i:=j - 1) (by omega)
    rw[zqv hj2 (by omega)]at hat
    have hset:=zeI Lk.enc 4 (fun _=>rfl) (l:=l.take j++y::l.drop j) (i:=j) (by omega) (l[j - 1]'(by omega))
    rw[zoy hj2 (by omega)]at hset
    simp only[fillAt,List.map_cons,List.map_nil]at hset
    repeat'(first|(with_reducible first|refine zab _ _ ?_|refine zaV ?_|refine zaW ?_)|rw[zaj]|simp only[hd,hw,hat,List.cons_append,List.nil_append,←List.map_drop,List.map_cons,zae,hlen,fillAt,hset,zY,Int.reduceEq,Int.reduceBEq,Int.reduceBNe,Nat.reduceSub,Nat.reduceEqDiff,Nat.reduceAdd,Nat.reduceMul,Nat.reduceLeDiff,Nat.reduceLT,Nat.reduceBEq,reduceCtorEq]|refine zal ?_|refine zaa (fun hb=> ?_) (fun hb=> ?_)|(refine And.intro ?_ ?_;exact zI)|refine And.intro (fun hg=> ?_) (fun hg=> ?_)|exact zC|fail)
    exact hK _ (j - 1,l[j - 1]'(by omega)) (Gh.canon [13] [] [] zK rfl rfl) ⟨by omega,by omega⟩ trivial (by simp only;omega)
   ·have hjj:j=zbf l name:=by omega
    have hd:decide ((j:Int)>(zbf l name:Int))=false:=by simp;omega
    have hset:=zeI Lk.enc 4 (fun _=>rfl) (l:=l.take j++y::l.drop j) (i:=j) (by omega) ⟨name,c,t+1,[]⟩
    rw[zqw hj2]at hset
    simp only[fillAt,List.map_cons,List.map_nil,List.length_nil,List.flatMap_nil]at hset
    subst hjj
    repeat'(first|(with_reducible first|refine zab _ _ ?_|refine zaV ?_|refine zaW ?_)|rw[zaj]|simp only[hd,hwt,zae,hlen,fillAt,hset,zY,Int.reduceEq,Int.reduceBEq,Int.reduceBNe,Nat.reduceSub,Nat.reduceEqDiff,Nat.reduceAdd,Nat.reduceMul,Nat.reduceLeDiff,Nat.reduceLT,Nat.reduceBEq,reduceCtorEq]|refine zal ?_|refine zaa (fun hb=> ?_) (fun hb=> ?_)|(refine And.intro ?_ ?_;exact zI)|refine And.intro (fun hg=> ?_) (fun hg=> ?_)|exact zC|fail)
    have hp':zbf l name≤l.length:=hp
    simp[zfx,za4]
    omega
  ·refine zao (τ:=Nat) (fun i=>⟨[dd,ast name,ai c,ai t,dd,dd,dd,dd,dd,dd,dd,dd,dd, .one (.own ⟨13,1,1⟩ 0 l.length),dd,ai i,dd,dd,dd,dd,dd,dd,dd,dd,dd,dd,dd,dd,dd,dd,dd,dd,dd,dd,dd,dd,dd,dd,dd,dd,dd,dd,dd,dd,dd,dd,dd,dd,dd,dd,dd,dd,dd,dd,dd,dd,dd,dd,dd,dd,dd,dd,dd,dd,dd,dd,dd,dd,dd,dd,dd,dd,dd,dd,dd,dd,dd,dd,dd,dd,dd,dd,dd,dd,dd,dd,dd,dd,dd,dd,dd,dd,dd,dd,dd,dd,dd,dd,dd,dd,dd,dd,dd,dd,dd,dd,dd,dd,dd,dd,dd,dd,dd,dd,dd,dd,dd,dd,dd,dd,dd,dd],[(20,⟨2,[]⟩),(13,{next:=2,l:=[none,some {e:=1,var:=false,fz:=false,sz:=4,cells:=(zaf l).map C.d}]})]⟩)
    (fun i=>i≤zbf l name) (fun _=>()) (fun i=>l.length - i) 0 (Gh.canon [13] [] [] zK rfl rfl) (Nat.zero_le _) ?_
   intro i hi0 hF K hK
   by_cases hi:i<l.length
   ·have hat:=zaO hi
    have hd:decide ((i:Int)<(l.length:Int))=true:=by simpa using hi
    have hw:=zan hi (by omega)
    repeat'(first|refine zq (I hd (I hat (I @zmd (I @List.map_cons.{0,0} (I @zae zca))))) ?_|exact zd (I hd (I hat (I @zmd (I @List.map_cons.{0,0} (I @zae zca)))))|(refine zaa ?_ ?_<;>intro hb)|(refine And.intro ?_ ?_;exact zI)|(refine And.intro ?_ ?_<;>intro hg)|exact zC|fail)
    ·have hip:i<zbf l name:=Nat.lt_of_not_le fun h=>by
      have:Go.Op.bytesLess l[i].name.toList name.toList=false:=zgc hi (zjf hs name) h
      rw[hb]at this
      cases this
     exact hK _ (i+1) (Gh.canon [13] [] [] (zk hw) rfl rfl) hip rfl (by omega)
    ·have hip:i=zbf l name:=Nat.le_antisymm hi0 (Nat.le_of_not_lt fun h=>by
      have:Go.Op.bytesLess l[i].name.toList name.toList=true:=zgb hi h
      rw[hb]at this
      cases this)
     subst hip
     exact hKx _ () (Gh.canon [13] [] [] zK rfl rfl) trivial
   ·have hd:decide ((i:Int)<(l.length:Int))=false:=by simpa using hi
    have hdr:(zaf l).drop (i*4)=[]:=List.drop_eq_nil_of_le (by rw[zae];omega)
    repeat'(first|refine zq (I hd (I hdr (I @zmd (I @List.map_nil.{0,0} @zae)))) ?_|exact zd (I hd (I hdr (I @zmd (I @List.map_nil.{0,0} @zae))))|(refine zaa ?_ ?_<;>intro hb)|(refine And.intro ?_ ?_;exact zI)|(refine And.intro ?_ ?_<;>intro hg)|exact zC|fail)
    have hip:i=zbf l name:=by have:zbf l name≤l.length:=hp;omega
    subst hip
    exact hKx _ () (Gh.canon [13] [] [] zK rfl rfl) trivial
 ·rw[if_pos rfl]
  repeat'(first|refine zq (I hm1 (I h4 (I @zae @zay))) ?_|exact zd (I hm1 (I h4 (I @zae @zay)))|refine zc (hco) ?_|refine zg (hco) ?_|refine zc (hfi) ?_|refine zg (hfi) ?_|(refine zaa ?_ ?_<;>intro hb)|(refine And.intro ?_ ?_;exact zI)|(refine And.intro ?_ ?_<;>intro hg)|exact zC|fail)
  simp[zfx,za4]
theorem ziZ {l:List Lk} {name:ByteArray} {c t:Int} {w:Bool} {k:Lk} (hf:zcs l name=some k) (hc:isClient c=true):zaI l name c t w=if(k.holder==c)=true then([],0,7)else if(!w)=true then([],0,8)else
  if hasI k.line c=true then(l,zhi k.line c,10)else if decide ((k.line.length:Int)≥3)=true then([],0,5)else(l.set (zbf l name) ⟨k.name,k.holder,k.token,k.line++[c]⟩,k.line.length,10):=by
 unfold zaI
 rw[hf]
 simp only
 split
 ·rfl
 ·split
  ·rfl
  ·split
   ·rfl
   ·rename_i h
    have hj:zdn k.line c=if decide ((k.line.length:Int)≥3)=true then([],0,5)else(k.line++[c],(k.line.length:Int),0):=by
     unfold zdn
     rw[if_neg (by rw[hc];simp),if_neg h]
    rw[hj]
    cases decide ((k.line.length:Int)≥3)
    ·rfl
    ·rfl
set_option maxHeartbeats 4000000 in
theorem zqy (l:List Lk) (hs:SL l) (hl:l.length<2^30) (hll:∀k∈l,k.line.length<2^30) (name:ByteArray) (c t:Int) (hc:isClient c=true) (w:Bool) (k:Lk) (hf:zcs l name=some k)
  (hx:(k.holder==c)=true∨w=false∨hasI k.line c=true∨decide ((k.line.length:Int)≥3)=true):
  CallOK Tryz.prog 103 [.f (al l.length (zaf l)), .f (ast name), .f (ai c), .f (ai t), .f (ab w)]
  (fun r o=>r=[.one (.own 4 (zaI l name c t w).1.length (zaf (zaI l name c t w).1) false),ri (zaI l name c t w).2.1,ri (zaI l name c t w).2.2]∧o=[]):=by
 refine CallOK.nil ?_
 refine zac zar mixed (T:=Ty) (n:=122) Tryz.func103 (c:=Tryz.f103.body.getD .skip) rfl Tryz.results103 Tryz.ntmps103 Tryz.call103 ?_
 simp only[Tryz.f103,Option.getD]
 have hco:=zg3 l hl hll
 have hfi:=zhU l (by omega) name
 rw[zfX hs,hf]at hfi
 simp only at hfi
 have htk:=ziZ (t:=t) (w:=w) hf hc
 generalize zaI l name c t w=R at htk⊢
 obtain⟨⟨hi,he⟩,hn⟩:=zct hs hf
 have hat:=zaO hi
 rw[he]at hat
 have hkl:=hll k (he▸List.getElem_mem hi)
 have hah:=zhY k.line (by omega) c
 have hm1:decide ((zbf l name:Int)<0)=false:=by simp
 have hat1:(zaf l).drop (zbf l name*4+1)=iD k.holder::iD k.token:: .sl k.line.length (zaw k.line)::zaf (l.drop (zbf l name+1)):=by rw[←List.drop_drop,hat];rfl
 have hat3:(zaf l).drop (zbf l name*4+3)= .sl k.line.length (zaw k.line)::zaf (l.drop (zbf l name+1)):=by rw[←List.drop_drop,hat];rfl
 cases h1:(k.holder==c)
 ·cases w
  ·repeat'(first|refine zq (I hm1 (I h1 (I hat1 (I @zmd (I @List.map_cons.{0,0} (I @List.drop_succ_cons.{0} (I @List.drop_zero.{0} (I @zae (I @zay zca))))))))) ?_|exact zd (I hm1 (I h1 (I hat1 (I @zmd (I @List.map_cons.{0,0} (I @List.drop_succ_cons.{0} (I @List.drop_zero.{0} (I @zae (I @zay zca)))))))))|refine zc (hco) ?_|refine zg (hco) ?_|refine zc (hfi) ?_|refine zg (hfi) ?_|(refine zaa ?_ ?_<;>intro hb)|(refine And.intro ?_ ?_;exact zI)|(refine And.intro ?_ ?_<;>intro hg)|exact zC|fail)
   rw[if_neg (by rw[h1];simp),if_pos (show(!false)=true from rfl)]at htk
   rw[htk];simp[zfx,za4]
  ·rw[if_neg (by rw[h1];simp),if_neg (by simp)]at htk
   cases h3:hasI k.line c
   ·rw[if_neg (by rw[h3];simp)]at htk
    have h4:decide ((k.line.length:Int)≥3)=true:=by rcases hx with h|h|h|h<;>simp_all
    rw[if_pos h4]at htk
    rw[h3]at hah
    repeat'(first|refine zq (I hm1 (I h1 (I h3 (I h4 (I hat1 (I hat3 (I @zmd (I @List.map_cons.{0,0} (I @List.drop_succ_cons.{0} (I @List.drop_zero.{0} (I @zae (I @zay zca)))))))))))) ?_|exact zd (I hm1 (I h1 (I h3 (I h4 (I hat1 (I hat3 (I @zmd (I @List.map_cons.{0,0} (I @List.drop_succ_cons.{0} (I @List.drop_zero.{0} (I @zae (I @zay zca))))))))))))|refine zc (hco) ?_|refine zg (hco) ?_|refine zc (hfi) ?_|refine zg (hfi) ?_|refine zc (hah) ?_|refine zg (hah) ?_|(refine zaa ?_ ?_<;>intro hb)|(refine And.intro ?_ ?_;exact zI)|(refine And.intro ?_ ?_<;>intro hg)|exact zC|fail)
    rw[htk];simp[zfx,za4]
   ·rw[if_pos h3]at htk
    rw[h3]at hah
    repeat'(first|refine zq (I hm1 (I h1 (I h3 (I hat1 (I hat3 (I @zmd (I @List.map_cons.{0,0} (I @List.drop_succ_cons.{0} (I @List.drop_zero.{0} (I @zae (I @zay zca))))))))))) ?_|exact zd (I hm1 (I h1 (I h3 (I hat1 (I hat3 (I @zmd (I @List.map_cons.{0,0} (I @List.drop_succ_cons.{0} (I @List.drop_zero.{0} (I @zae (I @zay zca)))))))))))|refine zc (hco) ?_|refine zg (hco) ?_|refine zc (hfi) ?_|refine zg (hfi) ?_|refine zc (hah) ?_|refine zg (hah) ?_|(refine zaa ?_ ?_<;>intro hb)|(refine And.intro ?_ ?_;exact zI)|(refine And.intro ?_ ?_<;>intro hg)|exact zC|fail)
    rw[htk];simp[zfx,za4]
 ·repeat'(first|refine zq (I hm1 (I h1 (I hat1 (I @zmd (I @List.map_cons.{0,0} (I @List.drop_succ_cons.{0} (I @List.drop_zero.{0} (I @zae (I @zay zca))))))))) ?_|exact zd (I hm1 (I h1 (I hat1 (I @zmd (I @List.map_cons.{0,0} (I @List.drop_succ_cons.{0} (I @List.drop_zero.{0} (I @zae (I @zay zca)))))))))|refine zc (hco) ?_|refine zg (hco) ?_|refine zc (hfi) ?_|refine zg (hfi) ?_|(refine zaa ?_ ?_<;>intro hb)|(refine And.intro ?_ ?_;exact zI)|(refine And.intro ?_ ?_<;>intro hg)|exact zC|fail)
  rw[if_pos h1]at htk
  rw[htk];simp[zfx,za4]
set_option maxHeartbeats 4000000 in
theorem zqz (l:List Lk) (hs:SL l) (hl:l.length<2^30) (hll:∀k∈l,k.line.length<2^30) (name:ByteArray) (c t:Int) (hc:isClient c=true) (w:Bool) (k:Lk) (hf:zcs l name=some k)
  (h1:(k.holder==c)=false) (hw:w=true) (h3:hasI k.line c=false) (h4:decide ((k.line.length:Int)≥3)=false):
  CallOK Tryz.prog 103 [.f (al l.length (zaf l)), .f (ast name), .f (ai c), .f (ai t), .f (ab w)]
  (fun r o=>r=[.one (.own 4 (zaI l name c t w).1.length (zaf (zaI l name c t w).1) false),ri (zaI l name c t w).2.1,ri (zaI l name c t w).2.2]∧o=[]):=by
 refine CallOK.nil ?_
 refine zac zar mixed (T:=Ty) (n:=122) Tryz.func103 (c:=Tryz.f103.body.getD .skip) rfl Tryz.results103 Tryz.ntmps103 Tryz.call103 ?_
 simp only[Tryz.f103,Option.getD]
 have htk:=ziZ (t:=t) (w:=w) hf hc
 subst hw
 rw[if_neg (by rw[h1];simp),if_neg (by simp),if_neg (by rw[h3];simp),if_neg (by rw[h4];simp)]at htk
 rw[htk]
 obtain⟨⟨hi,he⟩,hn⟩:=zct hs hf
 have hco:=zqA l hl hll (zbf l name) hi
 rw[he]at hco
 have hkl:=hll k (he▸List.getElem_mem hi)
 have hah:=zhY k.line (by omega) c
 rw[h3]at hah
 have hm1:decide ((zbf l name:Int)<0)=false:=by simp
 repeat'(first|(with_reducible first|refine za3 1 ?_|refine zaP 1 ?_|refine zaQ 1 ?_)|refine zu0 ?_|exact zd0|(with_reducible first|refine zab _ _ ?_)|(refine zaa ?_ ?_<;>intro hb)|(refine And.intro ?_ ?_;exact zI)|(refine And.intro ?_ ?_<;>intro hg)|exact zC|fail)
 refine za9 (zg2 _ _ (zpp zar mixed 1 (q:=5) (v1:=[al l.length (zaf l),ast name,ai c,ai t,ab true,dd,dd,dd,dd,dd, .one (.d (.v (.slice none 0 0))),ai 0,ai 0,dd,dd,dd,dd,dd,dd,al l.length (zaf l),dd,dd,dd,dd,dd,dd,dd,dd,dd,dd,dd,dd,dd,dd,dd,dd,dd,dd,dd,dd,dd,dd,dd,dd,dd,dd,dd,dd,dd,dd,dd,dd,dd,dd,dd,dd,dd,dd,dd,dd,dd,dd,dd,dd,dd,dd,dd,dd,dd,dd,dd,dd,dd,dd,dd,dd,dd,dd,dd,dd,dd,dd,dd,dd,dd,dd,dd,dd,dd,dd,dd,dd,dd,dd,dd,dd,dd,dd,dd,dd,dd,dd,dd,dd,dd,dd,dd,dd,dd,dd,dd,dd,dd,dd,dd,dd,dd,dd,dd,dd,dd,dd]) (r1:=[]) rfl rfl rfl rfl (fun K hK=> ?_) ?_ ?_ rfl hco rfl (by decide) ?_))
 ·repeat'(first|refine zq (I @List.take_succ_cons.{0} @List.take_zero.{0}) ?_|exact zd (I @List.take_succ_cons.{0} @List.take_zero.{0})|(refine zaa ?_ ?_<;>intro hb)|(refine And.intro ?_ ?_;exact zI)|(refine And.intro ?_ ?_<;>intro hg)|exact zC|fail)
  exact hK
 ·exact trivial
 ·exact⟨trivial,trivial⟩
 rintro x ⟨a,cap,rfl⟩
 have hfi:=zqu (zi2 l (zbf l name) (.raw (.slice a k.line.length cap))) (by rw[zbh];omega) name
 rw[zve,zfX hs,hf,zbh]at hfi
 simp only at hfi
 have hil:zbf l name<(zi2 l (zbf l name) (.raw (.slice a k.line.length cap))).length:=by rw[zbh];exact hi
 have hat:=znH hil
 rw[zec hi,if_pos rfl,he]at hat
 have htk:=zi0 (l:=zi2 l (zbf l name) (.raw (.slice a k.line.length cap)))
 rw[zbh]at htk
 have hat1:(zdy (zi2 l (zbf l name) (.raw (.slice a k.line.length cap)))).drop (zbf l name*4+1)=iD k.holder::iD k.token:: .raw (.slice a k.line.length cap)::zdy ((zi2 l (zbf l name) (.raw (.slice a k.line.length cap))).drop (zbf l name+1)):=by rw[←List.drop_drop,hat];rfl
 have hat3:(zdy (zi2 l (zbf l name) (.raw (.slice a k.line.length cap)))).drop (zbf l name*4+3)= .raw (.slice a k.line.length cap)::zdy ((zi2 l (zbf l name) (.raw (.slice a k.line.length cap))).drop (zbf l name+1)):=by rw[←List.drop_drop,hat];rfl
 repeat'(first|(with_reducible first|refine za3 20 ?_|refine zaP 20 ?_|refine zaQ 20 ?_)|refine zu (I hm1 (I h1 (I @List.drop_succ_cons.{0} (I @List.drop_zero.{0} (I hat1 (I htk (I @zmd (I @List.map_cons.{0,0} (I @zbA @zbh))))))))) ?_|exact zd (I hm1 (I h1 (I @List.drop_succ_cons.{0} (I @List.drop_zero.{0} (I hat1 (I htk (I @zmd (I @List.map_cons.{0,0} (I @zbA @zbh)))))))))|(with_reducible first|refine zab _ _ ?_)|refine zc (hfi) ?_|refine zg (hfi) ?_|(refine zaa ?_ ?_<;>intro hb)|(refine And.intro ?_ ?_;exact zI)|(refine And.intro ?_ ?_<;>intro hg)|exact zC|fail)
 refine za9 (zg2 _ _ (zm5 zar mixed 5 ?_))
 repeat'(first|refine zq (I @List.take_succ_cons.{0} (I @List.take_zero.{0} (I hat3 (I @zmd (I @List.map_cons.{0,0} (I @zbA @zbh)))))) ?_|exact zd (I @List.take_succ_cons.{0} (I @List.take_zero.{0} (I hat3 (I @zmd (I @List.map_cons.{0,0} (I @zbA @zbh))))))|(refine zaa ?_ ?_<;>intro hb)|(refine And.intro ?_ ?_;exact zI)|(refine And.intro ?_ ?_<;>intro hg)|exact zC|fail)
 refine⟨_,Gh.view (i:=87) (j:=5) rfl rfl, ?_⟩
 repeat'(first|(with_reducible first|refine za3 26 ?_|refine zaP 26 ?_|refine zaQ 26 ?_)|refine zu (I @List.drop_succ_cons.{0} (I @List.drop_zero.{0} (I h4 (I hat3 (I @zmd (I @List.map_cons.{0,0} (I @zbA @zbh))))))) ?_|exact zd (I @List.drop_succ_cons.{0} (I @List.drop_zero.{0} (I h4 (I hat3 (I @zmd (I @List.map_cons.{0,0} (I @zbA @zbh)))))))|(with_reducible first|refine zab _ _ ?_)|refine zc (hah) ?_|refine zg (hah) ?_|(refine zaa ?_ ?_<;>intro hb)|(refine And.intro ?_ ?_;exact zI)|(refine And.intro ?_ ?_<;>intro hg)|exact zC|fail)
 refine za9 (zg2 _ _ (zm5 zar mixed 7 ?_))
 repeat'(first|refine zq (I @List.take_succ_cons.{0} (I @List.take_zero.{0} (I hat3 (I @zmd (I @List.map_cons.{0,0} (I @zbA @zbh)))))) ?_|exact zd (I @List.take_succ_cons.{0} (I @List.take_zero.{0} (I hat3 (I @zmd (I @List.map_cons.{0,0} (I @zbA @zbh))))))|(refine zaa ?_ ?_<;>intro hb)|(refine And.intro ?_ ?_;exact zI)|(refine And.intro ?_ ?_<;>intro hg)|exact zC|fail)
 refine⟨_,Gh.view (i:=114) (j:=5) rfl rfl, ?_⟩
 have hie:zaw (k.line++[c])=zaw k.line++[iD c]:=by simp[zaw]
 have hset:=zb2 LkD.enc 4 (fun _=>rfl) hil (k:=3) (by decide) (.sl (k.line.length+1) (zaw k.line++[iD c])) (plain ⟨k.name,k.holder,k.token,k.line++[c]⟩)
  (by rw[zec hi,if_pos rfl,he,plain];simp only[LkD.enc,List.length_append,List.length_singleton,hie];rfl)
 rw[show(zi2 l (zbf l name) (.raw (.slice a k.line.length cap))).set (zbf l name) (plain ⟨k.name,k.holder,k.token,k.line++[c]⟩)=(l.set (zbf l name) ⟨k.name,k.holder,k.token,k.line++[c]⟩).map plain from by
  refine List.ext_getElem (by simp[zbh]) fun j h1 h2=> ?_
  have hj:j<l.length:=by simpa using h2
  rw[List.getElem_set,List.getElem_map,List.getElem_set]
  split
  ·rfl
  ·rw[zec hj,if_neg (by omega)],show List.flatMap LkD.enc ((l.set (zbf l name) ⟨k.name,k.holder,k.token,k.line++[c]⟩).map plain)=zaf (l.set (zbf l name) ⟨k.name,k.holder,k.token,k.line++[c]⟩) from zh0]at hset
 have hi1:(zaw k.line).take (k.line.length*1)=zaw k.line:=List.take_of_length_le (by rw[zah];omega)
 have hi2:(zaw k.line++[D.v (.int .i64 c)]).take (k.line.length+1)=zaw k.line++[D.v (.int .i64 c)]:=List.take_of_length_le (by rw[List.length_append,zah];exact Nat.le_refl _)
 have hbig:((k.line.length+1)*8≤2^47)=True:=eq_true (by omega)
 repeat'(first|refine zq (I @List.drop_succ_cons.{0} (I @List.drop_zero.{0} (I hset (I @zah (I hi1 (I hi2 (I hbig (I @zmd (I @List.map_cons.{0,0} (I @zbA @zbh)))))))))) ?_|exact zd (I @List.drop_succ_cons.{0} (I @List.drop_zero.{0} (I hset (I @zah (I hi1 (I hi2 (I hbig (I @zmd (I @List.map_cons.{0,0} (I @zbA @zbh))))))))))|(refine zaa ?_ ?_<;>intro hb)|(refine And.intro ?_ ?_;exact zI)|(refine And.intro ?_ ?_<;>intro hg)|exact zC|fail)
 simp[zfx,za4]
theorem zse (l:List Lk) (hs:SL l) (hl:l.length<2^30) (hll:∀k∈l,k.line.length<2^30) (name:ByteArray) (c t:Int) (ht:0≤t∧t<2^62) (hc:isClient c=true) (w:Bool):
  CallOK Tryz.prog 103 [.f (al l.length (zaf l)), .f (ast name), .f (ai c), .f (ai t), .f (ab w)]
  (fun r o=>r=[.one (.own 4 (zaI l name c t w).1.length (zaf (zaI l name c t w).1) false),ri (zaI l name c t w).2.1,ri (zaI l name c t w).2.2]∧o=[]):=by
 cases hf:zcs l name with
 |none=>exact zqx l hs hl hll name c t ht w hf
 |some k=>
  by_cases hx:(k.holder==c)=true∨w=false∨hasI k.line c=true∨decide ((k.line.length:Int)≥3)=true
  ·exact zqy l hs hl hll name c t hc w k hf hx
  ·simp only[not_or,Bool.not_eq_true,Bool.not_eq_false]at hx
   exact zqz l hs hl hll name c t hc w k hf hx.1 hx.2.1 hx.2.2.1 hx.2.2.2
theorem zsd {l:List Int} {c:Int}:zaY l [c]=l.filter fun x=> !(x==c):=by
 unfold zaY hasI
 congr 1
 funext x
 simp[zmu]
theorem zjZ:∀{l:List Int} {c:Int},l.Nodup→hasI l c=true→(zcu l c).1=zaY l [c]:=fun {l c} hn hc=>by
 rw[zsd]
 unfold zcu
 rcases zd4 (fun x=>c==x) l 0 with⟨h1,_⟩|⟨k,hk,h2,h3,h4⟩
 ·exfalso
  unfold hasI at hc
  obtain⟨x,hx,hx2⟩:=List.any_eq_true.1 hc
  rw[h1 x hx]at hx2;cases hx2
 ·have h2':zck (fun x=>c==x) l 0=((0+k:Nat):Int):=h2
  rw[h2',if_neg (by omega)]
  simp only[Nat.zero_add,Int.toNat_natCast]
  have hck:c=l[k]:=by simpa using h3
  subst hck
  clear h2 h2' h3 h4 hc
  induction l generalizing k with
  |nil=>simp at hk
  |cons y l ih=>
   have hn':=List.nodup_cons.1 hn
   cases k with
   |zero=>
    simp only[List.eraseIdx_cons_zero,List.getElem_cons_zero,List.filter_cons,beq_self_eq_true,Bool.not_true,Bool.false_eq_true,if_false]
    refine(List.filter_eq_self.2 fun x hx=> ?_).symm
    have:x≠y:=fun e=>hn'.1 (e▸hx)
    simpa using this
   |succ k=>
    have hk':k<l.length:=by simpa using hk
    simp only[List.eraseIdx_cons_succ,List.getElem_cons_succ,List.filter_cons]
    have:y≠l[k]:=fun e=>hn'.1 (e▸List.getElem_mem hk')
    rw[if_pos (by simpa using this),ih hn'.2 k hk']
set_option maxHeartbeats 4000000 in
theorem znG (l:List Lk) (hs:SL l) (hl:l.length<2^30) (hll:∀k∈l,k.line.length<2^30∧k.line.Nodup) (name:ByteArray) (c t:Int) (ht:0≤t∧t<2^62):
  CallOK Tryz.prog 105 [.f (al l.length (zaf l)), .f (ast name), .f (ai c), .f (ai t)]
  (fun r o=>r=[.one (.own 4 (zbb l name c t).1.length (zaf (zbb l name c t).1) false),ri (zbb l name c t).2.1,ri (zbb l name c t).2.2]∧o=[]):=by
 refine CallOK.nil ?_
 refine zac zar mixed (T:=Ty) (n:=101) Tryz.func105 (c:=Tryz.f105.body.getD .skip) rfl Tryz.results105 Tryz.ntmps105 Tryz.call105 ?_
 simp only[Tryz.f105,Option.getD]
 have hco:=zg3 l hl (fun k hk=>(hll k hk).1)
 have hfi:=zhU l (by omega) name
 rw[zfX hs]at hfi
 have hwt:IntKind.i64.wrap (t+1)=t+1:=wrap64 (by omega) (by omega)
 cases hf:zcs l name with
 |none=>
  rw[hf]at hfi
  simp only at hfi
  have hm1:decide ((-1:Int)<0)=true:=rfl
  have hfr:zbb l name c t=([],0,6):=by unfold zbb;rw[hf]
  rw[hfr]
  repeat'(first|refine zq (I hm1 @zay) ?_|exact zd (I hm1 @zay)|refine zc (hco) ?_|refine zg (hco) ?_|refine zc (hfi) ?_|refine zg (hfi) ?_|(refine zaa ?_ ?_<;>intro hb)|(refine And.intro ?_ ?_;exact zI)|(refine And.intro ?_ ?_<;>intro hg)|exact zC|fail)
  simp[zfx,za4]
 |some k=>
  rw[hf]at hfi
  simp only at hfi
  obtain⟨⟨hi,he⟩,hn⟩:=zct hs hf
  have hat:=zaO hi
  rw[he]at hat
  obtain⟨hkl,hkn⟩:=hll k (he▸List.getElem_mem hi)
  have hah:=zhY k.line (by omega) c
  have hm1:decide ((zbf l name:Int)<0)=false:=by simp
  have hat1:(zaf l).drop (zbf l name*4+1)=iD k.holder::iD k.token:: .sl k.line.length (zaw k.line)::zaf (l.drop (zbf l name+1)):=by rw[←List.drop_drop,hat];rfl
  have hat3:(zaf l).drop (zbf l name*4+3)= .sl k.line.length (zaw k.line)::zaf (l.drop (zbf l name+1)):=by rw[←List.drop_drop,hat];rfl
  have hfr:zbb l name c t=if(k.holder==c)=true then((zcC l (zbf l name) k t).1,(zcC l (zbf l name) k t).2,0)else
    if hasI k.line c=true then(l.set (zbf l name) ⟨k.name,k.holder,k.token,(zcu k.line c).1⟩,0,0)else([],0,6):=by unfold zbb;rw[hf]
  cases h1:(k.holder==c)
  ·have h1':(k.holder !=c)=true:=by rw[bne,h1];rfl
   rw[if_neg (by rw[h1];simp)]at hfr
   cases h3:hasI k.line c
   ·rw[if_neg (by rw[h3];simp)]at hfr
    rw[hfr]
    rw[h3]at hah
    repeat'(first|refine zq (I hm1 (I h1' (I hat1 (I hat3 (I @zmd (I @List.map_cons.{0,0} (I @zae @zay))))))) ?_|exact zd (I hm1 (I h1' (I hat1 (I hat3 (I @zmd (I @List.map_cons.{0,0} (I @zae @zay)))))))|refine zc (hco) ?_|refine zg (hco) ?_|refine zc (hfi) ?_|refine zg (hfi) ?_|refine zc (hah) ?_|refine zg (hah) ?_|(refine zaa ?_ ?_<;>intro hb)|(refine And.intro ?_ ?_;exact zI)|(refine And.intro ?_ ?_<;>intro hg)|exact zC|fail)
    simp[zfx,za4]
   ·rw[if_pos h3,zjZ hkn h3]at hfr
    rw[hfr]
    rw[h3]at hah
    have hwo:=zhZ k.line [c] hkl (by simp)
    have hset:=zb2 Lk.enc 4 (fun _=>rfl) hi (k:=3) (by decide) (.sl (zaY k.line [c]).length (zaw (zaY k.line [c]))) ⟨k.name,k.holder,k.token,zaY k.line [c]⟩ (by rw[he];rfl)
    have hwl:(zaw (zaY k.line [c])).take ((zaY k.line [c]).length*1)=zaw (zaY k.line [c]):=List.take_of_length_le (by rw[zah];omega)
    repeat'(first|(with_reducible first|refine zab _ _ ?_|refine zaV ?_|refine zaW ?_)|rw[zaj]|simp only[hm1,h1',hat1,hat3,hset,hwl,zfc,zah,←List.map_drop,List.map_cons,zae,zay,zY,Int.reduceEq,Int.reduceBEq,Int.reduceBNe,Nat.reduceSub,Nat.reduceEqDiff,Nat.reduceAdd,Nat.reduceMul,Nat.reduceLeDiff,Nat.reduceLT,Nat.reduceBEq,reduceCtorEq]|((first|((try refine zax ?_);apply zaA)|(apply zaB;intro _));(solve|exact(hco)|exact(hfi)|exact(hah)|exact(hwo)|(refine CallOK.le (hco) ?_;exact zM)|(refine CallOK.le (hfi) ?_;exact zM)|(refine CallOK.le (hah) ?_;exact zM)|(refine CallOK.le (hwo) ?_;exact zM)|fail);try case hn=>rfl)|refine zal ?_|refine zaa (fun hb=> ?_) (fun hb=> ?_)|(refine And.intro ?_ ?_;exact zI)|refine And.intro (fun hg=> ?_) (fun hg=> ?_)|exact zC|fail)
    simp[zfx,za4]
  ·have h1':(k.holder !=c)=false:=by rw[bne,h1];rfl
   rw[if_pos h1]at hfr
   rw[hfr]
   unfold zcC
   cases hk:k.line with
   |nil=>
    rw[hk]at hat1 hat3
    simp only[List.length_nil,List.flatMap_nil]at hat1 hat3
    have hE:=zkw Lk.enc 4 (fun _=>rfl) hi
    have hE2:((zaf l).drop ((zbf l name+1)*4)).take ((l.length - (zbf l name+1))*4)=(zaf l).drop ((zbf l name+1)*4):=List.take_of_length_le (by rw[List.length_drop,zae];omega)
    have hz:(((0:Nat):Int)==0)=true:=rfl
    have hw:IntKind.i64.wrap ((zbf l name:Int)+1)=((zbf l name+1:Nat):Int):=by rw[wrap64 (by omega) (by omega)];omega
    have hq1:((zaf l).take (zbf l name*4)).length=zbf l name*4:=by rw[List.length_take,zae];omega
    have hq2:((zaf l).drop ((zbf l name+1)*4)).length=(l.length - (zbf l name+1))*4:=by rw[List.length_drop,zae];omega
    have hB1:(zbf l name*56≤2^47)=True:=eq_true (by omega)
    have hB2:((zbf l name+(l.length - (zbf l name+1)))*56≤2^47)=True:=eq_true (by omega)
    have hB3:(((zbf l name+1:Nat):Int)≤(l.length:Int))=True:=eq_true (by omega)
    have hB4:((zbf l name:Int)≤(l.length:Int))=True:=eq_true (by omega)
    have hB5:(0≤((zbf l name+1:Nat):Int))=True:=eq_true (by omega)
    have hTT:((zaf l).take (zbf l name*4)).take (zbf l name*4)=(zaf l).take (zbf l name*4):=List.take_of_length_le (by omega)
    have hTA:(zaf l).take (zbf l name*4)++(zaf l).drop ((zbf l name+1)*4)=zaf (l.eraseIdx (zbf l name)):=hE.symm
    have hle:(l.eraseIdx (zbf l name)).length=zbf l name+(l.length - (zbf l name+1)):=by rw[List.length_eraseIdx_of_lt hi];omega
    repeat'(first|(with_reducible first|refine zab _ _ ?_|refine zaV ?_|refine zaW ?_)|rw[zaj]|simp only[hm1,h1',hat1,hat3,hz,hw,hE2,hq1,hq2,hB1,hB2,hB3,hB4,hB5,hTT,hTA,Int.le_refl,←List.map_drop,List.map_cons,zae,zay,zY,Int.reduceEq,Int.reduceBEq,Int.reduceBNe,Nat.reduceSub,Nat.reduceEqDiff,Nat.reduceAdd,Nat.reduceMul,Nat.reduceLeDiff,Nat.reduceLT,Nat.reduceBEq,reduceCtorEq]|((first|((try refine zax ?_);apply zaA)|(apply zaB;intro _));(solve|exact(hco)|exact(hfi)|(refine CallOK.le (hco) ?_;exact zM)|(refine CallOK.le (hfi) ?_;exact zM)|fail);try case hn=>rfl)|refine zal ?_|refine zaa (fun hb=> ?_) (fun hb=> ?_)|(refine And.intro ?_ ?_;exact zI)|refine And.intro (fun hg=> ?_) (fun hg=> ?_)|exact zC|fail)
    simp[zfx,za4,hle]
   |cons x rest=>
    rw[hk]at hat1 hat3
    have hz:(((rest.length+1:Nat):Int)==0)=false:=by simp;omega
    have hrl:rest.length<2^30:=by rw[hk,List.length_cons]at hkl;omega
    have hn1:rest.length+1 - 1=rest.length:=rfl
    have hT:(zaw rest).take rest.length=zaw rest:=List.take_of_length_le (by rw[zah];exact Nat.le_refl _)
    have hBr:(rest.length*8≤2^47)=True:=eq_true (by omega)
    have hnx:=List.nodup_cons.1 (hk▸hkn)
    have hset1:=zb2 Lk.enc 4 (fun _=>rfl) hi (k:=1) (by decide) (iD x) ⟨k.name,x,k.token,x::rest⟩ (by rw[he,←hk];rfl)
    obtain⟨l1,hl1⟩:∃l1,l1=l.set (zbf l name) ⟨k.name,x,k.token,x::rest⟩:=⟨_,rfl⟩
    have hi1:zbf l name<l1.length:=by rw[hl1];simpa using hi
    have hg1:l1[zbf l name]=⟨k.name,x,k.token,x::rest⟩:=by simp[hl1]
    have hset2:=zb2 Lk.enc 4 (fun _=>rfl) hi1 (k:=3) (by decide) (.sl rest.length (zaw rest)) ⟨k.name,x,k.token,rest⟩ (by rw[hg1];rfl)
    obtain⟨l2,hl2⟩:∃l2,l2=l1.set (zbf l name) ⟨k.name,x,k.token,rest⟩:=⟨_,rfl⟩
    have hi2:zbf l name<l2.length:=by rw[hl2];simpa using hi1
    have hg2:l2[zbf l name]=⟨k.name,x,k.token,rest⟩:=by simp[hl2]
    have hset3:=zb2 Lk.enc 4 (fun _=>rfl) hi2 (k:=2) (by decide) (iD (t+1)) ⟨k.name,x,t+1,rest⟩ (by rw[hg2];rfl)
    have hl3:l2.set (zbf l name) ⟨k.name,x,t+1,rest⟩=l.set (zbf l name) ⟨k.name,x,t+1,rest⟩:=by rw[hl2,hl1,List.set_set,List.set_set]
    rw[←hl1]at hset1
    rw[←hl2]at hset2
    rw[hl3]at hset3
    have hat3':=zaO hi1
    rw[hg1]at hat3'
    have hat3':(zaf l1).drop (zbf l name*4+3)= .sl (x::rest).length (zaw (x::rest))::zaf (l1.drop (zbf l name+1)):=by rw[←List.drop_drop,hat3'];rfl
    have hll1:l1.length=l.length:=by rw[hl1,List.length_set]
    repeat'(first|refine zq (I hm1 (I h1' (I hat1 (I hat3 (I hat3' (I hz (I hwt (I hset1 (I hset2 (I hset3 (I @zah (I hn1 (I hT (I hBr (I hll1 (I @zmd (I @List.map_cons.{0,0} (I @zae @zay)))))))))))))))))) ?_|exact zd (I hm1 (I h1' (I hat1 (I hat3 (I hat3' (I hz (I hwt (I hset1 (I hset2 (I hset3 (I @zah (I hn1 (I hT (I hBr (I hll1 (I @zmd (I @List.map_cons.{0,0} (I @zae @zay))))))))))))))))))|refine zc (hco) ?_|refine zg (hco) ?_|refine zc (hfi) ?_|refine zg (hfi) ?_|(refine zaa ?_ ?_<;>intro hb)|(refine And.intro ?_ ?_;exact zI)|(refine And.intro ?_ ?_<;>intro hg)|exact zC|fail)
    simp[zfx,za4]
end Go.Proofs.YtngleemijkaeoaaGreat
