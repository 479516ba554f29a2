import Derived.Test.YtliimajkpggbhaaGreatK9
import Derived.Test.YtliimajkpggbhaaGreatW
namespace Go.Proofs.YtliimajkpggbhaaGreat
open Go.Pk Tryz
set_option maxRecDepth 100000
set_option linter.unusedSimpArgs false
set_option linter.unusedVariables false
theorem zkt (v a:Int):CallOK prog 133 [.f (ai v), .f (ai a)] (fun r o=>r=[rb (decide (v≥a)&&decide (v≤2305843009213693952))]∧o=[]):=by
 refine zh func133 results133 ntmps133 call133 ?_
 simp only[f133,Option.getD]
 exact zW0 trivial
theorem zsr (c:Int):CallOK prog 169 [.f (ai c)] (fun r o=>r=[rb (isClient c)]∧o=[]):=by
 refine zh func169 results169 ntmps169 call169 ?_
 simp only[f169,Option.getD]
 refine zL0 trivial ?_
 rfl
theorem zku (l:List Int) (hl:l.length<2^62) (c:Int):CallOK prog 218 [.f (al l.length (zaF l)), .f (ai c)] (fun r o=>r=[ri (zov l c),rb (hasI l c)]∧o=[]):=by
 refine zh func218 results218 ntmps218 call218 ?_
 simp only[f218,Option.getD]
 have hh:hasI l c=decide (zdg (fun x=>c==x) l 0≥0):=(zgF _ l).symm
 rw[hh]
 unfold zov
 refine zL0 trivial ?_
 refine zaf (τ:=Nat) (fun i=>⟨(al l.length (zaF l)::ai c::dq4 (ai i::zs6 [])),[]⟩)
  (fun i=>i≤l.length) (fun i=>zdg (fun x=>c==x) (l.drop i) i) (fun i=>l.length - i) 0
  (Gh.canon [] [] [] zK rfl rfl) (Nat.zero_le _) ?_
 intro i hi0 hF K hK
 rw[List.drop_zero]at hF
 refine zw ?_
 refine zaa (fun hlt=> ?_) (fun hge=> ?_)
 ·have hi:i<l.length:=by simpa using hlt
  have hat:=zcI hi
  have hw:=zai hi hl
  have hq:zdg (fun x=>c==x) (l.drop i) i=if(l[i]==c)=true then(i:Int)else zdg (fun x=>c==x) (l.drop (i+1)) ((i+1:Nat):Int):=by
   rw[List.drop_eq_getElem_cons hi,zdg,zpP];rfl
  rw[hq]at hF
  repeat'(first|exact zC|refine zq (I hat (I @zaD zca)) ?_|(apply zaa<;>intro hb)|(apply I;exact zI)|(apply I<;>intro hg))
  ·rw[if_pos hb]at hF
   have hF:(i:Int)=zdg (fun x=>c==x) l 0:=hF
   rw[←hF,if_pos (by omega)]
   simp
  ·rw[if_neg (by rw[hb];simp)]at hq
   exact hK _ (i+1) (Gh.canon [] [] [] (zk hw) rfl rfl) hi hq.symm (by omega)
 ·have hi:i=l.length:=by
   have:¬(i:Int)<l.length:=by simpa using hge
   omega
  rw[hi,List.drop_length]at hF
  have hF:(-1:Int)=zdg (fun x=>c==x) l 0:=hF
  rw[←hF]
  refine zL0 trivial ?_
  rfl
theorem zkv (l gone:List Int) (hl:l.length<2^30) (hg:gone.length<2^30):CallOK prog 215 [.f (al l.length (zaF l)), .f (al gone.length (zaF gone))] (fun r o=>r=[rowI (zbi l gone)]∧o=[]):=by
 refine CallOK.nil ?_
 refine zh func215 results215 ntmps215 call215 ?_
 simp only[f215,Option.getD]
 refine zL0 trivial ?_
 refine zaf (τ:=Nat×List Int) (fun t=>⟨(al l.length (zaF l)::al gone.length (zaF gone)::dq3 (.one (.own ⟨5,1,1⟩ 0 t.2.length)::ai t.1::zpf [])),[(5,⟨2,[none,roq 1 1 (zaF t.2)]⟩),(25,⟨2,[]⟩),(26,⟨2,[]⟩)]⟩)
  (fun t=>t.1≤l.length∧t.2.length≤t.1) (fun t=>t.2++zbi (l.drop t.1) gone) (fun t=>l.length - t.1) (0,[])
  ((Gh.nil (i:=5) (s:=5) (sz:=1) rfl).trans (Gh.canon [5] [25,26] [] zK rfl rfl)) ⟨Nat.zero_le _,Nat.zero_le _⟩ ?_
 intro⟨i,acc⟩ ⟨hi0,hac⟩ hF K hK
 simp only[List.drop_zero,List.nil_append]at hi0 hac hF hK⊢
 refine zw ?_
 refine zaa (fun hlt=> ?_) (fun hge=> ?_)
 ·have hi:i<l.length:=by simpa using hlt
  have hat:=zcI hi
  have hw:=zai hi (by omega)
  have hin:=zBs gone (by omega) l[i]
  have hFs:zbi (l.drop i) gone=if(!hasI gone l[i])=true then l[i]::zbi (l.drop (i+1)) gone else zbi (l.drop (i+1)) gone:=by
   unfold zbi
   rw[List.drop_eq_getElem_cons hi,List.filter_cons]
  cases hb:(!hasI gone l[i])
  ·rw[hb,if_neg (by simp)]at hFs
   refine zL (I hat (I hb (I @zaD zca))) (hin) ?_
   exact hK _ (i+1,acc) (Gh.canon [5] [] [] (zk hw) rfl rfl) ⟨hi,by simp only;omega⟩ (by simp only;rw[hFs]) (by simp only;omega)
  ·rw[hb,if_pos rfl]at hFs
   refine zL (I hat (I hb (I @zaD zca))) (hin) ?_
   exact hK _ (i+1,acc++[l[i]]) (Gh.canon [5] [] [] (zk (I hw (I @List.length_append.{0} @List.length_singleton.{0}))) rfl (by simp only[List.length_append,List.length_singleton];rw[zii];rfl)) ⟨hi,by simp only[List.length_append,List.length_singleton];omega⟩ (by simp only[List.append_assoc,List.singleton_append];rw[hFs]) (by simp only;omega)
 ·have hi:i=l.length:=by
   have:¬(i:Int)<l.length:=by simpa using hge
   omega
  rw[hi,List.drop_length]at hF
  have hF:acc++[]=zbi l gone:=hF
  rw[←hF,List.append_nil]
  refine zL0 trivial ?_
  simp[zBQ,zaA,rowI]
abbrev zz5 (l:List Sess) (now lease:Int):List Int:=(l.filter fun s=>decide (now - s.renewed≥lease)).map Sess.client
theorem zz6 (l:List Sess) (hl:l.length<2^30) (now lease:Int) (hr:∀s∈l,0≤s.renewed∧s.renewed≤zbE) (hn:0≤now∧now≤zbE):CallOK prog 187 [.f (al l.length (za1 l)), .f (ai now), .f (ai lease)] (fun r o=>r=[rowI (zuK l now lease)]∧o=[]):=by
 refine CallOK.nil ?_
 refine zh func187 results187 ntmps187 call187 ?_
 simp only[f187,Option.getD]
 have hg1:=zkt now 0
 have hg2:=zkt lease 0
 rw[show(decide (now≥0)&&decide (now≤2305843009213693952))=true by have:zbE=2305843009213693952:=rfl;simp;omega]at hg1
 cases hle:(decide (lease≥0)&&decide (lease≤2305843009213693952))
 ·rw[hle]at hg2
  have hd:zuK l now lease=[]:=by
   unfold zuK
   rw[if_pos]
   have:zbE=2305843009213693952:=rfl
   simp at hle⊢
   omega
  rw[hd]
  refine zL trivial (I (hg1) (hg2)) ?_
  simp[zBQ,zaA,rowI]
 rw[hle]at hg2
 have hd:zuK l now lease=zz5 l now lease:=by
  unfold zuK
  rw[if_neg]
  have:zbE=2305843009213693952:=rfl
  simp at hle⊢
  omega
 rw[hd]
 refine zL trivial (I (hg1) (hg2)) ?_
 refine zaf (τ:=Nat×List Int) (fun t=>⟨(al l.length (za1 l)::ai now::ai lease::dq4 (.one (.own ⟨7,1,1⟩ 0 t.2.length)::ai t.1::zx7 [])),[(7,⟨2,[none,roq 1 1 (zaF t.2)]⟩),(38,⟨2,[]⟩),(39,⟨2,[]⟩)]⟩)
  (fun t=>t.1≤l.length∧t.2.length≤t.1) (fun t=>t.2++zz5 (l.drop t.1) now lease) (fun t=>l.length - t.1) (0,[])
  ((Gh.nil (i:=7) (s:=7) (sz:=1) rfl).trans (Gh.canon [7] [38,39] [] zK rfl rfl)) ⟨Nat.zero_le _,Nat.zero_le _⟩ ?_
 intro⟨i,acc⟩ ⟨hi0,hac⟩ hF K hK
 simp only[List.drop_zero,List.nil_append]at hi0 hac hF hK⊢
 refine zw ?_
 refine zaa (fun hlt=> ?_) (fun hge=> ?_)
 ·have hi:i<l.length:=by simpa using hlt
  have hat:=zco hi
  have hw:=zai hi (by omega)
  have hrb:=hr _ (List.getElem_mem hi)
  have hH:zbE=2305843009213693952:=rfl
  have hw2:IntKind.i64.wrap (now - l[i].renewed)=now - l[i].renewed:=wrap64 (by omega) (by omega)
  have hFs:zz5 (l.drop i) now lease=if(decide (now - l[i].renewed≥lease))=true then l[i].client::zz5 (l.drop (i+1)) now lease else zz5 (l.drop (i+1)) now lease:=by
   unfold zz5
   rw[List.drop_eq_getElem_cons hi,List.filter_cons]
   split<;>simp
  cases hb:(decide (now - l[i].renewed≥lease))
  ·rw[hb,if_neg (by simp)]at hFs
   refine zL0 (I hat (I hb (I hw2 (I @zax zca)))) ?_
   exact hK _ (i+1,acc) (Gh.canon [7] [] [] (zk hw) rfl rfl) ⟨hi,by simp only;omega⟩ (by simp only;rw[hFs]) (by simp only;omega)
  ·rw[hb,if_pos rfl]at hFs
   refine zL0 (I hat (I hb (I hw2 (I @zax zca)))) ?_
   exact hK _ (i+1,acc++[l[i].client]) (Gh.canon [7] [] [] (zk (I hw (I @List.length_append.{0} @List.length_singleton.{0}))) rfl (by simp only[List.length_append,List.length_singleton];rw[zii];rfl)) ⟨hi,by simp only[List.length_append,List.length_singleton];omega⟩ (by simp only[List.append_assoc,List.singleton_append];rw[hFs]) (by simp only;omega)
 ·have hi:i=l.length:=by
   have:¬(i:Int)<l.length:=by simpa using hge
   omega
  rw[hi,List.drop_length]at hF
  have hF:acc++[]=zz5 l now lease:=hF
  rw[←hF,List.append_nil]
  refine zL0 trivial ?_
  simp[zBQ,zaA,rowI]
theorem zxs (l:List Lk) (hl:l.length<2^30) (c:Int):CallOK prog 219 [.f (al l.length (zaj l)), .f (ai c)] (fun r o=>r=[.one (.own 2 (zck l c).length (zaK (zck l c)) false)]∧o=[]):=by
 refine CallOK.nil ?_
 refine zh func219 results219 ntmps219 call219 ?_
 simp only[f219,Option.getD]
 refine zL0 trivial ?_
 refine zaf (τ:=Nat×List Grant) (fun t=>⟨(al l.length (zaj l)::ai c::dq3 (.one (.own ⟨5,1,1⟩ 0 t.2.length)::ai t.1::zwf [])),[(5,⟨2,[none,roq 1 2 (zaK t.2)]⟩),(32,⟨2,[]⟩),(33,⟨2,[]⟩)]⟩)
  (fun t=>t.1≤l.length∧t.2.length≤t.1) (fun t=>t.2++zck (l.drop t.1) c) (fun t=>l.length - t.1) (0,[])
  ((Gh.nil (i:=5) (s:=5) (sz:=2) rfl).trans (Gh.canon [5] [32,33] [] zK rfl rfl)) ⟨Nat.zero_le _,Nat.zero_le _⟩ ?_
 intro⟨i,acc⟩ ⟨hi0,hac⟩ hF K hK
 simp only[List.drop_zero,List.nil_append]at hi0 hac hF hK⊢
 refine zw ?_
 refine zaa (fun hlt=> ?_) (fun hge=> ?_)
 ·have hi:i<l.length:=by simpa using hlt
  have hat:=zbn hi
  have hw:=zai hi (by omega)
  have hFs:zck (l.drop i) c=if(l[i].holder==c)=true then⟨l[i].name,l[i].token⟩::zck (l.drop (i+1)) c else zck (l.drop (i+1)) c:=by
   unfold zck
   rw[List.drop_eq_getElem_cons hi,List.filter_cons]
   split<;>simp
  cases hb:(l[i].holder==c)
  ·rw[hb,if_neg (by simp)]at hFs
   refine zL0 (I hat (I hb (I @zah zca))) ?_
   exact hK _ (i+1,acc) (Gh.canon [5] [] [] (zk hw) rfl rfl) ⟨hi,by simp only;omega⟩ (by simp only;rw[hFs]) (by simp only;omega)
  ·rw[hb,if_pos rfl]at hFs
   refine zL0 (I hat (I hb (I @zah zca))) ?_
   exact hK _ (i+1,acc++[⟨l[i].name,l[i].token⟩]) (Gh.canon [5] [] [] (zk (I hw (I @List.length_append.{0} @List.length_singleton.{0}))) rfl (by simp only[List.length_append,List.length_singleton];rw[zfM];rfl)) ⟨hi,by simp only[List.length_append,List.length_singleton];omega⟩ (by simp only[List.append_assoc,List.singleton_append];rw[hFs]) (by simp only;omega)
 ·have hi:i=l.length:=by
   have:¬(i:Int)<l.length:=by simpa using hge
   omega
  rw[hi,List.drop_length]at hF
  have hF:acc++[]=zck l c:=hF
  rw[←hF,List.append_nil]
  refine zL0 trivial ?_
  simp[zBQ,zaA]
theorem zvj {x:Value}:normD (.raw x)= .raw x:=rfl
structure LkD where
 k:Lk
 x:D
abbrev LkD.enc (m:LkD):List D:=[sD m.k.name,iD m.k.holder,iD m.k.token,m.x]
abbrev zeX (l:List LkD):List D:=l.flatMap LkD.enc
def plain (k:Lk):LkD:=⟨k, .sl k.line.length (zaF k.line)⟩
theorem zkw {l:List Lk}:zeX (l.map plain)=zaj l:=by
 induction l with
 |nil=>rfl
 |cons k l ih=>rw[List.map_cons,zeX,List.flatMap_cons,zaj,List.flatMap_cons];exact congrArg (_++·) ih
theorem zrh {l:List LkD} {i:Nat} (hi:i<l.length):(zeX l).drop (i*4)=l[i].enc++(zeX (l.drop (i+1))):=zdj _ 4 l i hi fun _=>rfl
theorem zeB {l:List LkD}:(zeX l).length=l.length*4:=zcT _ 4 (fun _=>rfl) l
theorem zlY {l:List LkD}:(zeX l).take (l.length*4)=zeX l:=zc1 LkD.enc 4 (fun _=>rfl) l
theorem zlZ {l:List LkD} {m:LkD}:zeX (l++[m])=zeX l++m.enc:=by simp[zeX]
theorem zgG {l:List Lk} {m:Lk}:zaj (l++[m])=zaj l++m.enc:=by simp[zaj]
theorem zjq (l:List Lk) (hl:l.length<2^30) (hll:∀k∈l,k.line.length<2^30):CallOK prog 214 [.f (al l.length (zaj l))] (fun r o=>r=[.one (.own 4 l.length (zaj l) false)]∧o=[]):=by
 refine CallOK.nil ?_
 refine zh func214 results214 ntmps214 call214 ?_
 simp only[f214,Option.getD]
 refine zL0 trivial ?_
 refine zaf (τ:=Nat) (fun i=>⟨(al l.length (zaj l)::dq2 (.one (.own ⟨3,1,1⟩ 0 i)::ai i::zpf [])),[(3,⟨2,[none,roq 1 4 (zaj (l.take i))]⟩),(5,⟨2,[]⟩),(16,⟨2,[]⟩),(19,⟨2,[]⟩),(23,⟨2,[]⟩),(24,⟨2,[]⟩)]⟩)
  (fun i=>i≤l.length) (fun _=>()) (fun i=>l.length - i) 0
  ((Gh.nil (i:=3) (s:=3) (sz:=4) rfl).trans (Gh.canon [3] [5,16,19,23,24] [] zK rfl rfl)) (Nat.zero_le _) ?_
 intro i hi0 hF K hK
 refine zw ?_
 refine zaa (fun hlt=> ?_) (fun hge=> ?_)
 ·have hi:i<l.length:=by simpa using hlt
  have hat:=zbn hi
  have hw:=zai hi (by omega)
  have hlk:=hll _ (List.getElem_mem hi)
  have h1:(l[i].line.length*8≤2^47)=True:=eq_true (by omega)
  have htl:(l.take i).length=i:=by rw[List.length_take];omega
  have htk:=zaI (l:=l.take i)
  rw[htl]at htk
  have hsn:zaj (l.take i)++[sD l[i].name,iD l[i].holder,iD l[i].token, .sl l[i].line.length (zaF l[i].line)]=zaj (l.take (i+1)):=by
   rw[←List.take_append_getElem hi,zgG]
  refine zL0 (I hat (I @zah (I @zaD (I h1 (I htl (I htk (I hsn zca))))))) ?_
  exact hK _ (i+1) (Gh.canon [3] [] [] (zk hw) rfl rfl) hi rfl (by omega)
 ·have hi:i=l.length:=by
   have:¬(i:Int)<l.length:=by simpa using hge
   omega
  subst hi
  refine zL0 @List.take_length.{0} ?_
  show zaA _ _∧True
  simp[zaA]
def zl0 (l:List Lk) (i:Nat) (x:D):List LkD:=l.zipIdx.map fun p=>if p.2=i then⟨p.1,x⟩else plain p.1
theorem zb2 {l:List Lk} {i:Nat} {x:D}:(zl0 l i x).length=l.length:=by simp[zl0]
theorem zfw {l:List Lk} {i j:Nat} {x:D} (hj:j<l.length):(zl0 l i x)[j]'(by rw[zb2];exact hj)=if j=i then⟨l[j],x⟩else plain l[j]:=by simp[zl0]
theorem zBw {l:List Lk} {i:Nat} {x:D}:(zl0 l i x).map LkD.k=l:=by
 refine List.ext_getElem (by simp[zb2]) fun j h1 h2=> ?_
 rw[List.getElem_map,zfw h2]
 split<;>rfl
set_option maxHeartbeats 4000000 in
theorem zvk (l:List Lk) (hl:l.length<2^30) (hll:∀k∈l,k.line.length<2^30) (i0:Nat) (hi0:i0<l.length):
  zt7 prog 214 [.f (al l.length (zaj l))] (fun bs r o=>∃x,(∃a cap,x=Value.slice a l[i0].line.length cap)∧bs=[.val x]∧r=[.one (.own 4 l.length (zeX (zl0 l i0 (.raw x))) false)]∧o=[[.own 1 l[i0].line.length (zaF l[i0].line) false]]):=by
 refine zwj zcV mixed (T:=Ty) (n:=26) func214 (c:=f214.body.getD .skip) (q:=1000) (n2:=l[i0].line.length) rfl results214 ntmps214 call214 (R:=fun x=>_) ?_
 simp only[f214,Option.getD]
 refine zL0 trivial ?_
 refine zaf (τ:=Nat×Option (Option Addr×Nat)) (fun t=>match t.2 with
  |none=>⟨(al l.length (zaj l)::dq2 (.one (.own ⟨3,1,1⟩ 0 t.1)::ai t.1::zpf [])),[(3,⟨2,[none,roq 1 4 (zaj (l.take t.1))]⟩),(5,⟨2,[]⟩),(16,⟨2,[]⟩),(19,⟨2,[]⟩),(23,⟨2,[]⟩),(24,⟨2,[]⟩)]⟩
  |some x=>⟨(al l.length (zaj l):: .one (.lk ⟨1000,1,0⟩ l[i0].line.length (.slice x.1 l[i0].line.length x.2))::dd:: .one (.own ⟨3,1,1⟩ 0 t.1)::ai t.1::zpf []),[(3,⟨2,[none,roq 1 4 (zeX ((zl0 l i0 (.raw (.slice x.1 l[i0].line.length x.2))).take t.1))]⟩),(5,⟨2,[]⟩),(16,⟨2,[]⟩),(19,⟨2,[]⟩),(23,⟨2,[]⟩),(24,⟨2,[]⟩),(1000,⟨1,[none,roq 0 1 (zaF l[i0].line)]⟩)]⟩)
  (fun t=>t.1≤l.length∧(t.1≤i0↔t.2=none)) (fun _=>()) (fun t=>l.length - t.1) (0,none)
  ((Gh.nil (i:=3) (s:=3) (sz:=4) rfl).trans (Gh.canon [3] [5,16,19,23,24] [] zK rfl rfl)) ⟨Nat.zero_le _,by simp⟩ ?_
 rintro⟨i,x⟩ ⟨hi1,hx⟩ hF K hK
 cases x with
 |none=>
  simp only at hi1 hx hK⊢
  have hx0:i≤i0:=hx.2 trivial
  refine zw ?_
  refine zaa (fun hlt=> ?_) (fun hge=> ?_)
  ·have hi:i<l.length:=by simpa using hlt
   have hat:=zbn hi
   have hw:=zai hi (by omega)
   have hlk:=hll _ (List.getElem_mem hi)
   have h1:(l[i].line.length*8≤2^47)=True:=eq_true (by omega)
   have htl:(l.take i).length=i:=by rw[List.length_take];omega
   have htk:=zaI (l:=l.take i)
   rw[htl]at htk
   have hsn:zaj (l.take i)++[sD l[i].name,iD l[i].holder,iD l[i].token, .sl l[i].line.length (zaF l[i].line)]=zaj (l.take (i+1)):=by
    rw[←List.take_append_getElem hi,zgG]
   repeat'(first|exact zC|(with_reducible first|refine zbc 7 ?_|refine zaR 7 ?_|refine zaS 7 ?_)|refine zu (I hat (I @zah (I @zaD (I h1 (I htl (I htk (I hsn zca))))))) ?_|(with_reducible first|refine zae _ _ ?_)|(apply zaa<;>intro hb)|(apply I;exact zI)|(apply I<;>intro hg))
   by_cases hii:i=i0
   ·subst hii
    refine zbl (zeL _ _ (zAV zcV mixed _ _ (zrE (s:=5) (k:=3) (k':=4) (e:=7) (j:=1) (q:=1000) rfl rfl rfl rfl rfl rfl (by decide) rfl rfl) ?_))
    intro x _
    have hsx:zaj (l.take i)++[sD l[i].name,iD l[i].holder,iD l[i].token, .raw (.slice x.1 l[i].line.length x.2)]=zeX ((zl0 l i (.raw (.slice x.1 l[i].line.length x.2))).take (i+1)):=by
     rw[←List.take_append_getElem (by rw[zb2];exact hi),zlZ,zfw hi,if_pos rfl]
     congr 1
     rw[←zkw]
     congr 1
     refine List.ext_getElem (by simp[zb2]) fun j h1 h2=> ?_
     have hji:j<i:=by simp at h1;omega
     rw[List.getElem_map,List.getElem_take,List.getElem_take,zfw (by omega),if_neg (by omega)]
    refine zL0 (I hat (I @zah (I @zaD (I h1 (I htl (I htk (I hsx (I @zvj zca)))))))) ?_
    exact hK _ (i+1,some x) (Gh.canon [3,1000] [] [1000] (zk (I hw @zx4)) rfl rfl) ⟨hi,by simp⟩ trivial (by simp only;omega)
   ·refine zbl ?_
    refine zL0 (I hat (I @zah (I @zaD (I h1 (I htl (I htk (I hsn zca))))))) ?_
    exact hK _ (i+1,none) (Gh.canon [3] [] [] (zk hw) rfl rfl) ⟨hi,by simp;omega⟩ trivial (by simp only;omega)
  ·exfalso
   have:¬(i:Int)<l.length:=by simpa using hge
   omega
 |some x=>
  simp only at hi1 hx hK⊢
  have hx0:¬i≤i0:=fun h=>by cases hx.1 h
  refine zw ?_
  refine zaa (fun hlt=> ?_) (fun hge=> ?_)
  ·have hi:i<l.length:=by simpa using hlt
   have hat:=zbn hi
   have hw:=zai hi (by omega)
   have hlk:=hll _ (List.getElem_mem hi)
   have h1:(l[i].line.length*8≤2^47)=True:=eq_true (by omega)
   have htl:((zl0 l i0 (.raw (.slice x.1 l[i0].line.length x.2))).take i).length=i:=by rw[List.length_take,zb2];omega
   have htk:=zlY (l:=(zl0 l i0 (.raw (.slice x.1 l[i0].line.length x.2))).take i)
   rw[htl]at htk
   have hsn:zeX ((zl0 l i0 (.raw (.slice x.1 l[i0].line.length x.2))).take i)++[sD l[i].name,iD l[i].holder,iD l[i].token, .sl l[i].line.length (zaF l[i].line)]=zeX ((zl0 l i0 (.raw (.slice x.1 l[i0].line.length x.2))).take (i+1)):=by
    rw[←List.take_append_getElem (by rw[zb2];exact hi),zlZ,zfw hi,if_neg (by omega)];rfl
   refine zL0 (I hat (I @zah (I @zaD (I @zeB (I h1 (I htl (I htk (I hsn zca)))))))) ?_
   exact hK _ (i+1,some x) (Gh.canon [3,1000] [] [1000] (zk (I hw @zx4)) rfl rfl) ⟨hi,by simp;omega⟩ trivial (by simp only;omega)
  ·have hi:i=l.length:=by
    have:¬(i:Int)<l.length:=by simpa using hge
    omega
   subst hi
   refine zL0 trivial ?_
   refine⟨1, .slice x.1 l[i0].line.length x.2,rfl,⟨_,_,rfl⟩, ?_,rfl⟩
   rw[List.take_of_length_le (by rw[zb2];exact Nat.le_refl _)]
theorem zvd (l:List LkD) (hl:l.length<2^62) (s:ByteArray):CallOK prog 217 [.f (al l.length (zeX l)), .f (ast s)] (fun r o=>r=[ri (zdg (isL s) (l.map LkD.k) 0)]∧o=[]):=by
 refine zh func217 results217 ntmps217 call217 ?_
 simp only[f217,Option.getD]
 refine zL0 trivial ?_
 refine zaf (τ:=Nat) (fun i=>⟨(al l.length (zeX l)::ast s::dq3 (ai i::zy0 [])),[]⟩)
  (fun i=>i≤l.length) (fun i=>zdg (isL s) ((l.drop i).map LkD.k) i) (fun i=>l.length - i) 0
  (Gh.canon [] [] [] zK rfl rfl) (Nat.zero_le _) ?_
 intro i hi0 hF K hK
 rw[List.drop_zero]at hF
 refine zw ?_
 refine zaa (fun hlt=> ?_) (fun hge=> ?_)
 ·have hi:i<l.length:=by simpa using hlt
  have hat:=zrh hi
  have hw:=zai hi hl
  have hq:zdg (isL s) ((l.drop i).map LkD.k) i=if(l[i].k.name.toList==s.toList)=true then(i:Int)else zdg (isL s) ((l.drop (i+1)).map LkD.k) ((i+1:Nat):Int):=by
   rw[List.drop_eq_getElem_cons hi,List.map_cons,zdg];rfl
  rw[hq]at hF
  repeat'(first|exact zC|refine zq (I hat (I @zeB zca)) ?_|(apply zaa<;>intro hb)|(apply I;exact zI)|(apply I<;>intro hg))
  ·rw[if_pos hb]at hF
   have hF:(i:Int)=zdg (isL s) (l.map LkD.k) 0:=hF
   rw[←hF]
  ·rw[if_neg (by rw[hb];simp)]at hq
   exact hK _ (i+1) (Gh.canon [] [] [] (zk hw) rfl rfl) hi hq.symm (by omega)
 ·have hi:i=l.length:=by
   have:¬(i:Int)<l.length:=by simpa using hge
   omega
  rw[hi,List.drop_length]at hF
  have hF:(-1:Int)=zdg (isL s) (l.map LkD.k) 0:=hF
  rw[←hF]
  exact zW0 trivial
theorem zh3 {l:List Lk} (hs:SL l) (s:ByteArray):zdg (isL s) l 0=match zd1 l s with|none=> -1|some _=>(zbO l s:Int):=by
 rcases zjo (isL s) l 0 with⟨h1,h2⟩|⟨k,hk,h2,h3,h4⟩
 ·have:zd1 l s=none:=List.find?_eq_none.2 fun x hx=>by rw[h1 x hx];simp
  rw[this];exact h2
 ·cases hf:zd1 l s with
  |none=>exact absurd h3 (List.find?_eq_none.1 hf _ (List.getElem_mem hk))
  |some x=>
   obtain⟨⟨hp,he⟩,hx⟩:=zeb hs hf
   have hkp:k=zbO l s:=by
    have hne:∀{i j:Nat} (hi:i<l.length) (hj:j<l.length),i<j→isL s l[i]=true→isL s l[j]=true→False:=fun hi hj hij h1 h2=>by
     have:=List.pairwise_iff_getElem.1 hs _ _ hi hj hij
     simp only[isL,beq_iff_eq]at h1 h2
     simp only[zeF,h1,h2,zq9]at this
     cases this
    rcases Nat.lt_trichotomy k (zbO l s)with h|h|h
    ·exact(hne hk hp h h3 (by rw[he];exact hx)).elim
    ·exact h
    ·exact(hne hp hk h (by rw[he];exact hx) h3).elim
   have h2':zdg (isL s) l 0=((0+k:Nat):Int):=h2
   rw[h2']
   show((0+k:Nat):Int)=(zbO l s:Int)
   omega
theorem zss {l:List Lk} {name:ByteArray} {c t:Int} {w:Bool} (hf:zd1 l name=none):za6 l name c t w=if decide ((l.length:Int)≥4)=true then([],0,5)else(l.take (zbO l name)++⟨name,c,t+1,[]⟩::l.drop (zbO l name),0,0):=by unfold za6;rw[hf]
theorem zoL {α:Type} {l:List α} {j:Nat} {y:α} (hj:j≤l.length):(l.take j++y::l.drop j).length=l.length+1:=by
 rw[List.length_append,List.length_take,List.length_cons,List.length_drop];omega
theorem zve {α:Type} {l:List α} {j i:Nat} {y:α} (hj:j≤l.length) (hi:i<j):(l.take j++y::l.drop j)[i]'(by rw[zoL hj];omega)=l[i]:=by
 rw[List.getElem_append_left (by rw[List.length_take];omega),List.getElem_take]
theorem zst {α:Type} {l:List α} {j:Nat} {y:α} (hj:j≤l.length) (h0:0<j):(l.take j++y::l.drop j).set j (l[j - 1]'(by omega))=l.take (j - 1)++(l[j - 1]'(by omega))::l.drop (j - 1):=by
 rw[List.set_append_right _ _ (by rw[List.length_take];omega)]
 rw[show j - (l.take j).length=0 by rw[List.length_take];omega,List.set_cons_zero]
 rw[show l.take j=l.take (j - 1)++[l[j - 1]'(by omega)] by
  rw[List.take_append_getElem (by omega),show j - 1+1=j by omega]]
 rw[List.append_assoc]
 congr 1
 rw[List.drop_eq_getElem_cons (show j - 1<l.length by omega),show j - 1+1=j by omega]
 rfl
theorem zvf {α:Type} {l:List α} {j:Nat} {y x:α} (hj:j≤l.length):(l.take j++y::l.drop j).set j x=l.take j++x::l.drop j:=by
 rw[List.set_append_right _ _ (by rw[List.length_take];omega),show j - (l.take j).length=0 by rw[List.length_take];omega,List.set_cons_zero]
abbrev zES:Lk:=⟨.empty,0,0,[]⟩
set_option maxHeartbeats 4000000 in
theorem zvg (l:List Lk) (hs:SL l) (hl:l.length<2^30) (hll:∀k∈l,k.line.length<2^30) (name:ByteArray) (c t:Int) (ht:0≤t∧t<2^62) (w:Bool) (hf:zd1 l name=none):
  CallOK prog 207 [.f (al l.length (zaj l)), .f (ast name), .f (ai c), .f (ai t), .f (ab w)]
  (fun r o=>r=[.one (.own 4 (za6 l name c t w).1.length (zaj (za6 l name c t w).1) false),ri (za6 l name c t w).2.1,ri (za6 l name c t w).2.2]∧o=[]):=by
 refine CallOK.nil ?_
 refine zh func207 results207 ntmps207 call207 ?_
 simp only[f207,Option.getD]
 have hco:=zjq l hl hll
 have hfi:=zkr l (by omega) name
 rw[zh3 hs,hf]at hfi
 simp only at hfi
 rw[zss hf]
 have hwt:IntKind.i64.wrap (t+1)=t+1:=wrap64 (by omega) (by omega)
 have hm1:decide ((-1:Int)<0)=true:=rfl
 cases h4:decide ((l.length:Int)≥4)
 ·rw[if_neg (by simp)]
  have hlt4:l.length<4:=by simp at h4;omega
  have hp:=zpK (p:=fun x:Lk=>zeF x.name name) (l:=l)
  refine zL (I hm1 (I h4 (I @zah @zaI))) (I (hco) (hfi)) ?_
  refine zza (τ:=Unit) (fun _=>⟨(dd::ast name::ai c::ai t::dq9 (.one (.own ⟨13,1,1⟩ 0 l.length)::dd::ai (zbO l name:Int)::zx6 (zec (zec [])))),[(20,⟨2,[]⟩),(13,⟨2,[none,roq 1 4 (zaj l)]⟩)]⟩) (fun _=>True) (fun _ _=> ?_) (fun Kx hKx=> ?_)
  ·have hlz:zaj l++[D.v (.string .empty),D.v (.int .i64 0),D.v (.int .i64 0), .sl 0 []]=zaj (l.take l.length++zES::l.drop l.length):=by rw[List.take_length,List.drop_length,zgG];rfl
   have hw1:IntKind.i64.wrap (((l.length+1:Nat):Int) - 1)=(l.length:Int):=by rw[wrap64 (by omega) (by omega)];omega
   have hbig:((l.length+1)*48≤2^47)=True:=eq_true (by omega)
   refine zL0 (I @zah (I @zaI (I hlz (I hw1 hbig)))) ?_
   refine zaf (τ:=Nat×Lk) (fun q=>⟨(dd::ast name::ai c::ai t::dq9 (.one (.own ⟨13,1,1⟩ 0 (l.length+1))::dd::ai (zbO l name:Int)::ai q.1::zAR (zec (zec [])))),[(20,⟨2,[]⟩),(13,⟨2,[none,roq 1 4 (zaj (l.take q.1++q.2::l.drop q.1))]⟩),(46,⟨2,[]⟩)]⟩)
    (fun q=>zbO l name≤q.1∧q.1≤l.length) (fun _=>()) (fun q=>q.1) (l.length,zES) (Gh.canon [13] [] [] zK rfl rfl) ⟨hp,Nat.le_refl _⟩ ?_
   rintro⟨j,y⟩ ⟨hj1,hj2⟩ hF K hK
   simp only at hj1 hj2 hK⊢
   have hlen:=zoL (l:=l) (j:=j) (y:=y) hj2
   by_cases hjp:zbO l name<j
   ·have hd:decide ((j:Int)>(zbO l name:Int))=true:=by simpa using hjp
    have hw:IntKind.i64.wrap ((j:Int) - 1)=((j - 1:Nat):Int):=by rw[wrap64 (by omega) (by omega)];omega
    have hat:=zbn (l:=l.take j++y::l.drop j) (i:=j - 1) (by omega)
    rw[zve hj2 (by omega)]at hat
    have hset:=zrb Lk.enc 4 (fun _=>rfl) (l:=l.take j++y::l.drop j) (i:=j) (by omega) (l[j - 1]'(by omega))
    rw[zst hj2 (by omega)]at hset
    simp only[fillAt,List.map_cons,List.map_nil]at hset
    refine zL0 (I hd (I hw (I hat (I @zmd (I @List.map_cons.{0,0} (I @zah (I hlen (I @fillAt.eq_1 (I hset zca))))))))) ?_
    exact hK _ (j - 1,l[j - 1]'(by omega)) (Gh.canon [13] [] [] zK rfl rfl) ⟨by omega,by omega⟩ trivial (by simp only;omega)
   ·have hjj:j=zbO l name:=by omega
    have hd:decide ((j:Int)>(zbO l name:Int))=false:=by simp;omega
    have hset:=zrb Lk.enc 4 (fun _=>rfl) (l:=l.take j++y::l.drop j) (i:=j) (by omega) ⟨name,c,t+1,[]⟩
    rw[zvf hj2]at hset
    simp only[fillAt,List.map_cons,List.map_nil,List.length_nil,List.flatMap_nil]at hset
    subst hjj
    refine zL0 (I hd (I hwt (I @zah (I hlen (I @fillAt.eq_1 hset))))) ?_
    have hp':zbO l name≤l.length:=hp
    simp[zsI,zaA]
    omega
  ·refine zaf (τ:=Nat) (fun i=>⟨(dd::ast name::ai c::ai t::dq9 (.one (.own ⟨13,1,1⟩ 0 l.length)::dd::ai i::zx6 (zec (zec [])))),[(20,⟨2,[]⟩),(13,⟨2,[none,roq 1 4 (zaj l)]⟩)]⟩)
    (fun i=>i≤zbO l name) (fun _=>()) (fun i=>l.length - i) 0 (Gh.canon [13] [] [] zK rfl rfl) (Nat.zero_le _) ?_
   intro i hi0 hF K hK
   by_cases hi:i<l.length
   ·have hat:=zbn hi
    have hd:decide ((i:Int)<(l.length:Int))=true:=by simpa using hi
    have hw:=zai hi (by omega)
    repeat'(first|exact zC|refine zq (I hd (I hat (I @zmd (I @List.map_cons.{0,0} (I @zah zca))))) ?_|(apply zaa<;>intro hb)|(apply I;exact zI)|(apply I<;>intro hg))
    ·have hip:i<zbO l name:=Nat.lt_of_not_le fun h=>by
      have:Go.Op.bytesLess l[i].name.toList name.toList=false:=zmR hi (zpM hs name) h
      rw[hb]at this
      cases this
     exact hK _ (i+1) (Gh.canon [13] [] [] (zk hw) rfl rfl) hip rfl (by omega)
    ·have hip:i=zbO l name:=Nat.le_antisymm hi0 (Nat.le_of_not_lt fun h=>by
      have:Go.Op.bytesLess l[i].name.toList name.toList=true:=zmQ hi h
      rw[hb]at this
      cases this)
     subst hip
     exact hKx _ () (Gh.canon [13] [] [] zK rfl rfl) trivial
   ·have hd:decide ((i:Int)<(l.length:Int))=false:=by simpa using hi
    have hdr:(zaj l).drop (i*4)=[]:=List.drop_eq_nil_of_le (by rw[zah];omega)
    refine zL0 (I hd (I hdr (I @zmd (I @List.map_nil.{0,0} @zah)))) ?_
    have hip:i=zbO l name:=by have:zbO l name≤l.length:=hp;omega
    subst hip
    exact hKx _ () (Gh.canon [13] [] [] zK rfl rfl) trivial
 ·rw[if_pos rfl]
  refine zL (I hm1 (I h4 (I @zah @zaI))) (I (hco) (hfi)) ?_
  simp[zsI,zaA]
theorem zlX {l:List Lk} {name:ByteArray} {c t:Int} {w:Bool} {k:Lk} (hf:zd1 l name=some k) (hc:isClient c=true):za6 l name c t w=if(k.holder==c)=true then([],0,7)else if(!w)=true then([],0,8)else
  if hasI k.line c=true then(l,zov k.line c,10)else if decide ((k.line.length:Int)≥3)=true then([],0,5)else(l.set (zbO l name) ⟨k.name,k.holder,k.token,k.line++[c]⟩,k.line.length,10):=by
 unfold za6
 rw[hf]
 simp only
 split
 ·rfl
 ·split
  ·rfl
  ·split
   ·rfl
   ·rename_i h
    have hj:zkq k.line c=if decide ((k.line.length:Int)≥3)=true then([],0,5)else(k.line++[c],(k.line.length:Int),0):=by
     unfold zkq
     rw[if_neg (by rw[hc];simp),if_neg h]
    rw[hj]
    cases decide ((k.line.length:Int)≥3)
    ·rfl
    ·rfl
set_option maxHeartbeats 4000000 in
theorem zvh (l:List Lk) (hs:SL l) (hl:l.length<2^30) (hll:∀k∈l,k.line.length<2^30) (name:ByteArray) (c t:Int) (hc:isClient c=true) (w:Bool) (k:Lk) (hf:zd1 l name=some k)
  (hx:(k.holder==c)=true∨w=false∨hasI k.line c=true∨decide ((k.line.length:Int)≥3)=true):
  CallOK prog 207 [.f (al l.length (zaj l)), .f (ast name), .f (ai c), .f (ai t), .f (ab w)]
  (fun r o=>r=[.one (.own 4 (za6 l name c t w).1.length (zaj (za6 l name c t w).1) false),ri (za6 l name c t w).2.1,ri (za6 l name c t w).2.2]∧o=[]):=by
 refine CallOK.nil ?_
 refine zh func207 results207 ntmps207 call207 ?_
 simp only[f207,Option.getD]
 have hco:=zjq l hl hll
 have hfi:=zkr l (by omega) name
 rw[zh3 hs,hf]at hfi
 simp only at hfi
 have htk:=zlX (t:=t) (w:=w) hf hc
 generalize za6 l name c t w=R at htk⊢
 obtain⟨⟨hi,he⟩,hn⟩:=zeb hs hf
 have hat:=zbn hi
 rw[he]at hat
 have hkl:=hll k (he▸List.getElem_mem hi)
 have hah:=zku k.line (by omega) c
 have hm1:decide ((zbO l name:Int)<0)=false:=by simp
 have hat1:(zaj l).drop (zbO l name*4+1)=iD k.holder::iD k.token:: .sl k.line.length (zaF k.line)::zaj (l.drop (zbO l name+1)):=by rw[←List.drop_drop,hat];rfl
 have hat3:(zaj l).drop (zbO l name*4+3)= .sl k.line.length (zaF k.line)::zaj (l.drop (zbO l name+1)):=by rw[←List.drop_drop,hat];rfl
 cases h1:(k.holder==c)
 ·cases w
  ·refine zL (I hm1 (I h1 (I hat1 (I @zmd (I @List.map_cons.{0,0} (I @List.drop_succ_cons.{0} (I @List.drop_zero.{0} (I @zah (I @zaI zca))))))))) (I (hco) (hfi)) ?_
   rw[if_neg (by rw[h1];simp),if_pos (show(!false)=true from rfl)]at htk
   rw[htk];simp[zsI,zaA]
  ·rw[if_neg (by rw[h1];simp),if_neg (by simp)]at htk
   cases h3:hasI k.line c
   ·rw[if_neg (by rw[h3];simp)]at htk
    have h4:decide ((k.line.length:Int)≥3)=true:=by rcases hx with h|h|h|h<;>simp_all
    rw[if_pos h4]at htk
    rw[h3]at hah
    refine zL (I hm1 (I h1 (I h3 (I h4 (I hat1 (I hat3 (I @zmd (I @List.map_cons.{0,0} (I @List.drop_succ_cons.{0} (I @List.drop_zero.{0} (I @zah (I @zaI zca)))))))))))) (I (hco) (I (hfi) (hah))) ?_
    rw[htk];simp[zsI,zaA]
   ·rw[if_pos h3]at htk
    rw[h3]at hah
    refine zL (I hm1 (I h1 (I h3 (I hat1 (I hat3 (I @zmd (I @List.map_cons.{0,0} (I @List.drop_succ_cons.{0} (I @List.drop_zero.{0} (I @zah (I @zaI zca))))))))))) (I (hco) (I (hfi) (hah))) ?_
    rw[htk];simp[zsI,zaA]
 ·refine zL (I hm1 (I h1 (I hat1 (I @zmd (I @List.map_cons.{0,0} (I @List.drop_succ_cons.{0} (I @List.drop_zero.{0} (I @zah (I @zaI zca))))))))) (I (hco) (hfi)) ?_
  rw[if_pos h1]at htk
  rw[htk];simp[zsI,zaA]
set_option maxHeartbeats 4000000 in
theorem zvi (l:List Lk) (hs:SL l) (hl:l.length<2^30) (hll:∀k∈l,k.line.length<2^30) (name:ByteArray) (c t:Int) (hc:isClient c=true) (w:Bool) (k:Lk) (hf:zd1 l name=some k)
  (h1:(k.holder==c)=false) (hw:w=true) (h3:hasI k.line c=false) (h4:decide ((k.line.length:Int)≥3)=false):
  CallOK prog 207 [.f (al l.length (zaj l)), .f (ast name), .f (ai c), .f (ai t), .f (ab w)]
  (fun r o=>r=[.one (.own 4 (za6 l name c t w).1.length (zaj (za6 l name c t w).1) false),ri (za6 l name c t w).2.1,ri (za6 l name c t w).2.2]∧o=[]):=by
 refine CallOK.nil ?_
 refine zh func207 results207 ntmps207 call207 ?_
 simp only[f207,Option.getD]
 have htk:=zlX (t:=t) (w:=w) hf hc
 subst hw
 rw[if_neg (by rw[h1];simp),if_neg (by simp),if_neg (by rw[h3];simp),if_neg (by rw[h4];simp)]at htk
 rw[htk]
 obtain⟨⟨hi,he⟩,hn⟩:=zeb hs hf
 have hco:=zvk l hl hll (zbO l name) hi
 rw[he]at hco
 have hkl:=hll k (he▸List.getElem_mem hi)
 have hah:=zku k.line (by omega) c
 rw[h3]at hah
 have hm1:decide ((zbO l name:Int)<0)=false:=by simp
 repeat'(first|exact zC|(with_reducible first|refine zbc 1 ?_|refine zaR 1 ?_|refine zaS 1 ?_)|refine zu0 ?_|(with_reducible first|refine zae _ _ ?_)|(apply zaa<;>intro hb)|(apply I;exact zI)|(apply I<;>intro hg))
 refine zbl (zeL _ _ (ztc zcV mixed 1 (q:=5) (v1:=(al l.length (zaj l)::ast name::ai c::ai t::ab true::dq5 (.one (.d (.v (.slice none 0 0)))::ai 0::ai 0::dq6 (al l.length (zaj l)::zy2 (zec (zec [])))))) (r1:=[]) rfl rfl rfl rfl (fun K hK=> ?_) ?_ ?_ rfl hco rfl (by decide) ?_))
 ·refine zL0 (I @List.take_succ_cons.{0} @List.take_zero.{0}) ?_
  exact hK
 ·exact trivial
 ·exact⟨trivial,trivial⟩
 rintro x ⟨a,cap,rfl⟩
 have hfi:=zvd (zl0 l (zbO l name) (.raw (.slice a k.line.length cap))) (by rw[zb2];omega) name
 rw[zBw,zh3 hs,hf,zb2]at hfi
 simp only at hfi
 have hil:zbO l name<(zl0 l (zbO l name) (.raw (.slice a k.line.length cap))).length:=by rw[zb2];exact hi
 have hat:=zrh hil
 rw[zfw hi,if_pos rfl,he]at hat
 have htk:=zlY (l:=zl0 l (zbO l name) (.raw (.slice a k.line.length cap)))
 rw[zb2]at htk
 have hat1:(zeX (zl0 l (zbO l name) (.raw (.slice a k.line.length cap)))).drop (zbO l name*4+1)=iD k.holder::iD k.token:: .raw (.slice a k.line.length cap)::zeX ((zl0 l (zbO l name) (.raw (.slice a k.line.length cap))).drop (zbO l name+1)):=by rw[←List.drop_drop,hat];rfl
 have hat3:(zeX (zl0 l (zbO l name) (.raw (.slice a k.line.length cap)))).drop (zbO l name*4+3)= .raw (.slice a k.line.length cap)::zeX ((zl0 l (zbO l name) (.raw (.slice a k.line.length cap))).drop (zbO l name+1)):=by rw[←List.drop_drop,hat];rfl
 repeat'(first|exact zC|(with_reducible first|refine zbc 20 ?_|refine zaR 20 ?_|refine zaS 20 ?_)|refine zu (I hm1 (I h1 (I @List.drop_succ_cons.{0} (I @List.drop_zero.{0} (I hat1 (I htk (I @zmd (I @List.map_cons.{0,0} (I @zeB @zb2))))))))) ?_|(with_reducible first|refine zae _ _ ?_)|refine zx (hfi) ?_|(apply zaa<;>intro hb)|(apply I;exact zI)|(apply I<;>intro hg))
 refine zbl (zeL _ _ (zqr zcV mixed 5 ?_))
 refine zL0 (I @List.take_succ_cons.{0} (I @List.take_zero.{0} (I hat3 (I @zmd (I @List.map_cons.{0,0} (I @zeB @zb2)))))) ?_
 refine⟨_,Gh.view (i:=87) (j:=5) rfl rfl, ?_⟩
 repeat'(first|exact zC|(with_reducible first|refine zbc 26 ?_|refine zaR 26 ?_|refine zaS 26 ?_)|refine zu (I @List.drop_succ_cons.{0} (I @List.drop_zero.{0} (I h4 (I hat3 (I @zmd (I @List.map_cons.{0,0} (I @zeB @zb2))))))) ?_|(with_reducible first|refine zae _ _ ?_)|refine zx (hah) ?_|(apply zaa<;>intro hb)|(apply I;exact zI)|(apply I<;>intro hg))
 refine zbl (zeL _ _ (zqr zcV mixed 7 ?_))
 refine zL0 (I @List.take_succ_cons.{0} (I @List.take_zero.{0} (I hat3 (I @zmd (I @List.map_cons.{0,0} (I @zeB @zb2)))))) ?_
 refine⟨_,Gh.view (i:=114) (j:=5) rfl rfl, ?_⟩
 have hie:zaF (k.line++[c])=zaF k.line++[iD c]:=by simp[zaF]
 have hset:=zhg LkD.enc 4 (fun _=>rfl) hil (k:=3) (by decide) (.sl (k.line.length+1) (zaF k.line++[iD c])) (plain ⟨k.name,k.holder,k.token,k.line++[c]⟩)
  (by rw[zfw hi,if_pos rfl,he,plain];simp only[LkD.enc,List.length_append,List.length_singleton,hie];rfl)
 rw[show(zl0 l (zbO l name) (.raw (.slice a k.line.length cap))).set (zbO l name) (plain ⟨k.name,k.holder,k.token,k.line++[c]⟩)=(l.set (zbO l name) ⟨k.name,k.holder,k.token,k.line++[c]⟩).map plain from by
  refine List.ext_getElem (by simp[zb2]) fun j h1 h2=> ?_
  have hj:j<l.length:=by simpa using h2
  rw[List.getElem_set,List.getElem_map,List.getElem_set]
  split
  ·rfl
  ·rw[zfw hj,if_neg (by omega)],show List.flatMap LkD.enc ((l.set (zbO l name) ⟨k.name,k.holder,k.token,k.line++[c]⟩).map plain)=zaj (l.set (zbO l name) ⟨k.name,k.holder,k.token,k.line++[c]⟩) from zkw]at hset
 have hi1:(zaF k.line).take (k.line.length*1)=zaF k.line:=List.take_of_length_le (by rw[zaD];omega)
 have hi2:(zaF k.line++[D.v (.int .i64 c)]).take (k.line.length+1)=zaF k.line++[D.v (.int .i64 c)]:=List.take_of_length_le (by rw[List.length_append,zaD];exact Nat.le_refl _)
 have hbig:((k.line.length+1)*8≤2^47)=True:=eq_true (by omega)
 refine zL0 (I @List.drop_succ_cons.{0} (I @List.drop_zero.{0} (I hset (I @zaD (I hi1 (I hi2 (I hbig (I @zmd (I @List.map_cons.{0,0} (I @zeB @zb2)))))))))) ?_
 simp[zsI,zaA]
theorem zxv (l:List Lk) (hs:SL l) (hl:l.length<2^30) (hll:∀k∈l,k.line.length<2^30) (name:ByteArray) (c t:Int) (ht:0≤t∧t<2^62) (hc:isClient c=true) (w:Bool):
  CallOK prog 207 [.f (al l.length (zaj l)), .f (ast name), .f (ai c), .f (ai t), .f (ab w)]
  (fun r o=>r=[.one (.own 4 (za6 l name c t w).1.length (zaj (za6 l name c t w).1) false),ri (za6 l name c t w).2.1,ri (za6 l name c t w).2.2]∧o=[]):=by
 cases hf:zd1 l name with
 |none=>exact zvg l hs hl hll name c t ht w hf
 |some k=>
  by_cases hx:(k.holder==c)=true∨w=false∨hasI k.line c=true∨decide ((k.line.length:Int)≥3)=true
  ·exact zvh l hs hl hll name c t hc w k hf hx
  ·simp only[not_or,Bool.not_eq_true,Bool.not_eq_false]at hx
   exact zvi l hs hl hll name c t hc w k hf hx.1 hx.2.1 hx.2.2.1 hx.2.2.2
theorem zxu {l:List Int} {c:Int}:zbi l [c]=l.filter fun x=> !(x==c):=by
 unfold zbi hasI
 congr 1
 funext x
 simp[zpP]
theorem zm2:∀{l:List Int} {c:Int},l.Nodup→hasI l c=true→(zh1 l c).1=zbi l [c]:=fun {l c} hn hc=>by
 rw[zxu]
 unfold zh1
 rcases zjo (fun x=>c==x) l 0 with⟨h1,_⟩|⟨k,hk,h2,h3,h4⟩
 ·exfalso
  unfold hasI at hc
  obtain⟨x,hx,hx2⟩:=List.any_eq_true.1 hc
  rw[h1 x hx]at hx2;cases hx2
 ·have h2':zdg (fun x=>c==x) l 0=((0+k:Nat):Int):=h2
  rw[h2',if_neg (by omega)]
  simp only[Nat.zero_add,Int.toNat_natCast]
  have hck:c=l[k]:=by simpa using h3
  subst hck
  clear h2 h2' h3 h4 hc
  induction l generalizing k with
  |nil=>simp at hk
  |cons y l ih=>
   have hn':=List.nodup_cons.1 hn
   cases k with
   |zero=>
    simp only[List.eraseIdx_cons_zero,List.getElem_cons_zero,List.filter_cons,beq_self_eq_true,Bool.not_true,Bool.false_eq_true,if_false]
    refine(List.filter_eq_self.2 fun x hx=> ?_).symm
    have:x≠y:=fun e=>hn'.1 (e▸hx)
    simpa using this
   |succ k=>
    have hk':k<l.length:=by simpa using hk
    simp only[List.eraseIdx_cons_succ,List.getElem_cons_succ,List.filter_cons]
    have:y≠l[k]:=fun e=>hn'.1 (e▸List.getElem_mem hk')
    rw[if_pos (by simpa using this),ih hn'.2 k hk']
set_option maxHeartbeats 4000000 in
theorem zrg (l:List Lk) (hs:SL l) (hl:l.length<2^30) (hll:∀k∈l,k.line.length<2^30∧k.line.Nodup) (name:ByteArray) (c t:Int) (ht:0≤t∧t<2^62):
  CallOK prog 209 [.f (al l.length (zaj l)), .f (ast name), .f (ai c), .f (ai t)]
  (fun r o=>r=[.one (.own 4 (zb8 l name c t).1.length (zaj (zb8 l name c t).1) false),ri (zb8 l name c t).2.1,ri (zb8 l name c t).2.2]∧o=[]):=by
 refine CallOK.nil ?_
 refine zh func209 results209 ntmps209 call209 ?_
 simp only[f209,Option.getD]
 have hco:=zjq l hl (fun k hk=>(hll k hk).1)
 have hfi:=zkr l (by omega) name
 rw[zh3 hs]at hfi
 have hwt:IntKind.i64.wrap (t+1)=t+1:=wrap64 (by omega) (by omega)
 cases hf:zd1 l name with
 |none=>
  rw[hf]at hfi
  simp only at hfi
  have hm1:decide ((-1:Int)<0)=true:=rfl
  have hfr:zb8 l name c t=([],0,6):=by unfold zb8;rw[hf]
  rw[hfr]
  refine zL (I hm1 @zaI) (I (hco) (hfi)) ?_
  simp[zsI,zaA]
 |some k=>
  rw[hf]at hfi
  simp only at hfi
  obtain⟨⟨hi,he⟩,hn⟩:=zeb hs hf
  have hat:=zbn hi
  rw[he]at hat
  obtain⟨hkl,hkn⟩:=hll k (he▸List.getElem_mem hi)
  have hah:=zku k.line (by omega) c
  have hm1:decide ((zbO l name:Int)<0)=false:=by simp
  have hat1:(zaj l).drop (zbO l name*4+1)=iD k.holder::iD k.token:: .sl k.line.length (zaF k.line)::zaj (l.drop (zbO l name+1)):=by rw[←List.drop_drop,hat];rfl
  have hat3:(zaj l).drop (zbO l name*4+3)= .sl k.line.length (zaF k.line)::zaj (l.drop (zbO l name+1)):=by rw[←List.drop_drop,hat];rfl
  have hfr:zb8 l name c t=if(k.holder==c)=true then((zhd l (zbO l name) k t).1,(zhd l (zbO l name) k t).2,0)else
    if hasI k.line c=true then(l.set (zbO l name) ⟨k.name,k.holder,k.token,(zh1 k.line c).1⟩,0,0)else([],0,6):=by unfold zb8;rw[hf]
  cases h1:(k.holder==c)
  ·have h1':(k.holder !=c)=true:=by rw[bne,h1];rfl
   rw[if_neg (by rw[h1];simp)]at hfr
   cases h3:hasI k.line c
   ·rw[if_neg (by rw[h3];simp)]at hfr
    rw[hfr]
    rw[h3]at hah
    refine zL (I hm1 (I h1' (I hat1 (I hat3 (I @zmd (I @List.map_cons.{0,0} (I @zah @zaI))))))) (I (hco) (I (hfi) (hah))) ?_
    simp[zsI,zaA]
   ·rw[if_pos h3,zm2 hkn h3]at hfr
    rw[hfr]
    rw[h3]at hah
    have hwo:=zkv k.line [c] hkl (by simp)
    have hset:=zhg Lk.enc 4 (fun _=>rfl) hi (k:=3) (by decide) (.sl (zbi k.line [c]).length (zaF (zbi k.line [c]))) ⟨k.name,k.holder,k.token,zbi k.line [c]⟩ (by rw[he];rfl)
    have hwl:(zaF (zbi k.line [c])).take ((zbi k.line [c]).length*1)=zaF (zbi k.line [c]):=List.take_of_length_le (by rw[zaD];omega)
    refine zL (I hm1 (I h1' (I hat1 (I hat3 (I hset (I hwl (I @rowI.eq_1 (I @zaD (I @zmd (I @List.map_cons.{0,0} (I @zah @zaI))))))))))) (I (hco) (I (hfi) (I (hah) (hwo)))) ?_
    simp[zsI,zaA]
  ·have h1':(k.holder !=c)=false:=by rw[bne,h1];rfl
   rw[if_pos h1]at hfr
   rw[hfr]
   unfold zhd
   cases hk:k.line with
   |nil=>
    rw[hk]at hat1 hat3
    simp only[List.length_nil,List.flatMap_nil]at hat1 hat3
    have hE:=zuU Lk.enc 4 (fun _=>rfl) hi
    have hE2:((zaj l).drop ((zbO l name+1)*4)).take ((l.length - (zbO l name+1))*4)=(zaj l).drop ((zbO l name+1)*4):=List.take_of_length_le (by rw[List.length_drop,zah];omega)
    have hz:(((0:Nat):Int)==0)=true:=rfl
    have hw:IntKind.i64.wrap ((zbO l name:Int)+1)=((zbO l name+1:Nat):Int):=by rw[wrap64 (by omega) (by omega)];omega
    have hq1:((zaj l).take (zbO l name*4)).length=zbO l name*4:=by rw[List.length_take,zah];omega
    have hq2:((zaj l).drop ((zbO l name+1)*4)).length=(l.length - (zbO l name+1))*4:=by rw[List.length_drop,zah];omega
    have hB1:(zbO l name*56≤2^47)=True:=eq_true (by omega)
    have hB2:((zbO l name+(l.length - (zbO l name+1)))*56≤2^47)=True:=eq_true (by omega)
    have hB3:(((zbO l name+1:Nat):Int)≤(l.length:Int))=True:=eq_true (by omega)
    have hB4:((zbO l name:Int)≤(l.length:Int))=True:=eq_true (by omega)
    have hB5:(0≤((zbO l name+1:Nat):Int))=True:=eq_true (by omega)
    have hTT:((zaj l).take (zbO l name*4)).take (zbO l name*4)=(zaj l).take (zbO l name*4):=List.take_of_length_le (by omega)
    have hTA:(zaj l).take (zbO l name*4)++(zaj l).drop ((zbO l name+1)*4)=zaj (l.eraseIdx (zbO l name)):=hE.symm
    have hle:(l.eraseIdx (zbO l name)).length=zbO l name+(l.length - (zbO l name+1)):=by rw[List.length_eraseIdx_of_lt hi];omega
    repeat'(first|(with_reducible first|refine zae _ _ ?_|refine zcm ?_|refine zcn ?_)|rw[zbP]|simp only[hm1,h1',hat1,hat3,hz,hw,hE2,hq1,hq2,hB1,hB2,hB3,hB4,hB5,hTT,hTA,Int.le_refl,←List.map_drop,List.map_cons,zah,zaI,zY,Int.reduceEq,Int.reduceBEq,Int.reduceBNe,Nat.reduceSub,Nat.reduceEqDiff,Nat.reduceAdd,Nat.reduceMul,Nat.reduceLeDiff,Nat.reduceLT,Nat.reduceBEq,reduceCtorEq]|((first|((try refine zaV ?_);apply zaX)|(apply zba;intro _));(solve|exact(hco)|exact(hfi)|(refine CallOK.le (hco) ?_;exact zM)|(refine CallOK.le (hfi) ?_;exact zM)|fail);try case hn=>rfl)|refine zbb ?_|refine zaa (fun hb=> ?_) (fun hb=> ?_)|(refine And.intro ?_ ?_;exact zI)|refine And.intro (fun hg=> ?_) (fun hg=> ?_)|exact zC|fail)
    simp[zsI,zaA,hle]
   |cons x rest=>
    rw[hk]at hat1 hat3
    have hz:(((rest.length+1:Nat):Int)==0)=false:=by simp;omega
    have hrl:rest.length<2^30:=by rw[hk,List.length_cons]at hkl;omega
    have hn1:rest.length+1 - 1=rest.length:=rfl
    have hT:(zaF rest).take rest.length=zaF rest:=List.take_of_length_le (by rw[zaD];exact Nat.le_refl _)
    have hBr:(rest.length*8≤2^47)=True:=eq_true (by omega)
    have hnx:=List.nodup_cons.1 (hk▸hkn)
    have hset1:=zhg Lk.enc 4 (fun _=>rfl) hi (k:=1) (by decide) (iD x) ⟨k.name,x,k.token,x::rest⟩ (by rw[he,←hk];rfl)
    obtain⟨l1,hl1⟩:∃l1,l1=l.set (zbO l name) ⟨k.name,x,k.token,x::rest⟩:=⟨_,rfl⟩
    have hi1:zbO l name<l1.length:=by rw[hl1];simpa using hi
    have hg1:l1[zbO l name]=⟨k.name,x,k.token,x::rest⟩:=by simp[hl1]
    have hset2:=zhg Lk.enc 4 (fun _=>rfl) hi1 (k:=3) (by decide) (.sl rest.length (zaF rest)) ⟨k.name,x,k.token,rest⟩ (by rw[hg1];rfl)
    obtain⟨l2,hl2⟩:∃l2,l2=l1.set (zbO l name) ⟨k.name,x,k.token,rest⟩:=⟨_,rfl⟩
    have hi2:zbO l name<l2.length:=by rw[hl2];simpa using hi1
    have hg2:l2[zbO l name]=⟨k.name,x,k.token,rest⟩:=by simp[hl2]
    have hset3:=zhg Lk.enc 4 (fun _=>rfl) hi2 (k:=2) (by decide) (iD (t+1)) ⟨k.name,x,t+1,rest⟩ (by rw[hg2];rfl)
    have hl3:l2.set (zbO l name) ⟨k.name,x,t+1,rest⟩=l.set (zbO l name) ⟨k.name,x,t+1,rest⟩:=by rw[hl2,hl1,List.set_set,List.set_set]
    rw[←hl1]at hset1
    rw[←hl2]at hset2
    rw[hl3]at hset3
    have hat3':=zbn hi1
    rw[hg1]at hat3'
    have hat3':(zaj l1).drop (zbO l name*4+3)= .sl (x::rest).length (zaF (x::rest))::zaj (l1.drop (zbO l name+1)):=by rw[←List.drop_drop,hat3'];rfl
    have hll1:l1.length=l.length:=by rw[hl1,List.length_set]
    refine zL (I hm1 (I h1' (I hat1 (I hat3 (I hat3' (I hz (I hwt (I hset1 (I hset2 (I hset3 (I @zaD (I hn1 (I hT (I hBr (I hll1 (I @zmd (I @List.map_cons.{0,0} (I @zah @zaI)))))))))))))))))) (I (hco) (hfi)) ?_
    simp[zsI,zaA]
theorem zBv {l m:List Lk} (h:SL l) (hs:(m.map Lk.name).Sublist (l.map Lk.name)):SL m:=by
 have h1:(l.map Lk.name).Pairwise fun a b=>zeF a b=true:=List.pairwise_map.2 h
 exact List.pairwise_map.1 (h1.sublist hs)
theorem zz7 {gone:List Int} {l:List Lk}:(l.map (zaq gone)).map Lk.name=l.map Lk.name:=by rw[List.map_map];rfl
theorem zz8 {l:List Lk} (hs:SL l) {i:Nat} (hi:i<l.length):zd1 l l[i].name=some l[i]∧zbO l l[i].name=i:=by
 have hself:∀x:Lk,isL x.name x=true:=fun x=>by simp[isL]
 have hne:∀{a b:Nat} (ha:a<l.length) (hb:b<l.length),a<b→l[a].name.toList=l[b].name.toList→False:=fun ha hb hab h=>by
  have:=List.pairwise_iff_getElem.1 hs _ _ ha hb hab
  simp only[zeF,h,zq9]at this
  cases this
 have key:∀{j:Nat} (hj:j<l.length),isL l[i].name l[j]=true→j=i:=fun {j} hj h=>by
  simp only[isL,beq_iff_eq]at h
  rcases Nat.lt_trichotomy j i with h1|h1|h1
  ·exact(hne hj hi h1 h).elim
  ·exact h1
  ·exact(hne hi hj h1 h.symm).elim
 cases hf:zd1 l l[i].name with
 |none=>exact absurd (hself l[i]) (List.find?_eq_none.1 hf _ (List.getElem_mem hi))
 |some x=>
  obtain⟨⟨hp,he⟩,hx⟩:=zeb hs hf
  have:=key hp (by rw[he];exact hx)
  refine⟨?_,this⟩
  rw[←he]
  simp only[this]
theorem zz9 {gone:List Int} {k:Lk} (h:k.line.length<2^30∧k.line.Nodup):(zaq gone k).line.length<2^30∧(zaq gone k).line.Nodup:=
 ⟨Nat.lt_of_le_of_lt (List.length_filter_le ..) h.1,h.2.filter _⟩
set_option maxHeartbeats 4000000 in
theorem zxt (l:List Lk) (hs:SL l) (hl:l.length<2^30) (hll:∀k∈l,k.line.length<2^30∧k.line.Nodup) (gone:List Int) (hg:gone.length<2^30) (t:Int) (ht:0≤t∧t≤2^61):
  CallOK prog 203 [.f (al l.length (zaj l)), .f (al gone.length (zaF gone)), .f (ai t)]
  (fun r o=>r=[.one (.own 4 (zeW l gone t).1.length (zaj (zeW l gone t).1) false),ri (zeW l gone t).2]∧o=[]):=by
 refine zh func203 results203 ntmps203 call203 ?_
 simp only[f203,Option.getD]
 have hco:=zjq l hl (fun k hk=>(hll k hk).1)
 refine zL (I @zah @zaI) (hco) ?_
 refine zaf (τ:=Nat) (fun i=>⟨(al l.length (zaj l)::al gone.length (zaF gone)::ai t::dq5 (.one (.own ⟨8,1,1⟩ 0 l.length)::ai i::zy2 (zec []))),[(16,⟨2,[]⟩),(8,⟨2,[none,roq 1 4 (zaj (curL l gone i))]⟩),(31,⟨2,[]⟩)]⟩)
  (fun i=>i≤l.length) (fun _=>()) (fun i=>l.length - i) 0
  (Gh.canon [8] [31] [] zK rfl rfl) (Nat.zero_le _) ?_
 intro i hi0 hF K hK
 refine zw ?_
 refine zaa (fun hlt=> ?_) (fun hge=> ?_)
 ·have hi:i<l.length:=by simpa using hlt
  obtain⟨hic,hce⟩:=zz2 (gone:=gone) hi
  have hat:=zbn hic
  rw[hce]at hat
  have hat2:(zaj (curL l gone i)).drop (i*4+3)= .sl l[i].line.length (zaF l[i].line)::zaj ((curL l gone i).drop (i+1)):=by rw[←List.drop_drop,hat];rfl
  have hw:=zai hi (by omega)
  have hwo:=zkv l[i].line gone (hll _ (List.getElem_mem hi)).1 hg
  have hset:=zhg Lk.enc 4 (fun _=>rfl) hic (k:=3) (by decide) (.sl (zbi l[i].line gone).length (zaF (zbi l[i].line gone))) (zaq gone l[i]) (by rw[hce];rfl)
  rw[zu1 hi]at hset
  have hwl:(zaF (zbi l[i].line gone)).take ((zbi l[i].line gone).length*1)=zaF (zbi l[i].line gone):=List.take_of_length_le (by rw[zaD];omega)
  repeat'(first|(with_reducible first|refine zae _ _ ?_|refine zcm ?_|refine zcn ?_)|rw[zbP]|simp only[hat2,hset,hwl,rowI,←List.map_drop,List.map_cons,zah,zxl hi0,zY,Int.reduceEq,Int.reduceBEq,Int.reduceBNe,Nat.reduceSub,Nat.reduceEqDiff,Nat.reduceAdd,Nat.reduceMul,Nat.reduceLeDiff,Nat.reduceLT,Nat.reduceBEq,reduceCtorEq]|((first|((try refine zaV ?_);apply zaX)|(apply zba;intro _));(solve|exact(hwo)|(refine CallOK.le (hwo) ?_;exact zM)|fail);try case hn=>rfl)|refine zbb ?_|refine zaa (fun hb=> ?_) (fun hb=> ?_)|(refine And.intro ?_ ?_;exact zI)|refine And.intro (fun hg=> ?_) (fun hg=> ?_)|exact zC|fail)
  exact hK _ (i+1) (Gh.canon [8] [] [] (zk hw) rfl rfl) hi rfl (by omega)
 ·have hi:i=l.length:=by
   have:¬(i:Int)<l.length:=by simpa using hge
   omega
  rw[hi,zxm]
  have hdP:zeW l gone t=zcs gone t (l.map (zaq gone)) 0:=rfl
  rw[hdP]
  obtain⟨W,hW⟩:∃W,W=l.map (zaq gone):=⟨_,rfl⟩
  have hWl:W.length=l.length:=by rw[hW,List.length_map]
  have hWn:W.map Lk.name=l.map Lk.name:=by rw[hW];exact zz7
  have hWg:∀(j:Nat) (hj:j<l.length),W[j]'(by omega)=zaq gone l[j]:=fun j hj=>by simp[hW]
  have hWk:∀k∈W,k.line.length<2^30∧k.line.Nodup:=fun k hk=>by
   rw[hW]at hk
   obtain⟨k0,hk0,rfl⟩:=List.mem_map.1 hk
   exact zz9 (hll k0 hk0)
  rw[←hW]
  clear hdP hW
  refine zL0 trivial ?_
  refine zaf (τ:=List Lk×Nat×Int) (fun q=>⟨(al l.length (zaj l)::al gone.length (zaF gone)::ai t::dq5 (.one (.own ⟨8,1,1⟩ 0 (q.1++W.drop q.2.1).length)::dd::ai q.2.2::ai q.2.1::zs7 (zec []))),[(16,⟨2,[]⟩),(8,⟨2,[none,roq 1 4 (zaj (q.1++W.drop q.2.1))]⟩),(31,⟨2,[]⟩),(12,⟨2,[]⟩),(62,⟨2,[]⟩)]⟩)
   (fun q=>q.2.1≤l.length∧(0≤q.2.2∧q.2.2≤q.2.1)∧(q.1.map Lk.name).Sublist ((l.take q.2.1).map Lk.name)∧∀k∈q.1,k.line.length<2^30∧k.line.Nodup)
   (fun q=>(q.1++(zcs gone t (W.drop q.2.1) q.2.2).1,(zcs gone t (W.drop q.2.1) q.2.2).2)) (fun q=>l.length - q.2.1) ([],0,0)
   (Gh.canon [8] [12,62] [] (zk (I @List.drop_zero.{0} (I @List.nil_append.{0} hWl))) rfl rfl) ⟨Nat.zero_le _,⟨Int.le_refl _,Int.le_refl _⟩,List.nil_sublist _,by simp⟩ ?_
  rintro⟨L,i,g⟩ ⟨j1,j2,j3,j4⟩ hF K hK
  simp only[List.drop_zero,List.nil_append]at j1 j2 j3 j4 hF hK⊢
  refine zw ?_
  refine zaa (fun hlt=> ?_) (fun hge=> ?_)
  ·have hi:i<l.length:=by simpa using hlt
   have hat:=zbn hi
   have hat1:(zaj l).drop (i*4+1)=iD l[i].holder::iD l[i].token:: .sl l[i].line.length (zaF l[i].line)::zaj (l.drop (i+1)):=by rw[←List.drop_drop,hat];rfl
   have hin:=zBs gone (by omega) l[i].holder
   have hw:=zai hi (by omega)
   have hiw:i<W.length:=by omega
   have hgw:=hWg i hi
   have hdr:=zsl (gone:=gone) (t:=t) (g:=g) hiw
   rw[hgw]at hdr
   have hdc:W.drop i=zaq gone l[i]::W.drop (i+1):=by rw[List.drop_eq_getElem_cons hiw,hgw]
   have hL:L.length≤i:=by have:=j3.length_le;simp only[List.length_map,List.length_take]at this;omega
   have htk:(l.take (i+1)).map Lk.name=(l.take i).map Lk.name++[l[i].name]:=by rw[←List.take_append_getElem hi,List.map_append];rfl
   cases hh:hasI gone l[i].holder
   ·rw[hh]at hin
    rw[show hasI gone (zaq gone l[i]).holder=false from hh,if_neg (by simp)]at hdr
    have hMe:L++W.drop i=L++[zaq gone l[i]]++W.drop (i+1):=by rw[hdc];simp
    obtain⟨M,hM⟩:∃M,M=L++W.drop i:=⟨_,rfl⟩
    rw[←hM]
    rw[hMe]at hM
    refine zL (I hat (I hat1 (I @zah zca))) (hin) ?_
    rw[hM]
    refine hK _ (L++[zaq gone l[i]],i+1,g) (Gh.canon [8] [] [] (zk hw) rfl rfl) ⟨hi,⟨j2.1,by simp only;omega⟩, ?_, ?_⟩ ?_ (by simp only;omega)
    ·simp only[htk,List.map_append,List.map_cons,List.map_nil]
     exact j3.append (List.Sublist.refl _)
    ·intro k hk
     rcases List.mem_append.1 hk with hk|hk
     ·exact j4 k hk
     ·rw[List.mem_singleton.1 hk];exact zz9 (hll _ (List.getElem_mem hi))
    ·simp only;rw[hdr];simp
   ·rw[hh]at hin
    rw[show hasI gone (zaq gone l[i]).holder=true from hh,if_pos rfl]at hdr
    -- the row,as it stands
    obtain⟨M,hM⟩:∃M,M=L++W.drop i:=⟨_,rfl⟩
    have hMl:M.length=L.length+(l.length - i):=by rw[hM,List.length_append,List.length_drop,hWl]
    have hMs:SL M:=zBv hs (by
     rw[hM,List.map_append,List.map_drop,hWn,←List.map_drop]
     have:=j3.append (List.Sublist.refl ((l.drop i).map Lk.name))
     rwa[show(l.take i).map Lk.name++(l.drop i).map Lk.name=l.map Lk.name from by rw[←List.map_append,List.take_append_drop]]at this)
    have hMk:∀k∈M,k.line.length<2^30∧k.line.Nodup:=fun k hk=>by
     rw[hM]at hk
     rcases List.mem_append.1 hk with hk|hk
     ·exact j4 k hk
     ·exact hWk k (List.mem_of_mem_drop hk)
    have hMi:L.length<M.length:=by omega
    have hMg:M[L.length]=zaq gone l[i]:=by
     subst hM
     rw[List.getElem_append_right (Nat.le_refl _)]
     simp only[Nat.sub_self,List.getElem_drop,Nat.add_zero]
     exact hgw
    obtain⟨hf1,hf2⟩:=zz8 hMs hMi
    rw[hMg]at hf1 hf2
    have hf1:zd1 M l[i].name=some (zaq gone l[i]):=hf1
    have hf2:zbO M l[i].name=L.length:=hf2
    have hfr:=zrg M hMs (by omega) hMk l[i].name l[i].holder (t+g) (by omega)
    have hwt:IntKind.i64.wrap (t+g)=t+g:=wrap64 (by omega) (by omega)
    have hfp:zb8 M l[i].name l[i].holder (t+g)=((zhd M L.length (zaq gone l[i]) (t+g)).1,(zhd M L.length (zaq gone l[i]) (t+g)).2,0):=by
     unfold zb8
     rw[hf1,hf2]
     simp only
     rw[if_pos (show((zaq gone l[i]).holder==l[i].holder)=true from by simp[zaq])]
    rw[hfp]at hfr
    rw[←hM]
    clear hlt
    cases hline:(zaq gone l[i]).line with
    |nil=>
     rw[hline]at hdr
     simp only at hdr
     have hp:zhd M L.length (zaq gone l[i]) (t+g)=(M.eraseIdx L.length,0):=by unfold zhd;rw[hline]
     rw[hp]at hfr
     have hg0:IntKind.i64.wrap (g+0)=g:=by rw[Int.add_zero];exact wrap64 (by omega) (by omega)
     have hMe:M.eraseIdx L.length=L++W.drop (i+1):=by rw[hM,List.eraseIdx_append_of_length_le (Nat.le_refl _),Nat.sub_self,hdc];rfl
     rw[hMe]at hfr
     refine zL (I hat (I hat1 (I hwt (I @zah (I @zaI zca))))) (I (hin) (hfr)) ?_
     refine hK _ (L,i+1,g) (Gh.canon [8] [] [] (zk (I hw hg0)) rfl rfl) ⟨hi,⟨j2.1,by simp only;omega⟩, ?_,j4⟩ ?_ (by simp only;omega)
     ·simp only[htk]
      exact j3.trans (List.sublist_append_left _ _)
     ·simp only;rw[hdr]
    |cons x rest=>
     rw[hline]at hdr
     simp only at hdr
     have hp:zhd M L.length (zaq gone l[i]) (t+g)=(M.set L.length ⟨l[i].name,x,t+g+1,rest⟩,1):=by unfold zhd;rw[hline];rfl
     rw[hp]at hfr
     have hg1:IntKind.i64.wrap (g+1)=g+1:=wrap64 (by omega) (by omega)
     have hMe:M.set L.length ⟨l[i].name,x,t+g+1,rest⟩=L++[⟨l[i].name,x,t+g+1,rest⟩]++W.drop (i+1):=by rw[hM,List.set_append_right _ _ (Nat.le_refl _),Nat.sub_self,hdc];simp
     rw[hMe]at hfr
     refine zL (I hat (I hat1 (I hwt (I @zah (I @zaI zca))))) (I (hin) (hfr)) ?_
     refine hK _ (L++[⟨l[i].name,x,t+g+1,rest⟩],i+1,g+1) (Gh.canon [8] [] [] (zk (I hw hg1)) rfl rfl) ⟨hi,⟨by simp only;omega,by simp only;omega⟩, ?_, ?_⟩ ?_ (by simp only;omega)
     ·simp only[htk,List.map_append,List.map_cons,List.map_nil]
      exact j3.append (List.Sublist.refl _)
     ·intro k hk
      rcases List.mem_append.1 hk with hk|hk
      ·exact j4 k hk
      ·rw[List.mem_singleton.1 hk]
       have:=zz9 (gone:=gone) (hll _ (List.getElem_mem hi))
       rw[hline]at this
       exact⟨by have:=this.1;simp only[List.length_cons]at this⊢;omega,(List.nodup_cons.1 this.2).2⟩
     ·simp only;rw[hdr];simp[zaq]
  ·have hi:i=l.length:=by
    have:¬(i:Int)<l.length:=by simpa using hge
    omega
   subst hi
   have hd0:W.drop l.length=[]:=List.drop_eq_nil_of_le (by omega)
   rw[hd0]at hF⊢
   simp only[zcs,List.append_nil]at hF⊢
   have e1:L=(zcs gone t W 0).1:=congrArg Prod.fst hF
   have e2:g=(zcs gone t W 0).2:=congrArg Prod.snd hF
   rw[←e1,←e2]
   exact zW0 trivial
end Go.Proofs.YtliimajkpggbhaaGreat
