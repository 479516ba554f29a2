import Derived.Test.YtliimajkpggbhaaGreatK9
import Derived.Test.YtliimajkpggbhaaGreatO
namespace Go.Proofs.YtliimajkpggbhaaGreat
open Go.Pk
set_option maxRecDepth 100000
set_option linter.unusedSimpArgs false
set_option linter.unusedVariables false
theorem zox {a b:Int}:(a==b)=(b==a):=by rw[Bool.eq_iff_iff,beq_iff_eq,beq_iff_eq];exact eq_comm
theorem zzt (l:List Int) (hl:l.length<2^62) (x:Int):CallOK Tryz.prog 171 [.f (al l.length (zaB l)), .f (ai x)] (fun r o=>r=[rb (hasI l x)]∧o=[]):=by
 refine zh Tryz.func171 Tryz.results171 Tryz.ntmps171 Tryz.call171 ?_
 simp only[Tryz.f171,Option.getD]
 repeat'(first|exact zC|refine zq0 ?_|(apply zaa<;>intro hb)|(apply I;exact zI)|(apply I<;>intro hg))
 refine zaf (τ:=Nat) (fun i=>⟨(al l.length (zaB l)::ai x::dq3 (ai i::zrf [])),[]⟩)
  (fun i=>i≤l.length) (fun i=>hasI (l.drop i) x) (fun i=>l.length - i) 0
  (Gh.canon [] [] [] zK rfl rfl) (Nat.zero_le _) ?_
 intro i hi0 hF K hK
 rw[List.drop_zero]at hF
 refine zw ?_
 refine zaa (fun hlt=> ?_) (fun hge=> ?_)
 ·have hi:i<l.length:=by simpa using hlt
  have hat:=zcu hi
  have hw:=zai hi hl
  have hq:hasI (l.drop i) x=(l[i]==x||hasI (l.drop (i+1)) x):=by rw[List.drop_eq_getElem_cons hi];unfold hasI;rw[List.any_cons,zox]
  rw[hq]at hF
  repeat'(first|exact zC|refine zq (I hat (I @zaA zca)) ?_|(apply zaa<;>intro hb)|(apply I;exact zI)|(apply I<;>intro hg))
  ·rw[hb]at hF
   rw[←hF];rfl
  ·rw[hb]at hq
   exact hK _ (i+1) (Gh.canon [] [] [] (zk hw) rfl rfl) hi (by rw[hq];rfl) (by omega)
 ·have hi:i=l.length:=by
   have:¬(i:Int)<l.length:=by simpa using hge
   omega
  rw[hi,List.drop_length]at hF
  rw[←hF]
  repeat'(first|exact zC|refine zq0 ?_|(apply zaa<;>intro hb)|(apply I;exact zI)|(apply I<;>intro hg))
  rfl
abbrev zzu (x:Sess):RF:= .agg [.d (iD x.client), .d (iD x.num), .d (iD x.renewed)]
theorem zeX (l:List Sess) (hl:l.length<2^62) (c:Int):CallOK Tryz.prog 137 [.f (al l.length (zaQ l)), .f (ai c)]
  (fun r o=>r=[zzu ((zaC l c).getD ze7),rb (zaC l c).isSome]∧o=[]):=by
 refine zh Tryz.func137 Tryz.results137 Tryz.ntmps137 Tryz.call137 ?_
 simp only[Tryz.f137,Option.getD]
 repeat'(first|exact zC|refine zq0 ?_|(apply zaa<;>intro hb)|(apply I;exact zI)|(apply I<;>intro hg))
 refine zaf (τ:=Nat) (fun i=>⟨(al l.length (zaQ l)::ai c::dq2 (ptq 4::dd::ai i::zug [])),[(4,⟨2,[obq 1 [di 0,di 0,di 0],none,none,none]⟩)]⟩)
  (fun i=>i≤l.length) (fun i=>zaC (l.drop i) c) (fun i=>l.length - i) 0
  (Gh.canon [4] [] [] zK rfl rfl) (Nat.zero_le _) ?_
 intro i hi0 hF K hK
 rw[List.drop_zero]at hF
 refine zw ?_
 refine zaa (fun hlt=> ?_) (fun hge=> ?_)
 ·have hi:i<l.length:=by simpa using hlt
  have hat:=zcb hi
  have hw:=zai hi hl
  have hq:zaC (l.drop i) c=if(l[i].client==c)=true then some l[i]else zaC (l.drop (i+1)) c:=by
   unfold zaC
   rw[List.drop_eq_getElem_cons hi,List.find?_cons]
   cases l[i].client==c<;>rfl
  rw[hq]at hF
  repeat'(first|exact zC|refine zq (I hat (I @zat zca)) ?_|(apply zaa<;>intro hb)|(apply I;exact zI)|(apply I<;>intro hg))
  ·rw[if_pos hb]at hF
   rw[←hF];rfl
  ·rw[if_neg (by rw[hb];simp)]at hq
   exact hK _ (i+1) (Gh.canon [4] [] [] (zk hw) rfl rfl) hi hq.symm (by omega)
 ·have hi:i=l.length:=by
   have:¬(i:Int)<l.length:=by simpa using hge
   omega
  rw[hi,List.drop_length]at hF
  rw[←hF]
  repeat'(first|exact zC|refine zq0 ?_|(apply zaa<;>intro hb)|(apply I;exact zI)|(apply I<;>intro hg))
  rfl
theorem zjx (l:List Lk) (hl:l.length<2^62) (s:ByteArray):CallOK Tryz.prog 217 [.f (al l.length (zaj l)), .f (ast s)] (fun r o=>r=[ri (zcY (isL s) l 0)]∧o=[]):=by
 refine zh Tryz.func217 Tryz.results217 Tryz.ntmps217 Tryz.call217 ?_
 simp only[Tryz.f217,Option.getD]
 repeat'(first|exact zC|refine zq0 ?_|(apply zaa<;>intro hb)|(apply I;exact zI)|(apply I<;>intro hg))
 refine zaf (τ:=Nat) (fun i=>⟨(al l.length (zaj l)::ast s::dq3 (ai i::zw0 [])),[]⟩)
  (fun i=>i≤l.length) (fun i=>zcY (isL s) (l.drop i) i) (fun i=>l.length - i) 0
  (Gh.canon [] [] [] zK rfl rfl) (Nat.zero_le _) ?_
 intro i hi0 hF K hK
 rw[List.drop_zero]at hF
 refine zw ?_
 refine zaa (fun hlt=> ?_) (fun hge=> ?_)
 ·have hi:i<l.length:=by simpa using hlt
  have hat:=za9 hi
  have hw:=zai hi hl
  have hq:zcY (isL s) (l.drop i) i=if(l[i].name.toList==s.toList)=true then(i:Int)else zcY (isL s) (l.drop (i+1)) ((i+1:Nat):Int):=by
   rw[List.drop_eq_getElem_cons hi,zcY];rfl
  rw[hq]at hF
  repeat'(first|exact zC|refine zq (I hat (I @zah zca)) ?_|(apply zaa<;>intro hb)|(apply I;exact zI)|(apply I<;>intro hg))
  ·rw[if_pos hb]at hF
   have hF:(i:Int)=zcY (isL s) l 0:=hF
   rw[←hF]
  ·rw[if_neg (by rw[hb];simp)]at hq
   exact hK _ (i+1) (Gh.canon [] [] [] (zk hw) rfl rfl) hi hq.symm (by omega)
 ·have hi:i=l.length:=by
   have:¬(i:Int)<l.length:=by simpa using hge
   omega
  rw[hi,List.drop_length]at hF
  have hF:(-1:Int)=zcY (isL s) l 0:=hF
  rw[←hF]
  repeat'(first|exact zC|refine zq0 ?_|(apply zaa<;>intro hb)|(apply I;exact zI)|(apply I<;>intro hg))
theorem zjz (v a:Int):CallOK Tryz.prog 133 [.f (ai v), .f (ai a)] (fun r o=>r=[rb (decide (v≥a)&&decide (v≤2305843009213693952))]∧o=[]):=by
 refine zh Tryz.func133 Tryz.results133 Tryz.ntmps133 Tryz.call133 ?_
 simp only[Tryz.f133,Option.getD]
 repeat'(first|exact zC|refine zq0 ?_|(apply zaa<;>intro hb)|(apply I;exact zI)|(apply I<;>intro hg))
theorem zqZ (c:Int):CallOK Tryz.prog 169 [.f (ai c)] (fun r o=>r=[rb (isClient c)]∧o=[]):=by
 refine zh Tryz.func169 Tryz.results169 Tryz.ntmps169 Tryz.call169 ?_
 simp only[Tryz.f169,Option.getD]
 repeat'(first|exact zC|refine zq0 ?_|(apply zaa<;>intro hb)|(apply I;exact zI)|(apply I<;>intro hg))
 rfl
theorem zjA (l:List Int) (hl:l.length<2^62) (c:Int):CallOK Tryz.prog 218 [.f (al l.length (zaB l)), .f (ai c)] (fun r o=>r=[ri (znd l c),rb (hasI l c)]∧o=[]):=by
 refine zh Tryz.func218 Tryz.results218 Tryz.ntmps218 Tryz.call218 ?_
 simp only[Tryz.f218,Option.getD]
 have hh:hasI l c=decide (zcY (fun x=>c==x) l 0≥0):=(zf4 _ l).symm
 rw[hh]
 unfold znd
 repeat'(first|exact zC|refine zq0 ?_|(apply zaa<;>intro hb)|(apply I;exact zI)|(apply I<;>intro hg))
 refine zaf (τ:=Nat) (fun i=>⟨(al l.length (zaB l)::ai c::dq4 (ai i::zrx [])),[]⟩)
  (fun i=>i≤l.length) (fun i=>zcY (fun x=>c==x) (l.drop i) i) (fun i=>l.length - i) 0
  (Gh.canon [] [] [] zK rfl rfl) (Nat.zero_le _) ?_
 intro i hi0 hF K hK
 rw[List.drop_zero]at hF
 refine zw ?_
 refine zaa (fun hlt=> ?_) (fun hge=> ?_)
 ·have hi:i<l.length:=by simpa using hlt
  have hat:=zcu hi
  have hw:=zai hi hl
  have hq:zcY (fun x=>c==x) (l.drop i) i=if(l[i]==c)=true then(i:Int)else zcY (fun x=>c==x) (l.drop (i+1)) ((i+1:Nat):Int):=by
   rw[List.drop_eq_getElem_cons hi,zcY,zox];rfl
  rw[hq]at hF
  repeat'(first|exact zC|refine zq (I hat (I @zaA zca)) ?_|(apply zaa<;>intro hb)|(apply I;exact zI)|(apply I<;>intro hg))
  ·rw[if_pos hb]at hF
   have hF:(i:Int)=zcY (fun x=>c==x) l 0:=hF
   rw[←hF,if_pos (by omega)]
   simp
  ·rw[if_neg (by rw[hb];simp)]at hq
   exact hK _ (i+1) (Gh.canon [] [] [] (zk hw) rfl rfl) hi hq.symm (by omega)
 ·have hi:i=l.length:=by
   have:¬(i:Int)<l.length:=by simpa using hge
   omega
  rw[hi,List.drop_length]at hF
  have hF:(-1:Int)=zcY (fun x=>c==x) l 0:=hF
  rw[←hF]
  repeat'(first|exact zC|refine zq0 ?_|(apply zaa<;>intro hb)|(apply I;exact zI)|(apply I<;>intro hg))
  rfl
theorem zjB (l gone:List Int) (hl:l.length<2^30) (hg:gone.length<2^30):CallOK Tryz.prog 215 [.f (al l.length (zaB l)), .f (al gone.length (zaB gone))] (fun r o=>r=[rowI (za6 l gone)]∧o=[]):=by
 refine CallOK.nil ?_
 refine zh Tryz.func215 Tryz.results215 Tryz.ntmps215 Tryz.call215 ?_
 simp only[Tryz.f215,Option.getD]
 repeat'(first|exact zC|refine zq0 ?_|(apply zaa<;>intro hb)|(apply I;exact zI)|(apply I<;>intro hg))
 refine zaf (τ:=Nat×List Int) (fun t=>⟨(al l.length (zaB l)::al gone.length (zaB gone)::dq3 (.one (.own ⟨5,1,1⟩ 0 t.2.length)::ai t.1::znX [])),[(5,⟨2,[none,roq 1 1 (zaB t.2)]⟩),(25,⟨2,[]⟩),(26,⟨2,[]⟩)]⟩)
  (fun t=>t.1≤l.length∧t.2.length≤t.1) (fun t=>t.2++za6 (l.drop t.1) gone) (fun t=>l.length - t.1) (0,[])
  ((Gh.nil (i:=5) (s:=5) (sz:=1) rfl).trans (Gh.canon [5] [25,26] [] zK rfl rfl)) ⟨Nat.zero_le _,Nat.zero_le _⟩ ?_
 intro⟨i,acc⟩ ⟨hi0,hac⟩ hF K hK
 simp only[List.drop_zero,List.nil_append]at hi0 hac hF hK⊢
 refine zw ?_
 refine zaa (fun hlt=> ?_) (fun hge=> ?_)
 ·have hi:i<l.length:=by simpa using hlt
  have hat:=zcu hi
  have hw:=zai hi (by omega)
  have hin:=zzt gone (by omega) l[i]
  have hFs:za6 (l.drop i) gone=if(!hasI gone l[i])=true then l[i]::za6 (l.drop (i+1)) gone else za6 (l.drop (i+1)) gone:=by
   unfold za6
   rw[List.drop_eq_getElem_cons hi,List.filter_cons]
  cases hb:(!hasI gone l[i])
  ·rw[hb,if_neg (by simp)]at hFs
   repeat'(first|exact zC|refine zq (I hat (I hb (I @zaA zca))) ?_|refine zx (hin) ?_|(apply zaa<;>intro hb)|(apply I;exact zI)|(apply I<;>intro hg))
   exact hK _ (i+1,acc) (Gh.canon [5] [] [] (zk hw) rfl rfl) ⟨hi,by simp only;omega⟩ (by simp only;rw[hFs]) (by simp only;omega)
  ·rw[hb,if_pos rfl]at hFs
   repeat'(first|exact zC|refine zq (I hat (I hb (I @zaA zca))) ?_|refine zx (hin) ?_|(apply zaa<;>intro hb)|(apply I;exact zI)|(apply I<;>intro hg))
   exact hK _ (i+1,acc++[l[i]]) (Gh.canon [5] [] [] (zk (I hw (I @List.length_append.{0} @List.length_singleton.{0}))) rfl (by simp only[List.length_append,List.length_singleton];rw[zhB];rfl)) ⟨hi,by simp only[List.length_append,List.length_singleton];omega⟩ (by simp only[List.append_assoc,List.singleton_append];rw[hFs]) (by simp only;omega)
 ·have hi:i=l.length:=by
   have:¬(i:Int)<l.length:=by simpa using hge
   omega
  rw[hi,List.drop_length]at hF
  have hF:acc++[]=za6 l gone:=hF
  rw[←hF,List.append_nil]
  repeat'(first|exact zC|refine zq0 ?_|(apply zaa<;>intro hb)|(apply I;exact zI)|(apply I<;>intro hg))
  simp[zzP,zaw,rowI]
abbrev zx5 (l:List Sess) (now lease:Int):List Int:=(l.filter fun s=>decide (now - s.renewed≥lease)).map Sess.client
theorem zx6 (l:List Sess) (hl:l.length<2^30) (now lease:Int) (hr:∀s∈l,0≤s.renewed∧s.renewed≤zbs) (hn:0≤now∧now≤zbs):CallOK Tryz.prog 187 [.f (al l.length (zaQ l)), .f (ai now), .f (ai lease)] (fun r o=>r=[rowI (ztb l now lease)]∧o=[]):=by
 refine CallOK.nil ?_
 refine zh Tryz.func187 Tryz.results187 Tryz.ntmps187 Tryz.call187 ?_
 simp only[Tryz.f187,Option.getD]
 have hg1:=zjz now 0
 have hg2:=zjz lease 0
 rw[show(decide (now≥0)&&decide (now≤2305843009213693952))=true by have:zbs=2305843009213693952:=rfl;simp;omega]at hg1
 cases hle:(decide (lease≥0)&&decide (lease≤2305843009213693952))
 ·rw[hle]at hg2
  have hd:ztb l now lease=[]:=by
   unfold ztb
   rw[if_pos]
   have:zbs=2305843009213693952:=rfl
   simp at hle⊢
   omega
  rw[hd]
  repeat'(first|exact zC|refine zq0 ?_|refine zx (hg1) ?_|refine zx (hg2) ?_|(apply zaa<;>intro hb)|(apply I;exact zI)|(apply I<;>intro hg))
  simp[zzP,zaw,rowI]
 rw[hle]at hg2
 have hd:ztb l now lease=zx5 l now lease:=by
  unfold ztb
  rw[if_neg]
  have:zbs=2305843009213693952:=rfl
  simp at hle⊢
  omega
 rw[hd]
 repeat'(first|exact zC|refine zq0 ?_|refine zx (hg1) ?_|refine zx (hg2) ?_|(apply zaa<;>intro hb)|(apply I;exact zI)|(apply I<;>intro hg))
 refine zaf (τ:=Nat×List Int) (fun t=>⟨(al l.length (zaQ l)::ai now::ai lease::dq4 (.one (.own ⟨7,1,1⟩ 0 t.2.length)::ai t.1::zwa [])),[(7,⟨2,[none,roq 1 1 (zaB t.2)]⟩),(38,⟨2,[]⟩),(39,⟨2,[]⟩)]⟩)
  (fun t=>t.1≤l.length∧t.2.length≤t.1) (fun t=>t.2++zx5 (l.drop t.1) now lease) (fun t=>l.length - t.1) (0,[])
  ((Gh.nil (i:=7) (s:=7) (sz:=1) rfl).trans (Gh.canon [7] [38,39] [] zK rfl rfl)) ⟨Nat.zero_le _,Nat.zero_le _⟩ ?_
 intro⟨i,acc⟩ ⟨hi0,hac⟩ hF K hK
 simp only[List.drop_zero,List.nil_append]at hi0 hac hF hK⊢
 refine zw ?_
 refine zaa (fun hlt=> ?_) (fun hge=> ?_)
 ·have hi:i<l.length:=by simpa using hlt
  have hat:=zcb hi
  have hw:=zai hi (by omega)
  have hrb:=hr _ (List.getElem_mem hi)
  have hH:zbs=2305843009213693952:=rfl
  have hw2:IntKind.i64.wrap (now - l[i].renewed)=now - l[i].renewed:=wrap64 (by omega) (by omega)
  have hFs:zx5 (l.drop i) now lease=if(decide (now - l[i].renewed≥lease))=true then l[i].client::zx5 (l.drop (i+1)) now lease else zx5 (l.drop (i+1)) now lease:=by
   unfold zx5
   rw[List.drop_eq_getElem_cons hi,List.filter_cons]
   split<;>simp
  cases hb:(decide (now - l[i].renewed≥lease))
  ·rw[hb,if_neg (by simp)]at hFs
   repeat'(first|exact zC|refine zq (I hat (I hb (I hw2 (I @zat zca)))) ?_|(apply zaa<;>intro hb)|(apply I;exact zI)|(apply I<;>intro hg))
   exact hK _ (i+1,acc) (Gh.canon [7] [] [] (zk hw) rfl rfl) ⟨hi,by simp only;omega⟩ (by simp only;rw[hFs]) (by simp only;omega)
  ·rw[hb,if_pos rfl]at hFs
   repeat'(first|exact zC|refine zq (I hat (I hb (I hw2 (I @zat zca)))) ?_|(apply zaa<;>intro hb)|(apply I;exact zI)|(apply I<;>intro hg))
   exact hK _ (i+1,acc++[l[i].client]) (Gh.canon [7] [] [] (zk (I hw (I @List.length_append.{0} @List.length_singleton.{0}))) rfl (by simp only[List.length_append,List.length_singleton];rw[zhB];rfl)) ⟨hi,by simp only[List.length_append,List.length_singleton];omega⟩ (by simp only[List.append_assoc,List.singleton_append];rw[hFs]) (by simp only;omega)
 ·have hi:i=l.length:=by
   have:¬(i:Int)<l.length:=by simpa using hge
   omega
  rw[hi,List.drop_length]at hF
  have hF:acc++[]=zx5 l now lease:=hF
  rw[←hF,List.append_nil]
  repeat'(first|exact zC|refine zq0 ?_|(apply zaa<;>intro hb)|(apply I;exact zI)|(apply I<;>intro hg))
  simp[zzP,zaw,rowI]
theorem zvJ (l:List Lk) (hl:l.length<2^30) (c:Int):CallOK Tryz.prog 219 [.f (al l.length (zaj l)), .f (ai c)] (fun r o=>r=[.one (.own 2 (zb5 l c).length (zaE (zb5 l c)) false)]∧o=[]):=by
 refine CallOK.nil ?_
 refine zh Tryz.func219 Tryz.results219 Tryz.ntmps219 Tryz.call219 ?_
 simp only[Tryz.f219,Option.getD]
 repeat'(first|exact zC|refine zq0 ?_|(apply zaa<;>intro hb)|(apply I;exact zI)|(apply I<;>intro hg))
 refine zaf (τ:=Nat×List Grant) (fun t=>⟨(al l.length (zaj l)::ai c::dq3 (.one (.own ⟨5,1,1⟩ 0 t.2.length)::ai t.1::zuu [])),[(5,⟨2,[none,roq 1 2 (zaE t.2)]⟩),(32,⟨2,[]⟩),(33,⟨2,[]⟩)]⟩)
  (fun t=>t.1≤l.length∧t.2.length≤t.1) (fun t=>t.2++zb5 (l.drop t.1) c) (fun t=>l.length - t.1) (0,[])
  ((Gh.nil (i:=5) (s:=5) (sz:=2) rfl).trans (Gh.canon [5] [32,33] [] zK rfl rfl)) ⟨Nat.zero_le _,Nat.zero_le _⟩ ?_
 intro⟨i,acc⟩ ⟨hi0,hac⟩ hF K hK
 simp only[List.drop_zero,List.nil_append]at hi0 hac hF hK⊢
 refine zw ?_
 refine zaa (fun hlt=> ?_) (fun hge=> ?_)
 ·have hi:i<l.length:=by simpa using hlt
  have hat:=za9 hi
  have hw:=zai hi (by omega)
  have hFs:zb5 (l.drop i) c=if(l[i].holder==c)=true then⟨l[i].name,l[i].token⟩::zb5 (l.drop (i+1)) c else zb5 (l.drop (i+1)) c:=by
   unfold zb5
   rw[List.drop_eq_getElem_cons hi,List.filter_cons]
   split<;>simp
  cases hb:(l[i].holder==c)
  ·rw[hb,if_neg (by simp)]at hFs
   repeat'(first|exact zC|refine zq (I hat (I hb (I @zah zca))) ?_|(apply zaa<;>intro hb)|(apply I;exact zI)|(apply I<;>intro hg))
   exact hK _ (i+1,acc) (Gh.canon [5] [] [] (zk hw) rfl rfl) ⟨hi,by simp only;omega⟩ (by simp only;rw[hFs]) (by simp only;omega)
  ·rw[hb,if_pos rfl]at hFs
   repeat'(first|exact zC|refine zq (I hat (I hb (I @zah zca))) ?_|(apply zaa<;>intro hb)|(apply I;exact zI)|(apply I<;>intro hg))
   exact hK _ (i+1,acc++[⟨l[i].name,l[i].token⟩]) (Gh.canon [5] [] [] (zk (I hw (I @List.length_append.{0} @List.length_singleton.{0}))) rfl (by simp only[List.length_append,List.length_singleton];rw[zfd];rfl)) ⟨hi,by simp only[List.length_append,List.length_singleton];omega⟩ (by simp only[List.append_assoc,List.singleton_append];rw[hFs]) (by simp only;omega)
 ·have hi:i=l.length:=by
   have:¬(i:Int)<l.length:=by simpa using hge
   omega
  rw[hi,List.drop_length]at hF
  have hF:acc++[]=zb5 l c:=hF
  rw[←hF,List.append_nil]
  repeat'(first|exact zC|refine zq0 ?_|(apply zaa<;>intro hb)|(apply I;exact zI)|(apply I<;>intro hg))
  simp[zzP,zaw]
theorem ztI {x:Value}:normD (.raw x)= .raw x:=rfl
structure LkD where
 k:Lk
 x:D
abbrev LkD.enc (m:LkD):List D:=[sD m.k.name,iD m.k.holder,iD m.k.token,m.x]
abbrev zeo (l:List LkD):List D:=l.flatMap LkD.enc
def plain (k:Lk):LkD:=⟨k, .sl k.line.length (zaB k.line)⟩
theorem zjC {l:List Lk}:zeo (l.map plain)=zaj l:=by
 induction l with
 |nil=>rfl
 |cons k l ih=>rw[List.map_cons,zeo,List.flatMap_cons,zaj,List.flatMap_cons];exact congrArg (_++·) ih
theorem zpT {l:List LkD} {i:Nat} (hi:i<l.length):(zeo l).drop (i*4)=l[i].enc++(zeo (l.drop (i+1))):=zc1 _ 4 l i hi fun _=>rfl
theorem zec {l:List LkD}:(zeo l).length=l.length*4:=zcC _ 4 (fun _=>rfl) l
theorem zkO {l:List LkD}:(zeo l).take (l.length*4)=zeo l:=zcL LkD.enc 4 (fun _=>rfl) l
theorem zkP {l:List LkD} {m:LkD}:zeo (l++[m])=zeo l++m.enc:=by simp[zeo]
theorem zf5 {l:List Lk} {m:Lk}:zaj (l++[m])=zaj l++m.enc:=by simp[zaj]
theorem ziy (l:List Lk) (hl:l.length<2^30) (hll:∀k∈l,k.line.length<2^30):CallOK Tryz.prog 214 [.f (al l.length (zaj l))] (fun r o=>r=[.one (.own 4 l.length (zaj l) false)]∧o=[]):=by
 refine CallOK.nil ?_
 refine zh Tryz.func214 Tryz.results214 Tryz.ntmps214 Tryz.call214 ?_
 simp only[Tryz.f214,Option.getD]
 repeat'(first|exact zC|refine zq0 ?_|(apply zaa<;>intro hb)|(apply I;exact zI)|(apply I<;>intro hg))
 refine zaf (τ:=Nat) (fun i=>⟨(al l.length (zaj l)::dq2 (.one (.own ⟨3,1,1⟩ 0 i)::ai i::znX [])),[(3,⟨2,[none,roq 1 4 (zaj (l.take i))]⟩),(5,⟨2,[]⟩),(16,⟨2,[]⟩),(19,⟨2,[]⟩),(23,⟨2,[]⟩),(24,⟨2,[]⟩)]⟩)
  (fun i=>i≤l.length) (fun _=>()) (fun i=>l.length - i) 0
  ((Gh.nil (i:=3) (s:=3) (sz:=4) rfl).trans (Gh.canon [3] [5,16,19,23,24] [] zK rfl rfl)) (Nat.zero_le _) ?_
 intro i hi0 hF K hK
 refine zw ?_
 refine zaa (fun hlt=> ?_) (fun hge=> ?_)
 ·have hi:i<l.length:=by simpa using hlt
  have hat:=za9 hi
  have hw:=zai hi (by omega)
  have hlk:=hll _ (List.getElem_mem hi)
  have h1:(l[i].line.length*8≤2^47)=True:=eq_true (by omega)
  have htl:(l.take i).length=i:=by rw[List.length_take];omega
  have htk:=zaD (l:=l.take i)
  rw[htl]at htk
  have hsn:zaj (l.take i)++[sD l[i].name,iD l[i].holder,iD l[i].token, .sl l[i].line.length (zaB l[i].line)]=zaj (l.take (i+1)):=by
   rw[←List.take_append_getElem hi,zf5]
  repeat'(first|exact zC|refine zq (I hat (I @zah (I @zaA (I h1 (I htl (I htk (I hsn zca))))))) ?_|(apply zaa<;>intro hb)|(apply I;exact zI)|(apply I<;>intro hg))
  exact hK _ (i+1) (Gh.canon [3] [] [] (zk hw) rfl rfl) hi rfl (by omega)
 ·have hi:i=l.length:=by
   have:¬(i:Int)<l.length:=by simpa using hge
   omega
  subst hi
  repeat'(first|exact zC|refine zq @List.take_length.{0} ?_|(apply zaa<;>intro hb)|(apply I;exact zI)|(apply I<;>intro hg))
  show zaw _ _∧True
  simp[zaw]
def zkQ (l:List Lk) (i:Nat) (x:D):List LkD:=l.zipIdx.map fun p=>if p.2=i then⟨p.1,x⟩else plain p.1
theorem zbN {l:List Lk} {i:Nat} {x:D}:(zkQ l i x).length=l.length:=by simp[zkQ]
theorem zeZ {l:List Lk} {i j:Nat} {x:D} (hj:j<l.length):(zkQ l i x)[j]'(by rw[zbN];exact hj)=if j=i then⟨l[j],x⟩else plain l[j]:=by simp[zkQ]
theorem zzx {l:List Lk} {i:Nat} {x:D}:(zkQ l i x).map LkD.k=l:=by
 refine List.ext_getElem (by simp[zbN]) fun j h1 h2=> ?_
 rw[List.getElem_map,zeZ h2]
 split<;>rfl
set_option maxHeartbeats 4000000 in
theorem ztJ (l:List Lk) (hl:l.length<2^30) (hll:∀k∈l,k.line.length<2^30) (i0:Nat) (hi0:i0<l.length):
  zsz Tryz.prog 214 [.f (al l.length (zaj l))] (fun bs r o=>∃x,(∃a cap,x=Value.slice a l[i0].line.length cap)∧bs=[.val x]∧r=[.one (.own 4 l.length (zeo (zkQ l i0 (.raw x))) false)]∧o=[[.own 1 l[i0].line.length (zaB l[i0].line) false]]):=by
 refine zuy zcI mixed (T:=Ty) (n:=26) Tryz.func214 (c:=Tryz.f214.body.getD .skip) (q:=1000) (n2:=l[i0].line.length) rfl Tryz.results214 Tryz.ntmps214 Tryz.call214 (R:=fun x=>_) ?_
 simp only[Tryz.f214,Option.getD]
 repeat'(first|exact zC|refine zq0 ?_|(apply zaa<;>intro hb)|(apply I;exact zI)|(apply I<;>intro hg))
 refine zaf (τ:=Nat×Option (Option Addr×Nat)) (fun t=>match t.2 with
  |none=>⟨(al l.length (zaj l)::dq2 (.one (.own ⟨3,1,1⟩ 0 t.1)::ai t.1::znX [])),[(3,⟨2,[none,roq 1 4 (zaj (l.take t.1))]⟩),(5,⟨2,[]⟩),(16,⟨2,[]⟩),(19,⟨2,[]⟩),(23,⟨2,[]⟩),(24,⟨2,[]⟩)]⟩
  |some x=>⟨(al l.length (zaj l):: .one (.lk ⟨1000,1,0⟩ l[i0].line.length (.slice x.1 l[i0].line.length x.2))::dd:: .one (.own ⟨3,1,1⟩ 0 t.1)::ai t.1::znX []),[(3,⟨2,[none,roq 1 4 (zeo ((zkQ l i0 (.raw (.slice x.1 l[i0].line.length x.2))).take t.1))]⟩),(5,⟨2,[]⟩),(16,⟨2,[]⟩),(19,⟨2,[]⟩),(23,⟨2,[]⟩),(24,⟨2,[]⟩),(1000,⟨1,[none,roq 0 1 (zaB l[i0].line)]⟩)]⟩)
  (fun t=>t.1≤l.length∧(t.1≤i0↔t.2=none)) (fun _=>()) (fun t=>l.length - t.1) (0,none)
  ((Gh.nil (i:=3) (s:=3) (sz:=4) rfl).trans (Gh.canon [3] [5,16,19,23,24] [] zK rfl rfl)) ⟨Nat.zero_le _,by simp⟩ ?_
 rintro⟨i,x⟩ ⟨hi1,hx⟩ hF K hK
 cases x with
 |none=>
  simp only at hi1 hx hK⊢
  have hx0:i≤i0:=hx.2 trivial
  refine zw ?_
  refine zaa (fun hlt=> ?_) (fun hge=> ?_)
  ·have hi:i<l.length:=by simpa using hlt
   have hat:=za9 hi
   have hw:=zai hi (by omega)
   have hlk:=hll _ (List.getElem_mem hi)
   have h1:(l[i].line.length*8≤2^47)=True:=eq_true (by omega)
   have htl:(l.take i).length=i:=by rw[List.length_take];omega
   have htk:=zaD (l:=l.take i)
   rw[htl]at htk
   have hsn:zaj (l.take i)++[sD l[i].name,iD l[i].holder,iD l[i].token, .sl l[i].line.length (zaB l[i].line)]=zaj (l.take (i+1)):=by
    rw[←List.take_append_getElem hi,zf5]
   repeat'(first|exact zC|(with_reducible first|refine zbd 7 ?_|refine zaR 7 ?_|refine zaS 7 ?_)|refine zu (I hat (I @zah (I @zaA (I h1 (I htl (I htk (I hsn zca))))))) ?_|(with_reducible first|refine zae _ _ ?_)|(apply zaa<;>intro hb)|(apply I;exact zI)|(apply I<;>intro hg))
   by_cases hii:i=i0
   ·subst hii
    refine zbf (zeR _ _ (zyW zcI mixed _ _ (zqd (s:=5) (k:=3) (k':=4) (e:=7) (j:=1) (q:=1000) rfl rfl rfl rfl rfl rfl (by decide) rfl rfl) ?_))
    intro x _
    have hsx:zaj (l.take i)++[sD l[i].name,iD l[i].holder,iD l[i].token, .raw (.slice x.1 l[i].line.length x.2)]=zeo ((zkQ l i (.raw (.slice x.1 l[i].line.length x.2))).take (i+1)):=by
     rw[←List.take_append_getElem (by rw[zbN];exact hi),zkP,zeZ hi,if_pos rfl]
     congr 1
     rw[←zjC]
     congr 1
     refine List.ext_getElem (by simp[zbN]) fun j h1 h2=> ?_
     have hji:j<i:=by simp at h1;omega
     rw[List.getElem_map,List.getElem_take,List.getElem_take,zeZ (by omega),if_neg (by omega)]
    repeat'(first|exact zC|refine zq (I hat (I @zah (I @zaA (I h1 (I htl (I htk (I hsx (I @ztI zca)))))))) ?_|(apply zaa<;>intro hb)|(apply I;exact zI)|(apply I<;>intro hg))
    exact hK _ (i+1,some x) (Gh.canon [3,1000] [] [1000] (zk (I hw @zv7)) rfl rfl) ⟨hi,by simp⟩ trivial (by simp only;omega)
   ·refine zbf ?_
    repeat'(first|exact zC|refine zq (I hat (I @zah (I @zaA (I h1 (I htl (I htk (I hsn zca))))))) ?_|(apply zaa<;>intro hb)|(apply I;exact zI)|(apply I<;>intro hg))
    exact hK _ (i+1,none) (Gh.canon [3] [] [] (zk hw) rfl rfl) ⟨hi,by simp;omega⟩ trivial (by simp only;omega)
  ·exfalso
   have:¬(i:Int)<l.length:=by simpa using hge
   omega
 |some x=>
  simp only at hi1 hx hK⊢
  have hx0:¬i≤i0:=fun h=>by cases hx.1 h
  refine zw ?_
  refine zaa (fun hlt=> ?_) (fun hge=> ?_)
  ·have hi:i<l.length:=by simpa using hlt
   have hat:=za9 hi
   have hw:=zai hi (by omega)
   have hlk:=hll _ (List.getElem_mem hi)
   have h1:(l[i].line.length*8≤2^47)=True:=eq_true (by omega)
   have htl:((zkQ l i0 (.raw (.slice x.1 l[i0].line.length x.2))).take i).length=i:=by rw[List.length_take,zbN];omega
   have htk:=zkO (l:=(zkQ l i0 (.raw (.slice x.1 l[i0].line.length x.2))).take i)
   rw[htl]at htk
   have hsn:zeo ((zkQ l i0 (.raw (.slice x.1 l[i0].line.length x.2))).take i)++[sD l[i].name,iD l[i].holder,iD l[i].token, .sl l[i].line.length (zaB l[i].line)]=zeo ((zkQ l i0 (.raw (.slice x.1 l[i0].line.length x.2))).take (i+1)):=by
    rw[←List.take_append_getElem (by rw[zbN];exact hi),zkP,zeZ hi,if_neg (by omega)];rfl
   repeat'(first|exact zC|refine zq (I hat (I @zah (I @zaA (I @zec (I h1 (I htl (I htk (I hsn zca)))))))) ?_|(apply zaa<;>intro hb)|(apply I;exact zI)|(apply I<;>intro hg))
   exact hK _ (i+1,some x) (Gh.canon [3,1000] [] [1000] (zk (I hw @zv7)) rfl rfl) ⟨hi,by simp;omega⟩ trivial (by simp only;omega)
  ·have hi:i=l.length:=by
    have:¬(i:Int)<l.length:=by simpa using hge
    omega
   subst hi
   repeat'(first|exact zC|refine zq0 ?_|(apply zaa<;>intro hb)|(apply I;exact zI)|(apply I<;>intro hg))
   refine⟨1, .slice x.1 l[i0].line.length x.2,rfl,⟨_,_,rfl⟩, ?_,rfl⟩
   rw[List.take_of_length_le (by rw[zbN];exact Nat.le_refl _)]
theorem ztC (l:List LkD) (hl:l.length<2^62) (s:ByteArray):CallOK Tryz.prog 217 [.f (al l.length (zeo l)), .f (ast s)] (fun r o=>r=[ri (zcY (isL s) (l.map LkD.k) 0)]∧o=[]):=by
 refine zh Tryz.func217 Tryz.results217 Tryz.ntmps217 Tryz.call217 ?_
 simp only[Tryz.f217,Option.getD]
 repeat'(first|exact zC|refine zq0 ?_|(apply zaa<;>intro hb)|(apply I;exact zI)|(apply I<;>intro hg))
 refine zaf (τ:=Nat) (fun i=>⟨(al l.length (zeo l)::ast s::dq3 (ai i::zw0 [])),[]⟩)
  (fun i=>i≤l.length) (fun i=>zcY (isL s) ((l.drop i).map LkD.k) i) (fun i=>l.length - i) 0
  (Gh.canon [] [] [] zK rfl rfl) (Nat.zero_le _) ?_
 intro i hi0 hF K hK
 rw[List.drop_zero]at hF
 refine zw ?_
 refine zaa (fun hlt=> ?_) (fun hge=> ?_)
 ·have hi:i<l.length:=by simpa using hlt
  have hat:=zpT hi
  have hw:=zai hi hl
  have hq:zcY (isL s) ((l.drop i).map LkD.k) i=if(l[i].k.name.toList==s.toList)=true then(i:Int)else zcY (isL s) ((l.drop (i+1)).map LkD.k) ((i+1:Nat):Int):=by
   rw[List.drop_eq_getElem_cons hi,List.map_cons,zcY];rfl
  rw[hq]at hF
  repeat'(first|exact zC|refine zq (I hat (I @zec zca)) ?_|(apply zaa<;>intro hb)|(apply I;exact zI)|(apply I<;>intro hg))
  ·rw[if_pos hb]at hF
   have hF:(i:Int)=zcY (isL s) (l.map LkD.k) 0:=hF
   rw[←hF]
  ·rw[if_neg (by rw[hb];simp)]at hq
   exact hK _ (i+1) (Gh.canon [] [] [] (zk hw) rfl rfl) hi hq.symm (by omega)
 ·have hi:i=l.length:=by
   have:¬(i:Int)<l.length:=by simpa using hge
   omega
  rw[hi,List.drop_length]at hF
  have hF:(-1:Int)=zcY (isL s) (l.map LkD.k) 0:=hF
  rw[←hF]
  repeat'(first|exact zC|refine zq0 ?_|(apply zaa<;>intro hb)|(apply I;exact zI)|(apply I<;>intro hg))
theorem zhm {l:List Lk} (hs:SL l) (s:ByteArray):zcY (isL s) l 0=match zdG l s with|none=> -1|some _=>(zbB l s:Int):=by
 rcases zix (isL s) l 0 with⟨h1,h2⟩|⟨k,hk,h2,h3,h4⟩
 ·have:zdG l s=none:=List.find?_eq_none.2 fun x hx=>by rw[h1 x hx];simp
  rw[this];exact h2
 ·cases hf:zdG l s with
  |none=>exact absurd h3 (List.find?_eq_none.1 hf _ (List.getElem_mem hk))
  |some x=>
   obtain⟨⟨hp,he⟩,hx⟩:=zdO hs hf
   have hkp:k=zbB l s:=by
    have hne:∀{i j:Nat} (hi:i<l.length) (hj:j<l.length),i<j→isL s l[i]=true→isL s l[j]=true→False:=fun hi hj hij h1 h2=>by
     have:=List.pairwise_iff_getElem.1 hs _ _ hi hj hij
     simp only[isL,beq_iff_eq]at h1 h2
     simp only[zed,h1,h2,zpL]at this
     cases this
    rcases Nat.lt_trichotomy k (zbB l s)with h|h|h
    ·exact(hne hk hp h h3 (by rw[he];exact hx)).elim
    ·exact h
    ·exact(hne hp hk h (by rw[he];exact hx) h3).elim
   have h2':zcY (isL s) l 0=((0+k:Nat):Int):=h2
   rw[h2']
   show((0+k:Nat):Int)=(zbB l s:Int)
   omega
theorem zq1 {l:List Lk} {name:ByteArray} {c t:Int} {w:Bool} (hf:zdG l name=none):zaX l name c t w=if decide ((l.length:Int)≥4)=true then([],0,5)else(l.take (zbB l name)++⟨name,c,t+1,[]⟩::l.drop (zbB l name),0,0):=by unfold zaX;rw[hf]
theorem znt {α:Type} {l:List α} {j:Nat} {y:α} (hj:j≤l.length):(l.take j++y::l.drop j).length=l.length+1:=by
 rw[List.length_append,List.length_take,List.length_cons,List.length_drop];omega
theorem ztD {α:Type} {l:List α} {j i:Nat} {y:α} (hj:j≤l.length) (hi:i<j):(l.take j++y::l.drop j)[i]'(by rw[znt hj];omega)=l[i]:=by
 rw[List.getElem_append_left (by rw[List.length_take];omega),List.getElem_take]
theorem zq2 {α:Type} {l:List α} {j:Nat} {y:α} (hj:j≤l.length) (h0:0<j):(l.take j++y::l.drop j).set j (l[j - 1]'(by omega))=l.take (j - 1)++(l[j - 1]'(by omega))::l.drop (j - 1):=by
 rw[List.set_append_right _ _ (by rw[List.length_take];omega)]
 rw[show j - (l.take j).length=0 by rw[List.length_take];omega,List.set_cons_zero]
 rw[show l.take j=l.take (j - 1)++[l[j - 1]'(by omega)] by
  rw[List.take_append_getElem (by omega),show j - 1+1=j by omega]]
 rw[List.append_assoc]
 congr 1
 rw[List.drop_eq_getElem_cons (show j - 1<l.length by omega),show j - 1+1=j by omega]
 rfl
theorem ztE {α:Type} {l:List α} {j:Nat} {y x:α} (hj:j≤l.length):(l.take j++y::l.drop j).set j x=l.take j++x::l.drop j:=by
 rw[List.set_append_right _ _ (by rw[List.length_take];omega),show j - (l.take j).length=0 by rw[List.length_take];omega,List.set_cons_zero]
abbrev zCQ:Lk:=⟨.empty,0,0,[]⟩
set_option maxHeartbeats 4000000 in
theorem ztF (l:List Lk) (hs:SL l) (hl:l.length<2^30) (hll:∀k∈l,k.line.length<2^30) (name:ByteArray) (c t:Int) (ht:0≤t∧t<2^62) (w:Bool) (hf:zdG l name=none):
  CallOK Tryz.prog 207 [.f (al l.length (zaj l)), .f (ast name), .f (ai c), .f (ai t), .f (ab w)]
  (fun r o=>r=[.one (.own 4 (zaX l name c t w).1.length (zaj (zaX l name c t w).1) false),ri (zaX l name c t w).2.1,ri (zaX l name c t w).2.2]∧o=[]):=by
 refine CallOK.nil ?_
 refine zh Tryz.func207 Tryz.results207 Tryz.ntmps207 Tryz.call207 ?_
 simp only[Tryz.f207,Option.getD]
 have hco:=ziy l hl hll
 have hfi:=zjx l (by omega) name
 rw[zhm hs,hf]at hfi
 simp only at hfi
 rw[zq1 hf]
 have hwt:IntKind.i64.wrap (t+1)=t+1:=wrap64 (by omega) (by omega)
 have hm1:decide ((-1:Int)<0)=true:=rfl
 cases h4:decide ((l.length:Int)≥4)
 ·rw[if_neg (by simp)]
  have hlt4:l.length<4:=by simp at h4;omega
  have hp:=zos (p:=fun x:Lk=>zed x.name name) (l:=l)
  repeat'(first|exact zC|refine zq (I hm1 (I h4 (I @zah @zaD))) ?_|refine zx (hco) ?_|refine zx (hfi) ?_|(apply zaa<;>intro hb)|(apply I;exact zI)|(apply I<;>intro hg))
  refine zxb (τ:=Unit) (fun _=>⟨(dd::ast name::ai c::ai t::dq9 (.one (.own ⟨13,1,1⟩ 0 l.length)::dd::ai (zbB l name:Int)::zv9 (zdP (zdP [])))),[(20,⟨2,[]⟩),(13,⟨2,[none,roq 1 4 (zaj l)]⟩)]⟩) (fun _=>True) (fun _ _=> ?_) (fun Kx hKx=> ?_)
  ·have hlz:zaj l++[D.v (.string .empty),D.v (.int .i64 0),D.v (.int .i64 0), .sl 0 []]=zaj (l.take l.length++zCQ::l.drop l.length):=by rw[List.take_length,List.drop_length,zf5];rfl
   have hw1:IntKind.i64.wrap (((l.length+1:Nat):Int) - 1)=(l.length:Int):=by rw[wrap64 (by omega) (by omega)];omega
   have hbig:((l.length+1)*48≤2^47)=True:=eq_true (by omega)
   repeat'(first|exact zC|refine zq (I @zah (I @zaD (I hlz (I hw1 hbig)))) ?_|(apply zaa<;>intro hb)|(apply I;exact zI)|(apply I<;>intro hg))
   refine zaf (τ:=Nat×Lk) (fun q=>⟨(dd::ast name::ai c::ai t::dq9 (.one (.own ⟨13,1,1⟩ 0 (l.length+1))::dd::ai (zbB l name:Int)::ai q.1::zyS (zdP (zdP [])))),[(20,⟨2,[]⟩),(13,⟨2,[none,roq 1 4 (zaj (l.take q.1++q.2::l.drop q.1))]⟩),(46,⟨2,[]⟩)]⟩)
    (fun q=>zbB l name≤q.1∧q.1≤l.length) (fun _=>()) (fun q=>q.1) (l.length,zCQ) (Gh.canon [13] [] [] zK rfl rfl) ⟨hp,Nat.le_refl _⟩ ?_
   rintro⟨j,y⟩ ⟨hj1,hj2⟩ hF K hK
   simp only at hj1 hj2 hK⊢
   have hlen:=znt (l:=l) (j:=j) (y:=y) hj2
   by_cases hjp:zbB l name<j
   ·have hd:decide ((j:Int)>(zbB l name:Int))=true:=by simpa using hjp
    have hw:IntKind.i64.wrap ((j:Int) - 1)=((j - 1:Nat):Int):=by rw[wrap64 (by omega) (by omega)];omega
    have hat:=za9 (l:=l.take j++y::l.drop j) (i:=j - 1) (by omega)
    rw[ztD hj2 (by omega)]at hat
    have hset:=zpN Lk.enc 4 (fun _=>rfl) (l:=l.take j++y::l.drop j) (i:=j) (by omega) (l[j - 1]'(by omega))
    rw[zq2 hj2 (by omega)]at hset
    simp only[fillAt,List.map_cons,List.map_nil]at hset
    repeat'(first|exact zC|refine zq (I hd (I hw (I hat (I @zmd (I @List.map_cons.{0,0} (I @zah (I hlen (I @fillAt.eq_1 (I hset zca))))))))) ?_|(apply zaa<;>intro hb)|(apply I;exact zI)|(apply I<;>intro hg))
    exact hK _ (j - 1,l[j - 1]'(by omega)) (Gh.canon [13] [] [] zK rfl rfl) ⟨by omega,by omega⟩ trivial (by simp only;omega)
   ·have hjj:j=zbB l name:=by omega
    have hd:decide ((j:Int)>(zbB l name:Int))=false:=by simp;omega
    have hset:=zpN Lk.enc 4 (fun _=>rfl) (l:=l.take j++y::l.drop j) (i:=j) (by omega) ⟨name,c,t+1,[]⟩
    rw[ztE hj2]at hset
    simp only[fillAt,List.map_cons,List.map_nil,List.length_nil,List.flatMap_nil]at hset
    subst hjj
    repeat'(first|exact zC|refine zq (I hd (I hwt (I @zah (I hlen (I @fillAt.eq_1 hset))))) ?_|(apply zaa<;>intro hb)|(apply I;exact zI)|(apply I<;>intro hg))
    have hp':zbB l name≤l.length:=hp
    simp[zrg,zaw]
    omega
  ·refine zaf (τ:=Nat) (fun i=>⟨(dd::ast name::ai c::ai t::dq9 (.one (.own ⟨13,1,1⟩ 0 l.length)::dd::ai i::zv9 (zdP (zdP [])))),[(20,⟨2,[]⟩),(13,⟨2,[none,roq 1 4 (zaj l)]⟩)]⟩)
    (fun i=>i≤zbB l name) (fun _=>()) (fun i=>l.length - i) 0 (Gh.canon [13] [] [] zK rfl rfl) (Nat.zero_le _) ?_
   intro i hi0 hF K hK
   by_cases hi:i<l.length
   ·have hat:=za9 hi
    have hd:decide ((i:Int)<(l.length:Int))=true:=by simpa using hi
    have hw:=zai hi (by omega)
    repeat'(first|exact zC|refine zq (I hd (I hat (I @zmd (I @List.map_cons.{0,0} (I @zah zca))))) ?_|(apply zaa<;>intro hb)|(apply I;exact zI)|(apply I<;>intro hg))
    ·have hip:i<zbB l name:=Nat.lt_of_not_le fun h=>by
      have:Go.Op.bytesLess l[i].name.toList name.toList=false:=zlE hi (zou hs name) h
      rw[hb]at this
      cases this
     exact hK _ (i+1) (Gh.canon [13] [] [] (zk hw) rfl rfl) hip rfl (by omega)
    ·have hip:i=zbB l name:=Nat.le_antisymm hi0 (Nat.le_of_not_lt fun h=>by
      have:Go.Op.bytesLess l[i].name.toList name.toList=true:=zlD hi h
      rw[hb]at this
      cases this)
     subst hip
     exact hKx _ () (Gh.canon [13] [] [] zK rfl rfl) trivial
   ·have hd:decide ((i:Int)<(l.length:Int))=false:=by simpa using hi
    have hdr:(zaj l).drop (i*4)=[]:=List.drop_eq_nil_of_le (by rw[zah];omega)
    repeat'(first|exact zC|refine zq (I hd (I hdr (I @zmd (I @List.map_nil.{0,0} @zah)))) ?_|(apply zaa<;>intro hb)|(apply I;exact zI)|(apply I<;>intro hg))
    have hip:i=zbB l name:=by have:zbB l name≤l.length:=hp;omega
    subst hip
    exact hKx _ () (Gh.canon [13] [] [] zK rfl rfl) trivial
 ·rw[if_pos rfl]
  repeat'(first|exact zC|refine zq (I hm1 (I h4 (I @zah @zaD))) ?_|refine zx (hco) ?_|refine zx (hfi) ?_|(apply zaa<;>intro hb)|(apply I;exact zI)|(apply I<;>intro hg))
  simp[zrg,zaw]
theorem zkN {l:List Lk} {name:ByteArray} {c t:Int} {w:Bool} {k:Lk} (hf:zdG l name=some k) (hc:isClient c=true):zaX l name c t w=if(k.holder==c)=true then([],0,7)else if(!w)=true then([],0,8)else
  if hasI k.line c=true then(l,znd k.line c,10)else if decide ((k.line.length:Int)≥3)=true then([],0,5)else(l.set (zbB l name) ⟨k.name,k.holder,k.token,k.line++[c]⟩,k.line.length,10):=by
 unfold zaX
 rw[hf]
 simp only
 split
 ·rfl
 ·split
  ·rfl
  ·split
   ·rfl
   ·rename_i h
    have hj:zjw k.line c=if decide ((k.line.length:Int)≥3)=true then([],0,5)else(k.line++[c],(k.line.length:Int),0):=by
     unfold zjw
     rw[if_neg (by rw[hc];simp),if_neg h]
    rw[hj]
    cases decide ((k.line.length:Int)≥3)
    ·rfl
    ·rfl
set_option maxHeartbeats 4000000 in
theorem ztG (l:List Lk) (hs:SL l) (hl:l.length<2^30) (hll:∀k∈l,k.line.length<2^30) (name:ByteArray) (c t:Int) (hc:isClient c=true) (w:Bool) (k:Lk) (hf:zdG l name=some k)
  (hx:(k.holder==c)=true∨w=false∨hasI k.line c=true∨decide ((k.line.length:Int)≥3)=true):
  CallOK Tryz.prog 207 [.f (al l.length (zaj l)), .f (ast name), .f (ai c), .f (ai t), .f (ab w)]
  (fun r o=>r=[.one (.own 4 (zaX l name c t w).1.length (zaj (zaX l name c t w).1) false),ri (zaX l name c t w).2.1,ri (zaX l name c t w).2.2]∧o=[]):=by
 refine CallOK.nil ?_
 refine zh Tryz.func207 Tryz.results207 Tryz.ntmps207 Tryz.call207 ?_
 simp only[Tryz.f207,Option.getD]
 have hco:=ziy l hl hll
 have hfi:=zjx l (by omega) name
 rw[zhm hs,hf]at hfi
 simp only at hfi
 have htk:=zkN (t:=t) (w:=w) hf hc
 generalize zaX l name c t w=R at htk⊢
 obtain⟨⟨hi,he⟩,hn⟩:=zdO hs hf
 have hat:=za9 hi
 rw[he]at hat
 have hkl:=hll k (he▸List.getElem_mem hi)
 have hah:=zjA k.line (by omega) c
 have hm1:decide ((zbB l name:Int)<0)=false:=by simp
 have hat1:(zaj l).drop (zbB l name*4+1)=iD k.holder::iD k.token:: .sl k.line.length (zaB k.line)::zaj (l.drop (zbB l name+1)):=by rw[←List.drop_drop,hat];rfl
 have hat3:(zaj l).drop (zbB l name*4+3)= .sl k.line.length (zaB k.line)::zaj (l.drop (zbB l name+1)):=by rw[←List.drop_drop,hat];rfl
 cases h1:(k.holder==c)
 ·cases w
  ·repeat'(first|exact zC|refine zq (I hm1 (I h1 (I hat1 (I @zmd (I @List.map_cons.{0,0} (I @List.drop_succ_cons.{0} (I @List.drop_zero.{0} (I @zah (I @zaD zca))))))))) ?_|refine zx (hco) ?_|refine zx (hfi) ?_|(apply zaa<;>intro hb)|(apply I;exact zI)|(apply I<;>intro hg))
   rw[if_neg (by rw[h1];simp),if_pos (show(!false)=true from rfl)]at htk
   rw[htk];simp[zrg,zaw]
  ·rw[if_neg (by rw[h1];simp),if_neg (by simp)]at htk
   cases h3:hasI k.line c
   ·rw[if_neg (by rw[h3];simp)]at htk
    have h4:decide ((k.line.length:Int)≥3)=true:=by rcases hx with h|h|h|h<;>simp_all
    rw[if_pos h4]at htk
    rw[h3]at hah
    repeat'(first|exact zC|refine zq (I hm1 (I h1 (I h3 (I h4 (I hat1 (I hat3 (I @zmd (I @List.map_cons.{0,0} (I @List.drop_succ_cons.{0} (I @List.drop_zero.{0} (I @zah (I @zaD zca)))))))))))) ?_|refine zx (hco) ?_|refine zx (hfi) ?_|refine zx (hah) ?_|(apply zaa<;>intro hb)|(apply I;exact zI)|(apply I<;>intro hg))
    rw[htk];simp[zrg,zaw]
   ·rw[if_pos h3]at htk
    rw[h3]at hah
    repeat'(first|exact zC|refine zq (I hm1 (I h1 (I h3 (I hat1 (I hat3 (I @zmd (I @List.map_cons.{0,0} (I @List.drop_succ_cons.{0} (I @List.drop_zero.{0} (I @zah (I @zaD zca))))))))))) ?_|refine zx (hco) ?_|refine zx (hfi) ?_|refine zx (hah) ?_|(apply zaa<;>intro hb)|(apply I;exact zI)|(apply I<;>intro hg))
    rw[htk];simp[zrg,zaw]
 ·repeat'(first|exact zC|refine zq (I hm1 (I h1 (I hat1 (I @zmd (I @List.map_cons.{0,0} (I @List.drop_succ_cons.{0} (I @List.drop_zero.{0} (I @zah (I @zaD zca))))))))) ?_|refine zx (hco) ?_|refine zx (hfi) ?_|(apply zaa<;>intro hb)|(apply I;exact zI)|(apply I<;>intro hg))
  rw[if_pos h1]at htk
  rw[htk];simp[zrg,zaw]
set_option maxHeartbeats 4000000 in
theorem ztH (l:List Lk) (hs:SL l) (hl:l.length<2^30) (hll:∀k∈l,k.line.length<2^30) (name:ByteArray) (c t:Int) (hc:isClient c=true) (w:Bool) (k:Lk) (hf:zdG l name=some k)
  (h1:(k.holder==c)=false) (hw:w=true) (h3:hasI k.line c=false) (h4:decide ((k.line.length:Int)≥3)=false):
  CallOK Tryz.prog 207 [.f (al l.length (zaj l)), .f (ast name), .f (ai c), .f (ai t), .f (ab w)]
  (fun r o=>r=[.one (.own 4 (zaX l name c t w).1.length (zaj (zaX l name c t w).1) false),ri (zaX l name c t w).2.1,ri (zaX l name c t w).2.2]∧o=[]):=by
 refine CallOK.nil ?_
 refine zh Tryz.func207 Tryz.results207 Tryz.ntmps207 Tryz.call207 ?_
 simp only[Tryz.f207,Option.getD]
 have htk:=zkN (t:=t) (w:=w) hf hc
 subst hw
 rw[if_neg (by rw[h1];simp),if_neg (by simp),if_neg (by rw[h3];simp),if_neg (by rw[h4];simp)]at htk
 rw[htk]
 obtain⟨⟨hi,he⟩,hn⟩:=zdO hs hf
 have hco:=ztJ l hl hll (zbB l name) hi
 rw[he]at hco
 have hkl:=hll k (he▸List.getElem_mem hi)
 have hah:=zjA k.line (by omega) c
 rw[h3]at hah
 have hm1:decide ((zbB l name:Int)<0)=false:=by simp
 repeat'(first|exact zC|(with_reducible first|refine zbd 1 ?_|refine zaR 1 ?_|refine zaS 1 ?_)|refine zu0 ?_|(with_reducible first|refine zae _ _ ?_)|(apply zaa<;>intro hb)|(apply I;exact zI)|(apply I<;>intro hg))
 refine zbf (zeR _ _ (zrF zcI mixed 1 (q:=5) (v1:=(al l.length (zaj l)::ast name::ai c::ai t::ab true::dq5 (.one (.d (.v (.slice none 0 0)))::ai 0::ai 0::dq6 (al l.length (zaj l)::zw3 (zdP (zdP [])))))) (r1:=[]) rfl rfl rfl rfl (fun K hK=> ?_) ?_ ?_ rfl hco rfl (by decide) ?_))
 ·repeat'(first|exact zC|refine zq (I @List.take_succ_cons.{0} @List.take_zero.{0}) ?_|(apply zaa<;>intro hb)|(apply I;exact zI)|(apply I<;>intro hg))
  exact hK
 ·exact trivial
 ·exact⟨trivial,trivial⟩
 rintro x ⟨a,cap,rfl⟩
 have hfi:=ztC (zkQ l (zbB l name) (.raw (.slice a k.line.length cap))) (by rw[zbN];omega) name
 rw[zzx,zhm hs,hf,zbN]at hfi
 simp only at hfi
 have hil:zbB l name<(zkQ l (zbB l name) (.raw (.slice a k.line.length cap))).length:=by rw[zbN];exact hi
 have hat:=zpT hil
 rw[zeZ hi,if_pos rfl,he]at hat
 have htk:=zkO (l:=zkQ l (zbB l name) (.raw (.slice a k.line.length cap)))
 rw[zbN]at htk
 have hat1:(zeo (zkQ l (zbB l name) (.raw (.slice a k.line.length cap)))).drop (zbB l name*4+1)=iD k.holder::iD k.token:: .raw (.slice a k.line.length cap)::zeo ((zkQ l (zbB l name) (.raw (.slice a k.line.length cap))).drop (zbB l name+1)):=by rw[←List.drop_drop,hat];rfl
 have hat3:(zeo (zkQ l (zbB l name) (.raw (.slice a k.line.length cap)))).drop (zbB l name*4+3)= .raw (.slice a k.line.length cap)::zeo ((zkQ l (zbB l name) (.raw (.slice a k.line.length cap))).drop (zbB l name+1)):=by rw[←List.drop_drop,hat];rfl
 repeat'(first|exact zC|(with_reducible first|refine zbd 20 ?_|refine zaR 20 ?_|refine zaS 20 ?_)|refine zu (I hm1 (I h1 (I @List.drop_succ_cons.{0} (I @List.drop_zero.{0} (I hat1 (I htk (I @zmd (I @List.map_cons.{0,0} (I @zec @zbN))))))))) ?_|(with_reducible first|refine zae _ _ ?_)|refine zx (hfi) ?_|(apply zaa<;>intro hb)|(apply I;exact zI)|(apply I<;>intro hg))
 refine zbf (zeR _ _ (zo4 zcI mixed 5 ?_))
 repeat'(first|exact zC|refine zq (I @List.take_succ_cons.{0} (I @List.take_zero.{0} (I hat3 (I @zmd (I @List.map_cons.{0,0} (I @zec @zbN)))))) ?_|(apply zaa<;>intro hb)|(apply I;exact zI)|(apply I<;>intro hg))
 refine⟨_,Gh.view (i:=87) (j:=5) rfl rfl, ?_⟩
 repeat'(first|exact zC|(with_reducible first|refine zbd 26 ?_|refine zaR 26 ?_|refine zaS 26 ?_)|refine zu (I @List.drop_succ_cons.{0} (I @List.drop_zero.{0} (I h4 (I hat3 (I @zmd (I @List.map_cons.{0,0} (I @zec @zbN))))))) ?_|(with_reducible first|refine zae _ _ ?_)|refine zx (hah) ?_|(apply zaa<;>intro hb)|(apply I;exact zI)|(apply I<;>intro hg))
 refine zbf (zeR _ _ (zo4 zcI mixed 7 ?_))
 repeat'(first|exact zC|refine zq (I @List.take_succ_cons.{0} (I @List.take_zero.{0} (I hat3 (I @zmd (I @List.map_cons.{0,0} (I @zec @zbN)))))) ?_|(apply zaa<;>intro hb)|(apply I;exact zI)|(apply I<;>intro hg))
 refine⟨_,Gh.view (i:=114) (j:=5) rfl rfl, ?_⟩
 have hie:zaB (k.line++[c])=zaB k.line++[iD c]:=by simp[zaB]
 have hset:=zgz LkD.enc 4 (fun _=>rfl) hil (k:=3) (by decide) (.sl (k.line.length+1) (zaB k.line++[iD c])) (plain ⟨k.name,k.holder,k.token,k.line++[c]⟩)
  (by rw[zeZ hi,if_pos rfl,he,plain];simp only[LkD.enc,List.length_append,List.length_singleton,hie];rfl)
 rw[show(zkQ l (zbB l name) (.raw (.slice a k.line.length cap))).set (zbB l name) (plain ⟨k.name,k.holder,k.token,k.line++[c]⟩)=(l.set (zbB l name) ⟨k.name,k.holder,k.token,k.line++[c]⟩).map plain from by
  refine List.ext_getElem (by simp[zbN]) fun j h1 h2=> ?_
  have hj:j<l.length:=by simpa using h2
  rw[List.getElem_set,List.getElem_map,List.getElem_set]
  split
  ·rfl
  ·rw[zeZ hj,if_neg (by omega)],show List.flatMap LkD.enc ((l.set (zbB l name) ⟨k.name,k.holder,k.token,k.line++[c]⟩).map plain)=zaj (l.set (zbB l name) ⟨k.name,k.holder,k.token,k.line++[c]⟩) from zjC]at hset
 have hi1:(zaB k.line).take (k.line.length*1)=zaB k.line:=List.take_of_length_le (by rw[zaA];omega)
 have hi2:(zaB k.line++[D.v (.int .i64 c)]).take (k.line.length+1)=zaB k.line++[D.v (.int .i64 c)]:=List.take_of_length_le (by rw[List.length_append,zaA];exact Nat.le_refl _)
 have hbig:((k.line.length+1)*8≤2^47)=True:=eq_true (by omega)
 repeat'(first|exact zC|refine zq (I @List.drop_succ_cons.{0} (I @List.drop_zero.{0} (I hset (I @zaA (I hi1 (I hi2 (I hbig (I @zmd (I @List.map_cons.{0,0} (I @zec @zbN)))))))))) ?_|(apply zaa<;>intro hb)|(apply I;exact zI)|(apply I<;>intro hg))
 simp[zrg,zaw]
theorem zvM (l:List Lk) (hs:SL l) (hl:l.length<2^30) (hll:∀k∈l,k.line.length<2^30) (name:ByteArray) (c t:Int) (ht:0≤t∧t<2^62) (hc:isClient c=true) (w:Bool):
  CallOK Tryz.prog 207 [.f (al l.length (zaj l)), .f (ast name), .f (ai c), .f (ai t), .f (ab w)]
  (fun r o=>r=[.one (.own 4 (zaX l name c t w).1.length (zaj (zaX l name c t w).1) false),ri (zaX l name c t w).2.1,ri (zaX l name c t w).2.2]∧o=[]):=by
 cases hf:zdG l name with
 |none=>exact ztF l hs hl hll name c t ht w hf
 |some k=>
  by_cases hx:(k.holder==c)=true∨w=false∨hasI k.line c=true∨decide ((k.line.length:Int)≥3)=true
  ·exact ztG l hs hl hll name c t hc w k hf hx
  ·simp only[not_or,Bool.not_eq_true,Bool.not_eq_false]at hx
   exact ztH l hs hl hll name c t hc w k hf hx.1 hx.2.1 hx.2.2.1 hx.2.2.2
theorem zvL {l:List Int} {c:Int}:za6 l [c]=l.filter fun x=> !(x==c):=by
 unfold za6 hasI
 congr 1
 funext x
 simp[zox]
theorem zlQ:∀{l:List Int} {c:Int},l.Nodup→hasI l c=true→(zhk l c).1=za6 l [c]:=fun {l c} hn hc=>by
 rw[zvL]
 unfold zhk
 rcases zix (fun x=>c==x) l 0 with⟨h1,_⟩|⟨k,hk,h2,h3,h4⟩
 ·exfalso
  unfold hasI at hc
  obtain⟨x,hx,hx2⟩:=List.any_eq_true.1 hc
  rw[h1 x hx]at hx2;cases hx2
 ·have h2':zcY (fun x=>c==x) l 0=((0+k:Nat):Int):=h2
  rw[h2',if_neg (by omega)]
  simp only[Nat.zero_add,Int.toNat_natCast]
  have hck:c=l[k]:=by simpa using h3
  subst hck
  clear h2 h2' h3 h4 hc
  induction l generalizing k with
  |nil=>simp at hk
  |cons y l ih=>
   have hn':=List.nodup_cons.1 hn
   cases k with
   |zero=>
    simp only[List.eraseIdx_cons_zero,List.getElem_cons_zero,List.filter_cons,beq_self_eq_true,Bool.not_true,Bool.false_eq_true,if_false]
    refine(List.filter_eq_self.2 fun x hx=> ?_).symm
    have:x≠y:=fun e=>hn'.1 (e▸hx)
    simpa using this
   |succ k=>
    have hk':k<l.length:=by simpa using hk
    simp only[List.eraseIdx_cons_succ,List.getElem_cons_succ,List.filter_cons]
    have:y≠l[k]:=fun e=>hn'.1 (e▸List.getElem_mem hk')
    rw[if_pos (by simpa using this),ih hn'.2 k hk']
set_option maxHeartbeats 4000000 in
theorem zpS (l:List Lk) (hs:SL l) (hl:l.length<2^30) (hll:∀k∈l,k.line.length<2^30∧k.line.Nodup) (name:ByteArray) (c t:Int) (ht:0≤t∧t<2^62):
  CallOK Tryz.prog 209 [.f (al l.length (zaj l)), .f (ast name), .f (ai c), .f (ai t)]
  (fun r o=>r=[.one (.own 4 (zbV l name c t).1.length (zaj (zbV l name c t).1) false),ri (zbV l name c t).2.1,ri (zbV l name c t).2.2]∧o=[]):=by
 refine CallOK.nil ?_
 refine zh Tryz.func209 Tryz.results209 Tryz.ntmps209 Tryz.call209 ?_
 simp only[Tryz.f209,Option.getD]
 have hco:=ziy l hl (fun k hk=>(hll k hk).1)
 have hfi:=zjx l (by omega) name
 rw[zhm hs]at hfi
 have hwt:IntKind.i64.wrap (t+1)=t+1:=wrap64 (by omega) (by omega)
 cases hf:zdG l name with
 |none=>
  rw[hf]at hfi
  simp only at hfi
  have hm1:decide ((-1:Int)<0)=true:=rfl
  have hfr:zbV l name c t=([],0,6):=by unfold zbV;rw[hf]
  rw[hfr]
  repeat'(first|exact zC|refine zq (I hm1 @zaD) ?_|refine zx (hco) ?_|refine zx (hfi) ?_|(apply zaa<;>intro hb)|(apply I;exact zI)|(apply I<;>intro hg))
  simp[zrg,zaw]
 |some k=>
  rw[hf]at hfi
  simp only at hfi
  obtain⟨⟨hi,he⟩,hn⟩:=zdO hs hf
  have hat:=za9 hi
  rw[he]at hat
  obtain⟨hkl,hkn⟩:=hll k (he▸List.getElem_mem hi)
  have hah:=zjA k.line (by omega) c
  have hm1:decide ((zbB l name:Int)<0)=false:=by simp
  have hat1:(zaj l).drop (zbB l name*4+1)=iD k.holder::iD k.token:: .sl k.line.length (zaB k.line)::zaj (l.drop (zbB l name+1)):=by rw[←List.drop_drop,hat];rfl
  have hat3:(zaj l).drop (zbB l name*4+3)= .sl k.line.length (zaB k.line)::zaj (l.drop (zbB l name+1)):=by rw[←List.drop_drop,hat];rfl
  have hfr:zbV l name c t=if(k.holder==c)=true then((zgw l (zbB l name) k t).1,(zgw l (zbB l name) k t).2,0)else
    if hasI k.line c=true then(l.set (zbB l name) ⟨k.name,k.holder,k.token,(zhk k.line c).1⟩,0,0)else([],0,6):=by unfold zbV;rw[hf]
  cases h1:(k.holder==c)
  ·have h1':(k.holder !=c)=true:=by rw[bne,h1];rfl
   rw[if_neg (by rw[h1];simp)]at hfr
   cases h3:hasI k.line c
   ·rw[if_neg (by rw[h3];simp)]at hfr
    rw[hfr]
    rw[h3]at hah
    repeat'(first|exact zC|refine zq (I hm1 (I h1' (I hat1 (I hat3 (I @zmd (I @List.map_cons.{0,0} (I @zah @zaD))))))) ?_|refine zx (hco) ?_|refine zx (hfi) ?_|refine zx (hah) ?_|(apply zaa<;>intro hb)|(apply I;exact zI)|(apply I<;>intro hg))
    simp[zrg,zaw]
   ·rw[if_pos h3,zlQ hkn h3]at hfr
    rw[hfr]
    rw[h3]at hah
    have hwo:=zjB k.line [c] hkl (by simp)
    have hset:=zgz Lk.enc 4 (fun _=>rfl) hi (k:=3) (by decide) (.sl (za6 k.line [c]).length (zaB (za6 k.line [c]))) ⟨k.name,k.holder,k.token,za6 k.line [c]⟩ (by rw[he];rfl)
    have hwl:(zaB (za6 k.line [c])).take ((za6 k.line [c]).length*1)=zaB (za6 k.line [c]):=List.take_of_length_le (by rw[zaA];omega)
    repeat'(first|exact zC|refine zq (I hm1 (I h1' (I hat1 (I hat3 (I hset (I hwl (I @rowI.eq_1 (I @zaA (I @zmd (I @List.map_cons.{0,0} (I @zah @zaD))))))))))) ?_|refine zx (hco) ?_|refine zx (hfi) ?_|refine zx (hah) ?_|refine zx (hwo) ?_|(apply zaa<;>intro hb)|(apply I;exact zI)|(apply I<;>intro hg))
    simp[zrg,zaw]
  ·have h1':(k.holder !=c)=false:=by rw[bne,h1];rfl
   rw[if_pos h1]at hfr
   rw[hfr]
   unfold zgw
   cases hk:k.line with
   |nil=>
    rw[hk]at hat1 hat3
    simp only[List.length_nil,List.flatMap_nil]at hat1 hat3
    have hE:=ztl Lk.enc 4 (fun _=>rfl) hi
    have hE2:((zaj l).drop ((zbB l name+1)*4)).take ((l.length - (zbB l name+1))*4)=(zaj l).drop ((zbB l name+1)*4):=List.take_of_length_le (by rw[List.length_drop,zah];omega)
    have hz:(((0:Nat):Int)==0)=true:=rfl
    have hw:IntKind.i64.wrap ((zbB l name:Int)+1)=((zbB l name+1:Nat):Int):=by rw[wrap64 (by omega) (by omega)];omega
    have hq1:((zaj l).take (zbB l name*4)).length=zbB l name*4:=by rw[List.length_take,zah];omega
    have hq2:((zaj l).drop ((zbB l name+1)*4)).length=(l.length - (zbB l name+1))*4:=by rw[List.length_drop,zah];omega
    have hB1:(zbB l name*56≤2^47)=True:=eq_true (by omega)
    have hB2:((zbB l name+(l.length - (zbB l name+1)))*56≤2^47)=True:=eq_true (by omega)
    have hB3:(((zbB l name+1:Nat):Int)≤(l.length:Int))=True:=eq_true (by omega)
    have hB4:((zbB l name:Int)≤(l.length:Int))=True:=eq_true (by omega)
    have hB5:(0≤((zbB l name+1:Nat):Int))=True:=eq_true (by omega)
    have hTT:((zaj l).take (zbB l name*4)).take (zbB l name*4)=(zaj l).take (zbB l name*4):=List.take_of_length_le (by omega)
    have hTA:(zaj l).take (zbB l name*4)++(zaj l).drop ((zbB l name+1)*4)=zaj (l.eraseIdx (zbB l name)):=hE.symm
    have hle:(l.eraseIdx (zbB l name)).length=zbB l name+(l.length - (zbB l name+1)):=by rw[List.length_eraseIdx_of_lt hi];omega
    repeat'(first|(with_reducible first|refine zae _ _ ?_|refine zb8 ?_|refine zb9 ?_)|rw[zbD]|simp only[hm1,h1',hat1,hat3,hz,hw,hE2,hq1,hq2,hB1,hB2,hB3,hB4,hB5,hTT,hTA,Int.le_refl,←List.map_drop,List.map_cons,zah,zaD,zY,Int.reduceEq,Int.reduceBEq,Int.reduceBNe,Nat.reduceSub,Nat.reduceEqDiff,Nat.reduceAdd,Nat.reduceMul,Nat.reduceLeDiff,Nat.reduceLT,Nat.reduceBEq,reduceCtorEq]|((first|((try refine zaM ?_);apply zaO)|(apply zaZ;intro _));(solve|exact(hco)|exact(hfi)|(refine CallOK.le (hco) ?_;exact zM)|(refine CallOK.le (hfi) ?_;exact zM)|fail);try case hn=>rfl)|refine za1 ?_|refine zaa (fun hb=> ?_) (fun hb=> ?_)|(refine And.intro ?_ ?_;exact zI)|refine And.intro (fun hg=> ?_) (fun hg=> ?_)|exact zC|fail)
    simp[zrg,zaw,hle]
   |cons x rest=>
    rw[hk]at hat1 hat3
    have hz:(((rest.length+1:Nat):Int)==0)=false:=by simp;omega
    have hrl:rest.length<2^30:=by rw[hk,List.length_cons]at hkl;omega
    have hn1:rest.length+1 - 1=rest.length:=rfl
    have hT:(zaB rest).take rest.length=zaB rest:=List.take_of_length_le (by rw[zaA];exact Nat.le_refl _)
    have hBr:(rest.length*8≤2^47)=True:=eq_true (by omega)
    have hnx:=List.nodup_cons.1 (hk▸hkn)
    have hset1:=zgz Lk.enc 4 (fun _=>rfl) hi (k:=1) (by decide) (iD x) ⟨k.name,x,k.token,x::rest⟩ (by rw[he,←hk];rfl)
    obtain⟨l1,hl1⟩:∃l1,l1=l.set (zbB l name) ⟨k.name,x,k.token,x::rest⟩:=⟨_,rfl⟩
    have hi1:zbB l name<l1.length:=by rw[hl1];simpa using hi
    have hg1:l1[zbB l name]=⟨k.name,x,k.token,x::rest⟩:=by simp[hl1]
    have hset2:=zgz Lk.enc 4 (fun _=>rfl) hi1 (k:=3) (by decide) (.sl rest.length (zaB rest)) ⟨k.name,x,k.token,rest⟩ (by rw[hg1];rfl)
    obtain⟨l2,hl2⟩:∃l2,l2=l1.set (zbB l name) ⟨k.name,x,k.token,rest⟩:=⟨_,rfl⟩
    have hi2:zbB l name<l2.length:=by rw[hl2];simpa using hi1
    have hg2:l2[zbB l name]=⟨k.name,x,k.token,rest⟩:=by simp[hl2]
    have hset3:=zgz Lk.enc 4 (fun _=>rfl) hi2 (k:=2) (by decide) (iD (t+1)) ⟨k.name,x,t+1,rest⟩ (by rw[hg2];rfl)
    have hl3:l2.set (zbB l name) ⟨k.name,x,t+1,rest⟩=l.set (zbB l name) ⟨k.name,x,t+1,rest⟩:=by rw[hl2,hl1,List.set_set,List.set_set]
    rw[←hl1]at hset1
    rw[←hl2]at hset2
    rw[hl3]at hset3
    have hat3':=za9 hi1
    rw[hg1]at hat3'
    have hat3':(zaj l1).drop (zbB l name*4+3)= .sl (x::rest).length (zaB (x::rest))::zaj (l1.drop (zbB l name+1)):=by rw[←List.drop_drop,hat3'];rfl
    have hll1:l1.length=l.length:=by rw[hl1,List.length_set]
    repeat'(first|exact zC|refine zq (I hm1 (I h1' (I hat1 (I hat3 (I hat3' (I hz (I hwt (I hset1 (I hset2 (I hset3 (I @zaA (I hn1 (I hT (I hBr (I hll1 (I @zmd (I @List.map_cons.{0,0} (I @zah @zaD)))))))))))))))))) ?_|refine zx (hco) ?_|refine zx (hfi) ?_|(apply zaa<;>intro hb)|(apply I;exact zI)|(apply I<;>intro hg))
    simp[zrg,zaw]
end Go.Proofs.YtliimajkpggbhaaGreat
