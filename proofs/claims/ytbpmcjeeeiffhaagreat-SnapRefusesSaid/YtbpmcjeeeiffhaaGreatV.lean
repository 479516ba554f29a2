import Derived.Test.YtbpmcjeeeiffhaaGreatK8
import Derived.Test.YtbpmcjeeeiffhaaGreatN
namespace Go.Proofs.YtbpmcjeeeiffhaaGreat
open Go.Pk
set_option maxRecDepth 100000
set_option linter.unusedSimpArgs false
set_option linter.unusedVariables false
def curL (l:List Lk) (gone:List Int) (i:Nat):List Lk:=(l.take i).map (lockWithout gone)++l.drop i
theorem zoG {l:List Lk} {gone:List Int} {i:Nat} (hi:i≤l.length):(curL l gone i).length=l.length:=by
 unfold curL
 rw[List.length_append,List.length_map,List.length_take,List.length_drop];omega
theorem zqp {l:List Lk} {gone:List Int} {i:Nat} (hi:i<l.length):∃h:i<(curL l gone i).length,(curL l gone i)[i]=l[i]:=by
 have hl:((l.take i).map (lockWithout gone)).length=i:=by rw[List.length_map,List.length_take];omega
 have h:(curL l gone i)[i]? =some l[i]:=by
  unfold curL
  rw[List.getElem?_append_right (by omega),hl,Nat.sub_self,List.getElem?_drop,Nat.add_zero,List.getElem?_eq_getElem hi]
 exact ziP h
theorem zni {l:List Lk} {gone:List Int} {i:Nat} (hi:i<l.length):(curL l gone i).set i (lockWithout gone l[i])=curL l gone (i+1):=by
 have hl:((l.take i).map (lockWithout gone)).length=i:=by rw[List.length_map,List.length_take];omega
 unfold curL
 rw[List.set_append_right _ _ (by omega),hl,Nat.sub_self,List.drop_eq_getElem_cons hi,List.set_cons_zero,List.take_add_one,List.getElem?_eq_getElem hi]
 simp only[Option.toList,List.map_append,List.map_cons,List.map_nil,List.append_assoc,List.cons_append,List.nil_append]
theorem zoH (l:List Lk) (gone:List Int):curL l gone l.length=l.map (lockWithout gone):=by
 unfold curL
 rw[List.take_length,List.drop_length,List.append_nil]
theorem zlm {gone:List Int} {t:Int} {L:List Lk} {i:Nat} {g:Int} (hi:i<L.length):dropR gone t (L.drop i) g=if hasI gone L[i].holder=true then
   match L[i].line with
   |[]=>dropR gone t (L.drop (i+1)) g
   |c::rest=>(⟨L[i].name,c,t+g+1,rest⟩::(dropR gone t (L.drop (i+1)) (g+1)).1,(dropR gone t (L.drop (i+1)) (g+1)).2)
  else(L[i]::(dropR gone t (L.drop (i+1)) g).1,(dropR gone t (L.drop (i+1)) g).2):=by
 rw[List.drop_eq_getElem_cons hi,dropR]
 cases L[i].line<;>rfl
end Go.Proofs.YtbpmcjeeeiffhaaGreat
namespace Go.Proofs.YtbpmcjeeeiffhaaGreat
open Go.Pk
set_option maxRecDepth 100000
set_option linter.unusedSimpArgs false
set_option linter.unusedVariables false
theorem zjE {a b:Int}:(a==b)=(b==a):=by rw[Bool.eq_iff_iff,beq_iff_eq,beq_iff_eq];exact eq_comm
theorem zq4 (l:List Int) (hl:l.length<2^62) (x:Int):CallOK Tryz.prog 132 [.f (al l.length (intsE l)), .f (ai x)] (fun r o=>r=[rb (hasI l x)]∧o=[]):=by
 refine zae zat mixed (T:=Ty) (n:=18) Tryz.func132 (c:=Tryz.f132.body.getD .skip) rfl Tryz.results132 Tryz.ntmps132 Tryz.call132 ?_
 simp only[Tryz.f132,Option.getD]
 repeat'(first|refine zq0 ?_|exact zd0|refine zaa ?_|refine zab (fun hb=> ?_) (fun hb=> ?_)|(refine And.intro ?_ ?_;exact zI)|refine And.intro (fun hg=> ?_) (fun hg=> ?_)|exact zC|fail)
 refine zaq (τ:=Nat) (fun i=>⟨[al l.length (intsE l),ai x,dd,dd,dd,ai i,dd,dd,dd,dd,dd,dd,dd,dd,dd,dd,dd,dd],[]⟩)
  (fun i=>i≤l.length) (fun i=>hasI (l.drop i) x) (fun i=>l.length - i) 0
  (Gh.canon [] [] [] zK rfl rfl) (Nat.zero_le _) ?_
 intro i hi0 hF K hK
 rw[List.drop_zero]at hF
 refine zw ?_
 refine zab (fun hlt=> ?_) (fun hge=> ?_)
 ·have hi:i<l.length:=by simpa using hlt
  have hat:=zbE hi
  have hw:=zar hi hl
  have hq:hasI (l.drop i) x=(l[i]==x||hasI (l.drop (i+1)) x):=by rw[List.drop_eq_getElem_cons hi];unfold hasI;rw[List.any_cons,zjE]
  rw[hq]at hF
  repeat'(first|refine zq (I hat (I @List.cons_append.{0} (I @List.nil_append.{0} @zao))) ?_|exact zd (I hat (I @List.cons_append.{0} (I @List.nil_append.{0} @zao)))|refine zaa ?_|refine zab (fun hb=> ?_) (fun hb=> ?_)|(refine And.intro ?_ ?_;exact zI)|refine And.intro (fun hg=> ?_) (fun hg=> ?_)|exact zC|fail)
  ·rw[hb]at hF
   rw[←hF];rfl
  ·rw[hb]at hq
   exact hK _ (i+1) (Gh.canon [] [] [] (by simp only[hw,zah,zau,zai,zak,zal,zam,List.set_cons_zero,List.set_cons_succ,and_true,true_and,Int.natCast_zero,Int.cast_ofNat_Int,D.v.injEq,Value.int.injEq];try(repeat'(first|rfl|omega|with_reducible apply And.intro))) rfl rfl) hi (by rw[hq];rfl) (by omega)
 ·have hi:i=l.length:=by
   have:¬(i:Int)<l.length:=by simpa using hge
   omega
  rw[hi,List.drop_length]at hF
  rw[←hF]
  repeat'(first|refine zq0 ?_|exact zd0|refine zaa ?_|refine zab (fun hb=> ?_) (fun hb=> ?_)|(refine And.intro ?_ ?_;exact zI)|refine And.intro (fun hg=> ?_) (fun hg=> ?_)|exact zC|fail)
  rfl
abbrev sessRF (x:Sess):RF:= .agg [.d (iD x.client), .d (iD x.num), .d (iD x.renewed)]
theorem zc2 (l:List Sess) (hl:l.length<2^62) (c:Int):CallOK Tryz.prog 62 [.f (al l.length (sessE l)), .f (ai c)]
  (fun r o=>r=[sessRF ((findS l c).getD noSess),rb (findS l c).isSome]∧o=[]):=by
 refine zae zat mixed (T:=Ty) (n:=25) Tryz.func62 (c:=Tryz.f62.body.getD .skip) rfl Tryz.results62 Tryz.ntmps62 Tryz.call62 ?_
 simp only[Tryz.f62,Option.getD]
 repeat'(first|refine zq0 ?_|exact zd0|refine zaa ?_|refine zab (fun hb=> ?_) (fun hb=> ?_)|(refine And.intro ?_ ?_;exact zI)|refine And.intro (fun hg=> ?_) (fun hg=> ?_)|exact zC|fail)
 refine zaq (τ:=Nat) (fun i=>⟨[al l.length (sessE l),ai c,dd,dd, .one (.ptr ⟨4,0,1⟩ 0),dd,ai i,dd,dd,dd,dd,dd,dd,dd,dd,dd,dd,dd,dd,dd,dd,dd,dd,dd,dd],[(4,{next:=2,l:=[some {e:=1,var:=true,fz:=false,sz:=0,cells:=[di 0,di 0,di 0]},none,none,none]})]⟩)
  (fun i=>i≤l.length) (fun i=>findS (l.drop i) c) (fun i=>l.length - i) 0
  (Gh.canon [4] [] [] zK rfl rfl) (Nat.zero_le _) ?_
 intro i hi0 hF K hK
 rw[List.drop_zero]at hF
 refine zw ?_
 refine zab (fun hlt=> ?_) (fun hge=> ?_)
 ·have hi:i<l.length:=by simpa using hlt
  have hat:=zbl hi
  have hw:=zar hi hl
  have hq:findS (l.drop i) c=if(l[i].client==c)=true then some l[i]else findS (l.drop (i+1)) c:=by
   unfold findS
   rw[List.drop_eq_getElem_cons hi,List.find?_cons]
   cases l[i].client==c<;>rfl
  rw[hq]at hF
  repeat'(first|refine zq (I hat (I @List.cons_append.{0} (I @List.nil_append.{0} @zav))) ?_|exact zd (I hat (I @List.cons_append.{0} (I @List.nil_append.{0} @zav)))|refine zaa ?_|refine zab (fun hb=> ?_) (fun hb=> ?_)|(refine And.intro ?_ ?_;exact zI)|refine And.intro (fun hg=> ?_) (fun hg=> ?_)|exact zC|fail)
  ·rw[if_pos hb]at hF
   rw[←hF];rfl
  ·rw[if_neg (by rw[hb];simp)]at hq
   exact hK _ (i+1) (Gh.canon [4] [] [] (by simp only[hw,zah,zau,zai,zak,zal,zam,List.set_cons_zero,List.set_cons_succ,and_true,true_and,Int.natCast_zero,Int.cast_ofNat_Int,D.v.injEq,Value.int.injEq];try(repeat'(first|rfl|omega|with_reducible apply And.intro))) rfl rfl) hi hq.symm (by omega)
 ·have hi:i=l.length:=by
   have:¬(i:Int)<l.length:=by simpa using hge
   omega
  rw[hi,List.drop_length]at hF
  rw[←hF]
  repeat'(first|refine zq0 ?_|exact zd0|refine zaa ?_|refine zab (fun hb=> ?_) (fun hb=> ?_)|(refine And.intro ?_ ?_;exact zI)|refine And.intro (fun hg=> ?_) (fun hg=> ?_)|exact zC|fail)
  rfl
theorem zga (l:List Lk) (hl:l.length<2^62) (s:ByteArray):CallOK Tryz.prog 180 [.f (al l.length (locksE l)), .f (ast s)] (fun r o=>r=[ri (idxF (isL s) l 0)]∧o=[]):=by
 refine zae zat mixed (T:=Ty) (n:=20) Tryz.func180 (c:=Tryz.f180.body.getD .skip) rfl Tryz.results180 Tryz.ntmps180 Tryz.call180 ?_
 simp only[Tryz.f180,Option.getD]
 repeat'(first|refine zq0 ?_|exact zd0|refine zaa ?_|refine zab (fun hb=> ?_) (fun hb=> ?_)|(refine And.intro ?_ ?_;exact zI)|refine And.intro (fun hg=> ?_) (fun hg=> ?_)|exact zC|fail)
 refine zaq (τ:=Nat) (fun i=>⟨[al l.length (locksE l),ast s,dd,dd,dd,ai i,dd,dd,dd,dd,dd,dd,dd,dd,dd,dd,dd,dd,dd,dd],[]⟩)
  (fun i=>i≤l.length) (fun i=>idxF (isL s) (l.drop i) i) (fun i=>l.length - i) 0
  (Gh.canon [] [] [] zK rfl rfl) (Nat.zero_le _) ?_
 intro i hi0 hF K hK
 rw[List.drop_zero]at hF
 refine zw ?_
 refine zab (fun hlt=> ?_) (fun hge=> ?_)
 ·have hi:i<l.length:=by simpa using hlt
  have hat:=zaN hi
  have hw:=zar hi hl
  have hq:idxF (isL s) (l.drop i) i=if(l[i].name.toList==s.toList)=true then(i:Int)else idxF (isL s) (l.drop (i+1)) ((i+1:Nat):Int):=by
   rw[List.drop_eq_getElem_cons hi,idxF];rfl
  rw[hq]at hF
  repeat'(first|refine zq (I hat (I @List.cons_append.{0} (I @List.nil_append.{0} @zaf))) ?_|exact zd (I hat (I @List.cons_append.{0} (I @List.nil_append.{0} @zaf)))|refine zaa ?_|refine zab (fun hb=> ?_) (fun hb=> ?_)|(refine And.intro ?_ ?_;exact zI)|refine And.intro (fun hg=> ?_) (fun hg=> ?_)|exact zC|fail)
  ·rw[if_pos hb]at hF
   have hF:(i:Int)=idxF (isL s) l 0:=hF
   rw[←hF]
  ·rw[if_neg (by rw[hb];simp)]at hq
   exact hK _ (i+1) (Gh.canon [] [] [] (by simp only[hw,zah,zau,zai,zak,zal,zam,List.set_cons_zero,List.set_cons_succ,and_true,true_and,Int.natCast_zero,Int.cast_ofNat_Int,D.v.injEq,Value.int.injEq];try(repeat'(first|rfl|omega|with_reducible apply And.intro))) rfl rfl) hi hq.symm (by omega)
 ·have hi:i=l.length:=by
   have:¬(i:Int)<l.length:=by simpa using hge
   omega
  rw[hi,List.drop_length]at hF
  have hF:(-1:Int)=idxF (isL s) l 0:=hF
  rw[←hF]
  repeat'(first|refine zq0 ?_|exact zd0|refine zaa ?_|refine zab (fun hb=> ?_) (fun hb=> ?_)|(refine And.intro ?_ ?_;exact zI)|refine And.intro (fun hg=> ?_) (fun hg=> ?_)|exact zC|fail)
end Go.Proofs.YtbpmcjeeeiffhaaGreat
namespace Go.Proofs.YtbpmcjeeeiffhaaGreat
open Go.Pk
set_option maxRecDepth 100000
set_option linter.unusedSimpArgs false
set_option linter.unusedVariables false
theorem zgc (v a:Int):CallOK Tryz.prog 78 [.f (ai v), .f (ai a)] (fun r o=>r=[rb (decide (v≥a)&&decide (v≤2305843009213693952))]∧o=[]):=by
 refine zae zat mixed (T:=Ty) (n:=12) Tryz.func78 (c:=Tryz.f78.body.getD .skip) rfl Tryz.results78 Tryz.ntmps78 Tryz.call78 ?_
 simp only[Tryz.f78,Option.getD]
 repeat'(first|refine zq0 ?_|exact zd0|refine zaa ?_|refine zab (fun hb=> ?_) (fun hb=> ?_)|(refine And.intro ?_ ?_;exact zI)|refine And.intro (fun hg=> ?_) (fun hg=> ?_)|exact zC|fail)
theorem zls (c:Int):CallOK Tryz.prog 129 [.f (ai c)] (fun r o=>r=[rb (isClient c)]∧o=[]):=by
 refine zae zat mixed (T:=Ty) (n:=9) Tryz.func129 (c:=Tryz.f129.body.getD .skip) rfl Tryz.results129 Tryz.ntmps129 Tryz.call129 ?_
 simp only[Tryz.f129,Option.getD]
 repeat'(first|refine zq0 ?_|exact zd0|refine zaa ?_|refine zab (fun hb=> ?_) (fun hb=> ?_)|(refine And.intro ?_ ?_;exact zI)|refine And.intro (fun hg=> ?_) (fun hg=> ?_)|exact zC|fail)
 rfl
theorem zgd (l:List Int) (hl:l.length<2^62) (c:Int):CallOK Tryz.prog 181 [.f (al l.length (intsE l)), .f (ai c)] (fun r o=>r=[ri (aheadP l c),rb (hasI l c)]∧o=[]):=by
 refine zae zat mixed (T:=Ty) (n:=20) Tryz.func181 (c:=Tryz.f181.body.getD .skip) rfl Tryz.results181 Tryz.ntmps181 Tryz.call181 ?_
 simp only[Tryz.f181,Option.getD]
 have hh:hasI l c=decide (idxF (fun x=>c==x) l 0≥0):=(zfA _ l).symm
 rw[hh]
 unfold aheadP
 repeat'(first|refine zq0 ?_|exact zd0|refine zaa ?_|refine zab (fun hb=> ?_) (fun hb=> ?_)|(refine And.intro ?_ ?_;exact zI)|refine And.intro (fun hg=> ?_) (fun hg=> ?_)|exact zC|fail)
 refine zaq (τ:=Nat) (fun i=>⟨[al l.length (intsE l),ai c,dd,dd,dd,dd,ai i,dd,dd,dd,dd,dd,dd,dd,dd,dd,dd,dd,dd,dd],[]⟩)
  (fun i=>i≤l.length) (fun i=>idxF (fun x=>c==x) (l.drop i) i) (fun i=>l.length - i) 0
  (Gh.canon [] [] [] zK rfl rfl) (Nat.zero_le _) ?_
 intro i hi0 hF K hK
 rw[List.drop_zero]at hF
 refine zw ?_
 refine zab (fun hlt=> ?_) (fun hge=> ?_)
 ·have hi:i<l.length:=by simpa using hlt
  have hat:=zbE hi
  have hw:=zar hi hl
  have hq:idxF (fun x=>c==x) (l.drop i) i=if(l[i]==c)=true then(i:Int)else idxF (fun x=>c==x) (l.drop (i+1)) ((i+1:Nat):Int):=by
   rw[List.drop_eq_getElem_cons hi,idxF,zjE];rfl
  rw[hq]at hF
  repeat'(first|refine zq (I hat (I @List.cons_append.{0} (I @List.nil_append.{0} @zao))) ?_|exact zd (I hat (I @List.cons_append.{0} (I @List.nil_append.{0} @zao)))|refine zaa ?_|refine zab (fun hb=> ?_) (fun hb=> ?_)|(refine And.intro ?_ ?_;exact zI)|refine And.intro (fun hg=> ?_) (fun hg=> ?_)|exact zC|fail)
  ·rw[if_pos hb]at hF
   have hF:(i:Int)=idxF (fun x=>c==x) l 0:=hF
   rw[←hF,if_pos (by omega)]
   simp
  ·rw[if_neg (by rw[hb];simp)]at hq
   exact hK _ (i+1) (Gh.canon [] [] [] (by simp only[hw,zah,zau,zai,zak,zal,zam,List.set_cons_zero,List.set_cons_succ,and_true,true_and,Int.natCast_zero,Int.cast_ofNat_Int,D.v.injEq,Value.int.injEq];try(repeat'(first|rfl|omega|with_reducible apply And.intro))) rfl rfl) hi hq.symm (by omega)
 ·have hi:i=l.length:=by
   have:¬(i:Int)<l.length:=by simpa using hge
   omega
  rw[hi,List.drop_length]at hF
  have hF:(-1:Int)=idxF (fun x=>c==x) l 0:=hF
  rw[←hF]
  repeat'(first|refine zq0 ?_|exact zd0|refine zaa ?_|refine zab (fun hb=> ?_) (fun hb=> ?_)|(refine And.intro ?_ ?_;exact zI)|refine And.intro (fun hg=> ?_) (fun hg=> ?_)|exact zC|fail)
  rfl
theorem zge (l gone:List Int) (hl:l.length<2^30) (hg:gone.length<2^30):CallOK Tryz.prog 178 [.f (al l.length (intsE l)), .f (al gone.length (intsE gone))] (fun r o=>r=[rowI (withoutP l gone)]∧o=[]):=by
 refine CallOK.nil ?_
 refine zae zat mixed (T:=Ty) (n:=28) Tryz.func178 (c:=Tryz.f178.body.getD .skip) rfl Tryz.results178 Tryz.ntmps178 Tryz.call178 ?_
 simp only[Tryz.f178,Option.getD]
 repeat'(first|refine zq0 ?_|exact zd0|refine zaa ?_|refine zab (fun hb=> ?_) (fun hb=> ?_)|(refine And.intro ?_ ?_;exact zI)|refine And.intro (fun hg=> ?_) (fun hg=> ?_)|exact zC|fail)
 refine zaq (τ:=Nat×List Int) (fun t=>⟨[al l.length (intsE l),al gone.length (intsE gone),dd,dd,dd, .one (.own ⟨5,1,1⟩ 0 t.2.length),ai t.1,dd,dd,dd,dd,dd,dd,dd,dd,dd,dd,dd,dd,dd,dd,dd,dd,dd,dd,dd,dd,dd],[(5,{next:=2,l:=[none,some {e:=1,var:=false,fz:=false,sz:=1,cells:=(intsE t.2).map C.d}]}),(25,⟨2,[]⟩),(26,⟨2,[]⟩)]⟩)
  (fun t=>t.1≤l.length∧t.2.length≤t.1) (fun t=>t.2++withoutP (l.drop t.1) gone) (fun t=>l.length - t.1) (0,[])
  ((Gh.nil (i:=5) (s:=5) (sz:=1) rfl).trans (Gh.canon [5] [25,26] [] zK rfl rfl)) ⟨Nat.zero_le _,Nat.zero_le _⟩ ?_
 intro⟨i,acc⟩ ⟨hi0,hac⟩ hF K hK
 simp only[List.drop_zero,List.nil_append]at hi0 hac hF hK⊢
 refine zw ?_
 refine zab (fun hlt=> ?_) (fun hge=> ?_)
 ·have hi:i<l.length:=by simpa using hlt
  have hat:=zbE hi
  have hw:=zar hi (by omega)
  have hin:=zq4 gone (by omega) l[i]
  have hFs:withoutP (l.drop i) gone=if(!hasI gone l[i])=true then l[i]::withoutP (l.drop (i+1)) gone else withoutP (l.drop (i+1)) gone:=by
   unfold withoutP
   rw[List.drop_eq_getElem_cons hi,List.filter_cons]
  cases hb:(!hasI gone l[i])
  ·rw[hb,if_neg (by simp)]at hFs
   repeat'(first|refine zq (I hat (I hb (I @List.cons_append.{0} (I @List.nil_append.{0} @zao)))) ?_|exact zd (I hat (I hb (I @List.cons_append.{0} (I @List.nil_append.{0} @zao))))|refine zc (hin) ?_|refine zg (hin) ?_|refine zaa ?_|refine zab (fun hb=> ?_) (fun hb=> ?_)|(refine And.intro ?_ ?_;exact zI)|refine And.intro (fun hg=> ?_) (fun hg=> ?_)|exact zC|fail)
   exact hK _ (i+1,acc) (Gh.canon [5] [] [] (by simp only[hw,zah,zau,zai,zak,zal,zam,List.set_cons_zero,List.set_cons_succ,and_true,true_and,Int.natCast_zero,Int.cast_ofNat_Int,D.v.injEq,Value.int.injEq];try(repeat'(first|rfl|omega|with_reducible apply And.intro))) rfl rfl) ⟨hi,by simp only;omega⟩ (by simp only;rw[hFs]) (by simp only;omega)
  ·rw[hb,if_pos rfl]at hFs
   repeat'(first|refine zq (I hat (I hb (I @List.cons_append.{0} (I @List.nil_append.{0} @zao)))) ?_|exact zd (I hat (I hb (I @List.cons_append.{0} (I @List.nil_append.{0} @zao))))|refine zc (hin) ?_|refine zg (hin) ?_|refine zaa ?_|refine zab (fun hb=> ?_) (fun hb=> ?_)|(refine And.intro ?_ ?_;exact zI)|refine And.intro (fun hg=> ?_) (fun hg=> ?_)|exact zC|fail)
   exact hK _ (i+1,acc++[l[i]]) (Gh.canon [5] [] [] (by simp only[hw,List.length_append,List.length_singleton,zah,zau,zai,zak,zal,zam,List.set_cons_zero,List.set_cons_succ,and_true,true_and,Int.natCast_zero,Int.cast_ofNat_Int,D.v.injEq,Value.int.injEq];try(repeat'(first|rfl|omega|with_reducible apply And.intro))) rfl (by simp only[List.length_append,List.length_singleton];rw[zeS];rfl)) ⟨hi,by simp only[List.length_append,List.length_singleton];omega⟩ (by simp only[List.append_assoc,List.singleton_append];rw[hFs]) (by simp only;omega)
 ·have hi:i=l.length:=by
   have:¬(i:Int)<l.length:=by simpa using hge
   omega
  rw[hi,List.drop_length]at hF
  have hF:acc++[]=withoutP l gone:=hF
  rw[←hF,List.append_nil]
  repeat'(first|refine zq0 ?_|exact zd0|refine zaa ?_|refine zab (fun hb=> ?_) (fun hb=> ?_)|(refine And.intro ?_ ?_;exact zI)|refine And.intro (fun hg=> ?_) (fun hg=> ?_)|exact zC|fail)
  simp[rfs1,roLe,rowI]
abbrev dueR (l:List Sess) (now lease:Int):List Int:=(l.filter fun s=>decide (now - s.renewed≥lease)).map Sess.client
theorem zqs (l:List Sess) (hl:l.length<2^30) (now lease:Int) (hr:∀s∈l,0≤s.renewed∧s.renewed≤High) (hn:0≤now∧now≤High):CallOK Tryz.prog 97 [.f (al l.length (sessE l)), .f (ai now), .f (ai lease)] (fun r o=>r=[rowI (dueP l now lease)]∧o=[]):=by
 refine CallOK.nil ?_
 refine zae zat mixed (T:=Ty) (n:=41) Tryz.func97 (c:=Tryz.f97.body.getD .skip) rfl Tryz.results97 Tryz.ntmps97 Tryz.call97 ?_
 simp only[Tryz.f97,Option.getD]
 have hg1:=zgc now 0
 have hg2:=zgc lease 0
 rw[show(decide (now≥0)&&decide (now≤2305843009213693952))=true by have:High=2305843009213693952:=rfl;simp;omega]at hg1
 cases hle:(decide (lease≥0)&&decide (lease≤2305843009213693952))
 ·rw[hle]at hg2
  have hd:dueP l now lease=[]:=by
   unfold dueP
   rw[if_pos]
   have:High=2305843009213693952:=rfl
   simp at hle⊢
   omega
  rw[hd]
  repeat'(first|refine zq0 ?_|exact zd0|refine zc (hg1) ?_|refine zg (hg1) ?_|refine zc (hg2) ?_|refine zg (hg2) ?_|refine zaa ?_|refine zab (fun hb=> ?_) (fun hb=> ?_)|(refine And.intro ?_ ?_;exact zI)|refine And.intro (fun hg=> ?_) (fun hg=> ?_)|exact zC|fail)
  simp[rfs1,roLe,rowI]
 rw[hle]at hg2
 have hd:dueP l now lease=dueR l now lease:=by
  unfold dueP
  rw[if_neg]
  have:High=2305843009213693952:=rfl
  simp at hle⊢
  omega
 rw[hd]
 repeat'(first|refine zq0 ?_|exact zd0|refine zc (hg1) ?_|refine zg (hg1) ?_|refine zc (hg2) ?_|refine zg (hg2) ?_|refine zaa ?_|refine zab (fun hb=> ?_) (fun hb=> ?_)|(refine And.intro ?_ ?_;exact zI)|refine And.intro (fun hg=> ?_) (fun hg=> ?_)|exact zC|fail)
 refine zaq (τ:=Nat×List Int) (fun t=>⟨[al l.length (sessE l),ai now,ai lease,dd,dd,dd,dd, .one (.own ⟨7,1,1⟩ 0 t.2.length),ai t.1,dd,dd,dd,dd,dd,dd,dd,dd,dd,dd,dd,dd,dd,dd,dd,dd,dd,dd,dd,dd,dd,dd,dd,dd,dd,dd,dd,dd,dd,dd,dd,dd],[(7,{next:=2,l:=[none,some {e:=1,var:=false,fz:=false,sz:=1,cells:=(intsE t.2).map C.d}]}),(38,⟨2,[]⟩),(39,⟨2,[]⟩)]⟩)
  (fun t=>t.1≤l.length∧t.2.length≤t.1) (fun t=>t.2++dueR (l.drop t.1) now lease) (fun t=>l.length - t.1) (0,[])
  ((Gh.nil (i:=7) (s:=7) (sz:=1) rfl).trans (Gh.canon [7] [38,39] [] zK rfl rfl)) ⟨Nat.zero_le _,Nat.zero_le _⟩ ?_
 intro⟨i,acc⟩ ⟨hi0,hac⟩ hF K hK
 simp only[List.drop_zero,List.nil_append]at hi0 hac hF hK⊢
 refine zw ?_
 refine zab (fun hlt=> ?_) (fun hge=> ?_)
 ·have hi:i<l.length:=by simpa using hlt
  have hat:=zbl hi
  have hw:=zar hi (by omega)
  have hrb:=hr _ (List.getElem_mem hi)
  have hH:High=2305843009213693952:=rfl
  have hw2:IntKind.i64.wrap (now - l[i].renewed)=now - l[i].renewed:=wrap64 (by omega) (by omega)
  have hFs:dueR (l.drop i) now lease=if(decide (now - l[i].renewed≥lease))=true then l[i].client::dueR (l.drop (i+1)) now lease else dueR (l.drop (i+1)) now lease:=by
   unfold dueR
   rw[List.drop_eq_getElem_cons hi,List.filter_cons]
   split<;>simp
  cases hb:(decide (now - l[i].renewed≥lease))
  ·rw[hb,if_neg (by simp)]at hFs
   repeat'(first|refine zq (I hat (I hb (I hw2 (I @List.cons_append.{0} (I @List.nil_append.{0} @zav))))) ?_|exact zd (I hat (I hb (I hw2 (I @List.cons_append.{0} (I @List.nil_append.{0} @zav)))))|refine zaa ?_|refine zab (fun hb=> ?_) (fun hb=> ?_)|(refine And.intro ?_ ?_;exact zI)|refine And.intro (fun hg=> ?_) (fun hg=> ?_)|exact zC|fail)
   exact hK _ (i+1,acc) (Gh.canon [7] [] [] (by simp only[hw,zah,zau,zai,zak,zal,zam,List.set_cons_zero,List.set_cons_succ,and_true,true_and,Int.natCast_zero,Int.cast_ofNat_Int,D.v.injEq,Value.int.injEq];try(repeat'(first|rfl|omega|with_reducible apply And.intro))) rfl rfl) ⟨hi,by simp only;omega⟩ (by simp only;rw[hFs]) (by simp only;omega)
  ·rw[hb,if_pos rfl]at hFs
   repeat'(first|refine zq (I hat (I hb (I hw2 (I @List.cons_append.{0} (I @List.nil_append.{0} @zav))))) ?_|exact zd (I hat (I hb (I hw2 (I @List.cons_append.{0} (I @List.nil_append.{0} @zav)))))|refine zaa ?_|refine zab (fun hb=> ?_) (fun hb=> ?_)|(refine And.intro ?_ ?_;exact zI)|refine And.intro (fun hg=> ?_) (fun hg=> ?_)|exact zC|fail)
   exact hK _ (i+1,acc++[l[i].client]) (Gh.canon [7] [] [] (by simp only[hw,List.length_append,List.length_singleton,zah,zau,zai,zak,zal,zam,List.set_cons_zero,List.set_cons_succ,and_true,true_and,Int.natCast_zero,Int.cast_ofNat_Int,D.v.injEq,Value.int.injEq];try(repeat'(first|rfl|omega|with_reducible apply And.intro))) rfl (by simp only[List.length_append,List.length_singleton];rw[zeS];rfl)) ⟨hi,by simp only[List.length_append,List.length_singleton];omega⟩ (by simp only[List.append_assoc,List.singleton_append];rw[hFs]) (by simp only;omega)
 ·have hi:i=l.length:=by
   have:¬(i:Int)<l.length:=by simpa using hge
   omega
  rw[hi,List.drop_length]at hF
  have hF:acc++[]=dueR l now lease:=hF
  rw[←hF,List.append_nil]
  repeat'(first|refine zq0 ?_|exact zd0|refine zaa ?_|refine zab (fun hb=> ?_) (fun hb=> ?_)|(refine And.intro ?_ ?_;exact zI)|refine And.intro (fun hg=> ?_) (fun hg=> ?_)|exact zC|fail)
  simp[rfs1,roLe,rowI]
theorem zoM (l:List Lk) (hl:l.length<2^30) (c:Int):CallOK Tryz.prog 182 [.f (al l.length (locksE l)), .f (ai c)] (fun r o=>r=[.one (.own 2 (heldP l c).length (grantsE (heldP l c)) false)]∧o=[]):=by
 refine CallOK.nil ?_
 refine zae zat mixed (T:=Ty) (n:=35) Tryz.func182 (c:=Tryz.f182.body.getD .skip) rfl Tryz.results182 Tryz.ntmps182 Tryz.call182 ?_
 simp only[Tryz.f182,Option.getD]
 repeat'(first|refine zq0 ?_|exact zd0|refine zaa ?_|refine zab (fun hb=> ?_) (fun hb=> ?_)|(refine And.intro ?_ ?_;exact zI)|refine And.intro (fun hg=> ?_) (fun hg=> ?_)|exact zC|fail)
 refine zaq (τ:=Nat×List Grant) (fun t=>⟨[al l.length (locksE l),ai c,dd,dd,dd, .one (.own ⟨5,1,1⟩ 0 t.2.length),ai t.1,dd,dd,dd,dd,dd,dd,dd,dd,dd,dd,dd,dd,dd,dd,dd,dd,dd,dd,dd,dd,dd,dd,dd,dd,dd,dd,dd,dd],[(5,{next:=2,l:=[none,some {e:=1,var:=false,fz:=false,sz:=2,cells:=(grantsE t.2).map C.d}]}),(32,⟨2,[]⟩),(33,⟨2,[]⟩)]⟩)
  (fun t=>t.1≤l.length∧t.2.length≤t.1) (fun t=>t.2++heldP (l.drop t.1) c) (fun t=>l.length - t.1) (0,[])
  ((Gh.nil (i:=5) (s:=5) (sz:=2) rfl).trans (Gh.canon [5] [32,33] [] zK rfl rfl)) ⟨Nat.zero_le _,Nat.zero_le _⟩ ?_
 intro⟨i,acc⟩ ⟨hi0,hac⟩ hF K hK
 simp only[List.drop_zero,List.nil_append]at hi0 hac hF hK⊢
 refine zw ?_
 refine zab (fun hlt=> ?_) (fun hge=> ?_)
 ·have hi:i<l.length:=by simpa using hlt
  have hat:=zaN hi
  have hw:=zar hi (by omega)
  have hFs:heldP (l.drop i) c=if(l[i].holder==c)=true then⟨l[i].name,l[i].token⟩::heldP (l.drop (i+1)) c else heldP (l.drop (i+1)) c:=by
   unfold heldP
   rw[List.drop_eq_getElem_cons hi,List.filter_cons]
   split<;>simp
  cases hb:(l[i].holder==c)
  ·rw[hb,if_neg (by simp)]at hFs
   repeat'(first|refine zq (I hat (I hb (I @List.cons_append.{0} (I @List.nil_append.{0} @zaf)))) ?_|exact zd (I hat (I hb (I @List.cons_append.{0} (I @List.nil_append.{0} @zaf))))|refine zaa ?_|refine zab (fun hb=> ?_) (fun hb=> ?_)|(refine And.intro ?_ ?_;exact zI)|refine And.intro (fun hg=> ?_) (fun hg=> ?_)|exact zC|fail)
   exact hK _ (i+1,acc) (Gh.canon [5] [] [] (by simp only[hw,zah,zau,zai,zak,zal,zam,List.set_cons_zero,List.set_cons_succ,and_true,true_and,Int.natCast_zero,Int.cast_ofNat_Int,D.v.injEq,Value.int.injEq];try(repeat'(first|rfl|omega|with_reducible apply And.intro))) rfl rfl) ⟨hi,by simp only;omega⟩ (by simp only;rw[hFs]) (by simp only;omega)
  ·rw[hb,if_pos rfl]at hFs
   repeat'(first|refine zq (I hat (I hb (I @List.cons_append.{0} (I @List.nil_append.{0} @zaf)))) ?_|exact zd (I hat (I hb (I @List.cons_append.{0} (I @List.nil_append.{0} @zaf))))|refine zaa ?_|refine zab (fun hb=> ?_) (fun hb=> ?_)|(refine And.intro ?_ ?_;exact zI)|refine And.intro (fun hg=> ?_) (fun hg=> ?_)|exact zC|fail)
   exact hK _ (i+1,acc++[⟨l[i].name,l[i].token⟩]) (Gh.canon [5] [] [] (by simp only[hw,List.length_append,List.length_singleton,zah,zau,zai,zak,zal,zam,List.set_cons_zero,List.set_cons_succ,and_true,true_and,Int.natCast_zero,Int.cast_ofNat_Int,D.v.injEq,Value.int.injEq];try(repeat'(first|rfl|omega|with_reducible apply And.intro))) rfl (by simp only[List.length_append,List.length_singleton];rw[ze7];rfl)) ⟨hi,by simp only[List.length_append,List.length_singleton];omega⟩ (by simp only[List.append_assoc,List.singleton_append];rw[hFs]) (by simp only;omega)
 ·have hi:i=l.length:=by
   have:¬(i:Int)<l.length:=by simpa using hge
   omega
  rw[hi,List.drop_length]at hF
  have hF:acc++[]=heldP l c:=hF
  rw[←hF,List.append_nil]
  repeat'(first|refine zq0 ?_|exact zd0|refine zaa ?_|refine zab (fun hb=> ?_) (fun hb=> ?_)|(refine And.intro ?_ ?_;exact zI)|refine And.intro (fun hg=> ?_) (fun hg=> ?_)|exact zC|fail)
  simp[rfs1,roLe]
end Go.Proofs.YtbpmcjeeeiffhaaGreat
namespace Go.Proofs.YtbpmcjeeeiffhaaGreat
open Go.Pk
set_option maxRecDepth 100000
set_option linter.unusedSimpArgs false
set_option linter.unusedVariables false
theorem zi2 {x:Value}:normD (.raw x)= .raw x:=rfl
structure LkD where
 k:Lk
 x:D
abbrev LkD.enc (m:LkD):List D:=[sD m.k.name,iD m.k.holder,iD m.k.token,m.x]
abbrev rowsD (l:List LkD):List D:=l.flatMap LkD.enc
def plain (k:Lk):LkD:=⟨k, .sl k.line.length (intsE k.line)⟩
theorem zgf {l:List Lk}:rowsD (l.map plain)=locksE l:=by
 induction l with
 |nil=>rfl
 |cons k l ih=>rw[List.map_cons,rowsD,List.flatMap_cons,locksE,List.flatMap_cons];exact congrArg (_++·) ih
theorem zkG {l:List LkD} {i:Nat} (hi:i<l.length):(rowsD l).drop (i*4)=l[i].enc++(rowsD (l.drop (i+1))):=zcx _ 4 l i hi fun _=>rfl
theorem zbc {l:List LkD}:(rowsD l).length=l.length*4:=zbV _ 4 (fun _=>rfl) l
theorem zg2 {l:List LkD}:(rowsD l).take (l.length*4)=rowsD l:=zcb LkD.enc 4 (fun _=>rfl) l
theorem zg3 {l:List LkD} {m:LkD}:rowsD (l++[m])=rowsD l++m.enc:=by simp[rowsD]
theorem zcU {l:List Lk} {m:Lk}:locksE (l++[m])=locksE l++m.enc:=by simp[locksE]
theorem zeH (l:List Lk) (hl:l.length<2^30) (hll:∀k∈l,k.line.length<2^30):CallOK Tryz.prog 9 [.f (al l.length (locksE l))] (fun r o=>r=[.one (.own 4 l.length (locksE l) false)]∧o=[]):=by
 refine CallOK.nil ?_
 refine zae zat mixed (T:=Ty) (n:=26) Tryz.func9 (c:=Tryz.f9.body.getD .skip) rfl Tryz.results9 Tryz.ntmps9 Tryz.call9 ?_
 simp only[Tryz.f9,Option.getD]
 repeat'(first|refine zq0 ?_|exact zd0|refine zaa ?_|refine zab (fun hb=> ?_) (fun hb=> ?_)|(refine And.intro ?_ ?_;exact zI)|refine And.intro (fun hg=> ?_) (fun hg=> ?_)|exact zC|fail)
 refine zaq (τ:=Nat) (fun i=>⟨[al l.length (locksE l),dd,dd, .one (.own ⟨3,1,1⟩ 0 i),ai i,dd,dd,dd,dd,dd,dd,dd,dd,dd,dd,dd,dd,dd,dd,dd,dd,dd,dd,dd,dd,dd],[(3,{next:=2,l:=[none,some {e:=1,var:=false,fz:=false,sz:=4,cells:=(locksE (l.take i)).map C.d}]}),(5,⟨2,[]⟩),(16,⟨2,[]⟩),(19,⟨2,[]⟩),(23,⟨2,[]⟩),(24,⟨2,[]⟩)]⟩)
  (fun i=>i≤l.length) (fun _=>()) (fun i=>l.length - i) 0
  ((Gh.nil (i:=3) (s:=3) (sz:=4) rfl).trans (Gh.canon [3] [5,16,19,23,24] [] zK rfl rfl)) (Nat.zero_le _) ?_
 intro i hi0 hF K hK
 refine zw ?_
 refine zab (fun hlt=> ?_) (fun hge=> ?_)
 ·have hi:i<l.length:=by simpa using hlt
  have hat:=zaN hi
  have hw:=zar hi (by omega)
  have hlk:=hll _ (List.getElem_mem hi)
  have h1:(l[i].line.length*8≤2^47)=True:=eq_true (by omega)
  have htl:(l.take i).length=i:=by rw[List.length_take];omega
  have htk:=zan (l:=l.take i)
  rw[htl]at htk
  have hsn:locksE (l.take i)++[sD l[i].name,iD l[i].holder,iD l[i].token, .sl l[i].line.length (intsE l[i].line)]=locksE (l.take (i+1)):=by
   rw[←List.take_append_getElem hi,zcU]
  repeat'(first|refine zq (I hat (I @List.cons_append.{0} (I @List.nil_append.{0} (I @zaf (I @zao (I h1 (I htl (I htk hsn)))))))) ?_|exact zd (I hat (I @List.cons_append.{0} (I @List.nil_append.{0} (I @zaf (I @zao (I h1 (I htl (I htk hsn))))))))|refine zaa ?_|refine zab (fun hb=> ?_) (fun hb=> ?_)|(refine And.intro ?_ ?_;exact zI)|refine And.intro (fun hg=> ?_) (fun hg=> ?_)|exact zC|fail)
  exact hK _ (i+1) (Gh.canon [3] [] [] (by simp only[hw,zah,zau,zai,zak,zal,zam,List.set_cons_zero,List.set_cons_succ,and_true,true_and,Int.natCast_zero,Int.cast_ofNat_Int,D.v.injEq,Value.int.injEq];try(repeat'(first|rfl|omega|with_reducible apply And.intro))) rfl rfl) hi rfl (by omega)
 ·have hi:i=l.length:=by
   have:¬(i:Int)<l.length:=by simpa using hge
   omega
  subst hi
  repeat'(first|refine zq @List.take_length.{0} ?_|exact zd @List.take_length.{0}|refine zaa ?_|refine zab (fun hb=> ?_) (fun hb=> ?_)|(refine And.intro ?_ ?_;exact zI)|refine And.intro (fun hg=> ?_) (fun hg=> ?_)|exact zC|fail)
  show roLe _ _∧True
  simp[roLe]
def expo (l:List Lk) (i:Nat) (x:D):List LkD:=l.zipIdx.map fun p=>if p.2=i then⟨p.1,x⟩else plain p.1
theorem zaR {l:List Lk} {i:Nat} {x:D}:(expo l i x).length=l.length:=by simp[expo]
theorem zc4 {l:List Lk} {i j:Nat} {x:D} (hj:j<l.length):(expo l i x)[j]'(by rw[zaR];exact hj)=if j=i then⟨l[j],x⟩else plain l[j]:=by simp[expo]
theorem zq7 {l:List Lk} {i:Nat} {x:D}:(expo l i x).map LkD.k=l:=by
 refine List.ext_getElem (by simp[zaR]) fun j h1 h2=> ?_
 rw[List.getElem_map,zc4 h2]
 split<;>rfl
set_option maxHeartbeats 4000000 in
theorem zny (l:List Lk) (hl:l.length<2^30) (hll:∀k∈l,k.line.length<2^30) (i0:Nat) (hi0:i0<l.length):
  CallX Tryz.prog 9 [.f (al l.length (locksE l))] (fun bs r o=>∃x,(∃a cap,x=Value.slice a l[i0].line.length cap)∧bs=[.val x]∧r=[.one (.own 4 l.length (rowsD (expo l i0 (.raw x))) false)]∧o=[[.own 1 l[i0].line.length (intsE l[i0].line) false]]):=by
 refine znY zat mixed (T:=Ty) (n:=26) Tryz.func9 (c:=Tryz.f9.body.getD .skip) (q:=1000) (n2:=l[i0].line.length) rfl Tryz.results9 Tryz.ntmps9 Tryz.call9 (R:=fun x=>_) ?_
 simp only[Tryz.f9,Option.getD]
 repeat'(first|refine zq0 ?_|exact zd0|refine zaa ?_|refine zab (fun hb=> ?_) (fun hb=> ?_)|(refine And.intro ?_ ?_;exact zI)|refine And.intro (fun hg=> ?_) (fun hg=> ?_)|exact zC|fail)
 refine zaq (τ:=Nat×Option (Option Addr×Nat)) (fun t=>match t.2 with
  |none=>⟨[al l.length (locksE l),dd,dd, .one (.own ⟨3,1,1⟩ 0 t.1),ai t.1,dd,dd,dd,dd,dd,dd,dd,dd,dd,dd,dd,dd,dd,dd,dd,dd,dd,dd,dd,dd,dd],[(3,{next:=2,l:=[none,some {e:=1,var:=false,fz:=false,sz:=4,cells:=(locksE (l.take t.1)).map C.d}]}),(5,⟨2,[]⟩),(16,⟨2,[]⟩),(19,⟨2,[]⟩),(23,⟨2,[]⟩),(24,⟨2,[]⟩)]⟩
  |some x=>⟨[al l.length (locksE l), .one (.lk ⟨1000,1,0⟩ l[i0].line.length (.slice x.1 l[i0].line.length x.2)),dd, .one (.own ⟨3,1,1⟩ 0 t.1),ai t.1,dd,dd,dd,dd,dd,dd,dd,dd,dd,dd,dd,dd,dd,dd,dd,dd,dd,dd,dd,dd,dd],[(3,{next:=2,l:=[none,some {e:=1,var:=false,fz:=false,sz:=4,cells:=(rowsD ((expo l i0 (.raw (.slice x.1 l[i0].line.length x.2))).take t.1)).map C.d}]}),(5,⟨2,[]⟩),(16,⟨2,[]⟩),(19,⟨2,[]⟩),(23,⟨2,[]⟩),(24,⟨2,[]⟩),(1000,⟨1,[none,some {e:=0,var:=false,fz:=false,sz:=1,cells:=(intsE l[i0].line).map C.d}]⟩)]⟩)
  (fun t=>t.1≤l.length∧(t.1≤i0↔t.2=none)) (fun _=>()) (fun t=>l.length - t.1) (0,none)
  ((Gh.nil (i:=3) (s:=3) (sz:=4) rfl).trans (Gh.canon [3] [5,16,19,23,24] [] zK rfl rfl)) ⟨Nat.zero_le _,by simp⟩ ?_
 rintro⟨i,x⟩ ⟨hi1,hx⟩ hF K hK
 cases x with
 |none=>
  simp only at hi1 hx hK⊢
  have hx0:i≤i0:=hx.2 trivial
  refine zw ?_
  refine zab (fun hlt=> ?_) (fun hge=> ?_)
  ·have hi:i<l.length:=by simpa using hlt
   have hat:=zaN hi
   have hw:=zar hi (by omega)
   have hlk:=hll _ (List.getElem_mem hi)
   have h1:(l[i].line.length*8≤2^47)=True:=eq_true (by omega)
   have htl:(l.take i).length=i:=by rw[List.length_take];omega
   have htk:=zan (l:=l.take i)
   rw[htl]at htk
   have hsn:locksE (l.take i)++[sD l[i].name,iD l[i].holder,iD l[i].token, .sl l[i].line.length (intsE l[i].line)]=locksE (l.take (i+1)):=by
    rw[←List.take_append_getElem hi,zcU]
   repeat'(first|(with_reducible first|refine zaW 7 ?_|refine zaK 7 ?_|refine zaL 7 ?_)|refine zu (I hat (I @List.cons_append.{0} (I @List.nil_append.{0} (I @zaf (I @zao (I h1 (I htl (I htk hsn)))))))) ?_|exact zd (I hat (I @List.cons_append.{0} (I @List.nil_append.{0} (I @zaf (I @zao (I h1 (I htl (I htk hsn))))))))|(with_reducible first|refine zad _ _ ?_)|refine zaa ?_|refine zab (fun hb=> ?_) (fun hb=> ?_)|(refine And.intro ?_ ?_;exact zI)|refine And.intro (fun hg=> ?_) (fun hg=> ?_)|exact zC|fail)
   by_cases hii:i=i0
   ·subst hii
    refine zaS (zc0 _ _ (zqE zat mixed _ _ (zkS (s:=5) (k:=3) (k':=4) (e:=7) (j:=1) (q:=1000) rfl rfl rfl rfl rfl rfl (by decide) rfl rfl) ?_))
    intro x _
    have hsx:locksE (l.take i)++[sD l[i].name,iD l[i].holder,iD l[i].token, .raw (.slice x.1 l[i].line.length x.2)]=rowsD ((expo l i (.raw (.slice x.1 l[i].line.length x.2))).take (i+1)):=by
     rw[←List.take_append_getElem (by rw[zaR];exact hi),zg3,zc4 hi,if_pos rfl]
     congr 1
     rw[←zgf]
     congr 1
     refine List.ext_getElem (by simp[zaR]) fun j h1 h2=> ?_
     have hji:j<i:=by simp at h1;omega
     rw[List.getElem_map,List.getElem_take,List.getElem_take,zc4 (by omega),if_neg (by omega)]
    repeat'(first|refine zq (I hat (I @List.cons_append.{0} (I @List.nil_append.{0} (I @zaf (I @zao (I h1 (I htl (I htk (I hsx @zi2))))))))) ?_|exact zd (I hat (I @List.cons_append.{0} (I @List.nil_append.{0} (I @zaf (I @zao (I h1 (I htl (I htk (I hsx @zi2)))))))))|refine zaa ?_|refine zab (fun hb=> ?_) (fun hb=> ?_)|(refine And.intro ?_ ?_;exact zI)|refine And.intro (fun hg=> ?_) (fun hg=> ?_)|exact zC|fail)
    exact hK _ (i+1,some x) (Gh.canon [3,1000] [] [1000] (by simp only[hw,zo7,zah,zau,zai,zak,zal,zam,List.set_cons_zero,List.set_cons_succ,and_true,true_and,Int.natCast_zero,Int.cast_ofNat_Int,D.v.injEq,Value.int.injEq];try(repeat'(first|rfl|omega|with_reducible apply And.intro))) rfl rfl) ⟨hi,by simp⟩ trivial (by simp only;omega)
   ·refine zaS ?_
    repeat'(first|refine zq (I hat (I @List.cons_append.{0} (I @List.nil_append.{0} (I @zaf (I @zao (I h1 (I htl (I htk hsn)))))))) ?_|exact zd (I hat (I @List.cons_append.{0} (I @List.nil_append.{0} (I @zaf (I @zao (I h1 (I htl (I htk hsn))))))))|refine zaa ?_|refine zab (fun hb=> ?_) (fun hb=> ?_)|(refine And.intro ?_ ?_;exact zI)|refine And.intro (fun hg=> ?_) (fun hg=> ?_)|exact zC|fail)
    exact hK _ (i+1,none) (Gh.canon [3] [] [] (by simp only[hw,zah,zau,zai,zak,zal,zam,List.set_cons_zero,List.set_cons_succ,and_true,true_and,Int.natCast_zero,Int.cast_ofNat_Int,D.v.injEq,Value.int.injEq];try(repeat'(first|rfl|omega|with_reducible apply And.intro))) rfl rfl) ⟨hi,by simp;omega⟩ trivial (by simp only;omega)
  ·exfalso
   have:¬(i:Int)<l.length:=by simpa using hge
   omega
 |some x=>
  simp only at hi1 hx hK⊢
  have hx0:¬i≤i0:=fun h=>by cases hx.1 h
  refine zw ?_
  refine zab (fun hlt=> ?_) (fun hge=> ?_)
  ·have hi:i<l.length:=by simpa using hlt
   have hat:=zaN hi
   have hw:=zar hi (by omega)
   have hlk:=hll _ (List.getElem_mem hi)
   have h1:(l[i].line.length*8≤2^47)=True:=eq_true (by omega)
   have htl:((expo l i0 (.raw (.slice x.1 l[i0].line.length x.2))).take i).length=i:=by rw[List.length_take,zaR];omega
   have htk:=zg2 (l:=(expo l i0 (.raw (.slice x.1 l[i0].line.length x.2))).take i)
   rw[htl]at htk
   have hsn:rowsD ((expo l i0 (.raw (.slice x.1 l[i0].line.length x.2))).take i)++[sD l[i].name,iD l[i].holder,iD l[i].token, .sl l[i].line.length (intsE l[i].line)]=rowsD ((expo l i0 (.raw (.slice x.1 l[i0].line.length x.2))).take (i+1)):=by
    rw[←List.take_append_getElem (by rw[zaR];exact hi),zg3,zc4 hi,if_neg (by omega)];rfl
   repeat'(first|refine zq (I hat (I @List.cons_append.{0} (I @List.nil_append.{0} (I @zaf (I @zao (I @zbc (I h1 (I htl (I htk hsn))))))))) ?_|exact zd (I hat (I @List.cons_append.{0} (I @List.nil_append.{0} (I @zaf (I @zao (I @zbc (I h1 (I htl (I htk hsn)))))))))|refine zaa ?_|refine zab (fun hb=> ?_) (fun hb=> ?_)|(refine And.intro ?_ ?_;exact zI)|refine And.intro (fun hg=> ?_) (fun hg=> ?_)|exact zC|fail)
   exact hK _ (i+1,some x) (Gh.canon [3,1000] [] [1000] (by simp only[hw,zo7,zah,zau,zai,zak,zal,zam,List.set_cons_zero,List.set_cons_succ,and_true,true_and,Int.natCast_zero,Int.cast_ofNat_Int,D.v.injEq,Value.int.injEq];try(repeat'(first|rfl|omega|with_reducible apply And.intro))) rfl rfl) ⟨hi,by simp;omega⟩ trivial (by simp only;omega)
  ·have hi:i=l.length:=by
    have:¬(i:Int)<l.length:=by simpa using hge
    omega
   subst hi
   repeat'(first|refine zq0 ?_|exact zd0|refine zaa ?_|refine zab (fun hb=> ?_) (fun hb=> ?_)|(refine And.intro ?_ ?_;exact zI)|refine And.intro (fun hg=> ?_) (fun hg=> ?_)|exact zC|fail)
   refine⟨1, .slice x.1 l[i0].line.length x.2,rfl,⟨_,_,rfl⟩, ?_,rfl⟩
   rw[List.take_of_length_le (by rw[zaR];exact Nat.le_refl _)]
end Go.Proofs.YtbpmcjeeeiffhaaGreat
