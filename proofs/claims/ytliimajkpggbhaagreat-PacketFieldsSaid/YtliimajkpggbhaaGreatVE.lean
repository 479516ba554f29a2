import Derived.Test.YtliimajkpggbhaaGreatL
namespace Go.Proofs.YtliimajkpggbhaaGreat
open Go.Pk
set_option maxRecDepth 100000
set_option linter.unusedSimpArgs false
set_option linter.unusedVariables false
def zwO {α:Type} (p:α→Bool) (x:α):List α→List α
 |[]=>[x]
 |y::r=>if p y=true then x::y::r else y::zwO p x r
theorem zpQ {α:Type} {p q:α→Bool} {x:α}:∀{l:List α},(∀y∈l,p y= !(q y))→zwO p x l=l.take (zpK q l)++x::l.drop (zpK q l)
 |[],_=>rfl
 |y::r,h=>by
  rw[zwO,zdd,h y (List.mem_cons_self ..)]
  cases hq:q y
  ·simp
  ·simp only[Bool.not_true,Bool.false_eq_true,if_false,if_true,List.take_succ_cons,List.drop_succ_cons,List.cons_append]
   rw[zpQ fun z hz=>h z (List.mem_cons_of_mem _ hz)]
theorem zC8 {l:List Sess} {c:Int} {x:Sess} (hf:zaC l c=none):zwO (fun y:Sess=>decide (y.client>c)) x l=l.take (zgx l c)++x::l.drop (zgx l c):=by
 refine zpQ fun y hy=> ?_
 have:y.client≠c:=fun e=>by
  have:=zdm.2 ⟨y,hy,e⟩
  rw[hf]at this;cases this
 rw[Bool.eq_iff_iff]
 simp
 omega
theorem zty {α:Type} {p:α→Bool} {x:α} {l:List α} {i:Nat} {put:Bool} (hi:i<l.length):
  (if put=true then l.drop i else zwO p x (l.drop i))=if(!put&&p l[i])=true then x::l[i]::l.drop (i+1)else l[i]::(if put=true then l.drop (i+1)else zwO p x (l.drop (i+1))):=by
 rw[List.drop_eq_getElem_cons hi]
 cases put
 ·simp only[Bool.not_false,Bool.true_and,Bool.false_eq_true,if_false,zwO]
 ·simp
set_option maxHeartbeats 1000000 in
theorem zvI (l:List Sess) (hs:SS l) (hl:l.length<2^30) (c num now:Int) (hc:isClient c=true) (h1:1≤num) (hn:0≤now∧now≤zbs) (hf:zaC l c=none) (hnum:numbered l num=false):
  CallOK Tryz.prog 216 [.f (al l.length (zaQ l)), .f (ai c), .f (ai num), .f (ai now)]
  (fun r o=>r=[.one (.own 3 (zdN l c num now).1.length (zaQ (zdN l c num now).1) false),ri (zdN l c num now).2]∧o=[]):=by
 refine CallOK.nil ?_
 refine zh Tryz.func216 Tryz.results216 Tryz.ntmps216 Tryz.call216 ?_
 simp only[Tryz.f216,Option.getD]
 have hcl:=zqZ c
 rw[hc]at hcl
 have hg1:=zjz num 1
 have hg2:=zjz now 0
 have hH:zbs=2305843009213693952:=rfl
 rw[show(decide (now≥0)&&decide (now≤2305843009213693952))=true by simp;omega]at hg2
 have hfi:=zeX l (by omega) c
 rw[hf]at hfi
 simp only[Option.isSome_none,Option.getD_none]at hfi
 have eo:zdN l c num now=if decide (num>zbs)=true then([],1)else if decide ((l.length:Int)≥5)=true then([],5)else(l.take (zgx l c)++⟨c,num,now⟩::l.drop (zgx l c),0):=by
  have e1:decide (num<1)=false:=by simp;omega
  have e2:decide (now<0)=false:=by simp;omega
  have e3:decide (now>zbs)=false:=by simp;omega
  unfold zdN
  rw[hf,hnum,hc,e1,e2,e3]
  cases decide (num>zbs)<;>simp
 generalize zdN l c num now=R at eo⊢
 cases e4:decide (num>zbs)
 ·rw[e4,if_neg (by simp)]at eo
  rw[show(decide (num≥1)&&decide (num≤2305843009213693952))=true by simp at e4⊢;omega]at hg1
  repeat'(first|exact zC|refine zq0 ?_|refine zx (hcl) ?_|refine zx (hg1) ?_|refine zx (hg2) ?_|(apply zaa<;>intro hb)|(apply I;exact zI)|(apply I<;>intro hg))
  refine zaf (τ:=Nat) (fun i=>⟨(al l.length (zaQ l)::ai c::ai num::ai now::dq6 (ai i::zyr (zdP (zdP [])))),[(8,⟨2,[]⟩)]⟩)
   (fun i=>i≤l.length) (fun _=>()) (fun i=>l.length - i) 0
   (Gh.canon [] [8] [] zK rfl rfl) (Nat.zero_le _) ?_
  intro i hi0 hF K hK
  refine zw ?_
  refine zaa (fun hlt=> ?_) (fun hge=> ?_)
  ·have hi:i<l.length:=by simpa using hlt
   have hat:=zcb hi
   have hw:=zai hi (by omega)
   have hne:(l[i].num==num)=false:=by
    have:=List.any_eq_false.1 hnum _ (List.getElem_mem hi)
    simpa using this
   repeat'(first|exact zC|refine zq (I hat (I hne (I @zat zca))) ?_|(apply zaa<;>intro hb)|(apply I;exact zI)|(apply I<;>intro hg))
   exact hK _ (i+1) (Gh.canon [] [] [] (zk hw) rfl rfl) hi rfl (by omega)
  ·cases e5:decide ((l.length:Int)≥5)
   ·rw[e5,if_neg (by simp)]at eo
    repeat'(first|exact zC|refine zq e5 ?_|refine zx (hfi) ?_|(apply zaa<;>intro hb)|(apply I;exact zI)|(apply I<;>intro hg))
    refine zaf (τ:=Nat×Bool×List Sess) (fun t=>⟨(al l.length (zaQ l)::ai c::ai num::ai now::dq9 (.one (.own ⟨13,1,1⟩ 0 t.2.2.length)::ab t.2.1::ai t.1::dq6 (zdP (zdP [])))),[(8,⟨2,[]⟩),(11,⟨2,[]⟩),(13,⟨2,[none,roq 1 3 (zaQ t.2.2)]⟩),(83,⟨2,[]⟩),(84,⟨2,[]⟩),(90,⟨2,[]⟩),(91,⟨2,[]⟩)]⟩)
     (fun t=>t.1≤l.length∧t.2.2.length≤2*t.1) (fun t=>t.2.2++(if t.2.1=true then l.drop t.1 else zwO (fun y:Sess=>decide (y.client>c)) ⟨c,num,now⟩ (l.drop t.1))) (fun t=>l.length - t.1) (0,false,[])
     ((Gh.nil (i:=13) (s:=13) (sz:=3) rfl).trans (Gh.canon [13] [83,84,90,91] [] zK rfl rfl)) ⟨Nat.zero_le _,by simp⟩ ?_
    intro⟨j,put,acc⟩ ⟨hj0,hac⟩ hF2 K2 hK2
    simp only[List.drop_zero,List.nil_append,Bool.false_eq_true,if_false]at hj0 hac hF2 hK2⊢
    refine zw ?_
    refine zaa (fun hlt2=> ?_) (fun hge2=> ?_)
    ·have hj:j<l.length:=by simpa using hlt2
     have haj:=zcb hj
     have hwj:=zai hj (by omega)
     have hst:=zty (p:=fun y:Sess=>decide (y.client>c)) (x:=⟨c,num,now⟩) (put:=put) hj
     have htk:(zaQ acc++[iD c,iD num,iD now]).take ((acc.length+1)*3)=zaQ acc++[iD c,iD num,iD now]:=List.take_of_length_le (by rw[List.length_append,zat];simp only[List.length_cons,List.length_nil];omega)
     cases hb:(!put&&decide (l[j].client>c))
     ·simp only[hb,Bool.false_eq_true,if_false]at hst
      repeat'(first|exact zC|refine zq (I haj (I hb (I @zat zca))) ?_|(apply zaa<;>intro hb)|(apply I;exact zI)|(apply I<;>intro hg))
      exact hK2 _ (j+1,put,acc++[l[j]]) (Gh.canon [13] [] [] (zk (I hwj (I @List.length_append.{0} @List.length_singleton.{0}))) rfl (by simp only[List.length_append,List.length_singleton];rw[zep];rfl)) ⟨hj,by simp only[List.length_append,List.length_singleton];omega⟩ (by simp only[List.append_assoc,List.singleton_append];rw[hst]) (by simp only;omega)
     ·simp only[hb,if_true]at hst
      repeat'(first|exact zC|refine zq (I haj (I hb (I htk (I @zat zca)))) ?_|(apply zaa<;>intro hb)|(apply I;exact zI)|(apply I<;>intro hg))
      refine hK2 _ (j+1,true,acc++[⟨c,num,now⟩]++[l[j]]) (Gh.canon [13] [] [] (zk (I hwj (I @List.length_append.{0} @List.length_singleton.{0}))) rfl (by simp only[List.length_append,List.length_singleton];rw[zep,zep];rfl)) ⟨hj, ?_⟩ (by simp only[List.append_assoc,List.singleton_append];rw[hst];rfl) (by simp only;omega)
      simp only[List.length_append,List.length_singleton]
      omega
    ·have hj:j=l.length:=by
      have:¬(j:Int)<l.length:=by simpa using hge2
      omega
     rw[hj,List.drop_length]at hF2
     rw[zC8 hf]at hF2
     rw[←hF2]at eo
     cases put
     ·have hF3:R=(acc++[⟨c,num,now⟩],0):=eo
      rw[hF3]
      repeat'(first|exact zC|refine zq0 ?_|(apply zaa<;>intro hb)|(apply I;exact zI)|(apply I<;>intro hg))
      simp[zx1,zaw]
     ·have hF3:R=(acc++[],0):=eo
      rw[hF3,List.append_nil]
      repeat'(first|exact zC|refine zq0 ?_|(apply zaa<;>intro hb)|(apply I;exact zI)|(apply I<;>intro hg))
      simp[zx1,zaw]
   ·rw[e5,if_pos rfl]at eo
    rw[eo]
    repeat'(first|exact zC|refine zq e5 ?_|refine zx (hfi) ?_|(apply zaa<;>intro hb)|(apply I;exact zI)|(apply I<;>intro hg))
    simp[zx1,zaw]
 ·rw[e4,if_pos rfl]at eo
  rw[eo]
  rw[show(decide (num≥1)&&decide (num≤2305843009213693952))=false by simp at e4⊢;omega]at hg1
  repeat'(first|exact zC|refine zq0 ?_|refine zx (hcl) ?_|refine zx (hg1) ?_|refine zx (hg2) ?_|(apply zaa<;>intro hb)|(apply I;exact zI)|(apply I<;>intro hg))
  simp[zx1,zaw]
def zdz (c now:Int) (y:Sess):Sess:=if(y.client==c)=true then⟨y.client,y.num,max y.renewed now⟩else y
def znN (l:List Sess) (c now:Int) (i:Nat):List Sess:=(l.take i).map (zdz c now)++l.drop i
theorem zpR {l:List Sess} {c now:Int} {i:Nat} (hi:i≤l.length):(znN l c now i).length=l.length:=by
 unfold znN
 rw[List.length_append,List.length_map,List.length_take,List.length_drop];omega
theorem zx4 {l:List Sess} {c now:Int} {i:Nat} (hi:i<l.length):∃h:i<(znN l c now i).length,(znN l c now i)[i]=l[i]:=by
 have hl:((l.take i).map (zdz c now)).length=i:=by rw[List.length_map,List.length_take];omega
 have h:(znN l c now i)[i]? =some l[i]:=by
  unfold znN
  rw[List.getElem?_append_right (by omega),hl,Nat.sub_self,List.getElem?_drop,Nat.add_zero,List.getElem?_eq_getElem hi]
 exact znf h
theorem ztz {l:List Sess} {c now:Int} {i:Nat} (hi:i<l.length):(znN l c now i).set i (zdz c now l[i])=znN l c now (i+1):=by
 have hl:((l.take i).map (zdz c now)).length=i:=by rw[List.length_map,List.length_take];omega
 unfold znN
 rw[List.set_append_right _ _ (by omega),hl,Nat.sub_self,List.drop_eq_getElem_cons hi,List.set_cons_zero,List.take_add_one,List.getElem?_eq_getElem hi]
 simp only[Option.toList,List.map_append,List.map_cons,List.map_nil,List.append_assoc,List.cons_append,List.nil_append]
theorem zns {l:List Sess} (hs:SS l) {c now:Int} {x:Sess} (hx:zaC l c=some x):l.map (zdz c now)=l.set (zgx l c) ⟨x.client,x.num,max x.renewed now⟩:=by
 obtain⟨⟨hi,he⟩,hc⟩:=zlG hs hx
 apply List.ext_getElem (by simp)
 intro j h1 h2
 have hj:j<l.length:=by simpa using h1
 rw[List.getElem_map,List.getElem_set]
 split
 ·rename_i e
  subst e
  rw[he]
  unfold zdz
  rw[if_pos (by simpa using hc)]
 ·rename_i e
  unfold zdz
  rw[if_neg]
  intro h
  have hjc:l[j].client=c:=by simpa using h
  have hpc:l[zgx l c].client=c:=by rw[he];exact hc
  rcases Nat.lt_or_ge j (zgx l c)with q|q
  ·have:=List.pairwise_iff_getElem.1 hs j (zgx l c) hj hi q
   omega
  ·have:=List.pairwise_iff_getElem.1 hs (zgx l c) j hi hj (by omega)
   omega
theorem ztA (l:List Sess) (hs:SS l) (hl:l.length<2^30) (c now:Int) (hn:0≤now∧now≤zbs) (hf:(zaC l c).isSome=true):CallOK Tryz.prog 206 [.f (al l.length (zaQ l)), .f (ai c), .f (ai now)]
  (fun r o=>r=[.one (.own 3 (zcH l c now).1.length (zaQ (zcH l c now).1) false),ri (zcH l c now).2]∧o=[]):=by
 refine CallOK.nil ?_
 refine zh Tryz.func206 Tryz.results206 Tryz.ntmps206 Tryz.call206 ?_
 simp only[Tryz.f206,Option.getD]
 have hg2:=zjz now 0
 have hH:zbs=2305843009213693952:=rfl
 rw[show(decide (now≥0)&&decide (now≤2305843009213693952))=true by simp;omega]at hg2
 have hfi:=zeX l (by omega) c
 rw[hf]at hfi
 obtain⟨x,hx⟩:=Option.isSome_iff_exists.1 hf
 have hr:zcH l c now=(l.map (zdz c now),0):=by
  unfold zcH
  rw[if_neg (by simp;omega),hx,zns hs hx]
 rw[hr]
 repeat'(first|exact zC|refine zq @zat ?_|refine zx (hg2) ?_|refine zx (hfi) ?_|(apply zaa<;>intro hb)|(apply I;exact zI)|(apply I<;>intro hg))
 refine zaf (τ:=Nat) (fun i=>⟨(dd::ai c::ai now::dq7 (.one (.own ⟨10,1,1⟩ 0 l.length)::ai i::zyu [])),[(8,⟨2,[]⟩),(23,⟨2,[]⟩),(10,⟨2,[none,roq 1 3 (zaQ (znN l c now i))]⟩)]⟩)
  (fun i=>i≤l.length) (fun _=>()) (fun i=>l.length - i) 0
  (Gh.canon [10] [] [] zK rfl rfl) (Nat.zero_le _) ?_
 intro i hi0 hF K hK
 refine zw ?_
 refine zaa (fun hlt=> ?_) (fun hge=> ?_)
 ·have hi:i<l.length:=by simpa using hlt
  have hw:=zai hi (by omega)
  obtain⟨hic,hce⟩:=zx4 (c:=c) (now:=now) hi
  have hat:=zcb hic
  rw[hce]at hat
  have hat2:(zaQ (znN l c now i)).drop (i*3+2)=iD l[i].renewed::zaQ ((znN l c now i).drop (i+1)):=by rw[←List.drop_drop,hat];rfl
  have hsu:=ztz (c:=c) (now:=now) hi
  cases hb:l[i].client==c
  ·have hrx:zdz c now l[i]=l[i]:=by unfold zdz;rw[if_neg (by rw[hb];simp)]
   have hsame:znN l c now (i+1)=znN l c now i:=by
    rw[←hsu,hrx]
    conv=>lhs;rw[←hce]
    exact List.set_getElem_self ..
   repeat'(first|(with_reducible first|refine zae _ _ ?_|refine zb8 ?_|refine zb9 ?_)|rw[zbD]|simp only[hat,hb,←List.map_drop,List.map_cons,List.cons_append,List.nil_append,zat,zpR hi0,zY,Int.reduceEq,Int.reduceBEq,Int.reduceBNe,Nat.reduceSub,Nat.reduceEqDiff,Nat.reduceAdd,Nat.reduceMul,Nat.reduceLeDiff,Nat.reduceLT,Nat.reduceBEq,reduceCtorEq]|refine za1 ?_|refine zaa (fun hb=> ?_) (fun hb=> ?_)|(refine And.intro ?_ ?_;exact zI)|refine And.intro (fun hg=> ?_) (fun hg=> ?_)|exact zC|fail)
   exact hK _ (i+1) (Gh.canon [10] [] [] (zk hw) rfl (by rw[hsame];rfl)) hi rfl (by omega)
  ·have hrx:zdz c now l[i]=⟨l[i].client,l[i].num,max l[i].renewed now⟩:=by unfold zdz;rw[if_pos hb]
   have hset:=zgz Sess.enc 3 (fun _=>rfl) hic (k:=2) (by decide) (iD (max l[i].renewed now)) (zdz c now l[i]) (by rw[hce,hrx];rfl)
   rw[hsu]at hset
   repeat'(first|(with_reducible first|refine zae _ _ ?_|refine zb8 ?_|refine zb9 ?_)|rw[zbD]|simp only[hat,hat2,hb,hset,←List.map_drop,List.map_cons,List.cons_append,List.nil_append,zat,zpR hi0,zY,Int.reduceEq,Int.reduceBEq,Int.reduceBNe,Nat.reduceSub,Nat.reduceEqDiff,Nat.reduceAdd,Nat.reduceMul,Nat.reduceLeDiff,Nat.reduceLT,Nat.reduceBEq,reduceCtorEq]|refine za1 ?_|refine zaa (fun hb=> ?_) (fun hb=> ?_)|(refine And.intro ?_ ?_;exact zI)|refine And.intro (fun hg=> ?_) (fun hg=> ?_)|exact zC|fail)
   exact hK _ (i+1) (Gh.canon [10] [] [] (zk hw) rfl rfl) hi rfl (by omega)
 ·have hi:i=l.length:=by
   have:¬(i:Int)<l.length:=by simpa using hge
   omega
  have hcu:znN l c now i=l.map (zdz c now):=by rw[hi];unfold znN;rw[List.take_length,List.drop_length,List.append_nil]
  rw[hcu]
  repeat'(first|exact zC|refine zq0 ?_|(apply zaa<;>intro hb)|(apply I;exact zI)|(apply I<;>intro hg))
  simp[zx1,zaw]
theorem ztB (l:List Sess) (hl:l.length<2^30) (c:Int):CallOK Tryz.prog 204 [.f (al l.length (zaQ l)), .f (ai c)]
  (fun r o=>r=[.one (.own 3 (if(zaC l c).isSome=true then l.filter (fun x=>x.client !=c)else []).length (zaQ (if(zaC l c).isSome=true then l.filter (fun x=>x.client !=c)else [])) false),ri (if(zaC l c).isSome=true then 0 else 6)]∧o=[]):=by
 refine CallOK.nil ?_
 refine zh Tryz.func204 Tryz.results204 Tryz.ntmps204 Tryz.call204 ?_
 simp only[Tryz.f204,Option.getD]
 have hfi:=zeX l (by omega) c
 cases hf:(zaC l c).isSome
 ·rw[hf]at hfi
  rw[if_neg (by simp),if_neg (by simp)]
  repeat'(first|exact zC|refine zq0 ?_|refine zx (hfi) ?_|(apply zaa<;>intro hb)|(apply I;exact zI)|(apply I<;>intro hg))
  simp[zx1,zaw]
 ·rw[hf]at hfi
  rw[if_pos rfl,if_pos rfl]
  repeat'(first|exact zC|refine zq0 ?_|refine zx (hfi) ?_|(apply zaa<;>intro hb)|(apply I;exact zI)|(apply I<;>intro hg))
  refine zaf (τ:=Nat×List Sess) (fun t=>⟨(al l.length (zaQ l)::ai c::dq6 (.one (.own ⟨8,1,1⟩ 0 t.2.length)::ai t.1::zw4 [])),[(6,⟨2,[]⟩),(8,⟨2,[none,roq 1 3 (zaQ t.2)]⟩),(36,⟨2,[]⟩),(37,⟨2,[]⟩)]⟩)
   (fun t=>t.1≤l.length∧t.2.length≤t.1) (fun t=>t.2++(l.drop t.1).filter (fun x=>x.client !=c)) (fun t=>l.length - t.1) (0,[])
   ((Gh.nil (i:=8) (s:=8) (sz:=3) rfl).trans (Gh.canon [8] [36,37] [] zK rfl rfl)) ⟨Nat.zero_le _,Nat.zero_le _⟩ ?_
  intro⟨i,acc⟩ ⟨hi0,hac⟩ hF K hK
  simp only[List.drop_zero,List.nil_append]at hi0 hac hF hK⊢
  refine zw ?_
  refine zaa (fun hlt=> ?_) (fun hge=> ?_)
  ·have hi:i<l.length:=by simpa using hlt
   have hat:=zcb hi
   have hw:=zai hi (by omega)
   have hFs:=List.drop_eq_getElem_cons hi
   cases hb:l[i].client !=c
   ·repeat'(first|exact zC|refine zq (I hat (I hb (I @zat zca))) ?_|(apply zaa<;>intro hb)|(apply I;exact zI)|(apply I<;>intro hg))
    exact hK _ (i+1,acc) (Gh.canon [8] [] [] (zk hw) rfl rfl) ⟨hi,by simp only;omega⟩ (by simp only;rw[hFs,List.filter_cons,hb,if_neg (by simp)]) (by simp only;omega)
   ·repeat'(first|exact zC|refine zq (I hat (I hb (I @zat zca))) ?_|(apply zaa<;>intro hb)|(apply I;exact zI)|(apply I<;>intro hg))
    exact hK _ (i+1,acc++[l[i]]) (Gh.canon [8] [] [] (zk (I hw (I @List.length_append.{0} @List.length_singleton.{0}))) rfl (by simp only[List.length_append,List.length_singleton];rw[zep];rfl)) ⟨hi,by simp only[List.length_append,List.length_singleton];omega⟩ (by simp only[List.append_assoc,List.singleton_append];rw[hFs,List.filter_cons,hb,if_pos rfl]) (by simp only;omega)
  ·have hi:i=l.length:=by
    have:¬(i:Int)<l.length:=by simpa using hge
    omega
   rw[hi,List.drop_length,List.filter_nil,List.append_nil]at hF
   rw[←hF]
   repeat'(first|exact zC|refine zq0 ?_|(apply zaa<;>intro hb)|(apply I;exact zI)|(apply I<;>intro hg))
   simp[zx1,zaw]
def zcf (r:Reply):Prop:=r.held.length<2^30∧∀g∈r.held,g.name.size<2^62
theorem zgA (r:Reply) (hr:zcf r):CallOK Tryz.prog 74 [.f (.agg r.lent)] (fun x o=>x=[rb (zbU r)]∧o=[]):=by
 refine zh Tryz.func74 Tryz.results74 Tryz.ntmps74 Tryz.call74 ?_
 simp only[Tryz.f74,Option.getD]
 obtain⟨h1,h2⟩:=hr
 cases hA:(decide (r.code<0)||decide (r.code>12)||decide (r.session<0)||decide (r.session>2305843009213693952)||decide (r.ahead<0)||decide (r.ahead>3))
 ·cases hB:(decide ((r.held.length:Int)>4)||(r.session==0)&&decide ((r.held.length:Int)>0))
  ·have hs:zbU r=zbA (zcs r.held) 0 r.held:=by
    unfold zbU
    rw[show(decide (r.code<0)||decide (r.code>12)||decide (r.session<0)||decide (r.session>zbs)||decide (r.ahead<0)||decide (r.ahead>3))=false from hA,hB]
    rfl
   rw[hs]
   repeat'(first|exact zC|refine zq (I hA hB) ?_|(apply zaa<;>intro hb)|(apply I;exact zI)|(apply I<;>intro hg))
   refine zaf (τ:=Nat) (fun i=>⟨(dd::ptq 1::dq7 (zdP (al r.held.length (zaE r.held)::ai r.held.length::ai i::zw6 []))),[(1,⟨2,[obq 1 [di r.code,di r.session,di r.ahead, .lent r.held.length (zaE r.held)],none,none,none,none]⟩),(4,⟨2,[]⟩)]⟩)
    (fun i=>i≤r.held.length) (fun i=>zbA (zcs r.held) i (r.held.drop i)) (fun i=>r.held.length - i) 0
    (Gh.canon [1] [4] [] zK rfl rfl) (Nat.zero_le _) ?_
   intro i hi0 hF K hK
   rw[List.drop_zero]at hF
   refine zw ?_
   refine zaa (fun hlt=> ?_) (fun hge=> ?_)
   ·have hi:i<r.held.length:=by simpa using hlt
    have hat:=zco hi
    have hw:=zai hi (by omega)
    rw[zaT hi]at hF
    have hnm:=zlL r.held[i].name (h2 _ (List.getElem_mem hi))
    cases e0:decide ((i:Int)>0)
    ·have h0:i=0:=by simpa using e0
     have hq:zcs r.held i r.held[i]= !(!nameP r.held[i].name||decide (r.held[i].token<1)||decide (r.held[i].token>2305843009213693952)):=by
      unfold zcs
      have:decide (i>0)=false:=by simpa using e0
      rw[this,Bool.false_and,Bool.or_false]
     have hp:(zaE r.held).drop ((IntKind.i64.wrap ((i:Int) - 1)).toNat*2)=r.held[i].enc++zaE (r.held.drop (i+1)):=by
      rw[←zco hi,h0];rfl
     repeat'(first|exact zC|refine zq (I hat (I hp (I e0 (I @zaq zca)))) ?_|refine zx (hnm) ?_|(apply zaa<;>intro hb)|(apply I;exact zI)|(apply I<;>intro hg))
     ·rw[hq,hb,if_neg (by simp)]at hF
      rw[←hF]
     ·exact hK _ (i+1) (Gh.canon [1] [] [] (zk hw) rfl rfl) hi (by rw[zaT hi,hq,hb];rfl) (by omega)
    ·have h0:0<i:=by simpa using e0
     have hq:zcs r.held i r.held[i]= !(!nameP r.held[i].name||decide (r.held[i].token<1)||decide (r.held[i].token>2305843009213693952)|| !(zed (r.held[i - 1]'(by omega)).name r.held[i].name)):=by
      unfold zcs zqO
      have:decide (i>0)=true:=by simpa using e0
      rw[this,List.getElem?_eq_getElem (by omega)]
      simp only[Bool.true_and,Option.map_some,Option.getD_some]
     have hp:=zco (show i - 1<r.held.length by omega)
     have hw1:IntKind.i64.wrap ((i:Int) - 1)=((i - 1:Nat):Int):=by rw[wrap64 (by omega) (by omega)];omega
     repeat'(first|exact zC|refine zq (I hat (I hp (I hw1 (I e0 (I @zaq zca))))) ?_|refine zx (hnm) ?_|(apply zaa<;>intro hb)|(apply I;exact zI)|(apply I<;>intro hg))
     ·rw[hq,hb,if_neg (by simp)]at hF
      rw[←hF]
     ·exact hK _ (i+1) (Gh.canon [1] [] [] (zk hw) rfl rfl) hi (by rw[zaT hi,hq,hb];rfl) (by omega)
   ·have hi:i=r.held.length:=by
     have:¬(i:Int)<r.held.length:=by simpa using hge
     omega
    rw[zdW hi]at hF
    rw[←hF]
    repeat'(first|exact zC|refine zq0 ?_|(apply zaa<;>intro hb)|(apply I;exact zI)|(apply I<;>intro hg))
  ·have hs:zbU r=false:=by
    unfold zbU
    rw[hB,Bool.not_true,Bool.and_false,Bool.false_and]
   rw[hs]
   repeat'(first|exact zC|refine zq (I hA hB) ?_|(apply zaa<;>intro hb)|(apply I;exact zI)|(apply I<;>intro hg))
 ·have hs:zbU r=false:=by
   unfold zbU
   rw[show(decide (r.code<0)||decide (r.code>12)||decide (r.session<0)||decide (r.session>zbs)||decide (r.ahead<0)||decide (r.ahead>3))=true from hA]
   rfl
  rw[hs]
  repeat'(first|exact zC|refine zq hA ?_|(apply zaa<;>intro hb)|(apply I;exact zI)|(apply I<;>intro hg))
theorem zel (m:Memo) (hr:zcf m.reply):CallOK Tryz.prog 35 [.f (.agg m.lent)] (fun x o=>x=[rb (answerB m)]∧o=[]):=by
 refine zh Tryz.func35 Tryz.results35 Tryz.ntmps35 Tryz.call35 ?_
 simp only[Tryz.f35,Option.getD]
 repeat'(first|exact zC|refine zq0 ?_|refine zx (zgA m.reply hr) ?_|(apply zaa<;>intro hb)|(apply I;exact zI)|(apply I<;>intro hg))
 rfl
def zgj:Memo:=⟨0,0,⟨0,0,0,[]⟩⟩
theorem zni (l:List Memo) (hl:l.length<2^30) (hll:∀m∈l,zcf m.reply):CallOK Tryz.prog 122 [.f (al l.length (zaF l))] (fun r o=>r=[rb (memoB l)]∧o=[]):=by
 refine zh Tryz.func122 Tryz.results122 Tryz.ntmps122 Tryz.call122 ?_
 simp only[Tryz.f122,Option.getD]
 repeat'(first|exact zC|refine zq @zaz ?_|(apply zaa<;>intro hb)|(apply I;exact zI)|(apply I<;>intro hg))
 refine zaf (τ:=Nat) (fun i=>⟨(al l.length (zaF l)::dq4 (al l.length (zaF l)::ai l.length::ai i::zw4 [])),[(4,⟨2,[]⟩)]⟩)
  (fun i=>i≤l.length) (fun i=>zbA (zne l) i (l.drop i)) (fun i=>l.length - i) 0
  (Gh.canon [] [4] [] zK rfl rfl) (Nat.zero_le _) ?_
 intro i hi0 hF K hK
 rw[List.drop_zero]at hF
 refine zw ?_
 refine zaa (fun hlt=> ?_) (fun hge=> ?_)
 ·have hi:i<l.length:=by simpa using hlt
  have hat:=zdp hi
  have hw:=zai hi (by omega)
  rw[zaT hi]at hF
  have hma:=zel l[i] (hll _ (List.getElem_mem hi))
  cases e0:decide ((i:Int)>0)
  ·have h0:i=0:=by simpa using e0
   have hq:zne l i l[i]= !(!answerB l[i]):=by
    unfold zne
    have:decide (i>0)=false:=by simpa using e0
    rw[this,Bool.false_and,Bool.or_false]
   have hp:(zaF l).drop ((IntKind.i64.wrap ((i:Int) - 1)).toNat*6)=l[i].enc++zaF (l.drop (i+1)):=by
    rw[←zdp hi,h0];rfl
   repeat'(first|exact zC|refine zq (I hat (I hp (I e0 (I @zaz zca)))) ?_|refine zx (hma) ?_|(apply zaa<;>intro hb)|(apply I;exact zI)|(apply I<;>intro hg))
   ·rw[hq,hb,if_neg (by simp)]at hF
    unfold memoB
    rw[←hF]
   ·exact hK _ (i+1) (Gh.canon [] [] [] (zk hw) rfl rfl) hi (by rw[zaT hi,hq,hb];rfl) (by omega)
  ·have h0:0<i:=by simpa using e0
   have hq:zne l i l[i]= !(!answerB l[i]||decide ((l[i - 1]'(by omega)).client≥l[i].client)):=by
    unfold zne zte
    have:decide (i>0)=true:=by simpa using e0
    rw[this,List.getElem?_eq_getElem (by omega)]
    simp only[Bool.true_and,Option.map_some,Option.getD_some]
   have hp:=zdp (show i - 1<l.length by omega)
   have hw1:IntKind.i64.wrap ((i:Int) - 1)=((i - 1:Nat):Int):=by rw[wrap64 (by omega) (by omega)];omega
   repeat'(first|exact zC|refine zq (I hat (I hp (I hw1 (I e0 (I @zaz zca))))) ?_|refine zx (hma) ?_|(apply zaa<;>intro hb)|(apply I;exact zI)|(apply I<;>intro hg))
   ·rw[hq,hb,if_neg (by simp)]at hF
    unfold memoB
    rw[←hF]
   ·exact hK _ (i+1) (Gh.canon [] [] [] (zk hw) rfl rfl) hi (by rw[zaT hi,hq,hb];rfl) (by omega)
 ·have hi:i=l.length:=by
   have:¬(i:Int)<l.length:=by simpa using hge
   omega
  rw[zdW hi]at hF
  unfold memoB
  rw[←hF]
  repeat'(first|exact zC|refine zq0 ?_|(apply zaa<;>intro hb)|(apply I;exact zI)|(apply I<;>intro hg))
abbrev stE (s:St):List D:=[iD s.time,iD s.num,iD s.token, .sl s.sess.length (zaQ s.sess), .sl s.locks.length (zaj s.locks), .sl s.memos.length (zaF s.memos)]
abbrev zyz (s:St):RF:= .agg ((stE s).map RO.d)
abbrev zlw (a:Reply):RF:= .agg [.d (iD a.code), .d (iD a.session), .d (iD a.ahead), .own 2 a.held.length (zaE a.held) false]
structure Small (s:St):Prop where
 sess:s.sess.length<2^30
 locks:s.locks.length<2^30
 memos:s.memos.length<2^30
 line:∀k∈s.locks,k.line.length<2^30∧k.name.size<2^62
 held:∀m∈s.memos,zcf m.reply
abbrev zs3 (l:List Sess) (gone:List Int):List Sess:=l.filter fun x=> !hasI gone x.client
theorem zs4 {s:St} (h:Small s) (now lease:Int):(ztb s.sess now lease).length<2^30:=by
 unfold ztb
 split
 ·simp
 ·rw[List.length_map]
  exact Nat.lt_of_le_of_lt (List.length_filter_le ..) h.sess
abbrev zC5 (b:St) (x:Sess):Bool:= !((zaC b.sess x.client).any fun y=>y.num==x.num)
theorem zjn (n:Int):CallOK Tryz.prog 119 [.f (ai n)] (fun r o=>r=[rb (within n)]∧o=[]):=by
 refine zh Tryz.func119 Tryz.results119 Tryz.ntmps119 Tryz.call119 ?_
 simp only[Tryz.f119,Option.getD]
 repeat'(first|exact zC|refine zq0 ?_|(apply zaa<;>intro hb)|(apply I;exact zI)|(apply I<;>intro hg))
 rfl
theorem zs5 (s:St) (h:Small s) (hs:SS s.sess):CallOK Tryz.prog 123 [.f (.agg s.lent)] (fun r o=>r=[rb (zhQ s)]∧o=[]):=by
 refine zh Tryz.func123 Tryz.results123 Tryz.ntmps123 Tryz.call123 ?_
 simp only[Tryz.f123,Option.getD]
 have hL:=h.locks
 repeat'(first|exact zC|refine zq0 ?_|(apply zaa<;>intro hb)|(apply I;exact zI)|(apply I<;>intro hg))
 refine zaf (τ:=Nat) (fun i=>⟨(dd::ptq 1::dd::ab true::dq7 (al s.locks.length (zaj s.locks)::ai s.locks.length::ai i::zv9 [])),[(1,⟨2,[obq 1 [di s.time,di s.num,di s.token, .lent s.sess.length (zaQ s.sess), .lent s.locks.length (zaj s.locks), .lent s.memos.length (zaF s.memos)],none,none,none,none,none,none]⟩),(5,⟨2,[]⟩),(8,⟨2,[]⟩),(19,⟨2,[]⟩),(22,⟨2,[]⟩)]⟩)
  (fun i=>i≤s.locks.length) (fun i=>(s.locks.drop i).all fun k=>(k.holder::k.line).all fun c=>(zaC s.sess c).isSome) (fun i=>s.locks.length - i) 0
  (Gh.canon [1] [5,8,19,22] [] zK rfl rfl) (Nat.zero_le _) ?_
 intro i hi0 hF K hK
 rw[List.drop_zero]at hF
 refine zw ?_
 refine zaa (fun hlt=> ?_) (fun hge=> ?_)
 ·have hi:i<s.locks.length:=by simpa using hlt
  have hat:=za9 hi
  have hw:=zai hi (by omega)
  have hli:=(h.line _ (List.getElem_mem hi)).1
  rw[List.drop_eq_getElem_cons hi,List.all_cons]at hF
  obtain⟨c,hc⟩:∃c,c=s.locks[i].holder::s.locks[i].line:=⟨_,rfl⟩
  have hcl:c.length=1+s.locks[i].line.length:=by rw[hc,List.length_cons];omega
  rw[←hc]at hF
  repeat'(first|exact zC|refine zq (I hat (I @zah (I @zaA zca))) ?_|(apply zaa<;>intro hb)|(apply I;exact zI)|(apply I<;>intro hg))
  refine zaf (τ:=Nat) (fun j=>⟨(dd::ptq 1::dd::ab true::dq7 (al s.locks.length (zaj s.locks)::ai s.locks.length::ai i::dq8 (.one (.own ⟨19,1,1⟩ 0 c.length)::ai c.length::ai j::zyR []))),[(1,⟨2,[obq 1 [di s.time,di s.num,di s.token, .lent s.sess.length (zaQ s.sess), .lent s.locks.length (zaj s.locks), .lent s.memos.length (zaF s.memos)],none,none,none,none,none,none]⟩),(5,⟨2,[]⟩),(8,⟨2,[]⟩),(19,⟨2,[none,roq 1 1 (zaB c)]⟩),(22,⟨2,[]⟩)]⟩)
   (fun j=>j≤c.length) (fun j=>(c.drop j).all fun c=>(zaC s.sess c).isSome) (fun j=>c.length - j) 0
   (Gh.canon [1,19] [] [] (zk hcl) rfl (by rw[hc];rfl)) (Nat.zero_le _) ?_
  intro j hj0 hF2 K2 hK2
  rw[List.drop_zero]at hF2
  refine zw ?_
  refine zaa (fun hlt2=> ?_) (fun hge2=> ?_)
  ·have hj:j<c.length:=by simpa using hlt2
   have haj:=zcu hj
   have hwj:=zai hj (by omega)
   have hfi:=zvB s.sess hs (by have:=h.sess;omega) c[j]
   rw[List.drop_eq_getElem_cons hj,List.all_cons]at hF2
   cases hb:(zaC s.sess c[j]).isSome
   ·rw[hb]at hfi hF2
    rw[←hF2]at hF
    repeat'(first|exact zC|refine zq (I haj (I @zmd (I @List.map_cons.{0,0} (I @zaA zca)))) ?_|refine zx (hfi) ?_|(apply zaa<;>intro hb)|(apply I;exact zI)|(apply I<;>intro hg))
    unfold zhQ
    rw[←hF]
    rfl
   ·rw[hb]at hfi hF2
    repeat'(first|exact zC|refine zq (I haj (I @zmd (I @List.map_cons.{0,0} (I @zaA zca)))) ?_|refine zx (hfi) ?_|(apply zaa<;>intro hb)|(apply I;exact zI)|(apply I<;>intro hg))
    exact hK2 _ (j+1) (Gh.canon [1,19] [] [] (zk hwj) rfl rfl) hj (by rw[List.drop_eq_getElem_cons hj,List.all_cons,hb,Bool.true_and]) (by omega)
  ·have hj:j=c.length:=by
    have:¬(j:Int)<c.length:=by simpa using hge2
    omega
   rw[hj,List.drop_length,List.all_nil]at hF2
   rw[←hF2,Bool.true_and]at hF
   repeat'(first|exact zC|refine zq0 ?_|(apply zaa<;>intro hb)|(apply I;exact zI)|(apply I<;>intro hg))
   exact hK _ (i+1) (Gh.canon [1] [] [] (zk hw) rfl rfl) hi (by rw[List.drop_eq_getElem_cons hi,List.all_cons,←hc,←hF2,Bool.true_and]) (by omega)
 ·have hi:i=s.locks.length:=by
   have:¬(i:Int)<s.locks.length:=by simpa using hge
   omega
  rw[hi,List.drop_length,List.all_nil]at hF
  repeat'(first|exact zC|refine zq0 ?_|(apply zaa<;>intro hb)|(apply I;exact zI)|(apply I<;>intro hg))
  unfold zhQ
  rw[←hF]
set_option maxHeartbeats 1000000 in
theorem zlx (s:St) (h:Small s):CallOK Tryz.prog 79 [.f (.agg s.lent)] (fun r o=>r=[rb (zdc s)]∧o=[]):=by
 refine zh Tryz.func79 Tryz.results79 Tryz.ntmps79 Tryz.call79 ?_
 simp only[Tryz.f79,Option.getD]
 have w1:=zjn s.time
 have w2:=zjn s.num
 have w3:=zjn s.token
 have hsr:=znl s.sess h.sess
 have hlr:=znk s.locks h.locks h.line
 have hmr:=zni s.memos h.memos h.held
 have hns:=h.sess
 have hnl:=h.locks
 cases hA:(!within s.time|| !within s.num|| !within s.token|| !sessB s.sess|| !lockB s.locks|| !memoB s.memos)
 ·have hss:SS s.sess:=(znb.1 (by simp at hA;exact hA.1.1.2)).2.2.1
  have hrb:zdc s=((s.sess.all fun x=>decide (x.num≤s.num))&&(s.locks.all fun k=>decide (k.token≤s.token))&&zhQ s):=by
   unfold zdc
   simp at hA
   rw[hA.1.1.1.1.1,hA.1.1.1.1.2,hA.1.1.1.2,hA.1.1.2,hA.1.2,hA.2]
   rfl
  have hse:=zs5 s h hss
  repeat'(first|exact zC|refine zq hA ?_|refine zx (w1) ?_|refine zx (w2) ?_|refine zx (w3) ?_|refine zx (hsr) ?_|refine zx (hlr) ?_|refine zx (hmr) ?_|(apply zaa<;>intro hb)|(apply I;exact zI)|(apply I<;>intro hg))
  refine zaf (τ:=Nat) (fun i=>⟨(dd::ptq 1::zdP (al s.sess.length (zaQ s.sess)::ai s.sess.length::ai i::zyt [])),[(1,⟨2,[obq 1 [di s.time,di s.num,di s.token, .lent s.sess.length (zaQ s.sess), .lent s.locks.length (zaj s.locks), .lent s.memos.length (zaF s.memos)],none,none,none,none,none,none]⟩),(4,⟨2,[]⟩)]⟩)
   (fun i=>i≤s.sess.length) (fun i=>(s.sess.drop i).all fun x=>decide (x.num≤s.num)) (fun i=>s.sess.length - i) 0
   (Gh.canon [1] [4] [] zK rfl rfl) (Nat.zero_le _) ?_
  intro i hi0 hF K hK
  rw[List.drop_zero]at hF
  refine zw ?_
  refine zaa (fun hlt=> ?_) (fun hge=> ?_)
  ·have hi:i<s.sess.length:=by simpa using hlt
   have hat:=zcb hi
   have hw:=zai hi (by omega)
   rw[List.drop_eq_getElem_cons hi,List.all_cons]at hF
   repeat'(first|exact zC|refine zq (I hat (I @zat zca)) ?_|(apply zaa<;>intro hb)|(apply I;exact zI)|(apply I<;>intro hg))
   ·rw[show decide (s.sess[i].num≤s.num)=false by simp at hb⊢;omega]at hF
    rw[hrb,←hF]
    rfl
   ·exact hK _ (i+1) (Gh.canon [1] [] [] (zk hw) rfl rfl) hi (by rw[List.drop_eq_getElem_cons hi,List.all_cons,show decide (s.sess[i].num≤s.num)=true by simp at hb⊢;omega,Bool.true_and]) (by omega)
  ·have hi:i=s.sess.length:=by
    have:¬(i:Int)<s.sess.length:=by simpa using hge
    omega
   rw[hi,List.drop_length,List.all_nil]at hF
   rw[←hF,Bool.true_and]at hrb
   repeat'(first|exact zC|refine zq0 ?_|(apply zaa<;>intro hb)|(apply I;exact zI)|(apply I<;>intro hg))
   refine zaf (τ:=Nat) (fun i=>⟨(dd::ptq 1::zrx (zdP (al s.locks.length (zaj s.locks)::ai s.locks.length::ai i::zyr []))),[(1,⟨2,[obq 1 [di s.time,di s.num,di s.token, .lent s.sess.length (zaQ s.sess), .lent s.locks.length (zaj s.locks), .lent s.memos.length (zaF s.memos)],none,none,none,none,none,none]⟩),(4,⟨2,[]⟩),(6,⟨2,[]⟩)]⟩)
    (fun i=>i≤s.locks.length) (fun i=>(s.locks.drop i).all fun k=>decide (k.token≤s.token)) (fun i=>s.locks.length - i) 0
    (Gh.canon [1] [6] [] zK rfl rfl) (Nat.zero_le _) ?_
   intro i hi0 hF K hK
   rw[List.drop_zero]at hF
   refine zw ?_
   refine zaa (fun hlt=> ?_) (fun hge=> ?_)
   ·have hi:i<s.locks.length:=by simpa using hlt
    have hat:=za9 hi
    have hw:=zai hi (by omega)
    rw[List.drop_eq_getElem_cons hi,List.all_cons]at hF
    repeat'(first|exact zC|refine zq (I hat (I @zah zca)) ?_|(apply zaa<;>intro hb)|(apply I;exact zI)|(apply I<;>intro hg))
    ·rw[show decide (s.locks[i].token≤s.token)=false by simp at hb⊢;omega]at hF
     rw[hrb,←hF]
     rfl
    ·exact hK _ (i+1) (Gh.canon [1] [] [] (zk hw) rfl rfl) hi (by rw[List.drop_eq_getElem_cons hi,List.all_cons,show decide (s.locks[i].token≤s.token)=true by simp at hb⊢;omega,Bool.true_and]) (by omega)
   ·have hi:i=s.locks.length:=by
     have:¬(i:Int)<s.locks.length:=by simpa using hge
     omega
    rw[hi,List.drop_length,List.all_nil]at hF
    rw[←hF,Bool.true_and]at hrb
    rw[hrb]
    repeat'(first|exact zC|refine zq0 ?_|refine zx (hse) ?_|(apply zaa<;>intro hb)|(apply I;exact zI)|(apply I<;>intro hg))
 ·have hrb:zdc s=false:=by
   unfold zdc
   simp at hA
   simp
   intros
   simp_all
  rw[hrb]
  repeat'(first|exact zC|refine zq hA ?_|refine zx (w1) ?_|refine zx (w2) ?_|refine zx (w3) ?_|refine zx (hsr) ?_|refine zx (hlr) ?_|refine zx (hmr) ?_|(apply zaa<;>intro hb)|(apply I;exact zI)|(apply I<;>intro hg))
abbrev zxY (s:St):AV:= .agg ((stE s).map C.d)
theorem zsZ (l:List Lk) (name:ByteArray) (c t:Int) (w:Bool):(zaX l name c t w).1.length≤l.length+1:=by
 unfold zaX
 cases zdG l name with
 |none=>
  simp only
  split
  ·simp
  ·exact Nat.le_of_eq (zxZ zos _)
 |some k=>
  simp only
  repeat' split
  all_goals simp
theorem zs1 (l:List Lk) (name:ByteArray) (c t:Int):(zbV l name c t).1.length≤l.length:=by
 unfold zbV
 cases zdG l name with
 |none=>simp
 |some k=>
  simp only
  split
  ·unfold zgw
   split
   ·simp only;rw[List.length_eraseIdx];split<;>omega
   ·simp
  ·split<;>simp
theorem zs2 (l:List Lk) (name:ByteArray) (c t:Int):0≤(zbV l name c t).2.1∧(zbV l name c t).2.1≤1:=by
 unfold zbV
 cases zdG l name with
 |none=>simp
 |some k=>
  simp only
  split
  ·unfold zgw
   split<;>simp
  ·split<;>simp
theorem zsW {s:St} {r:Req} {x:Sess} (h1:(r.kind==1)=false) (hf:zaC s.sess r.client=some x) (hx:(x.num !=r.session)=false):
  zbu s r=if(r.kind==3||r.kind==4)=true then
  (if((zaX s.locks r.name r.client s.token (r.kind==3)).2.2==0)=true then(⟨s.time,s.num,s.token+1,(zcH s.sess r.client s.time).1,(zaX s.locks r.name r.client s.token (r.kind==3)).1,s.memos⟩,⟨(zaX s.locks r.name r.client s.token (r.kind==3)).2.2,x.num,0,zb5 (zaX s.locks r.name r.client s.token (r.kind==3)).1 r.client⟩)
  else if((zaX s.locks r.name r.client s.token (r.kind==3)).2.2==10)=true then(⟨s.time,s.num,s.token,(zcH s.sess r.client s.time).1,(zaX s.locks r.name r.client s.token (r.kind==3)).1,s.memos⟩,⟨(zaX s.locks r.name r.client s.token (r.kind==3)).2.2,x.num,(zaX s.locks r.name r.client s.token (r.kind==3)).2.1,zb5 (zaX s.locks r.name r.client s.token (r.kind==3)).1 r.client⟩)
  else(⟨s.time,s.num,s.token,(zcH s.sess r.client s.time).1,s.locks,s.memos⟩,⟨(zaX s.locks r.name r.client s.token (r.kind==3)).2.2,x.num,0,zb5 s.locks r.client⟩))
 else if(r.kind==5)=true then
  (if((zbV s.locks r.name r.client s.token).2.2==0)=true then(⟨s.time,s.num,s.token+(zbV s.locks r.name r.client s.token).2.1,(zcH s.sess r.client s.time).1,(zbV s.locks r.name r.client s.token).1,s.memos⟩,⟨(zbV s.locks r.name r.client s.token).2.2,x.num,0,zb5 (zbV s.locks r.name r.client s.token).1 r.client⟩)
  else(⟨s.time,s.num,s.token,(zcH s.sess r.client s.time).1,s.locks,s.memos⟩,⟨(zbV s.locks r.name r.client s.token).2.2,x.num,0,zb5 s.locks r.client⟩))
 else if(r.kind==6)=true then(zbE ⟨s.time,s.num,s.token,(zcH s.sess r.client s.time).1,s.locks,s.memos⟩ [r.client],⟨0,0,0,[]⟩)
 else(⟨s.time,s.num,s.token,(zcH s.sess r.client s.time).1,s.locks,s.memos⟩,⟨0,x.num,0,zb5 s.locks r.client⟩):=by
 unfold zbu
 rw[if_neg (by rw[h1];simp),hf]
 simp only
 rw[if_neg (by rw[hx];simp)]
 split
 ·by_cases e0:(zaX s.locks r.name r.client s.token (r.kind==3)).2.2=0
  ·rw[if_pos e0,if_neg (by rw[e0];decide),if_pos (by simpa using e0)]
  ·by_cases e10:(zaX s.locks r.name r.client s.token (r.kind==3)).2.2=10
   ·rw[if_neg e0,if_pos e10,if_pos e10,if_neg (by simpa using e0),if_pos (by simpa using e10)]
   ·rw[if_neg e0,if_neg e10,if_neg e10,if_neg (by simpa using e0),if_neg (by simpa using e10)]
 ·split
  ·by_cases e0:(zbV s.locks r.name r.client s.token).2.2=0
   ·rw[if_pos e0,if_pos (by simpa using e0)]
   ·rw[if_neg e0,if_neg (by simpa using e0)]
  ·rfl
theorem zqH {s:St} (h:Small s) (r:Req):(zbu s r).1.memos=s.memos:=by
 unfold zbu
 split
 ·unfold zcU
  split
  ·rfl
  ·split<;>rfl
 ·split
  ·rfl
  ·split
   ·rfl
   ·simp only
    repeat' split
    all_goals rfl
theorem zhN {b:ByteArray} (h:nameP b=true):b.size≤12:=by
 unfold nameP at h
 simp only[Bool.and_eq_true,decide_eq_true_eq]at h
 omega
theorem zsX {r:Reply} (h:zbU r=true):zcf r:=by
 unfold zbU at h
 simp only[Bool.and_eq_true,Bool.not_eq_true',Bool.or_eq_false_iff,decide_eq_false_iff_not]at h
 obtain⟨⟨_,h1,_⟩,h2⟩:=h
 refine⟨by omega,fun g hg=> ?_⟩
 obtain⟨j,hj,rfl⟩:=List.getElem_of_mem hg
 have:=zcy.1 h2 j hj
 unfold zcs at this
 simp only[Bool.not_eq_true',Bool.or_eq_false_iff,Bool.not_eq_false']at this
 have:=zhN this.1.1.1
 omega
theorem zhO:∀{l:List Int} {a b:Int},l.Pairwise (·<·)→(∀x∈l,a≤x∧x<b)→(l.length:Int)≤max (b - a) 0
 |[],a,b,_,_=>by simp;omega
 |x::l,a,b,h,hb=>by
  have h':=List.pairwise_cons.1 h
  have hx:=hb x (List.mem_cons_self ..)
  have:=zhO (a:=x+1) (b:=b) h'.2 (fun y hy=>⟨by have:=h'.1 y hy;omega,(hb y (List.mem_cons_of_mem _ hy)).2⟩)
  simp only[List.length_cons];omega
theorem zda {m:Memo} (h:answerB m=true):(0≤m.client∧m.client<8)∧(1≤m.seq∧m.seq≤zbs)∧zbU m.reply=true:=by
 unfold answerB at h
 simp only[Bool.and_eq_true,decide_eq_true_eq]at h
 exact⟨⟨h.1.1.1.1,h.1.1.1.2⟩,⟨h.1.1.2,h.1.2⟩,h.2⟩
theorem zcc {s:St} (h:RightS s):Small s:=by
 refine⟨by have:=h.sl;omega,by have:=h.ll;omega, ?_,fun k hk=> ?_,fun m hm=>zsX (zda (h.mok m hm)).2.2⟩
 ·have:=zhO (a:=0) (b:=8) (zpJ.1 h.ms) (fun x hx=>by
   obtain⟨m,hm,rfl⟩:=List.mem_map.1 hx
   exact(zda (h.mok m hm)).1)
  rw[List.length_map]at this
  omega
 ·obtain⟨a,_,b,_⟩:=h.lok k hk
  have h1:=(zbM.1 b).1
  have h2:=zhN (zcN.1 a).1
  omega
theorem zm8 {l:List Lk} (hl:l.length<2^30) (hn:∀k∈l,k.name.size<2^62) (c:Int) (a b d:Int):zcf ⟨a,b,d,zb5 l c⟩:=by
 refine⟨?_,fun g hg=> ?_⟩
 ·unfold zb5
  rw[List.length_map]
  exact Nat.lt_of_le_of_lt (List.length_filter_le ..) hl
 ·unfold zb5 at hg
  obtain⟨k,hk,rfl⟩:=List.mem_map.1 hg
  exact hn k (List.mem_filter.1 hk).1
theorem zsY (s:St) (r:Req):(zbu s r).2.held=[]∨(zbu s r).2.held=zb5 (zbu s r).1.locks r.client:=by
 unfold zbu
 split
 ·unfold zcU
  split
  ·exact .inr rfl
  ·split
   ·exact .inl rfl
   ·exact .inr rfl
 ·split
  ·exact .inl rfl
  ·split
   ·exact .inl rfl
   ·simp only
    repeat' split
    all_goals first|exact .inr rfl|exact .inl rfl
theorem zqI {s:St} (h:RightS s) {r:Req} (hm:Req.may r=true) (hN:s.num+1≤zbs) (hT:s.token+4≤zbs):zcf (zbu s r).2:=by
 have hs:=zcc (zhP h hm hN hT).rt
 rcases zsY s r with e|e
 ·exact⟨by rw[e];simp,fun g hg=>by rw[e]at hg;cases hg⟩
 ·have:=zm8 hs.locks (fun k hk=>(hs.line k hk).2) r.client 0 0 0
  unfold zcf at this⊢
  rw[e]
  exact this
theorem zm9 {l:List Lk} (hs:SL l) (h:∀k∈l,zqN k=true) (c:Int):zbA (zcs (zb5 l c)) 0 (zb5 l c)=true:=by
 have hp:(zb5 l c).Pairwise fun a b=>zed a.name b.name=true:=by
  unfold zb5
  rw[List.pairwise_map]
  exact List.Pairwise.sublist (List.filter_sublist ..) hs
 rw[zcy]
 intro j hj
 rw[Nat.zero_add]
 have hm:∃k∈l,(zb5 l c)[j]=⟨k.name,k.token⟩:=by
  have:=List.getElem_mem hj
  unfold zb5 at this
  obtain⟨k,hk,e⟩:=List.mem_map.1 this
  exact⟨k,(List.mem_filter.1 hk).1,e.symm⟩
 obtain⟨k,hk,e⟩:=hm
 have ho:=zcN.1 (h k hk)
 unfold zcs
 simp only[Bool.not_eq_true',Bool.or_eq_false_iff,Bool.and_eq_false_iff,Bool.not_eq_false',decide_eq_false_iff_not]
 rw[e]
 refine⟨⟨⟨ho.1,by simp only;omega⟩,by simp only;omega⟩, ?_⟩
 by_cases h0:0<j
 ·right
  have:=zek hp j hj h0
  unfold zqO
  rw[List.getElem?_eq_getElem (by omega)]
  rw[e]at this
  simpa using this
 ·left;omega
theorem zqJ {s:St} (h:RightS s) {r:Req} (hm:Req.may r=true) (hN:s.num+1≤zbs) (hT:s.token+4≤zbs):
  ((zbu s r).2.held=[]∨(1≤(zbu s r).2.session∧(zbu s r).2.held=zb5 (zbu s r).1.locks r.client))∧(0≤(zbu s r).2.session∧(zbu s r).2.session≤zbs)∧(0≤(zbu s r).2.ahead∧(zbu s r).2.ahead≤3):=by
 have hH:zbs=2305843009213693952:=rfl
 obtain⟨hc,_,hnm⟩:=zly hm
 have hnum:=h.num
 cases h1:r.kind==1
 ·cases hf:zaC s.sess r.client with
  |none=>
   have hd:zbu s r=(s,⟨9,0,0,[]⟩):=by unfold zbu;rw[if_neg (by rw[h1];simp),hf]
   rw[hd]
   exact⟨.inl rfl,by simp only;omega,by simp only;omega⟩
  |some x=>
   have hxn:=(zcW.1 (h.sok x (List.mem_of_find?_eq_some hf)).1).2.1
   cases hx:x.num !=r.session
   ·rw[zsW h1 hf hx]
    have h1':=zjr h hf
    have hf1:(zaC (zcH s.sess r.client s.time).1 r.client).isSome=true:=by rw[zhf h hf,ziw (zjq h hf).1,hf];rfl
    split
    ·rename_i hk
     obtain⟨_,_,_,ta⟩:=zkK (w:=r.kind==3) h1' (hnm hk) hc hf1 hT
     simp only at ta
     split
     ·exact⟨.inr ⟨hxn.1,rfl⟩,by simp only;omega,by simp only;omega⟩
     ·split
      ·exact⟨.inr ⟨hxn.1,rfl⟩,by simp only;omega,ta⟩
      ·exact⟨.inr ⟨hxn.1,rfl⟩,by simp only;omega,by simp only;omega⟩
    ·split
     ·split
      ·exact⟨.inr ⟨hxn.1,rfl⟩,by simp only;omega,by simp only;omega⟩
      ·exact⟨.inr ⟨hxn.1,rfl⟩,by simp only;omega,by simp only;omega⟩
     ·split
      ·exact⟨.inl rfl,by simp only;omega,by simp only;omega⟩
      ·exact⟨.inr ⟨hxn.1,rfl⟩,by simp only;omega,by simp only;omega⟩
   ·have hd:zbu s r=(s,⟨9,0,0,[]⟩):=by unfold zbu;rw[if_neg (by rw[h1];simp),hf];simp only;rw[if_pos hx]
    rw[hd]
    exact⟨.inl rfl,by simp only;omega,by simp only;omega⟩
 ·have hd:zbu s r=zcU s r.client:=by unfold zbu;rw[if_pos h1]
  rw[hd]
  unfold zcU
  cases hf:zaC s.sess r.client with
  |some x=>
   have hxn:=(zcW.1 (h.sok x (List.mem_of_find?_eq_some hf)).1).2.1
   exact⟨.inr ⟨hxn.1,rfl⟩,by simp only;omega,by simp only;omega⟩
  |none=>
   simp only
   split
   ·exact⟨.inl rfl,by simp only;omega,by simp only;omega⟩
   ·exact⟨.inr ⟨by simp only;omega,rfl⟩,by simp only;omega,by simp only;omega⟩
theorem zoo {s:St} (h:RightS s) {r:Req} (hm:Req.may r=true) (hN:s.num+1≤zbs) (hT:s.token+4≤zbs):answerB ⟨r.client,r.seq,(zbu s r).2⟩=true:=by
 obtain⟨hc,hq,_⟩:=zly hm
 have hd:=zhP h hm hN hT
 obtain⟨h1,h2,h3⟩:=zqJ h hm hN hT
 have hcl:=zdy.1 hc
 have hcode:=hd.code
 have hrt:=hd.rt
 unfold answerB zbU
 simp only[Bool.and_eq_true,decide_eq_true_eq,Bool.not_eq_true',Bool.or_eq_false_iff,Bool.and_eq_false_iff,decide_eq_false_iff_not]
 refine⟨⟨⟨⟨hcl.1,hcl.2⟩,hq.1⟩,hq.2⟩,⟨by omega, ?_⟩, ?_⟩
 ·rcases h1 with e|⟨e1,e2⟩
  ·rw[e];exact⟨by simp, .inr (by simp)⟩
  ·refine⟨?_, .inl (by simp;omega)⟩
   rw[e2]
   unfold zb5
   rw[List.length_map]
   have:=List.length_filter_le (fun k:Lk=>k.holder==r.client) (zbu s r).1.locks
   have:=hrt.ll
   omega
 ·rcases h1 with e|⟨e1,e2⟩
  ·rw[e];rfl
  ·rw[e2]
   exact zm9 hrt.ls (fun k hk=>(hrt.lok k hk).1) _
theorem zoA {l:List Int} (h:lineB l=true):l.Nodup:=(zbM.1 h).2.2
theorem zvH {l:List Sess}:zs3 l []=l:=List.filter_eq_self.2 fun _ _=>rfl
abbrev znp (l:List Sess) (gone:List Int) (i:Nat):List Sess:=zs3 l (gone.take i)
theorem znq {l:List Sess} {gone:List Int} {i:Nat} (hi:i<gone.length):znp l gone (i+1)=(znp l gone i).filter fun x=>x.client !=gone[i]:=by
 unfold znp zs3
 rw[List.filter_filter]
 congr 1
 funext x
 rw[←List.take_append_getElem hi]
 unfold hasI
 rw[List.any_append]
 simp only[List.any_cons,List.any_nil,Bool.or_false,Bool.not_or,bne]
 rw[Bool.and_comm]
theorem ztx {l:List Sess} {gone:List Int} {i:Nat} (hi:i<gone.length) (hf:zaC (znp l gone i) gone[i]=none):znp l gone (i+1)=znp l gone i:=by
 rw[znq hi]
 refine List.filter_eq_self.2 fun x hx=> ?_
 have:=List.find?_eq_none.1 hf x hx
 simpa[bne]using this
set_option maxHeartbeats 2000000 in
theorem znr (s:St) (h:Small s) (hs:SL s.locks) (hnd:∀k∈s.locks,k.line.Nodup) (ht:0≤s.token∧s.token≤zbs) (gone:List Int) (hg:gone.length<2^30):
  CallOK Tryz.prog 186 [.f (zxY s), .f (al gone.length (zaB gone))] (fun r o=>r=[zyz (zbE s gone)]∧o=[]):=by
 refine CallOK.nil ?_
 refine zh Tryz.func186 Tryz.results186 Tryz.ntmps186 Tryz.call186 ?_
 simp only[Tryz.f186,Option.getD]
 have hH:zbs=2^61:=by decide
 have hdp:=zvK s.locks hs h.locks (fun k hk=>⟨(h.line k hk).1,hnd k hk⟩) gone hg s.token (by omega)
 obtain⟨⟨g1,g2⟩,_⟩:=zeG gone s.token (s.locks.map (zam gone)) 0 (Int.le_refl _)
 have g1:0≤(zen s.locks gone s.token).2:=g1
 have g2:(zen s.locks gone s.token).2≤0+(s.locks.map (zam gone)).length:=g2
 rw[List.length_map]at g2
 have hw:IntKind.i64.wrap (s.token+(zen s.locks gone s.token).2)=s.token+(zen s.locks gone s.token).2:=wrap64 (by omega) (by have:=h.locks;omega)
 obtain⟨LD,hD⟩:∃D,D=(zen s.locks gone s.token).1:=⟨_,rfl⟩
 obtain⟨g,hg0⟩:∃g,g=(zen s.locks gone s.token).2:=⟨_,rfl⟩
 have hwi:zbE s gone=⟨s.time,s.num,s.token+g,zs3 s.sess gone,LD,s.memos⟩:=by rw[hD,hg0];rfl
 rw[hwi]
 rw[←hD,←hg0]at hdp
 rw[←hg0]at hw
 repeat'(first|exact zC|(with_reducible first|refine zbd 4 ?_|refine zaR 4 ?_|refine zaS 4 ?_)|refine zu hw ?_|(with_reducible first|refine zae _ _ ?_)|refine zx (hdp) ?_|(apply zaa<;>intro hb)|(apply I;exact zI)|(apply I<;>intro hg))
 refine zbf (zbm (Gh.sealF 2 4 (.own ⟨2,5,7⟩ 0 LD.length) ?_) ?_)
 ·exact zo0
 refine zf0 ?_
 refine zbm (Gh.dropRow 2 5 rfl) ?_
 simp only[zY,Nat.reduceSub,Nat.reduceEqDiff,Nat.reduceAdd,Nat.reduceMul,Nat.reduceLeDiff,Nat.reduceLT,Nat.reduceBEq,reduceCtorEq]
 repeat'(first|exact zC|refine zq0 ?_|(apply zaa<;>intro hb)|(apply I;exact zI)|(apply I<;>intro hg))
 rw[show(D.sl s.sess.length (zaQ s.sess))=D.sl (znp s.sess gone 0).length (zaQ (znp s.sess gone 0)) from by rw[show znp s.sess gone 0=s.sess from zvH]]
 refine zaf (τ:=Nat) (fun i=>⟨(dd::al gone.length (zaB gone)::ptq 2::dd::ptq 4::dq2 (ai i::zyu [])),[(2,⟨2,[obq 1 [di s.time,di s.num,di (s.token+g), .d (.sl (znp s.sess gone i).length (zaQ (znp s.sess gone i))), .d (.sl LD.length (zaj LD)), .d (.sl s.memos.length (zaF s.memos))],none,none,none,none,none,none]⟩),(4,⟨2,[obq 1 [di 0,di 0,di 0, .d (.v (.slice none 0 0)), .d (.v (.slice none 0 0)), .d (.v (.slice none 0 0))],none,none,none,none,none,none]⟩),(16,⟨2,[]⟩),(5,⟨2,[]⟩),(8,⟨2,[]⟩),(39,⟨2,[]⟩)]⟩)
  (fun i=>i≤gone.length) (fun _=>()) (fun i=>gone.length - i) 0
  (Gh.canon [2,4] [8,39] [] zK rfl rfl) (Nat.zero_le _) ?_
 intro i hi0 hF K hK
 refine zw ?_
 refine zaa (fun hlt=> ?_) (fun hge=> ?_)
 ·have hi:i<gone.length:=by simpa using hlt
  have hat:=zcu hi
  have hwi:=zai hi (by omega)
  have hcl:(znp s.sess gone i).length<2^30:=Nat.lt_of_le_of_lt (List.length_filter_le ..) h.sess
  have hrc:=ztB (znp s.sess gone i) hcl gone[i]
  cases hf:zaC (znp s.sess gone i) gone[i]with
  |none=>
   rw[hf]at hrc
   simp only[Option.isSome_none,Bool.false_eq_true,if_false]at hrc
   have hz:((6:Int)==0)=false:=rfl
   repeat'(first|exact zC|refine zq (I hat (I hz (I @zaA zca))) ?_|refine zx (hrc) ?_|(apply zaa<;>intro hb)|(apply I;exact zI)|(apply I<;>intro hg))
   rw[←ztx hi hf]
   exact hK _ (i+1) (Gh.canon [2,4] [] [] (zk hwi) rfl rfl) hi rfl (by omega)
  |some x=>
   rw[hf]at hrc
   simp only[Option.isSome_some,if_true]at hrc
   rw[←znq hi]at hrc
   have hz:((0:Int)==0)=true:=rfl
   repeat'(first|exact zC|(with_reducible first|refine zbd 6 ?_|refine zaR 6 ?_|refine zaS 6 ?_)|refine zu (I hat (I hz (I @zaA zca))) ?_|(with_reducible first|refine zae _ _ ?_)|refine zx (hrc) ?_|(apply zaa<;>intro hb)|(apply I;exact zI)|(apply I<;>intro hg))
   refine zbf (zbm (Gh.sealF 2 3 (.own ⟨2,4,2⟩ 0 (znp s.sess gone (i+1)).length) ?_) ?_)
   ·exact zo0
   refine zf0 ?_
   refine zbm (Gh.dropRow 2 4 rfl) ?_
   simp only[zY,Nat.reduceSub,Nat.reduceEqDiff,Nat.reduceAdd,Nat.reduceMul,Nat.reduceLeDiff,Nat.reduceLT,Nat.reduceBEq,reduceCtorEq]
   repeat'(first|exact zC|refine zq0 ?_|(apply zaa<;>intro hb)|(apply I;exact zI)|(apply I<;>intro hg))
   exact hK _ (i+1) (Gh.canon [2,4] [] [] (zk hwi) rfl rfl) hi rfl (by omega)
 ·have hi:i=gone.length:=by
   have:¬(i:Int)<gone.length:=by simpa using hge
   omega
  subst hi
  have he:znp s.sess gone gone.length=zs3 s.sess gone:=by unfold znp;rw[List.take_length]
  rw[he]
  repeat'(first|exact zC|refine zq0 ?_|(apply zaa<;>intro hb)|(apply I;exact zI)|(apply I<;>intro hg))
  simp[zaG,zcn,zaK,zaw]
theorem zgB {s:St} (hr:RightS s):∀k∈s.locks,k.line.Nodup:=fun k hk=>zoA (hr.lok k hk).2.2.1
set_option maxHeartbeats 2000000 in
theorem zoz (s:St) (h:Small s) (hr:RightS s) (time lease:Int):CallOK Tryz.prog 158 [.f (zxY s), .f (ai time), .f (ai lease)]
  (fun r o=>r=[zyz (zcz s time lease)]∧o=[]):=by
 refine zh Tryz.func158 Tryz.results158 Tryz.ntmps158 Tryz.call158 ?_
 simp only[Tryz.f158,Option.getD]
 have h':Small {s with time:=zeH s time}:=⟨h.sess,h.locks,h.memos,h.line,h.held⟩
 have htm:0≤zeH s time∧zeH s time≤zbs:=by
  have:=hr.time
  unfold zeH
  split
  ·rename_i hc
   simp only[Bool.and_eq_true,decide_eq_true_eq]at hc
   omega
  ·exact this
 have hdu:=zx6 s.sess h.sess (zeH s time) (max lease 1) (fun x hx=>(zcW.1 (hr.sok x hx).1).2.2) htm
 have hwo:=znr {s with time:=zeH s time} h' hr.ls (fun k hk=>zgB hr k hk) hr.token (ztb s.sess (zeH s time) (max lease 1)) (zs4 h _ _)
 have hav:zcz s time lease=zbE {s with time:=zeH s time} (ztb s.sess (zeH s time) (max lease 1)):=rfl
 rw[hav]
 cases ha:decide (time>s.time)&&decide (time≤2305843009213693952)
 ·have htp:zeH s time=s.time:=by unfold zeH;rw[show(decide (time>s.time)&&decide (time≤zbs))=false from ha];rfl
  rw[htp]at hdu hwo⊢
  repeat'(first|exact zC|refine zq (I ha @rowI.eq_1) ?_|refine zx (hdu) ?_|refine zx (hwo) ?_|(apply zaa<;>intro hb)|(apply I;exact zI)|(apply I<;>intro hg))
  rfl
 ·have htp:zeH s time=time:=by unfold zeH;rw[show(decide (time>s.time)&&decide (time≤zbs))=true from ha];rfl
  rw[htp]at hdu hwo⊢
  repeat'(first|exact zC|refine zq (I ha @rowI.eq_1) ?_|refine zx (hdu) ?_|refine zx (hwo) ?_|(apply zaa<;>intro hb)|(apply I;exact zI)|(apply I<;>intro hg))
  rfl
theorem zlP (s:St) (h:Small s) (c code ahead:Int):CallOK Tryz.prog 208 [.f (zxY s), .f (ai c), .f (ai code), .f (ai ahead)]
  (fun r o=>r=[zlw ⟨code,((zaC s.sess c).getD ze7).num,ahead,zb5 s.locks c⟩]∧o=[]):=by
 refine zh Tryz.func208 Tryz.results208 Tryz.ntmps208 Tryz.call208 ?_
 simp only[Tryz.f208,Option.getD]
 have hfi:=zeX s.sess (by have:=h.sess;omega) c
 have hhe:=zvJ s.locks h.locks c
 repeat'(first|exact zC|refine zq0 ?_|refine zx (hfi) ?_|refine zx (hhe) ?_|(apply zaa<;>intro hb)|(apply I;exact zI)|(apply I<;>intro hg))
 rfl
theorem zkM {s:St} (hr:RightS s) {c:Int} (hc:isClient c=true) (hf:zaC s.sess c=none) (he:((zdN s.sess c (s.num+1) s.time).2 !=0)=false):
  (zdN s.sess c (s.num+1) s.time).1.length≤s.sess.length+1∧((zaC (zdN s.sess c (s.num+1) s.time).1 c).getD ze7).num=s.num+1:=by
 by_cases hN:s.num+1≤zbs
 ·rw[zpH hr hc hN hf]at he⊢
  split at he
  ·cases he
  ·rename_i h5
   rw[if_neg h5]
   refine⟨?_, ?_⟩
   ·simp only[List.length_append,List.length_cons,List.length_take,List.length_drop];omega
   ·have h1:(s.sess.take (zgx s.sess c)).find? (fun x=>x.client==c)=none:=List.find?_eq_none.2 fun x hx=>List.find?_eq_none.1 hf x (List.mem_of_mem_take hx)
    simp only[zaC,List.find?_append,h1,Option.none_or,List.find?_cons,beq_self_eq_true,Option.getD_some]
 ·exfalso
  have:zdN s.sess c (s.num+1) s.time=([],1):=by
   unfold zdN
   rw[if_pos (by simp only[Bool.or_eq_true,decide_eq_true_eq];omega)]
  rw[this]at he
  cases he
set_option maxHeartbeats 2000000 in
theorem ztw (s:St) (h:Small s) (hr:RightS s) (c:Int) (hc:isClient c=true):CallOK Tryz.prog 205 [.f (zxY s), .f (ai c)]
  (fun r o=>r=[zyz (zcU s c).1,zlw (zcU s c).2]∧o=[]):=by
 refine CallOK.nil ?_
 refine zh Tryz.func205 Tryz.results205 Tryz.ntmps205 Tryz.call205 ?_
 simp only[Tryz.f205,Option.getD]
 have hfi:=zeX s.sess (by have:=h.sess;omega) c
 have hn:=hr.num
 have hH:zbs=2^61:=by decide
 have hw:IntKind.i64.wrap (s.num+1)=s.num+1:=wrap64 (by omega) (by omega)
 cases hf:zaC s.sess c with
 |some x=>
  have hto:=zlP s h c 7 0
  rw[hf]at hfi hto
  simp only[Option.isSome_some,Option.getD_some]at hfi hto
  have ho:zcU s c=(s,⟨7,x.num,0,zb5 s.locks c⟩):=by unfold zcU;rw[hf]
  rw[ho]
  repeat'(first|exact zC|refine zq0 ?_|refine zx (hfi) ?_|refine zx (hto) ?_|(apply zaa<;>intro hb)|(apply I;exact zI)|(apply I<;>intro hg))
  simp[zaG,zcn,zaK,zaw]
 |none=>
  rw[hf]at hfi
  simp only[Option.isSome_none,Option.getD_none]at hfi
  have hop:=zvI s.sess hr.ss h.sess c (s.num+1) s.time hc (by omega) hr.time hf (zhe hr)
  have ho:zcU s c=if((zdN s.sess c (s.num+1) s.time).2 !=0)=true then(s,⟨(zdN s.sess c (s.num+1) s.time).2,0,0,[]⟩)else
    ({s with sess:=(zdN s.sess c (s.num+1) s.time).1,num:=s.num+1},⟨0,s.num+1,0,zb5 s.locks c⟩):=by unfold zcU;rw[hf];simp only[bne_iff_ne]
  cases he:(zdN s.sess c (s.num+1) s.time).2 !=0
  ·rw[he,if_neg (by simp)]at ho
   rw[ho]
   have hsm:Small {s with sess:=(zdN s.sess c (s.num+1) s.time).1,num:=s.num+1}:=⟨by have:=(zkM hr hc hf he).1;have:=hr.sl;simp only;omega,h.locks,h.memos,h.line,h.held⟩
   have hto:=zlP {s with sess:=(zdN s.sess c (s.num+1) s.time).1,num:=s.num+1} hsm c 0 0
   have hfo:((zaC (zdN s.sess c (s.num+1) s.time).1 c).getD ze7).num=s.num+1:=(zkM hr hc hf he).2
   simp only[hfo]at hto
   repeat'(first|exact zC|(with_reducible first|refine zbd 8 ?_|refine zaR 8 ?_|refine zaS 8 ?_)|refine zu (I hw he) ?_|(with_reducible first|refine zae _ _ ?_)|refine zx (hfi) ?_|refine zx (hop) ?_|(apply zaa<;>intro hb)|(apply I;exact zI)|(apply I<;>intro hg))
   refine zbf (zbm (Gh.sealF 2 3 (.own ⟨2,4,7⟩ 0 (zdN s.sess c (s.num+1) s.time).1.length) ?_) ?_)
   ·exact zo0
   refine zf0 ?_
   repeat'(first|exact zC|refine zq hw ?_|refine zx (hto) ?_|(apply zaa<;>intro hb)|(apply I;exact zI)|(apply I<;>intro hg))
   simp[zaG,zcn,zaK,zaw]
  ·rw[he,if_pos rfl]at ho
   rw[ho]
   repeat'(first|exact zC|refine zq (I hw he) ?_|refine zx (hfi) ?_|refine zx (hop) ?_|(apply zaa<;>intro hb)|(apply I;exact zI)|(apply I<;>intro hg))
   simp[zaG,zcn,zaK,zaw]
theorem zqW {s:St} (hr:RightS s) {c:Int} {x:Sess} (hf:zaC s.sess c=some x):((zaC (zcH s.sess c s.time).1 c).getD ze7).num=x.num∧(zcH s.sess c s.time).1.length=s.sess.length:=by
 rw[zhf hr hf]
 refine⟨?_,by simp only[List.length_set]⟩
 simp only
 rw[←zns hr.ss hf]
 unfold zaC
 rw[List.find?_map,show((fun y:Sess=>y.client==c)∘zdz c s.time)=fun y:Sess=>y.client==c from by funext y;simp only[Function.comp,zdz];split<;>rfl]
 rw[show s.sess.find? (fun y:Sess=>y.client==c)=some x from hf]
 simp only[Option.map_some,Option.getD_some,zdz]
 split<;>rfl
theorem zqX {l:List Lk} {name:ByteArray} {c t:Int} {w:Bool} (hl:∀k∈l,k.line.length<2^30∧k.name.size<2^62) (hs:SL l) (hll:∀k∈l,k.line.length≤3) (hn:name.size<2^62):
  ∀k∈(zaX l name c t w).1,k.line.length<2^30∧k.name.size<2^62:=by
 intro k hk
 unfold zaX at hk
 cases hf:zdG l name with
 |none=>
  rw[hf]at hk
  simp only at hk
  split at hk
  ·cases hk
  ·rcases List.mem_append.1 hk with hk|hk
   ·exact hl k (List.mem_of_mem_take hk)
   ·rcases List.mem_cons.1 hk with rfl|hk
    ·exact⟨by simp,hn⟩
    ·exact hl k (List.mem_of_mem_drop hk)
 |some k0=>
  rw[hf]at hk
  simp only at hk
  obtain⟨⟨hi,he⟩,_⟩:=zdO hs hf
  have hk0:=hl k0 (he▸List.getElem_mem hi)
  have hk3:=hll k0 (he▸List.getElem_mem hi)
  split at hk
  ·cases hk
  ·split at hk
   ·cases hk
   ·split at hk
    ·exact hl k hk
    ·split at hk
     ·cases hk
     ·rcases List.mem_or_eq_of_mem_set hk with hk|rfl
      ·exact hl k hk
      ·refine⟨?_,hk0.2⟩
       simp only
       unfold zjw
       repeat' split
       all_goals simp
       all_goals omega
theorem zqY {l:List Lk} {name:ByteArray} {c t:Int} (hl:∀k∈l,k.line.length<2^30∧k.name.size<2^62) (hs:SL l):
  ∀k∈(zbV l name c t).1,k.line.length<2^30∧k.name.size<2^62:=by
 intro k hk
 unfold zbV at hk
 cases hf:zdG l name with
 |none=>rw[hf]at hk;cases hk
 |some k0=>
  rw[hf]at hk
  simp only at hk
  obtain⟨⟨hi,he⟩,_⟩:=zdO hs hf
  have hk0:=hl k0 (he▸List.getElem_mem hi)
  split at hk
  ·unfold zgw at hk
   split at hk
   ·exact hl k (List.mem_of_mem_eraseIdx hk)
   ·rename_i hline
    rcases List.mem_or_eq_of_mem_set hk with hk|rfl
    ·exact hl k hk
    ·refine⟨?_,hk0.2⟩
     have:=hk0.1
     rw[hline,List.length_cons]at this
     simp only;omega
  ·split at hk
   ·rcases List.mem_or_eq_of_mem_set hk with hk|rfl
    ·exact hl k hk
    ·refine⟨?_,hk0.2⟩
     simp only
     unfold zhk
     split
     ·exact hk0.1
     ·exact Nat.lt_of_le_of_lt (List.length_eraseIdx_le ..) hk0.1
   ·cases hk
end Go.Proofs.YtliimajkpggbhaaGreat
