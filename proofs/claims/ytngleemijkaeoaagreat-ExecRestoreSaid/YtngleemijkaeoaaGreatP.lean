import Derived.Test.YtngleemijkaeoaaGreatL
namespace Go.Proofs.YtngleemijkaeoaaGreat
open Go.Pk
set_option maxRecDepth 100000
set_option linter.unusedSimpArgs false
set_option linter.unusedVariables false
def zs7 {α:Type} (p:α→Bool) (x:α):List α→List α
 |[]=>[x]
 |y::r=>if p y=true then x::y::r else y::zs7 p x r
theorem znE {α:Type} {p q:α→Bool} {x:α}:∀{l:List α},(∀y∈l,p y= !(q y))→zs7 p x l=l.take (zmL q l)++x::l.drop (zmL q l)
 |[],_=>rfl
 |y::r,h=>by
  rw[zs7,zcr,h y (List.mem_cons_self ..)]
  cases hq:q y
  ·simp
  ·simp only[Bool.not_true,Bool.false_eq_true,if_false,if_true,List.take_succ_cons,List.drop_succ_cons,List.cons_append]
   rw[znE fun z hz=>h z (List.mem_cons_of_mem _ hz)]
theorem zxT {l:List Sess} {c:Int} {x:Sess} (hf:zaF l c=none):zs7 (fun y:Sess=>decide (y.client>c)) x l=l.take (zdA l c)++x::l.drop (zdA l c):=by
 refine znE fun y hy=> ?_
 have:y.client≠c:=fun e=>by
  have:=zcE.2 ⟨y,hy,e⟩
  rw[hf]at this;cases this
 rw[Bool.eq_iff_iff]
 simp
 omega
theorem zqq {α:Type} {p:α→Bool} {x:α} {l:List α} {i:Nat} {put:Bool} (hi:i<l.length):
  (if put=true then l.drop i else zs7 p x (l.drop i))=if(!put&&p l[i])=true then x::l[i]::l.drop (i+1)else l[i]::(if put=true then l.drop (i+1)else zs7 p x (l.drop (i+1))):=by
 rw[List.drop_eq_getElem_cons hi]
 cases put
 ·simp only[Bool.not_false,Bool.true_and,Bool.false_eq_true,if_false,zs7]
 ·simp
set_option maxHeartbeats 1000000 in
theorem zsa (l:List Sess) (hs:SS l) (hl:l.length<2^30) (c num now:Int) (hc:isClient c=true) (h1:1≤num) (hn:0≤now∧now≤zaL) (hf:zaF l c=none) (hnum:numbered l num=false):
  CallOK Tryz.prog 139 [.f (al l.length (zaE l)), .f (ai c), .f (ai num), .f (ai now)]
  (fun r o=>r=[.one (.own 3 (zb7 l c num now).1.length (zaE (zb7 l c num now).1) false),ri (zb7 l c num now).2]∧o=[]):=by
 refine CallOK.nil ?_
 refine zac zar mixed (T:=Ty) (n:=102) Tryz.func139 (c:=Tryz.f139.body.getD .skip) rfl Tryz.results139 Tryz.ntmps139 Tryz.call139 ?_
 simp only[Tryz.f139,Option.getD]
 have hcl:=zow c
 rw[hc]at hcl
 have hg1:=zhX num 1
 have hg2:=zhX now 0
 have hH:zaL=2305843009213693952:=rfl
 rw[show(decide (now≥0)&&decide (now≤2305843009213693952))=true by simp;omega]at hg2
 have hfi:=zea l (by omega) c
 rw[hf]at hfi
 simp only[Option.isSome_none,Option.getD_none]at hfi
 have eo:zb7 l c num now=if decide (num>zaL)=true then([],1)else if decide ((l.length:Int)≥5)=true then([],5)else(l.take (zdA l c)++⟨c,num,now⟩::l.drop (zdA l c),0):=by
  have e1:decide (num<1)=false:=by simp;omega
  have e2:decide (now<0)=false:=by simp;omega
  have e3:decide (now>zaL)=false:=by simp;omega
  unfold zb7
  rw[hf,hnum,hc,e1,e2,e3]
  cases decide (num>zaL)<;>simp
 generalize zb7 l c num now=R at eo⊢
 cases e4:decide (num>zaL)
 ·rw[e4,if_neg (by simp)]at eo
  rw[show(decide (num≥1)&&decide (num≤2305843009213693952))=true by simp at e4⊢;omega]at hg1
  repeat'(first|refine zq0 ?_|exact zd0|refine zc (hcl) ?_|refine zg (hcl) ?_|refine zc (hg1) ?_|refine zg (hg1) ?_|refine zc (hg2) ?_|refine zg (hg2) ?_|(refine zaa ?_ ?_<;>intro hb)|(refine And.intro ?_ ?_;exact zI)|(refine And.intro ?_ ?_<;>intro hg)|exact zC|fail)
  refine zao (τ:=Nat) (fun i=>⟨[al l.length (zaE l),ai c,ai num,ai now,dd,dd,dd,dd,dd,dd,ai i,dd,dd,dd,dd,dd,dd,dd,dd,dd,dd,dd,dd,dd,dd,dd,dd,dd,dd,dd,dd,dd,dd,dd,dd,dd,dd,dd,dd,dd,dd,dd,dd,dd,dd,dd,dd,dd,dd,dd,dd,dd,dd,dd,dd,dd,dd,dd,dd,dd,dd,dd,dd,dd,dd,dd,dd,dd,dd,dd,dd,dd,dd,dd,dd,dd,dd,dd,dd,dd,dd,dd,dd,dd,dd,dd,dd,dd,dd,dd,dd,dd,dd,dd,dd,dd,dd,dd,dd,dd,dd,dd],[(8,⟨2,[]⟩)]⟩)
   (fun i=>i≤l.length) (fun _=>()) (fun i=>l.length - i) 0
   (Gh.canon [] [8] [] zK rfl rfl) (Nat.zero_le _) ?_
  intro i hi0 hF K hK
  refine zw ?_
  refine zaa (fun hlt=> ?_) (fun hge=> ?_)
  ·have hi:i<l.length:=by simpa using hlt
   have hat:=zbM hi
   have hw:=zan hi (by omega)
   have hne:(l[i].num==num)=false:=by
    have:=List.any_eq_false.1 hnum _ (List.getElem_mem hi)
    simpa using this
   repeat'(first|refine zq (I hat (I hne (I @zai zca))) ?_|exact zd (I hat (I hne (I @zai zca)))|(refine zaa ?_ ?_<;>intro hb)|(refine And.intro ?_ ?_;exact zI)|(refine And.intro ?_ ?_<;>intro hg)|exact zC|fail)
   exact hK _ (i+1) (Gh.canon [] [] [] (zk hw) rfl rfl) hi rfl (by omega)
  ·cases e5:decide ((l.length:Int)≥5)
   ·rw[e5,if_neg (by simp)]at eo
    repeat'(first|refine zq e5 ?_|exact zd e5|refine zc (hfi) ?_|refine zg (hfi) ?_|(refine zaa ?_ ?_<;>intro hb)|(refine And.intro ?_ ?_;exact zI)|(refine And.intro ?_ ?_<;>intro hg)|exact zC|fail)
    refine zao (τ:=Nat×Bool×List Sess) (fun t=>⟨[al l.length (zaE l),ai c,ai num,ai now,dd,dd,dd,dd,dd,dd,dd,dd,dd, .one (.own ⟨13,1,1⟩ 0 t.2.2.length),ab t.2.1,ai t.1,dd,dd,dd,dd,dd,dd,dd,dd,dd,dd,dd,dd,dd,dd,dd,dd,dd,dd,dd,dd,dd,dd,dd,dd,dd,dd,dd,dd,dd,dd,dd,dd,dd,dd,dd,dd,dd,dd,dd,dd,dd,dd,dd,dd,dd,dd,dd,dd,dd,dd,dd,dd,dd,dd,dd,dd,dd,dd,dd,dd,dd,dd,dd,dd,dd,dd,dd,dd,dd,dd,dd,dd,dd,dd,dd,dd,dd,dd,dd,dd,dd,dd,dd,dd,dd,dd],[(8,⟨2,[]⟩),(11,⟨2,[]⟩),(13,{next:=2,l:=[none,some {e:=1,var:=false,fz:=false,sz:=3,cells:=(zaE t.2.2).map C.d}]}),(83,⟨2,[]⟩),(84,⟨2,[]⟩),(90,⟨2,[]⟩),(91,⟨2,[]⟩)]⟩)
     (fun t=>t.1≤l.length∧t.2.2.length≤2*t.1) (fun t=>t.2.2++(if t.2.1=true then l.drop t.1 else zs7 (fun y:Sess=>decide (y.client>c)) ⟨c,num,now⟩ (l.drop t.1))) (fun t=>l.length - t.1) (0,false,[])
     ((Gh.nil (i:=13) (s:=13) (sz:=3) rfl).trans (Gh.canon [13] [83,84,90,91] [] zK rfl rfl)) ⟨Nat.zero_le _,by simp⟩ ?_
    intro⟨j,put,acc⟩ ⟨hj0,hac⟩ hF2 K2 hK2
    simp only[List.drop_zero,List.nil_append,Bool.false_eq_true,if_false]at hj0 hac hF2 hK2⊢
    refine zw ?_
    refine zaa (fun hlt2=> ?_) (fun hge2=> ?_)
    ·have hj:j<l.length:=by simpa using hlt2
     have haj:=zbM hj
     have hwj:=zan hj (by omega)
     have hst:=zqq (p:=fun y:Sess=>decide (y.client>c)) (x:=⟨c,num,now⟩) (put:=put) hj
     have htk:(zaE acc++[iD c,iD num,iD now]).take ((acc.length+1)*3)=zaE acc++[iD c,iD num,iD now]:=List.take_of_length_le (by rw[List.length_append,zai];simp only[List.length_cons,List.length_nil];omega)
     cases hb:(!put&&decide (l[j].client>c))
     ·simp only[hb,Bool.false_eq_true,if_false]at hst
      repeat'(first|refine zq (I haj (I hb (I @zai zca))) ?_|exact zd (I haj (I hb (I @zai zca)))|(refine zaa ?_ ?_<;>intro hb)|(refine And.intro ?_ ?_;exact zI)|(refine And.intro ?_ ?_<;>intro hg)|exact zC|fail)
      exact hK2 _ (j+1,put,acc++[l[j]]) (Gh.canon [13] [] [] (zk (I hwj (I @List.length_append.{0} @List.length_singleton.{0}))) rfl (by simp only[List.length_append,List.length_singleton];rw[zeM];rfl)) ⟨hj,by simp only[List.length_append,List.length_singleton];omega⟩ (by simp only[List.append_assoc,List.singleton_append];rw[hst]) (by simp only;omega)
     ·simp only[hb,if_true]at hst
      repeat'(first|refine zq (I haj (I hb (I htk (I @zai zca)))) ?_|exact zd (I haj (I hb (I htk (I @zai zca))))|(refine zaa ?_ ?_<;>intro hb)|(refine And.intro ?_ ?_;exact zI)|(refine And.intro ?_ ?_<;>intro hg)|exact zC|fail)
      refine hK2 _ (j+1,true,acc++[⟨c,num,now⟩]++[l[j]]) (Gh.canon [13] [] [] (zk (I hwj (I @List.length_append.{0} @List.length_singleton.{0}))) rfl (by simp only[List.length_append,List.length_singleton];rw[zeM,zeM];rfl)) ⟨hj, ?_⟩ (by simp only[List.append_assoc,List.singleton_append];rw[hst];rfl) (by simp only;omega)
      simp only[List.length_append,List.length_singleton]
      omega
    ·have hj:j=l.length:=by
      have:¬(j:Int)<l.length:=by simpa using hge2
      omega
     rw[hj,List.drop_length]at hF2
     rw[zxT hf]at hF2
     rw[←hF2]at eo
     cases put
     ·have hF3:R=(acc++[⟨c,num,now⟩],0):=eo
      rw[hF3]
      repeat'(first|refine zq0 ?_|exact zd0|(refine zaa ?_ ?_<;>intro hb)|(refine And.intro ?_ ?_;exact zI)|(refine And.intro ?_ ?_<;>intro hg)|exact zC|fail)
      simp[znB,za4]
     ·have hF3:R=(acc++[],0):=eo
      rw[hF3,List.append_nil]
      repeat'(first|refine zq0 ?_|exact zd0|(refine zaa ?_ ?_<;>intro hb)|(refine And.intro ?_ ?_;exact zI)|(refine And.intro ?_ ?_<;>intro hg)|exact zC|fail)
      simp[znB,za4]
   ·rw[e5,if_pos rfl]at eo
    rw[eo]
    repeat'(first|refine zq e5 ?_|exact zd e5|refine zc (hfi) ?_|refine zg (hfi) ?_|(refine zaa ?_ ?_<;>intro hb)|(refine And.intro ?_ ?_;exact zI)|(refine And.intro ?_ ?_<;>intro hg)|exact zC|fail)
    simp[znB,za4]
 ·rw[e4,if_pos rfl]at eo
  rw[eo]
  rw[show(decide (num≥1)&&decide (num≤2305843009213693952))=false by simp at e4⊢;omega]at hg1
  repeat'(first|refine zq0 ?_|exact zd0|refine zc (hcl) ?_|refine zg (hcl) ?_|refine zc (hg1) ?_|refine zg (hg1) ?_|refine zc (hg2) ?_|refine zg (hg2) ?_|(refine zaa ?_ ?_<;>intro hb)|(refine And.intro ?_ ?_;exact zI)|(refine And.intro ?_ ?_<;>intro hg)|exact zC|fail)
  simp[znB,za4]
def zcV (c now:Int) (y:Sess):Sess:=if(y.client==c)=true then⟨y.client,y.num,max y.renewed now⟩else y
def zl0 (l:List Sess) (c now:Int) (i:Nat):List Sess:=(l.take i).map (zcV c now)++l.drop i
theorem znF {l:List Sess} {c now:Int} {i:Nat} (hi:i≤l.length):(zl0 l c now i).length=l.length:=by
 unfold zl0
 rw[List.length_append,List.length_map,List.length_take,List.length_drop];omega
theorem zt8 {l:List Sess} {c now:Int} {i:Nat} (hi:i<l.length):∃h:i<(zl0 l c now i).length,(zl0 l c now i)[i]=l[i]:=by
 have hl:((l.take i).map (zcV c now)).length=i:=by rw[List.length_map,List.length_take];omega
 have h:(zl0 l c now i)[i]? =some l[i]:=by
  unfold zl0
  rw[List.getElem?_append_right (by omega),hl,Nat.sub_self,List.getElem?_drop,Nat.add_zero,List.getElem?_eq_getElem hi]
 exact zku h
theorem zqr {l:List Sess} {c now:Int} {i:Nat} (hi:i<l.length):(zl0 l c now i).set i (zcV c now l[i])=zl0 l c now (i+1):=by
 have hl:((l.take i).map (zcV c now)).length=i:=by rw[List.length_map,List.length_take];omega
 unfold zl0
 rw[List.set_append_right _ _ (by omega),hl,Nat.sub_self,List.drop_eq_getElem_cons hi,List.set_cons_zero,List.take_add_one,List.getElem?_eq_getElem hi]
 simp only[Option.toList,List.map_append,List.map_cons,List.map_nil,List.append_assoc,List.cons_append,List.nil_append]
theorem zlH {l:List Sess} (hs:SS l) {c now:Int} {x:Sess} (hx:zaF l c=some x):l.map (zcV c now)=l.set (zdA l c) ⟨x.client,x.num,max x.renewed now⟩:=by
 obtain⟨⟨hi,he⟩,hc⟩:=zgQ hs hx
 apply List.ext_getElem (by simp)
 intro j h1 h2
 have hj:j<l.length:=by simpa using h1
 rw[List.getElem_map,List.getElem_set]
 split
 ·rename_i e
  subst e
  rw[he]
  unfold zcV
  rw[if_pos (by simpa using hc)]
 ·rename_i e
  unfold zcV
  rw[if_neg]
  intro h
  have hjc:l[j].client=c:=by simpa using h
  have hpc:l[zdA l c].client=c:=by rw[he];exact hc
  rcases Nat.lt_or_ge j (zdA l c)with q|q
  ·have:=List.pairwise_iff_getElem.1 hs j (zdA l c) hj hi q
   omega
  ·have:=List.pairwise_iff_getElem.1 hs (zdA l c) j hi hj (by omega)
   omega
theorem zqs (l:List Sess) (hs:SS l) (hl:l.length<2^30) (c now:Int) (hn:0≤now∧now≤zaL) (hf:(zaF l c).isSome=true):CallOK Tryz.prog 102 [.f (al l.length (zaE l)), .f (ai c), .f (ai now)]
  (fun r o=>r=[.one (.own 3 (zbi l c now).1.length (zaE (zbi l c now).1) false),ri (zbi l c now).2]∧o=[]):=by
 refine CallOK.nil ?_
 refine zac zar mixed (T:=Ty) (n:=51) Tryz.func102 (c:=Tryz.f102.body.getD .skip) rfl Tryz.results102 Tryz.ntmps102 Tryz.call102 ?_
 simp only[Tryz.f102,Option.getD]
 have hg2:=zhX now 0
 have hH:zaL=2305843009213693952:=rfl
 rw[show(decide (now≥0)&&decide (now≤2305843009213693952))=true by simp;omega]at hg2
 have hfi:=zea l (by omega) c
 rw[hf]at hfi
 obtain⟨x,hx⟩:=Option.isSome_iff_exists.1 hf
 have hr:zbi l c now=(l.map (zcV c now),0):=by
  unfold zbi
  rw[if_neg (by simp;omega),hx,zlH hs hx]
 rw[hr]
 repeat'(first|refine zq @zai ?_|exact zd @zai|refine zc (hg2) ?_|refine zg (hg2) ?_|refine zc (hfi) ?_|refine zg (hfi) ?_|(refine zaa ?_ ?_<;>intro hb)|(refine And.intro ?_ ?_;exact zI)|(refine And.intro ?_ ?_<;>intro hg)|exact zC|fail)
 refine zao (τ:=Nat) (fun i=>⟨[dd,ai c,ai now,dd,dd,dd,dd,dd,dd,dd, .one (.own ⟨10,1,1⟩ 0 l.length),ai i,dd,dd,dd,dd,dd,dd,dd,dd,dd,dd,dd,dd,dd,dd,dd,dd,dd,dd,dd,dd,dd,dd,dd,dd,dd,dd,dd,dd,dd,dd,dd,dd,dd,dd,dd,dd,dd,dd,dd],[(8,⟨2,[]⟩),(23,⟨2,[]⟩),(10,{next:=2,l:=[none,some {e:=1,var:=false,fz:=false,sz:=3,cells:=(zaE (zl0 l c now i)).map C.d}]})]⟩)
  (fun i=>i≤l.length) (fun _=>()) (fun i=>l.length - i) 0
  (Gh.canon [10] [] [] zK rfl rfl) (Nat.zero_le _) ?_
 intro i hi0 hF K hK
 refine zw ?_
 refine zaa (fun hlt=> ?_) (fun hge=> ?_)
 ·have hi:i<l.length:=by simpa using hlt
  have hw:=zan hi (by omega)
  obtain⟨hic,hce⟩:=zt8 (c:=c) (now:=now) hi
  have hat:=zbM hic
  rw[hce]at hat
  have hat2:(zaE (zl0 l c now i)).drop (i*3+2)=iD l[i].renewed::zaE ((zl0 l c now i).drop (i+1)):=by rw[←List.drop_drop,hat];rfl
  have hsu:=zqr (c:=c) (now:=now) hi
  cases hb:l[i].client==c
  ·have hrx:zcV c now l[i]=l[i]:=by unfold zcV;rw[if_neg (by rw[hb];simp)]
   have hsame:zl0 l c now (i+1)=zl0 l c now i:=by
    rw[←hsu,hrx]
    conv=>lhs;rw[←hce]
    exact List.set_getElem_self ..
   repeat'(first|(with_reducible first|refine zab _ _ ?_|refine zaV ?_|refine zaW ?_)|rw[zaj]|simp only[hat,hb,←List.map_drop,List.map_cons,List.cons_append,List.nil_append,zai,znF hi0,zY,Int.reduceEq,Int.reduceBEq,Int.reduceBNe,Nat.reduceSub,Nat.reduceEqDiff,Nat.reduceAdd,Nat.reduceMul,Nat.reduceLeDiff,Nat.reduceLT,Nat.reduceBEq,reduceCtorEq]|refine zal ?_|refine zaa (fun hb=> ?_) (fun hb=> ?_)|(refine And.intro ?_ ?_;exact zI)|refine And.intro (fun hg=> ?_) (fun hg=> ?_)|exact zC|fail)
   exact hK _ (i+1) (Gh.canon [10] [] [] (zk hw) rfl (by rw[hsame];rfl)) hi rfl (by omega)
  ·have hrx:zcV c now l[i]=⟨l[i].client,l[i].num,max l[i].renewed now⟩:=by unfold zcV;rw[if_pos hb]
   have hset:=zb2 Sess.enc 3 (fun _=>rfl) hic (k:=2) (by decide) (iD (max l[i].renewed now)) (zcV c now l[i]) (by rw[hce,hrx];rfl)
   rw[hsu]at hset
   repeat'(first|(with_reducible first|refine zab _ _ ?_|refine zaV ?_|refine zaW ?_)|rw[zaj]|simp only[hat,hat2,hb,hset,←List.map_drop,List.map_cons,List.cons_append,List.nil_append,zai,znF hi0,zY,Int.reduceEq,Int.reduceBEq,Int.reduceBNe,Nat.reduceSub,Nat.reduceEqDiff,Nat.reduceAdd,Nat.reduceMul,Nat.reduceLeDiff,Nat.reduceLT,Nat.reduceBEq,reduceCtorEq]|refine zal ?_|refine zaa (fun hb=> ?_) (fun hb=> ?_)|(refine And.intro ?_ ?_;exact zI)|refine And.intro (fun hg=> ?_) (fun hg=> ?_)|exact zC|fail)
   exact hK _ (i+1) (Gh.canon [10] [] [] (zk hw) rfl rfl) hi rfl (by omega)
 ·have hi:i=l.length:=by
   have:¬(i:Int)<l.length:=by simpa using hge
   omega
  have hcu:zl0 l c now i=l.map (zcV c now):=by rw[hi];unfold zl0;rw[List.take_length,List.drop_length,List.append_nil]
  rw[hcu]
  repeat'(first|refine zq0 ?_|exact zd0|(refine zaa ?_ ?_<;>intro hb)|(refine And.intro ?_ ?_;exact zI)|(refine And.intro ?_ ?_<;>intro hg)|exact zC|fail)
  simp[znB,za4]
theorem zqt (l:List Sess) (hl:l.length<2^30) (c:Int):CallOK Tryz.prog 98 [.f (al l.length (zaE l)), .f (ai c)]
  (fun r o=>r=[.one (.own 3 (if(zaF l c).isSome=true then l.filter (fun x=>x.client !=c)else []).length (zaE (if(zaF l c).isSome=true then l.filter (fun x=>x.client !=c)else [])) false),ri (if(zaF l c).isSome=true then 0 else 6)]∧o=[]):=by
 refine CallOK.nil ?_
 refine zac zar mixed (T:=Ty) (n:=39) Tryz.func98 (c:=Tryz.f98.body.getD .skip) rfl Tryz.results98 Tryz.ntmps98 Tryz.call98 ?_
 simp only[Tryz.f98,Option.getD]
 have hfi:=zea l (by omega) c
 cases hf:(zaF l c).isSome
 ·rw[hf]at hfi
  rw[if_neg (by simp),if_neg (by simp)]
  repeat'(first|refine zq0 ?_|exact zd0|refine zc (hfi) ?_|refine zg (hfi) ?_|(refine zaa ?_ ?_<;>intro hb)|(refine And.intro ?_ ?_;exact zI)|(refine And.intro ?_ ?_<;>intro hg)|exact zC|fail)
  simp[znB,za4]
 ·rw[hf]at hfi
  rw[if_pos rfl,if_pos rfl]
  repeat'(first|refine zq0 ?_|exact zd0|refine zc (hfi) ?_|refine zg (hfi) ?_|(refine zaa ?_ ?_<;>intro hb)|(refine And.intro ?_ ?_;exact zI)|(refine And.intro ?_ ?_<;>intro hg)|exact zC|fail)
  refine zao (τ:=Nat×List Sess) (fun t=>⟨[al l.length (zaE l),ai c,dd,dd,dd,dd,dd,dd, .one (.own ⟨8,1,1⟩ 0 t.2.length),ai t.1,dd,dd,dd,dd,dd,dd,dd,dd,dd,dd,dd,dd,dd,dd,dd,dd,dd,dd,dd,dd,dd,dd,dd,dd,dd,dd,dd,dd,dd],[(6,⟨2,[]⟩),(8,{next:=2,l:=[none,some {e:=1,var:=false,fz:=false,sz:=3,cells:=(zaE t.2).map C.d}]}),(36,⟨2,[]⟩),(37,⟨2,[]⟩)]⟩)
   (fun t=>t.1≤l.length∧t.2.length≤t.1) (fun t=>t.2++(l.drop t.1).filter (fun x=>x.client !=c)) (fun t=>l.length - t.1) (0,[])
   ((Gh.nil (i:=8) (s:=8) (sz:=3) rfl).trans (Gh.canon [8] [36,37] [] zK rfl rfl)) ⟨Nat.zero_le _,Nat.zero_le _⟩ ?_
  intro⟨i,acc⟩ ⟨hi0,hac⟩ hF K hK
  simp only[List.drop_zero,List.nil_append]at hi0 hac hF hK⊢
  refine zw ?_
  refine zaa (fun hlt=> ?_) (fun hge=> ?_)
  ·have hi:i<l.length:=by simpa using hlt
   have hat:=zbM hi
   have hw:=zan hi (by omega)
   have hFs:=List.drop_eq_getElem_cons hi
   cases hb:l[i].client !=c
   ·repeat'(first|refine zq (I hat (I hb (I @zai zca))) ?_|exact zd (I hat (I hb (I @zai zca)))|(refine zaa ?_ ?_<;>intro hb)|(refine And.intro ?_ ?_;exact zI)|(refine And.intro ?_ ?_<;>intro hg)|exact zC|fail)
    exact hK _ (i+1,acc) (Gh.canon [8] [] [] (zk hw) rfl rfl) ⟨hi,by simp only;omega⟩ (by simp only;rw[hFs,List.filter_cons,hb,if_neg (by simp)]) (by simp only;omega)
   ·repeat'(first|refine zq (I hat (I hb (I @zai zca))) ?_|exact zd (I hat (I hb (I @zai zca)))|(refine zaa ?_ ?_<;>intro hb)|(refine And.intro ?_ ?_;exact zI)|(refine And.intro ?_ ?_<;>intro hg)|exact zC|fail)
    exact hK _ (i+1,acc++[l[i]]) (Gh.canon [8] [] [] (zk (I hw (I @List.length_append.{0} @List.length_singleton.{0}))) rfl (by simp only[List.length_append,List.length_singleton];rw[zeM];rfl)) ⟨hi,by simp only[List.length_append,List.length_singleton];omega⟩ (by simp only[List.append_assoc,List.singleton_append];rw[hFs,List.filter_cons,hb,if_pos rfl]) (by simp only;omega)
  ·have hi:i=l.length:=by
    have:¬(i:Int)<l.length:=by simpa using hge
    omega
   rw[hi,List.drop_length,List.filter_nil,List.append_nil]at hF
   rw[←hF]
   repeat'(first|refine zq0 ?_|exact zd0|(refine zaa ?_ ?_<;>intro hb)|(refine And.intro ?_ ?_;exact zI)|(refine And.intro ?_ ?_<;>intro hg)|exact zC|fail)
   simp[znB,za4]
def zcA (r:Reply):Prop:=r.held.length<2^30∧∀g∈r.held,g.name.size<2^62
theorem zhQ (r:Reply) (hr:zcA r):CallOK Tryz.prog 127 [.f (.agg r.lent)] (fun x o=>x=[rb (zcS r)]∧o=[]):=by
 refine zac zar mixed (T:=Ty) (n:=87) Tryz.func127 (c:=Tryz.f127.body.getD .skip) rfl Tryz.results127 Tryz.ntmps127 Tryz.call127 ?_
 simp only[Tryz.f127,Option.getD]
 obtain⟨h1,h2⟩:=hr
 cases hA:(decide (r.code<0)||decide (r.code>12)||decide (r.session<0)||decide (r.session>2305843009213693952)||decide (r.ahead<0)||decide (r.ahead>3))
 ·cases hB:(decide ((r.held.length:Int)>4)||(r.session==0)&&decide ((r.held.length:Int)>0))
  ·have hs:zcS r=zbK (zcD r.held) 0 r.held:=by
    unfold zcS
    rw[show(decide (r.code<0)||decide (r.code>12)||decide (r.session<0)||decide (r.session>zaL)||decide (r.ahead<0)||decide (r.ahead>3))=false from hA,hB]
    rfl
   rw[hs]
   repeat'(first|refine zq (I hA hB) ?_|exact zd (I hA hB)|(refine zaa ?_ ?_<;>intro hb)|(refine And.intro ?_ ?_;exact zI)|(refine And.intro ?_ ?_<;>intro hg)|exact zC|fail)
   refine zao (τ:=Nat) (fun i=>⟨[dd, .one (.ptr ⟨1,0,1⟩ 0),dd,dd,dd,dd,dd,dd,dd,dd,dd,dd,dd,dd,dd,dd,dd,dd,dd,dd,dd,dd,dd,dd,dd,dd,dd,dd,dd,dd,dd,dd,dd,dd,dd,dd,dd,dd,dd,dd,dd,dd,dd,dd,dd,dd,dd,dd,dd,al r.held.length (zaH r.held),ai r.held.length,ai i,dd,dd,dd,dd,dd,dd,dd,dd,dd,dd,dd,dd,dd,dd,dd,dd,dd,dd,dd,dd,dd,dd,dd,dd,dd,dd,dd,dd,dd,dd,dd,dd,dd,dd,dd],[(1,{next:=2,l:=[some {e:=1,var:=true,fz:=false,sz:=0,cells:=[di r.code,di r.session,di r.ahead, .lent r.held.length (zaH r.held)]},none,none,none,none]}),(4,⟨2,[]⟩)]⟩)
    (fun i=>i≤r.held.length) (fun i=>zbK (zcD r.held) i (r.held.drop i)) (fun i=>r.held.length - i) 0
    (Gh.canon [1] [4] [] zK rfl rfl) (Nat.zero_le _) ?_
   intro i hi0 hF K hK
   rw[List.drop_zero]at hF
   refine zw ?_
   refine zaa (fun hlt=> ?_) (fun hge=> ?_)
   ·have hi:i<r.held.length:=by simpa using hlt
    have hat:=zcT hi
    have hw:=zan hi (by omega)
    rw[za0 hi]at hF
    have hnm:=zjP r.held[i].name (h2 _ (List.getElem_mem hi))
    cases e0:decide ((i:Int)>0)
    ·have h0:i=0:=by simpa using e0
     have hq:zcD r.held i r.held[i]= !(!nameP r.held[i].name||decide (r.held[i].token<1)||decide (r.held[i].token>2305843009213693952)):=by
      unfold zcD
      have:decide (i>0)=false:=by simpa using e0
      rw[this,Bool.false_and,Bool.or_false]
     have hp:(zaH r.held).drop ((IntKind.i64.wrap ((i:Int) - 1)).toNat*2)=r.held[i].enc++zaH (r.held.drop (i+1)):=by
      rw[←zcT hi,h0];rfl
     repeat'(first|refine zq (I hat (I hp (I e0 (I @za8 zca)))) ?_|exact zd (I hat (I hp (I e0 (I @za8 zca))))|refine zc (hnm) ?_|refine zg (hnm) ?_|(refine zaa ?_ ?_<;>intro hb)|(refine And.intro ?_ ?_;exact zI)|(refine And.intro ?_ ?_<;>intro hg)|exact zC|fail)
     ·rw[hq,hb,if_neg (by simp)]at hF
      rw[←hF]
     ·exact hK _ (i+1) (Gh.canon [1] [] [] (zk hw) rfl rfl) hi (by rw[za0 hi,hq,hb];rfl) (by omega)
    ·have h0:0<i:=by simpa using e0
     have hq:zcD r.held i r.held[i]= !(!nameP r.held[i].name||decide (r.held[i].token<1)||decide (r.held[i].token>2305843009213693952)|| !(zdx (r.held[i - 1]'(by omega)).name r.held[i].name)):=by
      unfold zcD zra
      have:decide (i>0)=true:=by simpa using e0
      rw[this,List.getElem?_eq_getElem (by omega)]
      simp only[Bool.true_and,Option.map_some,Option.getD_some]
     have hp:=zcT (show i - 1<r.held.length by omega)
     have hw1:IntKind.i64.wrap ((i:Int) - 1)=((i - 1:Nat):Int):=by rw[wrap64 (by omega) (by omega)];omega
     repeat'(first|refine zq (I hat (I hp (I hw1 (I e0 (I @za8 zca))))) ?_|exact zd (I hat (I hp (I hw1 (I e0 (I @za8 zca)))))|refine zc (hnm) ?_|refine zg (hnm) ?_|(refine zaa ?_ ?_<;>intro hb)|(refine And.intro ?_ ?_;exact zI)|(refine And.intro ?_ ?_<;>intro hg)|exact zC|fail)
     ·rw[hq,hb,if_neg (by simp)]at hF
      rw[←hF]
     ·exact hK _ (i+1) (Gh.canon [1] [] [] (zk hw) rfl rfl) hi (by rw[za0 hi,hq,hb];rfl) (by omega)
   ·have hi:i=r.held.length:=by
     have:¬(i:Int)<r.held.length:=by simpa using hge
     omega
    rw[zc0 hi]at hF
    rw[←hF]
    repeat'(first|refine zq0 ?_|exact zd0|(refine zaa ?_ ?_<;>intro hb)|(refine And.intro ?_ ?_;exact zI)|(refine And.intro ?_ ?_<;>intro hg)|exact zC|fail)
  ·have hs:zcS r=false:=by
    unfold zcS
    rw[hB,Bool.not_true,Bool.and_false,Bool.false_and]
   rw[hs]
   repeat'(first|refine zq (I hA hB) ?_|exact zd (I hA hB)|(refine zaa ?_ ?_<;>intro hb)|(refine And.intro ?_ ?_;exact zI)|(refine And.intro ?_ ?_<;>intro hg)|exact zC|fail)
 ·have hs:zcS r=false:=by
   unfold zcS
   rw[show(decide (r.code<0)||decide (r.code>12)||decide (r.session<0)||decide (r.session>zaL)||decide (r.ahead<0)||decide (r.ahead>3))=true from hA]
   rfl
  rw[hs]
  repeat'(first|refine zq hA ?_|exact zd hA|(refine zaa ?_ ?_<;>intro hb)|(refine And.intro ?_ ?_;exact zI)|(refine And.intro ?_ ?_<;>intro hg)|exact zC|fail)
theorem zgB (m:Memo) (hr:zcA m.reply):CallOK Tryz.prog 87 [.f (.agg m.lent)] (fun x o=>x=[rb (answerB m)]∧o=[]):=by
 refine zac zar mixed (T:=Ty) (n:=26) Tryz.func87 (c:=Tryz.f87.body.getD .skip) rfl Tryz.results87 Tryz.ntmps87 Tryz.call87 ?_
 simp only[Tryz.f87,Option.getD]
 repeat'(first|refine zq0 ?_|exact zd0|refine zc (zhQ m.reply hr) ?_|refine zg (zhQ m.reply hr) ?_|(refine zaa ?_ ?_<;>intro hb)|(refine And.intro ?_ ?_;exact zI)|(refine And.intro ?_ ?_<;>intro hg)|exact zC|fail)
 rfl
theorem zon (x:Memo) (c:Int):CallOK Tryz.prog 111 [.f (zsr x), .f (ai c)] (fun r o=>r=[ri (zmM x.client c)]∧o=[]):=by
 refine zac zar mixed (T:=Ty) (n:=9) Tryz.func111 (c:=Tryz.f111.body.getD .skip) rfl Tryz.results111 Tryz.ntmps111 Tryz.call111 ?_
 simp only[Tryz.f111,Option.getD]
 repeat'(first|refine zq0 ?_|exact zd0|refine zc (zd1 x.client c) ?_|refine zg (zd1 x.client c) ?_|(refine zaa ?_ ?_<;>intro hb)|(refine And.intro ?_ ?_;exact zI)|(refine And.intro ?_ ?_<;>intro hg)|exact zC|fail)
theorem zhR (l:List Memo) (hs:SM l) (hl:l.length<2^62) (c:Int):CallOK Tryz.prog 69 [.f (al l.length (zav l)), .f (ai c)] (fun r o=>r=[ri (zf2 l c),rb (zaM l c).isSome]∧o=[]):=by
 refine zac zar mixed (T:=Ty) (n:=11) Tryz.func69 (c:=Tryz.f69.body.getD .skip) rfl Tryz.results69 Tryz.ntmps69 Tryz.call69 ?_
 simp only[Tryz.f69,Option.getD]
 have h:=zkB l hl c (fun x=>zmM x.client c) 111 (zf2 l c) zcq
  (fun j hj h=>by have:=zgb hj h;simp at this;exact zjS.2 this)
  (fun j hj h=>by have:=zgc hj (zl8 hs c) h;simp at this;have h2:= @zjS l[j].client c;omega) (fun x _=>zon x c)
 have e:((l[zf2 l c]?.map fun x=>zmM x.client c==0).getD false)=(zaM l c).isSome:=by
  rw[zkr hs,zjT]
  simp only[zlA]
 rw[e]at h
 repeat'(first|refine zq0 ?_|exact zd0|refine zc (h) ?_|refine zg (h) ?_|(refine zaa ?_ ?_<;>intro hb)|(refine And.intro ?_ ?_;exact zI)|(refine And.intro ?_ ?_<;>intro hg)|exact zC|fail)
theorem zoo (l:List Memo) (hl:l.length<2^30) (hll:∀m∈l,m.reply.held.length<2^30):CallOK Tryz.prog 86 [.f (al l.length (zav l))] (fun r o=>r=[.one (.own 6 l.length (zav l) false)]∧o=[]):=by
 refine zac zar mixed (T:=Ty) (n:=26) Tryz.func86 (c:=Tryz.f86.body.getD .skip) rfl Tryz.results86 Tryz.ntmps86 Tryz.call86 ?_
 simp only[Tryz.f86,Option.getD]
 have hcn:=zge l.length (zav l) zak (by omega)
 repeat'(first|refine zq @zak ?_|exact zd @zak|refine zc (hcn) ?_|refine zg (hcn) ?_|(refine zaa ?_ ?_<;>intro hb)|(refine And.intro ?_ ?_;exact zI)|(refine And.intro ?_ ?_<;>intro hg)|exact zC|fail)
 refine zao (τ:=Nat) (fun i=>⟨[dd,dd,dd, .one (.own ⟨3,1,1⟩ 0 l.length),dd,dd,dd,dd,ai l.length,ai i,dd,dd,dd,dd,dd,dd,dd,dd,dd,dd,dd,dd,dd,dd,dd,dd],[(6,⟨2,[]⟩),(3,{next:=2,l:=[none,some {e:=1,var:=false,fz:=false,sz:=6,cells:=(zav l).map C.d}]}),(20,⟨2,[]⟩)]⟩)
  (fun i=>i≤l.length) (fun _=>()) (fun i=>l.length - i) 0
  (Gh.canon [3] [20] [] zK rfl rfl) (Nat.zero_le _) ?_
 intro i hi0 hF K hK
 refine zw ?_
 refine zaa (fun hlt=> ?_) (fun hge=> ?_)
 ·have hi:i<l.length:=by simpa using hlt
  have hat:=zbx hi
  have hat2:(zav l).drop (i*6+2+3)= .sl l[i].reply.held.length (zaH l[i].reply.held)::zav (l.drop (i+1)):=by rw[Nat.add_assoc,←List.drop_drop,hat];rfl
  have hw:=zan hi (by omega)
  have hci:=zc6 l[i].reply.held.length (zaH l[i].reply.held) za8 (by have:=hll _ (List.getElem_mem hi);omega)
  have hset:=zb2 Memo.enc 6 (fun _=>rfl) hi (k:=5) (by decide) (.sl l[i].reply.held.length (zaH l[i].reply.held)) l[i] rfl
  rw[List.set_getElem_self,show i*6+5=i*6+2+3 from rfl]at hset
  repeat'(first|refine zq (I hat2 (I hset (I @zmd (I @List.map_cons.{0,0} @zak)))) ?_|exact zd (I hat2 (I hset (I @zmd (I @List.map_cons.{0,0} @zak))))|refine zc (hci) ?_|refine zg (hci) ?_|(refine zaa ?_ ?_<;>intro hb)|(refine And.intro ?_ ?_;exact zI)|(refine And.intro ?_ ?_<;>intro hg)|exact zC|fail)
  exact hK _ (i+1) (Gh.canon [3] [] [] (zk hw) rfl rfl) hi rfl (by omega)
 ·have hi:i=l.length:=by
   have:¬(i:Int)<l.length:=by simpa using hge
   omega
  repeat'(first|refine zq0 ?_|exact zd0|(refine zaa ?_ ?_<;>intro hb)|(refine And.intro ?_ ?_;exact zI)|(refine And.intro ?_ ?_<;>intro hg)|exact zC|fail)
theorem zjQ (l:List Memo) (hs:SM l) (hl:l.length<2^30) (c q:Int):CallOK Tryz.prog 37 [.f (al l.length (zav l)), .f (ai c), .f (ai q)] (fun r o=>r=[ri (zaT l c q)]∧o=[]):=by
 refine zac zar mixed (T:=Ty) (n:=35) Tryz.func37 (c:=Tryz.f37.body.getD .skip) rfl Tryz.results37 Tryz.ntmps37 Tryz.call37 ?_
 simp only[Tryz.f37,Option.getD]
 have hp:=zhR l hs (by omega) c
 cases hf:zaM l c with
 |none=>
  rw[hf]at hp
  simp only[Option.isSome_none]at hp
  have hd:(zav l).drop (zf2 l c*6)=[]∨∃x q,(zav l).drop (zf2 l c*6)=Memo.enc x++q:=by
   rcases Nat.lt_or_ge (zf2 l c) l.length with h|h
   ·exact .inr ⟨_,_,zbx h⟩
   ·exact .inl (List.drop_of_length_le (by rw[zak];omega))
  have hfr:zaT l c q=1:=by unfold zaT;rw[hf]
  rw[hfr]
  rcases hd with hat|⟨x,q,hat⟩
  ·repeat'(first|refine zq (I hat (I @List.drop_nil.{0} @zak)) ?_|exact zd (I hat (I @List.drop_nil.{0} @zak))|refine zc (hp) ?_|refine zg (hp) ?_|(refine zaa ?_ ?_<;>intro hb)|(refine And.intro ?_ ?_;exact zI)|(refine And.intro ?_ ?_<;>intro hg)|exact zC|fail)
  ·repeat'(first|refine zq (I hat (I @zak zca)) ?_|exact zd (I hat (I @zak zca))|refine zc (hp) ?_|refine zg (hp) ?_|(refine zaa ?_ ?_<;>intro hb)|(refine And.intro ?_ ?_;exact zI)|(refine And.intro ?_ ?_<;>intro hg)|exact zC|fail)
 |some x=>
  rw[hf]at hp
  simp only[Option.isSome_some]at hp
  obtain⟨⟨hi,he⟩,hc⟩:=zgR hs hf
  have hat:=zbx hi
  rw[he]at hat
  have hfr:zaT l c q=if x.seq<q then 1 else if x.seq=q then 0 else -1:=by unfold zaT;rw[hf]
  rw[hfr]
  repeat'(first|refine zq (I hat (I @zak zca)) ?_|exact zd (I hat (I @zak zca))|refine zc (hp) ?_|refine zg (hp) ?_|(refine zaa ?_ ?_<;>intro hb)|(refine And.intro ?_ ?_;exact zI)|(refine And.intro ?_ ?_<;>intro hg)|exact zC|fail)
  ·rw[if_pos (by simpa using hb)]
  ·rename_i h1
   rw[if_neg (by simpa using h1),if_pos (by simpa using hb)]
  ·rename_i h1
   rw[if_neg (by simpa using h1),if_neg (by simpa using hb)]
def zcB:Memo:=⟨0,0,⟨0,0,0,[]⟩⟩
theorem ztX (l:List Memo) (hs:SM l) (hl:l.length<2^30) (hll:∀m∈l,m.reply.held.length<2^30) (c:Int):CallOK Tryz.prog 44 [.f (al l.length (zav l)), .f (ai c)]
  (fun r o=>r=[.agg [.d (iD ((zaM l c).getD zcB).client), .d (iD ((zaM l c).getD zcB).seq), .d (iD ((zaM l c).getD zcB).reply.code), .d (iD ((zaM l c).getD zcB).reply.session), .d (iD ((zaM l c).getD zcB).reply.ahead), .own 2 ((zaM l c).getD zcB).reply.held.length (zaH ((zaM l c).getD zcB).reply.held) false],rb (zaM l c).isSome]∧o=[]):=by
 refine CallOK.nil ?_
 refine zac zar mixed (T:=Ty) (n:=29) Tryz.func44 (c:=Tryz.f44.body.getD .skip) rfl Tryz.results44 Tryz.ntmps44 Tryz.call44 ?_
 simp only[Tryz.f44,Option.getD]
 have hp:=zhR l hs (by omega) c
 cases hf:zaM l c with
 |none=>
  rw[hf]at hp
  simp only[Option.isSome_none]at hp
  repeat'(first|refine zq @zak ?_|exact zd @zak|refine zc (hp) ?_|refine zg (hp) ?_|(refine zaa ?_ ?_<;>intro hb)|(refine And.intro ?_ ?_;exact zI)|(refine And.intro ?_ ?_<;>intro hg)|exact zC|fail)
  simp[zbj,zdo,zbr,za4,zcB]
 |some x=>
  rw[hf]at hp
  simp only[Option.isSome_some]at hp
  obtain⟨⟨hi,he⟩,hc⟩:=zgR hs hf
  have hat:=zbx hi
  rw[he]at hat
  have hci:=zc6 x.reply.held.length (zaH x.reply.held) za8 (by have:=hll x (he▸List.getElem_mem hi);omega)
  repeat'(first|refine zq (I hat (I @zak zca)) ?_|exact zd (I hat (I @zak zca))|refine zc (hp) ?_|refine zg (hp) ?_|refine zc (hci) ?_|refine zg (hci) ?_|(refine zaa ?_ ?_<;>intro hb)|(refine And.intro ?_ ?_;exact zI)|(refine And.intro ?_ ?_<;>intro hg)|exact zC|fail)
  simp[zbj,zdo,zbr,za4]
set_option maxHeartbeats 2000000 in
theorem ztY (l:List Memo) (hs:SM l) (hl:l.length<2^30) (hll:∀m∈l,m.reply.held.length<2^30) (a:Memo) (ha:zcA a.reply):CallOK Tryz.prog 46 [.f (al l.length (zav l)), .f (.agg a.lent)]
  (fun r o=>r=[.one (.own 6 (zcF l a).length (zav (zcF l a)) false)]∧o=[]):=by
 refine zac zar mixed (T:=Ty) (n:=55) Tryz.func46 (c:=Tryz.f46.body.getD .skip) rfl Tryz.results46 Tryz.ntmps46 Tryz.call46 ?_
 simp only[Tryz.f46,Option.getD]
 have hcp:=zoo l hl hll
 have hma:=zgB a ha
 have hfr:=zjQ l hs hl a.client a.seq
 have hp:=zhR l hs (by omega) a.client
 have hci:=zc6 a.reply.held.length (zaH a.reply.held) za8 (by have:=ha.1;omega)
 cases hA:answerB a
 ·have hk:zcF l a=l:=by unfold zcF;rw[hA];rfl
  rw[hk]
  rw[hA]at hma
  repeat'(first|refine zq @zak ?_|exact zd @zak|refine zc (hcp) ?_|refine zg (hcp) ?_|refine zc (hma) ?_|refine zg (hma) ?_|refine zc (hfr) ?_|refine zg (hfr) ?_|(refine zaa ?_ ?_<;>intro hb)|(refine And.intro ?_ ?_;exact zI)|(refine And.intro ?_ ?_<;>intro hg)|exact zC|fail)
 ·rw[hA]at hma
  cases hB:zaT l a.client a.seq !=1
  ·have hk:zcF l a=if(zaM l a.client).isSome=true then l.set (zf2 l a.client) a else l.take (zf2 l a.client)++a::l.drop (zf2 l a.client):=by unfold zcF;rw[hA,hB];rfl
   rw[hk]
   cases hf:(zaM l a.client).isSome
   ·rw[hf]at hp
    rw[if_neg (by simp)]
    have hin:=znZ l.length (zf2 l a.client) (zav l) a.enc zak rfl zcq hl
    have hti:=zma Memo.enc 6 (fun _=>rfl) (l:=l) (k:=zf2 l a.client) zcq a
    have htl:=zjg (l:=l) (k:=zf2 l a.client) zcq a
    simp only[htl,hti]
    repeat'(first|refine zq (I @zak hB) ?_|exact zd (I @zak hB)|refine zc (hcp) ?_|refine zg (hcp) ?_|refine zc (hma) ?_|refine zg (hma) ?_|refine zc (hfr) ?_|refine zg (hfr) ?_|refine zc (hci) ?_|refine zg (hci) ?_|refine zc (hp) ?_|refine zg (hp) ?_|(refine zaa ?_ ?_<;>intro hb)|(refine And.intro ?_ ?_;exact zI)|(refine And.intro ?_ ?_<;>intro hg)|exact zC|fail)
    refine zbT (mv:= ?mv1) (lent:= ?le1) 0 ?ha1 (hin) ?hb1 ?hc1
    case ha1=>(try simp only[zB,zaG,Nat.reduceSub,Nat.reduceEqDiff,Nat.reduceAdd,Nat.reduceMul,Nat.reduceLeDiff,Nat.reduceLT,Nat.reduceBEq,reduceCtorEq]);exact rfl
    case hb1=>(try simp only[zB,scM,Nat.reduceSub,Nat.reduceEqDiff,Nat.reduceAdd,Nat.reduceMul,Nat.reduceLeDiff,Nat.reduceLT,Nat.reduceBEq,reduceCtorEq]);repeat'(first|rfl|trivial|omega|with_reducible refine And.intro ?_ ?_)
    show aops _ _ _ _ _ _ _ _
    repeat'(first|refine zq0 ?_|exact zd0|(refine zaa ?_ ?_<;>intro hb)|(refine And.intro ?_ ?_;exact zI)|(refine And.intro ?_ ?_<;>intro hg)|exact zC|fail)
   ·rw[hf]at hp
    rw[if_pos rfl]
    obtain⟨x,hx⟩:=Option.isSome_iff_exists.1 hf
    obtain⟨⟨hi,he⟩,hc⟩:=zgR hs hx
    have hset:=zeI Memo.enc 6 (fun _=>rfl) hi a
    simp only[fillAt,List.map_cons,List.map_nil]at hset
    repeat'(first|refine zq (I @zak (I hB hset)) ?_|exact zd (I @zak (I hB hset))|refine zc (hcp) ?_|refine zg (hcp) ?_|refine zc (hma) ?_|refine zg (hma) ?_|refine zc (hfr) ?_|refine zg (hfr) ?_|refine zc (hci) ?_|refine zg (hci) ?_|refine zc (hp) ?_|refine zg (hp) ?_|(refine zaa ?_ ?_<;>intro hb)|(refine And.intro ?_ ?_;exact zI)|(refine And.intro ?_ ?_<;>intro hg)|exact zC|fail)
    rw[List.length_set]
  ·have hk:zcF l a=l:=by unfold zcF;rw[hB,Bool.or_true];rfl
   rw[hk]
   repeat'(first|refine zq (I @zak hB) ?_|exact zd (I @zak hB)|refine zc (hcp) ?_|refine zg (hcp) ?_|refine zc (hma) ?_|refine zg (hma) ?_|refine zc (hfr) ?_|refine zg (hfr) ?_|(refine zaa ?_ ?_<;>intro hb)|(refine And.intro ?_ ?_;exact zI)|(refine And.intro ?_ ?_<;>intro hg)|exact zC|fail)
theorem zlv (l:List Memo) (hl:l.length<2^30) (hll:∀m∈l,zcA m.reply):CallOK Tryz.prog 166 [.f (al l.length (zav l))] (fun r o=>r=[rb (memoB l)]∧o=[]):=by
 refine zac zar mixed (T:=Ty) (n:=37) Tryz.func166 (c:=Tryz.f166.body.getD .skip) rfl Tryz.results166 Tryz.ntmps166 Tryz.call166 ?_
 simp only[Tryz.f166,Option.getD]
 repeat'(first|refine zq @zak ?_|exact zd @zak|(refine zaa ?_ ?_<;>intro hb)|(refine And.intro ?_ ?_;exact zI)|(refine And.intro ?_ ?_<;>intro hg)|exact zC|fail)
 refine zao (τ:=Nat) (fun i=>⟨[al l.length (zav l),dd,dd,dd,dd,al l.length (zav l),ai l.length,ai i,dd,dd,dd,dd,dd,dd,dd,dd,dd,dd,dd,dd,dd,dd,dd,dd,dd,dd,dd,dd,dd,dd,dd,dd,dd,dd,dd,dd,dd],[(4,⟨2,[]⟩)]⟩)
  (fun i=>i≤l.length) (fun i=>zbK (zkq l) i (l.drop i)) (fun i=>l.length - i) 0
  (Gh.canon [] [4] [] zK rfl rfl) (Nat.zero_le _) ?_
 intro i hi0 hF K hK
 rw[List.drop_zero]at hF
 refine zw ?_
 refine zaa (fun hlt=> ?_) (fun hge=> ?_)
 ·have hi:i<l.length:=by simpa using hlt
  have hat:=zbx hi
  have hw:=zan hi (by omega)
  rw[za0 hi]at hF
  have hma:=zgB l[i] (hll _ (List.getElem_mem hi))
  cases e0:decide ((i:Int)>0)
  ·have h0:i=0:=by simpa using e0
   have hq:zkq l i l[i]= !(!answerB l[i]):=by
    unfold zkq
    have:decide (i>0)=false:=by simpa using e0
    rw[this,Bool.false_and,Bool.or_false]
   have hp:(zav l).drop ((IntKind.i64.wrap ((i:Int) - 1)).toNat*6)=l[i].enc++zav (l.drop (i+1)):=by
    rw[←zbx hi,h0];rfl
   repeat'(first|refine zq (I hat (I hp (I e0 (I @zak zca)))) ?_|exact zd (I hat (I hp (I e0 (I @zak zca))))|refine zc (hma) ?_|refine zg (hma) ?_|(refine zaa ?_ ?_<;>intro hb)|(refine And.intro ?_ ?_;exact zI)|(refine And.intro ?_ ?_<;>intro hg)|exact zC|fail)
   ·rw[hq,hb,if_neg (by simp)]at hF
    unfold memoB
    rw[←hF]
   ·exact hK _ (i+1) (Gh.canon [] [] [] (zk hw) rfl rfl) hi (by rw[za0 hi,hq,hb];rfl) (by omega)
  ·have h0:0<i:=by simpa using e0
   have hq:zkq l i l[i]= !(!answerB l[i]||decide ((l[i - 1]'(by omega)).client≥l[i].client)):=by
    unfold zkq zo6
    have:decide (i>0)=true:=by simpa using e0
    rw[this,List.getElem?_eq_getElem (by omega)]
    simp only[Bool.true_and,Option.map_some,Option.getD_some]
   have hp:=zbx (show i - 1<l.length by omega)
   have hw1:IntKind.i64.wrap ((i:Int) - 1)=((i - 1:Nat):Int):=by rw[wrap64 (by omega) (by omega)];omega
   repeat'(first|refine zq (I hat (I hp (I hw1 (I e0 (I @zak zca))))) ?_|exact zd (I hat (I hp (I hw1 (I e0 (I @zak zca)))))|refine zc (hma) ?_|refine zg (hma) ?_|(refine zaa ?_ ?_<;>intro hb)|(refine And.intro ?_ ?_;exact zI)|(refine And.intro ?_ ?_<;>intro hg)|exact zC|fail)
   ·rw[hq,hb,if_neg (by simp)]at hF
    unfold memoB
    rw[←hF]
   ·exact hK _ (i+1) (Gh.canon [] [] [] (zk hw) rfl rfl) hi (by rw[za0 hi,hq,hb];rfl) (by omega)
 ·have hi:i=l.length:=by
   have:¬(i:Int)<l.length:=by simpa using hge
   omega
  rw[zc0 hi]at hF
  unfold memoB
  rw[←hF]
  repeat'(first|refine zq0 ?_|exact zd0|(refine zaa ?_ ?_<;>intro hb)|(refine And.intro ?_ ?_;exact zI)|(refine And.intro ?_ ?_<;>intro hg)|exact zC|fail)
end Go.Proofs.YtngleemijkaeoaaGreat
