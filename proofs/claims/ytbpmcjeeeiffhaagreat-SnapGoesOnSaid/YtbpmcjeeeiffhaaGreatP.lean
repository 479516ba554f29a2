import Derived.Test.YtbpmcjeeeiffhaaGreatL
namespace Go.Proofs.YtbpmcjeeeiffhaaGreat
open Go.Pk
set_option maxRecDepth 100000
set_option linter.unusedSimpArgs false
set_option linter.unusedVariables false
def zuK {α:Type} (p:α→Bool) (x:α):List α→List α
 |[]=>[x]
 |y::r=>if p y=true then x::y::r else y::zuK p x r
theorem zoC {α:Type} {p q:α→Bool} {x:α}:∀{l:List α},(∀y∈l,p y= !(q y))→zuK p x l=l.take (zov q l)++x::l.drop (zov q l)
 |[],_=>rfl
 |y::r,h=>by
  rw[zuK,zcK,h y (List.mem_cons_self ..)]
  cases hq:q y
  ·simp
  ·simp only[Bool.not_true,Bool.false_eq_true,if_false,if_true,List.take_succ_cons,List.drop_succ_cons,List.cons_append]
   rw[zoC fun z hz=>h z (List.mem_cons_of_mem _ hz)]
theorem zzm {l:List Sess} {c:Int} {x:Sess} (hf:zaH l c=none):zuK (fun y:Sess=>decide (y.client>c)) x l=l.take (zdR l c)++x::l.drop (zdR l c):=by
 refine zoC fun y hy=> ?_
 have:y.client≠c:=fun e=>by
  have:=zc4.2 ⟨y,hy,e⟩
  rw[hf]at this;cases this
 rw[Bool.eq_iff_iff]
 simp
 omega
theorem zrO {α:Type} {p:α→Bool} {x:α} {l:List α} {i:Nat} {put:Bool} (hi:i<l.length):
  (if put=true then l.drop i else zuK p x (l.drop i))=if(!put&&p l[i])=true then x::l[i]::l.drop (i+1)else l[i]::(if put=true then l.drop (i+1)else zuK p x (l.drop (i+1))):=by
 rw[List.drop_eq_getElem_cons hi]
 cases put
 ·simp only[Bool.not_false,Bool.true_and,Bool.false_eq_true,if_false,zuK]
 ·simp
set_option maxHeartbeats 1000000 in
theorem ztz (l:List Sess) (hs:SS l) (hl:l.length<2^30) (c num now:Int) (hc:isClient c=true) (h1:1≤num) (hn:0≤now∧now≤zbg) (hf:zaH l c=none) (hnum:numbered l num=false):
  CallOK Tryz.prog 179 [.f (al l.length (zaF l)), .f (ai c), .f (ai num), .f (ai now)]
  (fun r o=>r=[.one (.own 3 (zck l c num now).1.length (zaF (zck l c num now).1) false),ri (zck l c num now).2]∧o=[]):=by
 refine CallOK.nil ?_
 refine zac zak mixed (T:=Ty) (n:=102) Tryz.func179 (c:=Tryz.f179.body.getD .skip) rfl Tryz.results179 Tryz.ntmps179 Tryz.call179 ?_
 simp only[Tryz.f179,Option.getD]
 have hcl:=zpB c
 rw[hc]at hcl
 have hg1:=ziw num 1
 have hg2:=ziw now 0
 have hH:zbg=2305843009213693952:=rfl
 rw[show(decide (now≥0)&&decide (now≤2305843009213693952))=true by simp;omega]at hg2
 have hfi:=zer l (by omega) c
 rw[hf]at hfi
 simp only[Option.isSome_none,Option.getD_none]at hfi
 have eo:zck l c num now=if decide (num>zbg)=true then([],1)else if decide ((l.length:Int)≥5)=true then([],5)else(l.take (zdR l c)++⟨c,num,now⟩::l.drop (zdR l c),0):=by
  have e1:decide (num<1)=false:=by simp;omega
  have e2:decide (now<0)=false:=by simp;omega
  have e3:decide (now>zbg)=false:=by simp;omega
  unfold zck
  rw[hf,hnum,hc,e1,e2,e3]
  cases decide (num>zbg)<;>simp
 generalize zck l c num now=R at eo⊢
 cases e4:decide (num>zbg)
 ·rw[e4,if_neg (by simp)]at eo
  rw[show(decide (num≥1)&&decide (num≤2305843009213693952))=true by simp at e4⊢;omega]at hg1
  repeat'(first|refine zq0 ?_|exact zd0|refine zc (hcl) ?_|refine zg (hcl) ?_|refine zc (hg1) ?_|refine zg (hg1) ?_|refine zc (hg2) ?_|refine zg (hg2) ?_|(refine zaa ?_ ?_<;>intro hb)|(refine And.intro ?_ ?_;exact zI)|(refine And.intro ?_ ?_<;>intro hg)|exact zC|fail)
  refine zam (τ:=Nat) (fun i=>⟨[al l.length (zaF l),ai c,ai num,ai now,dd,dd,dd,dd,dd,dd,ai i,dd,dd,dd,dd,dd,dd,dd,dd,dd,dd,dd,dd,dd,dd,dd,dd,dd,dd,dd,dd,dd,dd,dd,dd,dd,dd,dd,dd,dd,dd,dd,dd,dd,dd,dd,dd,dd,dd,dd,dd,dd,dd,dd,dd,dd,dd,dd,dd,dd,dd,dd,dd,dd,dd,dd,dd,dd,dd,dd,dd,dd,dd,dd,dd,dd,dd,dd,dd,dd,dd,dd,dd,dd,dd,dd,dd,dd,dd,dd,dd,dd,dd,dd,dd,dd,dd,dd,dd,dd,dd,dd],[(8,⟨2,[]⟩)]⟩)
   (fun i=>i≤l.length) (fun _=>()) (fun i=>l.length - i) 0
   (Gh.canon [] [8] [] zK rfl rfl) (Nat.zero_le _) ?_
  intro i hi0 hF K hK
  refine zw ?_
  refine zaa (fun hlt=> ?_) (fun hge=> ?_)
  ·have hi:i<l.length:=by simpa using hlt
   have hat:=zbv hi
   have hw:=zal hi (by omega)
   have hne:(l[i].num==num)=false:=by
    have:=List.any_eq_false.1 hnum _ (List.getElem_mem hi)
    simpa using this
   repeat'(first|refine zq (I hat (I hne (I @zai zca))) ?_|exact zd (I hat (I hne (I @zai zca)))|(refine zaa ?_ ?_<;>intro hb)|(refine And.intro ?_ ?_;exact zI)|(refine And.intro ?_ ?_<;>intro hg)|exact zC|fail)
   exact hK _ (i+1) (Gh.canon [] [] [] (zk hw) rfl rfl) hi rfl (by omega)
  ·cases e5:decide ((l.length:Int)≥5)
   ·rw[e5,if_neg (by simp)]at eo
    repeat'(first|refine zq e5 ?_|exact zd e5|refine zc (hfi) ?_|refine zg (hfi) ?_|(refine zaa ?_ ?_<;>intro hb)|(refine And.intro ?_ ?_;exact zI)|(refine And.intro ?_ ?_<;>intro hg)|exact zC|fail)
    refine zam (τ:=Nat×Bool×List Sess) (fun t=>⟨[al l.length (zaF l),ai c,ai num,ai now,dd,dd,dd,dd,dd,dd,dd,dd,dd, .one (.own ⟨13,1,1⟩ 0 t.2.2.length),ab t.2.1,ai t.1,dd,dd,dd,dd,dd,dd,dd,dd,dd,dd,dd,dd,dd,dd,dd,dd,dd,dd,dd,dd,dd,dd,dd,dd,dd,dd,dd,dd,dd,dd,dd,dd,dd,dd,dd,dd,dd,dd,dd,dd,dd,dd,dd,dd,dd,dd,dd,dd,dd,dd,dd,dd,dd,dd,dd,dd,dd,dd,dd,dd,dd,dd,dd,dd,dd,dd,dd,dd,dd,dd,dd,dd,dd,dd,dd,dd,dd,dd,dd,dd,dd,dd,dd,dd,dd,dd],[(8,⟨2,[]⟩),(11,⟨2,[]⟩),(13,{next:=2,l:=[none,some {e:=1,var:=false,fz:=false,sz:=3,cells:=(zaF t.2.2).map C.d}]}),(83,⟨2,[]⟩),(84,⟨2,[]⟩),(90,⟨2,[]⟩),(91,⟨2,[]⟩)]⟩)
     (fun t=>t.1≤l.length∧t.2.2.length≤2*t.1) (fun t=>t.2.2++(if t.2.1=true then l.drop t.1 else zuK (fun y:Sess=>decide (y.client>c)) ⟨c,num,now⟩ (l.drop t.1))) (fun t=>l.length - t.1) (0,false,[])
     ((Gh.nil (i:=13) (s:=13) (sz:=3) rfl).trans (Gh.canon [13] [83,84,90,91] [] zK rfl rfl)) ⟨Nat.zero_le _,by simp⟩ ?_
    intro⟨j,put,acc⟩ ⟨hj0,hac⟩ hF2 K2 hK2
    simp only[List.drop_zero,List.nil_append,Bool.false_eq_true,if_false]at hj0 hac hF2 hK2⊢
    refine zw ?_
    refine zaa (fun hlt2=> ?_) (fun hge2=> ?_)
    ·have hj:j<l.length:=by simpa using hlt2
     have haj:=zbv hj
     have hwj:=zal hj (by omega)
     have hst:=zrO (p:=fun y:Sess=>decide (y.client>c)) (x:=⟨c,num,now⟩) (put:=put) hj
     have htk:(zaF acc++[iD c,iD num,iD now]).take ((acc.length+1)*3)=zaF acc++[iD c,iD num,iD now]:=List.take_of_length_le (by rw[List.length_append,zai];simp only[List.length_cons,List.length_nil];omega)
     cases hb:(!put&&decide (l[j].client>c))
     ·simp only[hb,Bool.false_eq_true,if_false]at hst
      repeat'(first|refine zq (I haj (I hb (I @zai zca))) ?_|exact zd (I haj (I hb (I @zai zca)))|(refine zaa ?_ ?_<;>intro hb)|(refine And.intro ?_ ?_;exact zI)|(refine And.intro ?_ ?_<;>intro hg)|exact zC|fail)
      exact hK2 _ (j+1,put,acc++[l[j]]) (Gh.canon [13] [] [] (zk (I hwj (I @List.length_append.{0} @List.length_singleton.{0}))) rfl (by simp only[List.length_append,List.length_singleton];rw[zdS];rfl)) ⟨hj,by simp only[List.length_append,List.length_singleton];omega⟩ (by simp only[List.append_assoc,List.singleton_append];rw[hst]) (by simp only;omega)
     ·simp only[hb,if_true]at hst
      repeat'(first|refine zq (I haj (I hb (I htk (I @zai zca)))) ?_|exact zd (I haj (I hb (I htk (I @zai zca))))|(refine zaa ?_ ?_<;>intro hb)|(refine And.intro ?_ ?_;exact zI)|(refine And.intro ?_ ?_<;>intro hg)|exact zC|fail)
      refine hK2 _ (j+1,true,acc++[⟨c,num,now⟩]++[l[j]]) (Gh.canon [13] [] [] (zk (I hwj (I @List.length_append.{0} @List.length_singleton.{0}))) rfl (by simp only[List.length_append,List.length_singleton];rw[zdS,zdS];rfl)) ⟨hj, ?_⟩ (by simp only[List.append_assoc,List.singleton_append];rw[hst];rfl) (by simp only;omega)
      simp only[List.length_append,List.length_singleton]
      omega
    ·have hj:j=l.length:=by
      have:¬(j:Int)<l.length:=by simpa using hge2
      omega
     rw[hj,List.drop_length]at hF2
     rw[zzm hf]at hF2
     rw[←hF2]at eo
     cases put
     ·have hF3:R=(acc++[⟨c,num,now⟩],0):=eo
      rw[hF3]
      repeat'(first|refine zq0 ?_|exact zd0|(refine zaa ?_ ?_<;>intro hb)|(refine And.intro ?_ ?_;exact zI)|(refine And.intro ?_ ?_<;>intro hg)|exact zC|fail)
      simp[zoz,zaA]
     ·have hF3:R=(acc++[],0):=eo
      rw[hF3,List.append_nil]
      repeat'(first|refine zq0 ?_|exact zd0|(refine zaa ?_ ?_<;>intro hb)|(refine And.intro ?_ ?_;exact zI)|(refine And.intro ?_ ?_<;>intro hg)|exact zC|fail)
      simp[zoz,zaA]
   ·rw[e5,if_pos rfl]at eo
    rw[eo]
    repeat'(first|refine zq e5 ?_|exact zd e5|refine zc (hfi) ?_|refine zg (hfi) ?_|(refine zaa ?_ ?_<;>intro hb)|(refine And.intro ?_ ?_;exact zI)|(refine And.intro ?_ ?_<;>intro hg)|exact zC|fail)
    simp[zoz,zaA]
 ·rw[e4,if_pos rfl]at eo
  rw[eo]
  rw[show(decide (num≥1)&&decide (num≤2305843009213693952))=false by simp at e4⊢;omega]at hg1
  repeat'(first|refine zq0 ?_|exact zd0|refine zc (hcl) ?_|refine zg (hcl) ?_|refine zc (hg1) ?_|refine zg (hg1) ?_|refine zc (hg2) ?_|refine zg (hg2) ?_|(refine zaa ?_ ?_<;>intro hb)|(refine And.intro ?_ ?_;exact zI)|(refine And.intro ?_ ?_<;>intro hg)|exact zC|fail)
  simp[zoz,zaA]
def zdb (c now:Int) (y:Sess):Sess:=if(y.client==c)=true then⟨y.client,y.num,max y.renewed now⟩else y
def zmR (l:List Sess) (c now:Int) (i:Nat):List Sess:=(l.take i).map (zdb c now)++l.drop i
theorem zoD {l:List Sess} {c now:Int} {i:Nat} (hi:i≤l.length):(zmR l c now i).length=l.length:=by
 unfold zmR
 rw[List.length_append,List.length_map,List.length_take,List.length_drop];omega
theorem zvN {l:List Sess} {c now:Int} {i:Nat} (hi:i<l.length):∃h:i<(zmR l c now i).length,(zmR l c now i)[i]=l[i]:=by
 have hl:((l.take i).map (zdb c now)).length=i:=by rw[List.length_map,List.length_take];omega
 have h:(zmR l c now i)[i]? =some l[i]:=by
  unfold zmR
  rw[List.getElem?_append_right (by omega),hl,Nat.sub_self,List.getElem?_drop,Nat.add_zero,List.getElem?_eq_getElem hi]
 exact zmj h
theorem zrP {l:List Sess} {c now:Int} {i:Nat} (hi:i<l.length):(zmR l c now i).set i (zdb c now l[i])=zmR l c now (i+1):=by
 have hl:((l.take i).map (zdb c now)).length=i:=by rw[List.length_map,List.length_take];omega
 unfold zmR
 rw[List.set_append_right _ _ (by omega),hl,Nat.sub_self,List.drop_eq_getElem_cons hi,List.set_cons_zero,List.take_add_one,List.getElem?_eq_getElem hi]
 simp only[Option.toList,List.map_append,List.map_cons,List.map_nil,List.append_assoc,List.cons_append,List.nil_append]
theorem zmE {l:List Sess} (hs:SS l) {c now:Int} {x:Sess} (hx:zaH l c=some x):l.map (zdb c now)=l.set (zdR l c) ⟨x.client,x.num,max x.renewed now⟩:=by
 obtain⟨⟨hi,he⟩,hc⟩:=zhE hs hx
 apply List.ext_getElem (by simp)
 intro j h1 h2
 have hj:j<l.length:=by simpa using h1
 rw[List.getElem_map,List.getElem_set]
 split
 ·rename_i e
  subst e
  rw[he]
  unfold zdb
  rw[if_pos (by simpa using hc)]
 ·rename_i e
  unfold zdb
  rw[if_neg]
  intro h
  have hjc:l[j].client=c:=by simpa using h
  have hpc:l[zdR l c].client=c:=by rw[he];exact hc
  rcases Nat.lt_or_ge j (zdR l c)with q|q
  ·have:=List.pairwise_iff_getElem.1 hs j (zdR l c) hj hi q
   omega
  ·have:=List.pairwise_iff_getElem.1 hs (zdR l c) j hi hj (by omega)
   omega
theorem zrQ (l:List Sess) (hs:SS l) (hl:l.length<2^30) (c now:Int) (hn:0≤now∧now≤zbg) (hf:(zaH l c).isSome=true):CallOK Tryz.prog 148 [.f (al l.length (zaF l)), .f (ai c), .f (ai now)]
  (fun r o=>r=[.one (.own 3 (zbf l c now).1.length (zaF (zbf l c now).1) false),ri (zbf l c now).2]∧o=[]):=by
 refine CallOK.nil ?_
 refine zac zak mixed (T:=Ty) (n:=51) Tryz.func148 (c:=Tryz.f148.body.getD .skip) rfl Tryz.results148 Tryz.ntmps148 Tryz.call148 ?_
 simp only[Tryz.f148,Option.getD]
 have hg2:=ziw now 0
 have hH:zbg=2305843009213693952:=rfl
 rw[show(decide (now≥0)&&decide (now≤2305843009213693952))=true by simp;omega]at hg2
 have hfi:=zer l (by omega) c
 rw[hf]at hfi
 obtain⟨x,hx⟩:=Option.isSome_iff_exists.1 hf
 have hr:zbf l c now=(l.map (zdb c now),0):=by
  unfold zbf
  rw[if_neg (by simp;omega),hx,zmE hs hx]
 rw[hr]
 repeat'(first|refine zq @zai ?_|exact zd @zai|refine zc (hg2) ?_|refine zg (hg2) ?_|refine zc (hfi) ?_|refine zg (hfi) ?_|(refine zaa ?_ ?_<;>intro hb)|(refine And.intro ?_ ?_;exact zI)|(refine And.intro ?_ ?_<;>intro hg)|exact zC|fail)
 refine zam (τ:=Nat) (fun i=>⟨[dd,ai c,ai now,dd,dd,dd,dd,dd,dd,dd, .one (.own ⟨10,1,1⟩ 0 l.length),ai i,dd,dd,dd,dd,dd,dd,dd,dd,dd,dd,dd,dd,dd,dd,dd,dd,dd,dd,dd,dd,dd,dd,dd,dd,dd,dd,dd,dd,dd,dd,dd,dd,dd,dd,dd,dd,dd,dd,dd],[(8,⟨2,[]⟩),(23,⟨2,[]⟩),(10,{next:=2,l:=[none,some {e:=1,var:=false,fz:=false,sz:=3,cells:=(zaF (zmR l c now i)).map C.d}]})]⟩)
  (fun i=>i≤l.length) (fun _=>()) (fun i=>l.length - i) 0
  (Gh.canon [10] [] [] zK rfl rfl) (Nat.zero_le _) ?_
 intro i hi0 hF K hK
 refine zw ?_
 refine zaa (fun hlt=> ?_) (fun hge=> ?_)
 ·have hi:i<l.length:=by simpa using hlt
  have hw:=zal hi (by omega)
  obtain⟨hic,hce⟩:=zvN (c:=c) (now:=now) hi
  have hat:=zbv hic
  rw[hce]at hat
  have hat2:(zaF (zmR l c now i)).drop (i*3+2)=iD l[i].renewed::zaF ((zmR l c now i).drop (i+1)):=by rw[←List.drop_drop,hat];rfl
  have hsu:=zrP (c:=c) (now:=now) hi
  cases hb:l[i].client==c
  ·have hrx:zdb c now l[i]=l[i]:=by unfold zdb;rw[if_neg (by rw[hb];simp)]
   have hsame:zmR l c now (i+1)=zmR l c now i:=by
    rw[←hsu,hrx]
    conv=>lhs;rw[←hce]
    exact List.set_getElem_self ..
   repeat'(first|(with_reducible first|refine zab _ _ ?_|refine zaU ?_|refine zaV ?_)|rw[zat]|simp only[hat,hb,←List.map_drop,List.map_cons,List.cons_append,List.nil_append,zai,zoD hi0,zY,Int.reduceEq,Int.reduceBEq,Int.reduceBNe,Nat.reduceSub,Nat.reduceEqDiff,Nat.reduceAdd,Nat.reduceMul,Nat.reduceLeDiff,Nat.reduceLT,Nat.reduceBEq,reduceCtorEq]|refine zay ?_|refine zaa (fun hb=> ?_) (fun hb=> ?_)|(refine And.intro ?_ ?_;exact zI)|refine And.intro (fun hg=> ?_) (fun hg=> ?_)|exact zC|fail)
   exact hK _ (i+1) (Gh.canon [10] [] [] (zk hw) rfl (by rw[hsame];rfl)) hi rfl (by omega)
  ·have hrx:zdb c now l[i]=⟨l[i].client,l[i].num,max l[i].renewed now⟩:=by unfold zdb;rw[if_pos hb]
   have hset:=zcx Sess.enc 3 (fun _=>rfl) hic (k:=2) (by decide) (iD (max l[i].renewed now)) (zdb c now l[i]) (by rw[hce,hrx];rfl)
   rw[hsu]at hset
   repeat'(first|(with_reducible first|refine zab _ _ ?_|refine zaU ?_|refine zaV ?_)|rw[zat]|simp only[hat,hat2,hb,hset,←List.map_drop,List.map_cons,List.cons_append,List.nil_append,zai,zoD hi0,zY,Int.reduceEq,Int.reduceBEq,Int.reduceBNe,Nat.reduceSub,Nat.reduceEqDiff,Nat.reduceAdd,Nat.reduceMul,Nat.reduceLeDiff,Nat.reduceLT,Nat.reduceBEq,reduceCtorEq]|refine zay ?_|refine zaa (fun hb=> ?_) (fun hb=> ?_)|(refine And.intro ?_ ?_;exact zI)|refine And.intro (fun hg=> ?_) (fun hg=> ?_)|exact zC|fail)
   exact hK _ (i+1) (Gh.canon [10] [] [] (zk hw) rfl rfl) hi rfl (by omega)
 ·have hi:i=l.length:=by
   have:¬(i:Int)<l.length:=by simpa using hge
   omega
  have hcu:zmR l c now i=l.map (zdb c now):=by rw[hi];unfold zmR;rw[List.take_length,List.drop_length,List.append_nil]
  rw[hcu]
  repeat'(first|refine zq0 ?_|exact zd0|(refine zaa ?_ ?_<;>intro hb)|(refine And.intro ?_ ?_;exact zI)|(refine And.intro ?_ ?_<;>intro hg)|exact zC|fail)
  simp[zoz,zaA]
theorem zrR (l:List Sess) (hl:l.length<2^30) (c:Int):CallOK Tryz.prog 145 [.f (al l.length (zaF l)), .f (ai c)]
  (fun r o=>r=[.one (.own 3 (if(zaH l c).isSome=true then l.filter (fun x=>x.client !=c)else []).length (zaF (if(zaH l c).isSome=true then l.filter (fun x=>x.client !=c)else [])) false),ri (if(zaH l c).isSome=true then 0 else 6)]∧o=[]):=by
 refine CallOK.nil ?_
 refine zac zak mixed (T:=Ty) (n:=39) Tryz.func145 (c:=Tryz.f145.body.getD .skip) rfl Tryz.results145 Tryz.ntmps145 Tryz.call145 ?_
 simp only[Tryz.f145,Option.getD]
 have hfi:=zer l (by omega) c
 cases hf:(zaH l c).isSome
 ·rw[hf]at hfi
  rw[if_neg (by simp),if_neg (by simp)]
  repeat'(first|refine zq0 ?_|exact zd0|refine zc (hfi) ?_|refine zg (hfi) ?_|(refine zaa ?_ ?_<;>intro hb)|(refine And.intro ?_ ?_;exact zI)|(refine And.intro ?_ ?_<;>intro hg)|exact zC|fail)
  simp[zoz,zaA]
 ·rw[hf]at hfi
  rw[if_pos rfl,if_pos rfl]
  repeat'(first|refine zq0 ?_|exact zd0|refine zc (hfi) ?_|refine zg (hfi) ?_|(refine zaa ?_ ?_<;>intro hb)|(refine And.intro ?_ ?_;exact zI)|(refine And.intro ?_ ?_<;>intro hg)|exact zC|fail)
  refine zam (τ:=Nat×List Sess) (fun t=>⟨[al l.length (zaF l),ai c,dd,dd,dd,dd,dd,dd, .one (.own ⟨8,1,1⟩ 0 t.2.length),ai t.1,dd,dd,dd,dd,dd,dd,dd,dd,dd,dd,dd,dd,dd,dd,dd,dd,dd,dd,dd,dd,dd,dd,dd,dd,dd,dd,dd,dd,dd],[(6,⟨2,[]⟩),(8,{next:=2,l:=[none,some {e:=1,var:=false,fz:=false,sz:=3,cells:=(zaF t.2).map C.d}]}),(36,⟨2,[]⟩),(37,⟨2,[]⟩)]⟩)
   (fun t=>t.1≤l.length∧t.2.length≤t.1) (fun t=>t.2++(l.drop t.1).filter (fun x=>x.client !=c)) (fun t=>l.length - t.1) (0,[])
   ((Gh.nil (i:=8) (s:=8) (sz:=3) rfl).trans (Gh.canon [8] [36,37] [] zK rfl rfl)) ⟨Nat.zero_le _,Nat.zero_le _⟩ ?_
  intro⟨i,acc⟩ ⟨hi0,hac⟩ hF K hK
  simp only[List.drop_zero,List.nil_append]at hi0 hac hF hK⊢
  refine zw ?_
  refine zaa (fun hlt=> ?_) (fun hge=> ?_)
  ·have hi:i<l.length:=by simpa using hlt
   have hat:=zbv hi
   have hw:=zal hi (by omega)
   have hFs:=List.drop_eq_getElem_cons hi
   cases hb:l[i].client !=c
   ·repeat'(first|refine zq (I hat (I hb (I @zai zca))) ?_|exact zd (I hat (I hb (I @zai zca)))|(refine zaa ?_ ?_<;>intro hb)|(refine And.intro ?_ ?_;exact zI)|(refine And.intro ?_ ?_<;>intro hg)|exact zC|fail)
    exact hK _ (i+1,acc) (Gh.canon [8] [] [] (zk hw) rfl rfl) ⟨hi,by simp only;omega⟩ (by simp only;rw[hFs,List.filter_cons,hb,if_neg (by simp)]) (by simp only;omega)
   ·repeat'(first|refine zq (I hat (I hb (I @zai zca))) ?_|exact zd (I hat (I hb (I @zai zca)))|(refine zaa ?_ ?_<;>intro hb)|(refine And.intro ?_ ?_;exact zI)|(refine And.intro ?_ ?_<;>intro hg)|exact zC|fail)
    exact hK _ (i+1,acc++[l[i]]) (Gh.canon [8] [] [] (zk (I hw (I @List.length_append.{0} @List.length_singleton.{0}))) rfl (by simp only[List.length_append,List.length_singleton];rw[zdS];rfl)) ⟨hi,by simp only[List.length_append,List.length_singleton];omega⟩ (by simp only[List.append_assoc,List.singleton_append];rw[hFs,List.filter_cons,hb,if_pos rfl]) (by simp only;omega)
  ·have hi:i=l.length:=by
    have:¬(i:Int)<l.length:=by simpa using hge
    omega
   rw[hi,List.drop_length,List.filter_nil,List.append_nil]at hF
   rw[←hF]
   repeat'(first|refine zq0 ?_|exact zd0|(refine zaa ?_ ?_<;>intro hb)|(refine And.intro ?_ ?_;exact zI)|(refine And.intro ?_ ?_<;>intro hg)|exact zC|fail)
   simp[zoz,zaA]
def zb1 (r:Reply):Prop:=r.held.length<2^30∧∀g∈r.held,g.name.size<2^62
theorem zeq (r:Reply) (hr:zb1 r):CallOK Tryz.prog 128 [.f (.agg r.lent)] (fun x o=>x=[rb (zbV r)]∧o=[]):=by
 refine zac zak mixed (T:=Ty) (n:=87) Tryz.func128 (c:=Tryz.f128.body.getD .skip) rfl Tryz.results128 Tryz.ntmps128 Tryz.call128 ?_
 simp only[Tryz.f128,Option.getD]
 obtain⟨h1,h2⟩:=hr
 cases hA:(decide (r.code<0)||decide (r.code>12)||decide (r.session<0)||decide (r.session>2305843009213693952)||decide (r.ahead<0)||decide (r.ahead>3))
 ·cases hB:(decide ((r.held.length:Int)>4)||(r.session==0)&&decide ((r.held.length:Int)>0))
  ·have hs:zbV r=zbx (zcA r.held) 0 r.held:=by
    unfold zbV
    rw[show(decide (r.code<0)||decide (r.code>12)||decide (r.session<0)||decide (r.session>zbg)||decide (r.ahead<0)||decide (r.ahead>3))=false from hA,hB]
    rfl
   rw[hs]
   repeat'(first|refine zq (I hA hB) ?_|exact zd (I hA hB)|(refine zaa ?_ ?_<;>intro hb)|(refine And.intro ?_ ?_;exact zI)|(refine And.intro ?_ ?_<;>intro hg)|exact zC|fail)
   refine zam (τ:=Nat) (fun i=>⟨[dd, .one (.ptr ⟨1,0,1⟩ 0),dd,dd,dd,dd,dd,dd,dd,dd,dd,dd,dd,dd,dd,dd,dd,dd,dd,dd,dd,dd,dd,dd,dd,dd,dd,dd,dd,dd,dd,dd,dd,dd,dd,dd,dd,dd,dd,dd,dd,dd,dd,dd,dd,dd,dd,dd,dd,al r.held.length (zaD r.held),ai r.held.length,ai i,dd,dd,dd,dd,dd,dd,dd,dd,dd,dd,dd,dd,dd,dd,dd,dd,dd,dd,dd,dd,dd,dd,dd,dd,dd,dd,dd,dd,dd,dd,dd,dd,dd,dd,dd],[(1,{next:=2,l:=[some {e:=1,var:=true,fz:=false,sz:=0,cells:=[di r.code,di r.session,di r.ahead, .lent r.held.length (zaD r.held)]},none,none,none,none]}),(4,⟨2,[]⟩)]⟩)
    (fun i=>i≤r.held.length) (fun i=>zbx (zcA r.held) i (r.held.drop i)) (fun i=>r.held.length - i) 0
    (Gh.canon [1] [4] [] zK rfl rfl) (Nat.zero_le _) ?_
   intro i hi0 hF K hK
   rw[List.drop_zero]at hF
   refine zw ?_
   refine zaa (fun hlt=> ?_) (fun hge=> ?_)
   ·have hi:i<r.held.length:=by simpa using hlt
    have hat:=zb3 hi
    have hw:=zal hi (by omega)
    rw[zaS hi]at hF
    have hnm:=zkO r.held[i].name (h2 _ (List.getElem_mem hi))
    cases e0:decide ((i:Int)>0)
    ·have h0:i=0:=by simpa using e0
     have hq:zcA r.held i r.held[i]= !(!nameP r.held[i].name||decide (r.held[i].token<1)||decide (r.held[i].token>2305843009213693952)):=by
      unfold zcA
      have:decide (i>0)=false:=by simpa using e0
      rw[this,Bool.false_and,Bool.or_false]
     have hp:(zaD r.held).drop ((IntKind.i64.wrap ((i:Int) - 1)).toNat*2)=r.held[i].enc++zaD (r.held.drop (i+1)):=by
      rw[←zb3 hi,h0];rfl
     repeat'(first|refine zq (I hat (I hp (I e0 (I @zaC zca)))) ?_|exact zd (I hat (I hp (I e0 (I @zaC zca))))|refine zc (hnm) ?_|refine zg (hnm) ?_|(refine zaa ?_ ?_<;>intro hb)|(refine And.intro ?_ ?_;exact zI)|(refine And.intro ?_ ?_<;>intro hg)|exact zC|fail)
     ·rw[hq,hb,if_neg (by simp)]at hF
      rw[←hF]
     ·exact hK _ (i+1) (Gh.canon [1] [] [] (zk hw) rfl rfl) hi (by rw[zaS hi,hq,hb];rfl) (by omega)
    ·have h0:0<i:=by simpa using e0
     have hq:zcA r.held i r.held[i]= !(!nameP r.held[i].name||decide (r.held[i].token<1)||decide (r.held[i].token>2305843009213693952)|| !(zdP (r.held[i - 1]'(by omega)).name r.held[i].name)):=by
      unfold zcA ztq
      have:decide (i>0)=true:=by simpa using e0
      rw[this,List.getElem?_eq_getElem (by omega)]
      simp only[Bool.true_and,Option.map_some,Option.getD_some]
     have hp:=zb3 (show i - 1<r.held.length by omega)
     have hw1:IntKind.i64.wrap ((i:Int) - 1)=((i - 1:Nat):Int):=by rw[wrap64 (by omega) (by omega)];omega
     repeat'(first|refine zq (I hat (I hp (I hw1 (I e0 (I @zaC zca))))) ?_|exact zd (I hat (I hp (I hw1 (I e0 (I @zaC zca)))))|refine zc (hnm) ?_|refine zg (hnm) ?_|(refine zaa ?_ ?_<;>intro hb)|(refine And.intro ?_ ?_;exact zI)|(refine And.intro ?_ ?_<;>intro hg)|exact zC|fail)
     ·rw[hq,hb,if_neg (by simp)]at hF
      rw[←hF]
     ·exact hK _ (i+1) (Gh.canon [1] [] [] (zk hw) rfl rfl) hi (by rw[zaS hi,hq,hb];rfl) (by omega)
   ·have hi:i=r.held.length:=by
     have:¬(i:Int)<r.held.length:=by simpa using hge
     omega
    rw[zdo hi]at hF
    rw[←hF]
    repeat'(first|refine zq0 ?_|exact zd0|(refine zaa ?_ ?_<;>intro hb)|(refine And.intro ?_ ?_;exact zI)|(refine And.intro ?_ ?_<;>intro hg)|exact zC|fail)
  ·have hs:zbV r=false:=by
    unfold zbV
    rw[hB,Bool.not_true,Bool.and_false,Bool.false_and]
   rw[hs]
   repeat'(first|refine zq (I hA hB) ?_|exact zd (I hA hB)|(refine zaa ?_ ?_<;>intro hb)|(refine And.intro ?_ ?_;exact zI)|(refine And.intro ?_ ?_<;>intro hg)|exact zC|fail)
 ·have hs:zbV r=false:=by
   unfold zbV
   rw[show(decide (r.code<0)||decide (r.code>12)||decide (r.session<0)||decide (r.session>zbg)||decide (r.ahead<0)||decide (r.ahead>3))=true from hA]
   rfl
  rw[hs]
  repeat'(first|refine zq hA ?_|exact zd hA|(refine zaa ?_ ?_<;>intro hb)|(refine And.intro ?_ ?_;exact zI)|(refine And.intro ?_ ?_<;>intro hg)|exact zC|fail)
theorem zdM (m:Memo) (hr:zb1 m.reply):CallOK Tryz.prog 76 [.f (.agg m.lent)] (fun x o=>x=[rb (answerB m)]∧o=[]):=by
 refine zac zak mixed (T:=Ty) (n:=26) Tryz.func76 (c:=Tryz.f76.body.getD .skip) rfl Tryz.results76 Tryz.ntmps76 Tryz.call76 ?_
 simp only[Tryz.f76,Option.getD]
 repeat'(first|refine zq0 ?_|exact zd0|refine zc (zeq m.reply hr) ?_|refine zg (zeq m.reply hr) ?_|(refine zaa ?_ ?_<;>intro hb)|(refine And.intro ?_ ?_;exact zI)|(refine And.intro ?_ ?_<;>intro hg)|exact zC|fail)
 rfl
theorem zpr (x:Memo) (c:Int):CallOK Tryz.prog 160 [.f (zuI x), .f (ai c)] (fun r o=>r=[ri (zow x.client c)]∧o=[]):=by
 refine zac zak mixed (T:=Ty) (n:=9) Tryz.func160 (c:=Tryz.f160.body.getD .skip) rfl Tryz.results160 Tryz.ntmps160 Tryz.call160 ?_
 simp only[Tryz.f160,Option.getD]
 repeat'(first|refine zq0 ?_|exact zd0|refine zc (zel x.client c) ?_|refine zg (zel x.client c) ?_|(refine zaa ?_ ?_<;>intro hb)|(refine And.intro ?_ ?_;exact zI)|(refine And.intro ?_ ?_<;>intro hg)|exact zC|fail)
theorem zir (l:List Memo) (hs:SM l) (hl:l.length<2^62) (c:Int):CallOK Tryz.prog 113 [.f (al l.length (zaz l)), .f (ai c)] (fun r o=>r=[ri (zgG l c),rb (zbc l c).isSome]∧o=[]):=by
 refine zac zak mixed (T:=Ty) (n:=11) Tryz.func113 (c:=Tryz.f113.body.getD .skip) rfl Tryz.results113 Tryz.ntmps113 Tryz.call113 ?_
 simp only[Tryz.f113,Option.getD]
 have h:=zmp l hl c (fun x=>zow x.client c) 160 (zgG l c) zcJ
  (fun j hj h=>by have:=zgU hj h;simp at this;exact zkQ.2 this)
  (fun j hj h=>by have:=zgV hj (zno hs c) h;simp at this;have h2:= @zkQ l[j].client c;omega) (fun x _=>zpr x c)
 have e:((l[zgG l c]?.map fun x=>zow x.client c==0).getD false)=(zbc l c).isSome:=by
  rw[zmg hs,zkR]
  simp only[zmw]
 rw[e]at h
 repeat'(first|refine zq0 ?_|exact zd0|refine zc (h) ?_|refine zg (h) ?_|(refine zaa ?_ ?_<;>intro hb)|(refine And.intro ?_ ?_;exact zI)|(refine And.intro ?_ ?_<;>intro hg)|exact zC|fail)
theorem zps (l:List Memo) (hl:l.length<2^30) (hll:∀m∈l,m.reply.held.length<2^30):CallOK Tryz.prog 120 [.f (al l.length (zaz l))] (fun r o=>r=[.one (.own 6 l.length (zaz l) false)]∧o=[]):=by
 refine zac zak mixed (T:=Ty) (n:=26) Tryz.func120 (c:=Tryz.f120.body.getD .skip) rfl Tryz.results120 Tryz.ntmps120 Tryz.call120 ?_
 simp only[Tryz.f120,Option.getD]
 have hcn:=zjC l.length (zaz l) zan (by omega)
 repeat'(first|refine zq @zan ?_|exact zd @zan|refine zc (hcn) ?_|refine zg (hcn) ?_|(refine zaa ?_ ?_<;>intro hb)|(refine And.intro ?_ ?_;exact zI)|(refine And.intro ?_ ?_<;>intro hg)|exact zC|fail)
 refine zam (τ:=Nat) (fun i=>⟨[dd,dd,dd, .one (.own ⟨3,1,1⟩ 0 l.length),dd,dd,dd,dd,ai l.length,ai i,dd,dd,dd,dd,dd,dd,dd,dd,dd,dd,dd,dd,dd,dd,dd,dd],[(6,⟨2,[]⟩),(3,{next:=2,l:=[none,some {e:=1,var:=false,fz:=false,sz:=6,cells:=(zaz l).map C.d}]}),(20,⟨2,[]⟩)]⟩)
  (fun i=>i≤l.length) (fun _=>()) (fun i=>l.length - i) 0
  (Gh.canon [3] [20] [] zK rfl rfl) (Nat.zero_le _) ?_
 intro i hi0 hF K hK
 refine zw ?_
 refine zaa (fun hlt=> ?_) (fun hge=> ?_)
 ·have hi:i<l.length:=by simpa using hlt
  have hat:=zbB hi
  have hat2:(zaz l).drop (i*6+2+3)= .sl l[i].reply.held.length (zaD l[i].reply.held)::zaz (l.drop (i+1)):=by rw[Nat.add_assoc,←List.drop_drop,hat];rfl
  have hw:=zal hi (by omega)
  have hci:=zep l[i].reply.held.length (zaD l[i].reply.held) zaC (by have:=hll _ (List.getElem_mem hi);omega)
  have hset:=zcx Memo.enc 6 (fun _=>rfl) hi (k:=5) (by decide) (.sl l[i].reply.held.length (zaD l[i].reply.held)) l[i] rfl
  rw[List.set_getElem_self,show i*6+5=i*6+2+3 from rfl]at hset
  repeat'(first|refine zq (I hat2 (I hset (I @zmd (I @List.map_cons.{0,0} @zan)))) ?_|exact zd (I hat2 (I hset (I @zmd (I @List.map_cons.{0,0} @zan))))|refine zc (hci) ?_|refine zg (hci) ?_|(refine zaa ?_ ?_<;>intro hb)|(refine And.intro ?_ ?_;exact zI)|(refine And.intro ?_ ?_<;>intro hg)|exact zC|fail)
  exact hK _ (i+1) (Gh.canon [3] [] [] (zk hw) rfl rfl) hi rfl (by omega)
 ·have hi:i=l.length:=by
   have:¬(i:Int)<l.length:=by simpa using hge
   omega
  repeat'(first|refine zq0 ?_|exact zd0|(refine zaa ?_ ?_<;>intro hb)|(refine And.intro ?_ ?_;exact zI)|(refine And.intro ?_ ?_<;>intro hg)|exact zC|fail)
theorem zoy (l:List Memo) (hs:SM l) (hl:l.length<2^30) (c q:Int):CallOK Tryz.prog 64 [.f (al l.length (zaz l)), .f (ai c), .f (ai q)] (fun r o=>r=[ri (zbW l c q)]∧o=[]):=by
 refine zac zak mixed (T:=Ty) (n:=35) Tryz.func64 (c:=Tryz.f64.body.getD .skip) rfl Tryz.results64 Tryz.ntmps64 Tryz.call64 ?_
 simp only[Tryz.f64,Option.getD]
 have hp:=zir l hs (by omega) c
 cases hf:zbc l c with
 |none=>
  rw[hf]at hp
  simp only[Option.isSome_none]at hp
  have hd:(zaz l).drop (zgG l c*6)=[]∨∃x q,(zaz l).drop (zgG l c*6)=Memo.enc x++q:=by
   rcases Nat.lt_or_ge (zgG l c) l.length with h|h
   ·exact .inr ⟨_,_,zbB h⟩
   ·exact .inl (List.drop_of_length_le (by rw[zan];omega))
  have hfr:zbW l c q=1:=by unfold zbW;rw[hf]
  rw[hfr]
  rcases hd with hat|⟨x,q,hat⟩
  ·repeat'(first|refine zq (I hat (I @List.drop_nil.{0} @zan)) ?_|exact zd (I hat (I @List.drop_nil.{0} @zan))|refine zc (hp) ?_|refine zg (hp) ?_|(refine zaa ?_ ?_<;>intro hb)|(refine And.intro ?_ ?_;exact zI)|(refine And.intro ?_ ?_<;>intro hg)|exact zC|fail)
  ·repeat'(first|refine zq (I hat (I @zan zca)) ?_|exact zd (I hat (I @zan zca))|refine zc (hp) ?_|refine zg (hp) ?_|(refine zaa ?_ ?_<;>intro hb)|(refine And.intro ?_ ?_;exact zI)|(refine And.intro ?_ ?_<;>intro hg)|exact zC|fail)
 |some x=>
  rw[hf]at hp
  simp only[Option.isSome_some]at hp
  obtain⟨⟨hi,he⟩,hc⟩:=zhF hs hf
  have hat:=zbB hi
  rw[he]at hat
  have hfr:zbW l c q=if x.seq<q then 1 else if x.seq=q then 0 else -1:=by unfold zbW;rw[hf]
  rw[hfr]
  repeat'(first|refine zq (I hat (I @zan zca)) ?_|exact zd (I hat (I @zan zca))|refine zc (hp) ?_|refine zg (hp) ?_|(refine zaa ?_ ?_<;>intro hb)|(refine And.intro ?_ ?_;exact zI)|(refine And.intro ?_ ?_<;>intro hg)|exact zC|fail)
  ·rw[if_pos (by simpa using hb)]
  ·rename_i h1
   rw[if_neg (by simpa using h1),if_pos (by simpa using hb)]
  ·rename_i h1
   rw[if_neg (by simpa using h1),if_neg (by simpa using hb)]
def zcO:Memo:=⟨0,0,⟨0,0,0,[]⟩⟩
theorem zvE (l:List Memo) (hs:SM l) (hl:l.length<2^30) (hll:∀m∈l,m.reply.held.length<2^30) (c:Int):CallOK Tryz.prog 65 [.f (al l.length (zaz l)), .f (ai c)]
  (fun r o=>r=[.agg [.d (iD ((zbc l c).getD zcO).client), .d (iD ((zbc l c).getD zcO).seq), .d (iD ((zbc l c).getD zcO).reply.code), .d (iD ((zbc l c).getD zcO).reply.session), .d (iD ((zbc l c).getD zcO).reply.ahead), .own 2 ((zbc l c).getD zcO).reply.held.length (zaD ((zbc l c).getD zcO).reply.held) false],rb (zbc l c).isSome]∧o=[]):=by
 refine CallOK.nil ?_
 refine zac zak mixed (T:=Ty) (n:=29) Tryz.func65 (c:=Tryz.f65.body.getD .skip) rfl Tryz.results65 Tryz.ntmps65 Tryz.call65 ?_
 simp only[Tryz.f65,Option.getD]
 have hp:=zir l hs (by omega) c
 cases hf:zbc l c with
 |none=>
  rw[hf]at hp
  simp only[Option.isSome_none]at hp
  repeat'(first|refine zq @zan ?_|exact zd @zan|refine zc (hp) ?_|refine zg (hp) ?_|(refine zaa ?_ ?_<;>intro hb)|(refine And.intro ?_ ?_;exact zI)|(refine And.intro ?_ ?_<;>intro hg)|exact zC|fail)
  simp[zbw,zex,zbu,zaA,zcO]
 |some x=>
  rw[hf]at hp
  simp only[Option.isSome_some]at hp
  obtain⟨⟨hi,he⟩,hc⟩:=zhF hs hf
  have hat:=zbB hi
  rw[he]at hat
  have hci:=zep x.reply.held.length (zaD x.reply.held) zaC (by have:=hll x (he▸List.getElem_mem hi);omega)
  repeat'(first|refine zq (I hat (I @zan zca)) ?_|exact zd (I hat (I @zan zca))|refine zc (hp) ?_|refine zg (hp) ?_|refine zc (hci) ?_|refine zg (hci) ?_|(refine zaa ?_ ?_<;>intro hb)|(refine And.intro ?_ ?_;exact zI)|(refine And.intro ?_ ?_<;>intro hg)|exact zC|fail)
  simp[zbw,zex,zbu,zaA]
set_option maxHeartbeats 2000000 in
theorem zvF (l:List Memo) (hs:SM l) (hl:l.length<2^30) (hll:∀m∈l,m.reply.held.length<2^30) (a:Memo) (ha:zb1 a.reply):CallOK Tryz.prog 67 [.f (al l.length (zaz l)), .f (.agg a.lent)]
  (fun r o=>r=[.one (.own 6 (zeB l a).length (zaz (zeB l a)) false)]∧o=[]):=by
 refine zac zak mixed (T:=Ty) (n:=55) Tryz.func67 (c:=Tryz.f67.body.getD .skip) rfl Tryz.results67 Tryz.ntmps67 Tryz.call67 ?_
 simp only[Tryz.f67,Option.getD]
 have hcp:=zps l hl hll
 have hma:=zdM a ha
 have hfr:=zoy l hs hl a.client a.seq
 have hp:=zir l hs (by omega) a.client
 have hci:=zep a.reply.held.length (zaD a.reply.held) zaC (by have:=ha.1;omega)
 cases hA:answerB a
 ·have hk:zeB l a=l:=by unfold zeB;rw[hA];rfl
  rw[hk]
  rw[hA]at hma
  repeat'(first|refine zq @zan ?_|exact zd @zan|refine zc (hcp) ?_|refine zg (hcp) ?_|refine zc (hma) ?_|refine zg (hma) ?_|refine zc (hfr) ?_|refine zg (hfr) ?_|(refine zaa ?_ ?_<;>intro hb)|(refine And.intro ?_ ?_;exact zI)|(refine And.intro ?_ ?_<;>intro hg)|exact zC|fail)
 ·rw[hA]at hma
  cases hB:zbW l a.client a.seq !=1
  ·have hk:zeB l a=if(zbc l a.client).isSome=true then l.set (zgG l a.client) a else l.take (zgG l a.client)++a::l.drop (zgG l a.client):=by unfold zeB;rw[hA,hB];rfl
   rw[hk]
   cases hf:(zbc l a.client).isSome
   ·rw[hf]at hp
    rw[if_neg (by simp)]
    have hin:=zpq l.length (zgG l a.client) (zaz l) a.enc zan rfl zcJ hl
    have hti:=znq Memo.enc 6 (fun _=>rfl) (l:=l) (k:=zgG l a.client) zcJ a
    have htl:=zkJ (l:=l) (k:=zgG l a.client) zcJ a
    simp only[htl,hti]
    repeat'(first|refine zq (I @zan hB) ?_|exact zd (I @zan hB)|refine zc (hcp) ?_|refine zg (hcp) ?_|refine zc (hma) ?_|refine zg (hma) ?_|refine zc (hfr) ?_|refine zg (hfr) ?_|refine zc (hci) ?_|refine zg (hci) ?_|refine zc (hp) ?_|refine zg (hp) ?_|(refine zaa ?_ ?_<;>intro hb)|(refine And.intro ?_ ?_;exact zI)|(refine And.intro ?_ ?_<;>intro hg)|exact zC|fail)
    refine zbY (mv:= ?mv1) (lent:= ?le1) 0 ?ha1 (hin) ?hb1 ?hc1
    case ha1=>(try simp only[zB,zaG,Nat.reduceSub,Nat.reduceEqDiff,Nat.reduceAdd,Nat.reduceMul,Nat.reduceLeDiff,Nat.reduceLT,Nat.reduceBEq,reduceCtorEq]);exact rfl
    case hb1=>(try simp only[zB,scM,Nat.reduceSub,Nat.reduceEqDiff,Nat.reduceAdd,Nat.reduceMul,Nat.reduceLeDiff,Nat.reduceLT,Nat.reduceBEq,reduceCtorEq]);repeat'(first|rfl|trivial|omega|with_reducible refine And.intro ?_ ?_)
    show aops _ _ _ _ _ _ _ _
    repeat'(first|refine zq0 ?_|exact zd0|(refine zaa ?_ ?_<;>intro hb)|(refine And.intro ?_ ?_;exact zI)|(refine And.intro ?_ ?_<;>intro hg)|exact zC|fail)
   ·rw[hf]at hp
    rw[if_pos rfl]
    obtain⟨x,hx⟩:=Option.isSome_iff_exists.1 hf
    obtain⟨⟨hi,he⟩,hc⟩:=zhF hs hx
    have hset:=zfm Memo.enc 6 (fun _=>rfl) hi a
    simp only[fillAt,List.map_cons,List.map_nil]at hset
    repeat'(first|refine zq (I @zan (I hB hset)) ?_|exact zd (I @zan (I hB hset))|refine zc (hcp) ?_|refine zg (hcp) ?_|refine zc (hma) ?_|refine zg (hma) ?_|refine zc (hfr) ?_|refine zg (hfr) ?_|refine zc (hci) ?_|refine zg (hci) ?_|refine zc (hp) ?_|refine zg (hp) ?_|(refine zaa ?_ ?_<;>intro hb)|(refine And.intro ?_ ?_;exact zI)|(refine And.intro ?_ ?_<;>intro hg)|exact zC|fail)
    rw[List.length_set]
  ·have hk:zeB l a=l:=by unfold zeB;rw[hB,Bool.or_true];rfl
   rw[hk]
   repeat'(first|refine zq (I @zan hB) ?_|exact zd (I @zan hB)|refine zc (hcp) ?_|refine zg (hcp) ?_|refine zc (hma) ?_|refine zg (hma) ?_|refine zc (hfr) ?_|refine zg (hfr) ?_|(refine zaa ?_ ?_<;>intro hb)|(refine And.intro ?_ ?_;exact zI)|(refine And.intro ?_ ?_<;>intro hg)|exact zC|fail)
theorem zmr (l:List Memo) (hl:l.length<2^30) (hll:∀m∈l,zb1 m.reply):CallOK Tryz.prog 74 [.f (al l.length (zaz l))] (fun r o=>r=[rb (memoB l)]∧o=[]):=by
 refine zac zak mixed (T:=Ty) (n:=37) Tryz.func74 (c:=Tryz.f74.body.getD .skip) rfl Tryz.results74 Tryz.ntmps74 Tryz.call74 ?_
 simp only[Tryz.f74,Option.getD]
 repeat'(first|refine zq @zan ?_|exact zd @zan|(refine zaa ?_ ?_<;>intro hb)|(refine And.intro ?_ ?_;exact zI)|(refine And.intro ?_ ?_<;>intro hg)|exact zC|fail)
 refine zam (τ:=Nat) (fun i=>⟨[al l.length (zaz l),dd,dd,dd,dd,al l.length (zaz l),ai l.length,ai i,dd,dd,dd,dd,dd,dd,dd,dd,dd,dd,dd,dd,dd,dd,dd,dd,dd,dd,dd,dd,dd,dd,dd,dd,dd,dd,dd,dd,dd],[(4,⟨2,[]⟩)]⟩)
  (fun i=>i≤l.length) (fun i=>zbx (zmf l) i (l.drop i)) (fun i=>l.length - i) 0
  (Gh.canon [] [4] [] zK rfl rfl) (Nat.zero_le _) ?_
 intro i hi0 hF K hK
 rw[List.drop_zero]at hF
 refine zw ?_
 refine zaa (fun hlt=> ?_) (fun hge=> ?_)
 ·have hi:i<l.length:=by simpa using hlt
  have hat:=zbB hi
  have hw:=zal hi (by omega)
  rw[zaS hi]at hF
  have hma:=zdM l[i] (hll _ (List.getElem_mem hi))
  cases e0:decide ((i:Int)>0)
  ·have h0:i=0:=by simpa using e0
   have hq:zmf l i l[i]= !(!answerB l[i]):=by
    unfold zmf
    have:decide (i>0)=false:=by simpa using e0
    rw[this,Bool.false_and,Bool.or_false]
   have hp:(zaz l).drop ((IntKind.i64.wrap ((i:Int) - 1)).toNat*6)=l[i].enc++zaz (l.drop (i+1)):=by
    rw[←zbB hi,h0];rfl
   repeat'(first|refine zq (I hat (I hp (I e0 (I @zan zca)))) ?_|exact zd (I hat (I hp (I e0 (I @zan zca))))|refine zc (hma) ?_|refine zg (hma) ?_|(refine zaa ?_ ?_<;>intro hb)|(refine And.intro ?_ ?_;exact zI)|(refine And.intro ?_ ?_<;>intro hg)|exact zC|fail)
   ·rw[hq,hb,if_neg (by simp)]at hF
    unfold memoB
    rw[←hF]
   ·exact hK _ (i+1) (Gh.canon [] [] [] (zk hw) rfl rfl) hi (by rw[zaS hi,hq,hb];rfl) (by omega)
  ·have h0:0<i:=by simpa using e0
   have hq:zmf l i l[i]= !(!answerB l[i]||decide ((l[i - 1]'(by omega)).client≥l[i].client)):=by
    unfold zmf zrx
    have:decide (i>0)=true:=by simpa using e0
    rw[this,List.getElem?_eq_getElem (by omega)]
    simp only[Bool.true_and,Option.map_some,Option.getD_some]
   have hp:=zbB (show i - 1<l.length by omega)
   have hw1:IntKind.i64.wrap ((i:Int) - 1)=((i - 1:Nat):Int):=by rw[wrap64 (by omega) (by omega)];omega
   repeat'(first|refine zq (I hat (I hp (I hw1 (I e0 (I @zan zca))))) ?_|exact zd (I hat (I hp (I hw1 (I e0 (I @zan zca)))))|refine zc (hma) ?_|refine zg (hma) ?_|(refine zaa ?_ ?_<;>intro hb)|(refine And.intro ?_ ?_;exact zI)|(refine And.intro ?_ ?_<;>intro hg)|exact zC|fail)
   ·rw[hq,hb,if_neg (by simp)]at hF
    unfold memoB
    rw[←hF]
   ·exact hK _ (i+1) (Gh.canon [] [] [] (zk hw) rfl rfl) hi (by rw[zaS hi,hq,hb];rfl) (by omega)
 ·have hi:i=l.length:=by
   have:¬(i:Int)<l.length:=by simpa using hge
   omega
  rw[zdo hi]at hF
  unfold memoB
  rw[←hF]
  repeat'(first|refine zq0 ?_|exact zd0|(refine zaa ?_ ?_<;>intro hb)|(refine And.intro ?_ ?_;exact zI)|(refine And.intro ?_ ?_<;>intro hg)|exact zC|fail)
end Go.Proofs.YtbpmcjeeeiffhaaGreat
