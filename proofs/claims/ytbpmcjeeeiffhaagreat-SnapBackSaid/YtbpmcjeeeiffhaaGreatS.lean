import Derived.Test.YtbpmcjeeeiffhaaGreatKK
namespace Go.Proofs.YtbpmcjeeeiffhaaGreat
open Go.Pk
set_option maxRecDepth 100000
set_option linter.unusedSimpArgs false
set_option linter.unusedVariables false
theorem zj7 {r:Req} (h:Req.may r=true):isClient r.client=true∧(1≤r.seq∧r.seq≤zbB)∧((r.kind==3||r.kind==4)=true→nameP r.name=true):=by
 unfold Req.may at h
 simp only[Bool.and_eq_true,decide_eq_true_eq]at h
 obtain⟨⟨⟨⟨a,b⟩,c⟩,d⟩,e⟩:=h
 refine⟨zc1.2 ⟨a,b⟩,⟨c,d⟩,fun hk=> ?_⟩
 unfold zv4 at e
 split at e
 ·cases e
 ·split at e
  ·cases e
  ·rename_i h2
   have h3:(r.kind==3||r.kind==4||r.kind==5)=true:=by rw[hk];rfl
   rw[h3]at h2
   simpa using h2
structure DoneR (s t:St) (a:Reply):Prop where
 rt:RightS t
 tok:s.token≤t.token∧t.token≤s.token+4
 num:s.num≤t.num∧t.num≤s.num+1
 time:t.time=s.time
 code:0≤a.code∧a.code≤12
theorem zlr {s:St} (h:RightS s) {c:Int} (hc:isClient c=true) (hN:s.num+1≤zbB):DoneR s (zcv s c).1 (zcv s c).2:=by
 unfold zcv
 cases hf:zaA s.sess c with
 |some x=>exact⟨h,by simp only;omega,by simp only;omega,rfl,by simp only;decide⟩
 |none=>
  simp only
  rw[znK h hc hN hf]
  by_cases h5:s.sess.length≥5
  ·rw[if_pos h5,if_pos (by simp)]
   exact⟨h,by simp only;omega,by simp only;omega,rfl,by simp only;decide⟩
  ·rw[if_neg h5,if_neg (by simp)]
   exact⟨zoD h hc hN hf (by omega),by simp only;omega,by simp only;omega,rfl,by simp only;decide⟩
theorem zgL {s:St} (h:RightS s) {r:Req} (hr:Req.may r=true) (hN:s.num+1≤zbB) (hT:s.token+4≤zbB):DoneR s (zbm s r).1 (zbm s r).2:=by
 obtain⟨hc,_,hnm⟩:=zj7 hr
 unfold zbm
 split
 ·exact zlr h hc hN
 ·cases hf:zaA s.sess r.client with
  |none=>exact⟨h,by simp only;omega,by simp only;omega,rfl,by simp only;decide⟩
  |some x=>
   simp only
   split
   ·exact⟨h,by simp only;omega,by simp only;omega,rfl,by simp only;decide⟩
   ·have h1:=zh2 h hf
    have hf1:(zaA (zco s.sess r.client s.time).1 r.client).isSome=true:=by
     rw[zgi h hf,zhp (zh1 h hf).1,hf];rfl
    split
    ·rename_i hk
     obtain⟨t0,t10,tc,ta⟩:=zi9 (w:=r.kind==3) h1 (hnm hk) hc hf1 hT
     simp only at t0 t10 tc ta
     by_cases e0:(zaR s.locks r.name r.client s.token (r.kind==3)).2.2=0
     ·rw[if_pos e0]
      exact⟨t0 e0,by simp only;omega,by simp only;omega,rfl,by simp only;omega⟩
     ·rw[if_neg e0]
      by_cases e10:(zaR s.locks r.name r.client s.token (r.kind==3)).2.2=10
      ·rw[if_pos e10]
       exact⟨t10 e10,by simp only;omega,by simp only;omega,rfl,by simp only;omega⟩
      ·rw[if_neg e10]
       exact⟨h1,by simp only;omega,by simp only;omega,rfl,by simp only;omega⟩
    ·split
     ·obtain⟨t0,tc,ta⟩:=zoE (name:=r.name) (c:=r.client) h1 hT
      simp only at t0 tc ta
      by_cases e0:(zbN s.locks r.name r.client s.token).2.2=0
      ·rw[if_pos e0]
       exact⟨t0 e0,by simp only;omega,by simp only;omega,rfl,by simp only;omega⟩
      ·rw[if_neg e0]
       exact⟨h1,by simp only;omega,by simp only;omega,rfl,by simp only;omega⟩
     ·split
      ·obtain⟨a,b,c⟩:=zgk h1 [r.client] hT
       exact⟨a,⟨b,c⟩,by simp only[zbv];omega,rfl,by simp only;decide⟩
      ·exact⟨h1,by simp only;omega,by simp only;omega,rfl,by simp only;decide⟩
theorem zqI {s:St} (h:RightS s) {c:Int}:0≤(((zb3 s.memos c).map Memo.reply).getD ⟨0,0,0,[]⟩).code∧(((zb3 s.memos c).map Memo.reply).getD ⟨0,0,0,[]⟩).code≤12:=by
 cases hf:zb3 s.memos c with
 |none=>simp
 |some m=>
  have:=h.mok m (List.mem_of_find?_eq_some hf)
  unfold answerB zbL at this
  simp at this
  simp;omega
theorem zmA {s:St} (h:RightS s) (r:Req) (hN:s.num+1≤zbB) (hT:s.token+4≤zbB):DoneR s (zd9 s r).1 (zd9 s r).2.1:=by
 unfold zd9
 split
 ·exact⟨h,by simp only;omega,by simp only;omega,rfl,by simp only;decide⟩
 ·rename_i hm
  split
  ·exact⟨h,by simp only;omega,by simp only;omega,rfl,by simp only;decide⟩
  ·split
   ·exact⟨h,by simp only;omega,by simp only;omega,rfl,zqI h⟩
   ·have hd:=zgL h (r:=r) (by simpa using hm) hN hT
    exact⟨zoF hd.rt _,hd.tok,hd.num,hd.time,hd.code⟩
def zt8 {α:Type} (p:α→Bool) (x:α):List α→List α
 |[]=>[x]
 |y::r=>if p y=true then x::y::r else y::zt8 p x r
theorem znQ {α:Type} {p q:α→Bool} {x:α}:∀{l:List α},(∀y∈l,p y= !(q y))→zt8 p x l=l.take (znN q l)++x::l.drop (znN q l)
 |[],_=>rfl
 |y::r,h=>by
  rw[zt8,zcK,h y (List.mem_cons_self ..)]
  cases hq:q y
  ·simp
  ·simp only[Bool.not_true,Bool.false_eq_true,if_false,if_true,List.take_succ_cons,List.drop_succ_cons,List.cons_append]
   rw[znQ fun z hz=>h z (List.mem_cons_of_mem _ hz)]
theorem zyV {l:List Sess} {c:Int} {x:Sess} (hf:zaA l c=none):zt8 (fun y:Sess=>decide (y.client>c)) x l=l.take (zfL l c)++x::l.drop (zfL l c):=by
 refine znQ fun y hy=> ?_
 have:y.client≠c:=fun e=>by
  have:=zcW.2 ⟨y,hy,e⟩
  rw[hf]at this;cases this
 rw[Bool.eq_iff_iff]
 simp
 omega
theorem zra {α:Type} {p:α→Bool} {x:α} {l:List α} {i:Nat} {put:Bool} (hi:i<l.length):
  (if put=true then l.drop i else zt8 p x (l.drop i))=if(!put&&p l[i])=true then x::l[i]::l.drop (i+1)else l[i]::(if put=true then l.drop (i+1)else zt8 p x (l.drop (i+1))):=by
 rw[List.drop_eq_getElem_cons hi]
 cases put
 ·simp only[Bool.not_false,Bool.true_and,Bool.false_eq_true,if_false,zt8]
 ·simp
set_option maxHeartbeats 1000000 in
theorem zsX (l:List Sess) (hs:SS l) (hl:l.length<2^30) (c num now:Int) (hc:isClient c=true) (h1:1≤num) (hn:0≤now∧now≤zbB) (hf:zaA l c=none) (hnum:numbered l num=false):
  CallOK Tryz.prog 179 [.f (al l.length (zaJ l)), .f (ai c), .f (ai num), .f (ai now)]
  (fun r o=>r=[.one (.own 3 (zde l c num now).1.length (zaJ (zde l c num now).1) false),ri (zde l c num now).2]∧o=[]):=by
 refine CallOK.nil ?_
 refine zac zas mixed (T:=Ty) (n:=102) Tryz.func179 (c:=Tryz.f179.body.getD .skip) rfl Tryz.results179 Tryz.ntmps179 Tryz.call179 ?_
 simp only[Tryz.f179,Option.getD]
 have hcl:=zoR c
 rw[hc]at hcl
 have hg1:=zib num 1
 have hg2:=zib now 0
 have hH:zbB=2305843009213693952:=rfl
 rw[show(decide (now≥0)&&decide (now≤2305843009213693952))=true by simp;omega]at hg2
 have hfi:=zeh l (by omega) c
 rw[hf]at hfi
 simp only[Option.isSome_none,Option.getD_none]at hfi
 have eo:zde l c num now=if decide (num>zbB)=true then([],1)else if decide ((l.length:Int)≥5)=true then([],5)else(l.take (zfL l c)++⟨c,num,now⟩::l.drop (zfL l c),0):=by
  have e1:decide (num<1)=false:=by simp;omega
  have e2:decide (now<0)=false:=by simp;omega
  have e3:decide (now>zbB)=false:=by simp;omega
  unfold zde
  rw[hf,hnum,hc,e1,e2,e3]
  cases decide (num>zbB)<;>simp
 generalize zde l c num now=R at eo⊢
 cases e4:decide (num>zbB)
 ·rw[e4,if_neg (by simp)]at eo
  rw[show(decide (num≥1)&&decide (num≤2305843009213693952))=true by simp at e4⊢;omega]at hg1
  repeat'(first|refine zq0 ?_|exact zd0|refine zc (hcl) ?_|refine zg (hcl) ?_|refine zc (hg1) ?_|refine zg (hg1) ?_|refine zc (hg2) ?_|refine zg (hg2) ?_|(refine zaa ?_ ?_<;>intro hb)|(refine And.intro ?_ ?_;exact zI)|(refine And.intro ?_ ?_<;>intro hg)|exact zC|fail)
  refine zam (τ:=Nat) (fun i=>⟨[al l.length (zaJ l),ai c,ai num,ai now,dd,dd,dd,dd,dd,dd,ai i,dd,dd,dd,dd,dd,dd,dd,dd,dd,dd,dd,dd,dd,dd,dd,dd,dd,dd,dd,dd,dd,dd,dd,dd,dd,dd,dd,dd,dd,dd,dd,dd,dd,dd,dd,dd,dd,dd,dd,dd,dd,dd,dd,dd,dd,dd,dd,dd,dd,dd,dd,dd,dd,dd,dd,dd,dd,dd,dd,dd,dd,dd,dd,dd,dd,dd,dd,dd,dd,dd,dd,dd,dd,dd,dd,dd,dd,dd,dd,dd,dd,dd,dd,dd,dd,dd,dd,dd,dd,dd,dd],[(8,⟨2,[]⟩)]⟩)
   (fun i=>i≤l.length) (fun _=>()) (fun i=>l.length - i) 0
   (Gh.canon [] [8] [] zK rfl rfl) (Nat.zero_le _) ?_
  intro i hi0 hF K hK
  refine zw ?_
  refine zaa (fun hlt=> ?_) (fun hge=> ?_)
  ·have hi:i<l.length:=by simpa using hlt
   have hat:=zbZ hi
   have hw:=zaq hi (by omega)
   have hne:(l[i].num==num)=false:=by
    have:=List.any_eq_false.1 hnum _ (List.getElem_mem hi)
    simpa using this
   repeat'(first|refine zq (I hat (I hne (I @zau zca))) ?_|exact zd (I hat (I hne (I @zau zca)))|(refine zaa ?_ ?_<;>intro hb)|(refine And.intro ?_ ?_;exact zI)|(refine And.intro ?_ ?_<;>intro hg)|exact zC|fail)
   exact hK _ (i+1) (Gh.canon [] [] [] (zk hw) rfl rfl) hi rfl (by omega)
  ·cases e5:decide ((l.length:Int)≥5)
   ·rw[e5,if_neg (by simp)]at eo
    repeat'(first|refine zq e5 ?_|exact zd e5|refine zc (hfi) ?_|refine zg (hfi) ?_|(refine zaa ?_ ?_<;>intro hb)|(refine And.intro ?_ ?_;exact zI)|(refine And.intro ?_ ?_<;>intro hg)|exact zC|fail)
    refine zam (τ:=Nat×Bool×List Sess) (fun t=>⟨[al l.length (zaJ l),ai c,ai num,ai now,dd,dd,dd,dd,dd,dd,dd,dd,dd, .one (.own ⟨13,1,1⟩ 0 t.2.2.length),ab t.2.1,ai t.1,dd,dd,dd,dd,dd,dd,dd,dd,dd,dd,dd,dd,dd,dd,dd,dd,dd,dd,dd,dd,dd,dd,dd,dd,dd,dd,dd,dd,dd,dd,dd,dd,dd,dd,dd,dd,dd,dd,dd,dd,dd,dd,dd,dd,dd,dd,dd,dd,dd,dd,dd,dd,dd,dd,dd,dd,dd,dd,dd,dd,dd,dd,dd,dd,dd,dd,dd,dd,dd,dd,dd,dd,dd,dd,dd,dd,dd,dd,dd,dd,dd,dd,dd,dd,dd,dd],[(8,⟨2,[]⟩),(11,⟨2,[]⟩),(13,{next:=2,l:=[none,some {e:=1,var:=false,fz:=false,sz:=3,cells:=(zaJ t.2.2).map C.d}]}),(83,⟨2,[]⟩),(84,⟨2,[]⟩),(90,⟨2,[]⟩),(91,⟨2,[]⟩)]⟩)
     (fun t=>t.1≤l.length∧t.2.2.length≤2*t.1) (fun t=>t.2.2++(if t.2.1=true then l.drop t.1 else zt8 (fun y:Sess=>decide (y.client>c)) ⟨c,num,now⟩ (l.drop t.1))) (fun t=>l.length - t.1) (0,false,[])
     ((Gh.nil (i:=13) (s:=13) (sz:=3) rfl).trans (Gh.canon [13] [83,84,90,91] [] zK rfl rfl)) ⟨Nat.zero_le _,by simp⟩ ?_
    intro⟨j,put,acc⟩ ⟨hj0,hac⟩ hF2 K2 hK2
    simp only[List.drop_zero,List.nil_append,Bool.false_eq_true,if_false]at hj0 hac hF2 hK2⊢
    refine zw ?_
    refine zaa (fun hlt2=> ?_) (fun hge2=> ?_)
    ·have hj:j<l.length:=by simpa using hlt2
     have haj:=zbZ hj
     have hwj:=zaq hj (by omega)
     have hst:=zra (p:=fun y:Sess=>decide (y.client>c)) (x:=⟨c,num,now⟩) (put:=put) hj
     have htk:(zaJ acc++[iD c,iD num,iD now]).take ((acc.length+1)*3)=zaJ acc++[iD c,iD num,iD now]:=List.take_of_length_le (by rw[List.length_append,zau];simp only[List.length_cons,List.length_nil];omega)
     cases hb:(!put&&decide (l[j].client>c))
     ·simp only[hb,Bool.false_eq_true,if_false]at hst
      repeat'(first|refine zq (I haj (I hb (I @zau zca))) ?_|exact zd (I haj (I hb (I @zau zca)))|(refine zaa ?_ ?_<;>intro hb)|(refine And.intro ?_ ?_;exact zI)|(refine And.intro ?_ ?_<;>intro hg)|exact zC|fail)
      exact hK2 _ (j+1,put,acc++[l[j]]) (Gh.canon [13] [] [] (zk (I hwj (I @List.length_append.{0} @List.length_singleton.{0}))) rfl (by simp only[List.length_append,List.length_singleton];rw[zdQ];rfl)) ⟨hj,by simp only[List.length_append,List.length_singleton];omega⟩ (by simp only[List.append_assoc,List.singleton_append];rw[hst]) (by simp only;omega)
     ·simp only[hb,if_true]at hst
      repeat'(first|refine zq (I haj (I hb (I htk (I @zau zca)))) ?_|exact zd (I haj (I hb (I htk (I @zau zca))))|(refine zaa ?_ ?_<;>intro hb)|(refine And.intro ?_ ?_;exact zI)|(refine And.intro ?_ ?_<;>intro hg)|exact zC|fail)
      refine hK2 _ (j+1,true,acc++[⟨c,num,now⟩]++[l[j]]) (Gh.canon [13] [] [] (zk (I hwj (I @List.length_append.{0} @List.length_singleton.{0}))) rfl (by simp only[List.length_append,List.length_singleton];rw[zdQ,zdQ];rfl)) ⟨hj, ?_⟩ (by simp only[List.append_assoc,List.singleton_append];rw[hst];rfl) (by simp only;omega)
      simp only[List.length_append,List.length_singleton]
      omega
    ·have hj:j=l.length:=by
      have:¬(j:Int)<l.length:=by simpa using hge2
      omega
     rw[hj,List.drop_length]at hF2
     rw[zyV hf]at hF2
     rw[←hF2]at eo
     cases put
     ·have hF3:R=(acc++[⟨c,num,now⟩],0):=eo
      rw[hF3]
      repeat'(first|refine zq0 ?_|exact zd0|(refine zaa ?_ ?_<;>intro hb)|(refine And.intro ?_ ?_;exact zI)|(refine And.intro ?_ ?_<;>intro hg)|exact zC|fail)
      simp[zu8,zaz]
     ·have hF3:R=(acc++[],0):=eo
      rw[hF3,List.append_nil]
      repeat'(first|refine zq0 ?_|exact zd0|(refine zaa ?_ ?_<;>intro hb)|(refine And.intro ?_ ?_;exact zI)|(refine And.intro ?_ ?_<;>intro hg)|exact zC|fail)
      simp[zu8,zaz]
   ·rw[e5,if_pos rfl]at eo
    rw[eo]
    repeat'(first|refine zq e5 ?_|exact zd e5|refine zc (hfi) ?_|refine zg (hfi) ?_|(refine zaa ?_ ?_<;>intro hb)|(refine And.intro ?_ ?_;exact zI)|(refine And.intro ?_ ?_<;>intro hg)|exact zC|fail)
    simp[zu8,zaz]
 ·rw[e4,if_pos rfl]at eo
  rw[eo]
  rw[show(decide (num≥1)&&decide (num≤2305843009213693952))=false by simp at e4⊢;omega]at hg1
  repeat'(first|refine zq0 ?_|exact zd0|refine zc (hcl) ?_|refine zg (hcl) ?_|refine zc (hg1) ?_|refine zg (hg1) ?_|refine zc (hg2) ?_|refine zg (hg2) ?_|(refine zaa ?_ ?_<;>intro hb)|(refine And.intro ?_ ?_;exact zI)|(refine And.intro ?_ ?_<;>intro hg)|exact zC|fail)
  simp[zu8,zaz]
def zc2 (c now:Int) (y:Sess):Sess:=if(y.client==c)=true then⟨y.client,y.num,max y.renewed now⟩else y
def zl1 (l:List Sess) (c now:Int) (i:Nat):List Sess:=(l.take i).map (zc2 c now)++l.drop i
theorem znR {l:List Sess} {c now:Int} {i:Nat} (hi:i≤l.length):(zl1 l c now i).length=l.length:=by
 unfold zl1
 rw[List.length_append,List.length_map,List.length_take,List.length_drop];omega
theorem zvb {l:List Sess} {c now:Int} {i:Nat} (hi:i<l.length):∃h:i<(zl1 l c now i).length,(zl1 l c now i)[i]=l[i]:=by
 have hl:((l.take i).map (zc2 c now)).length=i:=by rw[List.length_map,List.length_take];omega
 have h:(zl1 l c now i)[i]? =some l[i]:=by
  unfold zl1
  rw[List.getElem?_append_right (by omega),hl,Nat.sub_self,List.getElem?_drop,Nat.add_zero,List.getElem?_eq_getElem hi]
 exact zlw h
theorem zrb {l:List Sess} {c now:Int} {i:Nat} (hi:i<l.length):(zl1 l c now i).set i (zc2 c now l[i])=zl1 l c now (i+1):=by
 have hl:((l.take i).map (zc2 c now)).length=i:=by rw[List.length_map,List.length_take];omega
 unfold zl1
 rw[List.set_append_right _ _ (by omega),hl,Nat.sub_self,List.drop_eq_getElem_cons hi,List.set_cons_zero,List.take_add_one,List.getElem?_eq_getElem hi]
 simp only[Option.toList,List.map_append,List.map_cons,List.map_nil,List.append_assoc,List.cons_append,List.nil_append]
theorem zlJ {l:List Sess} (hs:SS l) {c now:Int} {x:Sess} (hx:zaA l c=some x):l.map (zc2 c now)=l.set (zfL l c) ⟨x.client,x.num,max x.renewed now⟩:=by
 obtain⟨⟨hi,he⟩,hc⟩:=zkf hs hx
 apply List.ext_getElem (by simp)
 intro j h1 h2
 have hj:j<l.length:=by simpa using h1
 rw[List.getElem_map,List.getElem_set]
 split
 ·rename_i e
  subst e
  rw[he]
  unfold zc2
  rw[if_pos (by simpa using hc)]
 ·rename_i e
  unfold zc2
  rw[if_neg]
  intro h
  have hjc:l[j].client=c:=by simpa using h
  have hpc:l[zfL l c].client=c:=by rw[he];exact hc
  rcases Nat.lt_or_ge j (zfL l c)with q|q
  ·have:=List.pairwise_iff_getElem.1 hs j (zfL l c) hj hi q
   omega
  ·have:=List.pairwise_iff_getElem.1 hs (zfL l c) j hi hj (by omega)
   omega
theorem zrc (l:List Sess) (hs:SS l) (hl:l.length<2^30) (c now:Int) (hn:0≤now∧now≤zbB) (hf:(zaA l c).isSome=true):CallOK Tryz.prog 148 [.f (al l.length (zaJ l)), .f (ai c), .f (ai now)]
  (fun r o=>r=[.one (.own 3 (zco l c now).1.length (zaJ (zco l c now).1) false),ri (zco l c now).2]∧o=[]):=by
 refine CallOK.nil ?_
 refine zac zas mixed (T:=Ty) (n:=51) Tryz.func148 (c:=Tryz.f148.body.getD .skip) rfl Tryz.results148 Tryz.ntmps148 Tryz.call148 ?_
 simp only[Tryz.f148,Option.getD]
 have hg2:=zib now 0
 have hH:zbB=2305843009213693952:=rfl
 rw[show(decide (now≥0)&&decide (now≤2305843009213693952))=true by simp;omega]at hg2
 have hfi:=zeh l (by omega) c
 rw[hf]at hfi
 obtain⟨x,hx⟩:=Option.isSome_iff_exists.1 hf
 have hr:zco l c now=(l.map (zc2 c now),0):=by
  unfold zco
  rw[if_neg (by simp;omega),hx,zlJ hs hx]
 rw[hr]
 repeat'(first|refine zq @zau ?_|exact zd @zau|refine zc (hg2) ?_|refine zg (hg2) ?_|refine zc (hfi) ?_|refine zg (hfi) ?_|(refine zaa ?_ ?_<;>intro hb)|(refine And.intro ?_ ?_;exact zI)|(refine And.intro ?_ ?_<;>intro hg)|exact zC|fail)
 refine zam (τ:=Nat) (fun i=>⟨[dd,ai c,ai now,dd,dd,dd,dd,dd,dd,dd, .one (.own ⟨10,1,1⟩ 0 l.length),ai i,dd,dd,dd,dd,dd,dd,dd,dd,dd,dd,dd,dd,dd,dd,dd,dd,dd,dd,dd,dd,dd,dd,dd,dd,dd,dd,dd,dd,dd,dd,dd,dd,dd,dd,dd,dd,dd,dd,dd],[(8,⟨2,[]⟩),(23,⟨2,[]⟩),(10,{next:=2,l:=[none,some {e:=1,var:=false,fz:=false,sz:=3,cells:=(zaJ (zl1 l c now i)).map C.d}]})]⟩)
  (fun i=>i≤l.length) (fun _=>()) (fun i=>l.length - i) 0
  (Gh.canon [10] [] [] zK rfl rfl) (Nat.zero_le _) ?_
 intro i hi0 hF K hK
 refine zw ?_
 refine zaa (fun hlt=> ?_) (fun hge=> ?_)
 ·have hi:i<l.length:=by simpa using hlt
  have hw:=zaq hi (by omega)
  obtain⟨hic,hce⟩:=zvb (c:=c) (now:=now) hi
  have hat:=zbZ hic
  rw[hce]at hat
  have hat2:(zaJ (zl1 l c now i)).drop (i*3+2)=iD l[i].renewed::zaJ ((zl1 l c now i).drop (i+1)):=by rw[←List.drop_drop,hat];rfl
  have hsu:=zrb (c:=c) (now:=now) hi
  cases hb:l[i].client==c
  ·have hrx:zc2 c now l[i]=l[i]:=by unfold zc2;rw[if_neg (by rw[hb];simp)]
   have hsame:zl1 l c now (i+1)=zl1 l c now i:=by
    rw[←hsu,hrx]
    conv=>lhs;rw[←hce]
    exact List.set_getElem_self ..
   repeat'(first|(with_reducible first|refine zad _ _ ?_|refine zaS ?_|refine zaT ?_)|rw[zaI]|simp only[hat,hb,←List.map_drop,List.map_cons,List.cons_append,List.nil_append,zau,znR hi0,zY,Int.reduceEq,Int.reduceBEq,Int.reduceBNe,Nat.reduceSub,Nat.reduceEqDiff,Nat.reduceAdd,Nat.reduceMul,Nat.reduceLeDiff,Nat.reduceLT,Nat.reduceBEq,reduceCtorEq]|refine zax ?_|refine zaa (fun hb=> ?_) (fun hb=> ?_)|(refine And.intro ?_ ?_;exact zI)|refine And.intro (fun hg=> ?_) (fun hg=> ?_)|exact zC|fail)
   exact hK _ (i+1) (Gh.canon [10] [] [] (zk hw) rfl (by rw[hsame];rfl)) hi rfl (by omega)
  ·have hrx:zc2 c now l[i]=⟨l[i].client,l[i].num,max l[i].renewed now⟩:=by unfold zc2;rw[if_pos hb]
   have hset:=zfN Sess.enc 3 (fun _=>rfl) hic (k:=2) (by decide) (iD (max l[i].renewed now)) (zc2 c now l[i]) (by rw[hce,hrx];rfl)
   rw[hsu]at hset
   repeat'(first|(with_reducible first|refine zad _ _ ?_|refine zaS ?_|refine zaT ?_)|rw[zaI]|simp only[hat,hat2,hb,hset,←List.map_drop,List.map_cons,List.cons_append,List.nil_append,zau,znR hi0,zY,Int.reduceEq,Int.reduceBEq,Int.reduceBNe,Nat.reduceSub,Nat.reduceEqDiff,Nat.reduceAdd,Nat.reduceMul,Nat.reduceLeDiff,Nat.reduceLT,Nat.reduceBEq,reduceCtorEq]|refine zax ?_|refine zaa (fun hb=> ?_) (fun hb=> ?_)|(refine And.intro ?_ ?_;exact zI)|refine And.intro (fun hg=> ?_) (fun hg=> ?_)|exact zC|fail)
   exact hK _ (i+1) (Gh.canon [10] [] [] (zk hw) rfl rfl) hi rfl (by omega)
 ·have hi:i=l.length:=by
   have:¬(i:Int)<l.length:=by simpa using hge
   omega
  have hcu:zl1 l c now i=l.map (zc2 c now):=by rw[hi];unfold zl1;rw[List.take_length,List.drop_length,List.append_nil]
  rw[hcu]
  repeat'(first|refine zq0 ?_|exact zd0|(refine zaa ?_ ?_<;>intro hb)|(refine And.intro ?_ ?_;exact zI)|(refine And.intro ?_ ?_<;>intro hg)|exact zC|fail)
  simp[zu8,zaz]
theorem zrd (l:List Sess) (hl:l.length<2^30) (c:Int):CallOK Tryz.prog 145 [.f (al l.length (zaJ l)), .f (ai c)]
  (fun r o=>r=[.one (.own 3 (if(zaA l c).isSome=true then l.filter (fun x=>x.client !=c)else []).length (zaJ (if(zaA l c).isSome=true then l.filter (fun x=>x.client !=c)else [])) false),ri (if(zaA l c).isSome=true then 0 else 6)]∧o=[]):=by
 refine CallOK.nil ?_
 refine zac zas mixed (T:=Ty) (n:=39) Tryz.func145 (c:=Tryz.f145.body.getD .skip) rfl Tryz.results145 Tryz.ntmps145 Tryz.call145 ?_
 simp only[Tryz.f145,Option.getD]
 have hfi:=zeh l (by omega) c
 cases hf:(zaA l c).isSome
 ·rw[hf]at hfi
  rw[if_neg (by simp),if_neg (by simp)]
  repeat'(first|refine zq0 ?_|exact zd0|refine zc (hfi) ?_|refine zg (hfi) ?_|(refine zaa ?_ ?_<;>intro hb)|(refine And.intro ?_ ?_;exact zI)|(refine And.intro ?_ ?_<;>intro hg)|exact zC|fail)
  simp[zu8,zaz]
 ·rw[hf]at hfi
  rw[if_pos rfl,if_pos rfl]
  repeat'(first|refine zq0 ?_|exact zd0|refine zc (hfi) ?_|refine zg (hfi) ?_|(refine zaa ?_ ?_<;>intro hb)|(refine And.intro ?_ ?_;exact zI)|(refine And.intro ?_ ?_<;>intro hg)|exact zC|fail)
  refine zam (τ:=Nat×List Sess) (fun t=>⟨[al l.length (zaJ l),ai c,dd,dd,dd,dd,dd,dd, .one (.own ⟨8,1,1⟩ 0 t.2.length),ai t.1,dd,dd,dd,dd,dd,dd,dd,dd,dd,dd,dd,dd,dd,dd,dd,dd,dd,dd,dd,dd,dd,dd,dd,dd,dd,dd,dd,dd,dd],[(6,⟨2,[]⟩),(8,{next:=2,l:=[none,some {e:=1,var:=false,fz:=false,sz:=3,cells:=(zaJ t.2).map C.d}]}),(36,⟨2,[]⟩),(37,⟨2,[]⟩)]⟩)
   (fun t=>t.1≤l.length∧t.2.length≤t.1) (fun t=>t.2++(l.drop t.1).filter (fun x=>x.client !=c)) (fun t=>l.length - t.1) (0,[])
   ((Gh.nil (i:=8) (s:=8) (sz:=3) rfl).trans (Gh.canon [8] [36,37] [] zK rfl rfl)) ⟨Nat.zero_le _,Nat.zero_le _⟩ ?_
  intro⟨i,acc⟩ ⟨hi0,hac⟩ hF K hK
  simp only[List.drop_zero,List.nil_append]at hi0 hac hF hK⊢
  refine zw ?_
  refine zaa (fun hlt=> ?_) (fun hge=> ?_)
  ·have hi:i<l.length:=by simpa using hlt
   have hat:=zbZ hi
   have hw:=zaq hi (by omega)
   have hFs:=List.drop_eq_getElem_cons hi
   cases hb:l[i].client !=c
   ·repeat'(first|refine zq (I hat (I hb (I @zau zca))) ?_|exact zd (I hat (I hb (I @zau zca)))|(refine zaa ?_ ?_<;>intro hb)|(refine And.intro ?_ ?_;exact zI)|(refine And.intro ?_ ?_<;>intro hg)|exact zC|fail)
    exact hK _ (i+1,acc) (Gh.canon [8] [] [] (zk hw) rfl rfl) ⟨hi,by simp only;omega⟩ (by simp only;rw[hFs,List.filter_cons,hb,if_neg (by simp)]) (by simp only;omega)
   ·repeat'(first|refine zq (I hat (I hb (I @zau zca))) ?_|exact zd (I hat (I hb (I @zau zca)))|(refine zaa ?_ ?_<;>intro hb)|(refine And.intro ?_ ?_;exact zI)|(refine And.intro ?_ ?_<;>intro hg)|exact zC|fail)
    exact hK _ (i+1,acc++[l[i]]) (Gh.canon [8] [] [] (zk (I hw (I @List.length_append.{0} @List.length_singleton.{0}))) rfl (by simp only[List.length_append,List.length_singleton];rw[zdQ];rfl)) ⟨hi,by simp only[List.length_append,List.length_singleton];omega⟩ (by simp only[List.append_assoc,List.singleton_append];rw[hFs,List.filter_cons,hb,if_pos rfl]) (by simp only;omega)
  ·have hi:i=l.length:=by
    have:¬(i:Int)<l.length:=by simpa using hge
    omega
   rw[hi,List.drop_length,List.filter_nil,List.append_nil]at hF
   rw[←hF]
   repeat'(first|refine zq0 ?_|exact zd0|(refine zaa ?_ ?_<;>intro hb)|(refine And.intro ?_ ?_;exact zI)|(refine And.intro ?_ ?_<;>intro hg)|exact zC|fail)
   simp[zu8,zaz]
def zcd (r:Reply):Prop:=r.held.length<2^30∧∀g∈r.held,g.name.size<2^62
theorem zeg (r:Reply) (hr:zcd r):CallOK Tryz.prog 128 [.f (.agg r.lent)] (fun x o=>x=[rb (zbL r)]∧o=[]):=by
 refine zac zas mixed (T:=Ty) (n:=87) Tryz.func128 (c:=Tryz.f128.body.getD .skip) rfl Tryz.results128 Tryz.ntmps128 Tryz.call128 ?_
 simp only[Tryz.f128,Option.getD]
 obtain⟨h1,h2⟩:=hr
 cases hA:(decide (r.code<0)||decide (r.code>12)||decide (r.session<0)||decide (r.session>2305843009213693952)||decide (r.ahead<0)||decide (r.ahead>3))
 ·cases hB:(decide ((r.held.length:Int)>4)||(r.session==0)&&decide ((r.held.length:Int)>0))
  ·have hs:zbL r=zby (zcy r.held) 0 r.held:=by
    unfold zbL
    rw[show(decide (r.code<0)||decide (r.code>12)||decide (r.session<0)||decide (r.session>zbB)||decide (r.ahead<0)||decide (r.ahead>3))=false from hA,hB]
    rfl
   rw[hs]
   repeat'(first|refine zq (I hA hB) ?_|exact zd (I hA hB)|(refine zaa ?_ ?_<;>intro hb)|(refine And.intro ?_ ?_;exact zI)|(refine And.intro ?_ ?_<;>intro hg)|exact zC|fail)
   refine zam (τ:=Nat) (fun i=>⟨[dd, .one (.ptr ⟨1,0,1⟩ 0),dd,dd,dd,dd,dd,dd,dd,dd,dd,dd,dd,dd,dd,dd,dd,dd,dd,dd,dd,dd,dd,dd,dd,dd,dd,dd,dd,dd,dd,dd,dd,dd,dd,dd,dd,dd,dd,dd,dd,dd,dd,dd,dd,dd,dd,dd,dd,al r.held.length (zaG r.held),ai r.held.length,ai i,dd,dd,dd,dd,dd,dd,dd,dd,dd,dd,dd,dd,dd,dd,dd,dd,dd,dd,dd,dd,dd,dd,dd,dd,dd,dd,dd,dd,dd,dd,dd,dd,dd,dd,dd],[(1,{next:=2,l:=[some {e:=1,var:=true,fz:=false,sz:=0,cells:=[di r.code,di r.session,di r.ahead, .lent r.held.length (zaG r.held)]},none,none,none,none]}),(4,⟨2,[]⟩)]⟩)
    (fun i=>i≤r.held.length) (fun i=>zby (zcy r.held) i (r.held.drop i)) (fun i=>r.held.length - i) 0
    (Gh.canon [1] [4] [] zK rfl rfl) (Nat.zero_le _) ?_
   intro i hi0 hF K hK
   rw[List.drop_zero]at hF
   refine zw ?_
   refine zaa (fun hlt=> ?_) (fun hge=> ?_)
   ·have hi:i<r.held.length:=by simpa using hlt
    have hat:=zcb hi
    have hw:=zaq hi (by omega)
    rw[zaO hi]at hF
    have hnm:=zqY r.held[i].name (h2 _ (List.getElem_mem hi))
    cases e0:decide ((i:Int)>0)
    ·have h0:i=0:=by simpa using e0
     have hq:zcy r.held i r.held[i]= !(!nameP r.held[i].name||decide (r.held[i].token<1)||decide (r.held[i].token>2305843009213693952)):=by
      unfold zcy
      have:decide (i>0)=false:=by simpa using e0
      rw[this,Bool.false_and,Bool.or_false]
     have hp:(zaG r.held).drop ((IntKind.i64.wrap ((i:Int) - 1)).toNat*2)=r.held[i].enc++zaG (r.held.drop (i+1)):=by
      rw[←zcb hi,h0];rfl
     repeat'(first|refine zq (I hat (I hp (I e0 (I @zay zca)))) ?_|exact zd (I hat (I hp (I e0 (I @zay zca))))|refine zc (hnm) ?_|refine zg (hnm) ?_|(refine zaa ?_ ?_<;>intro hb)|(refine And.intro ?_ ?_;exact zI)|(refine And.intro ?_ ?_<;>intro hg)|exact zC|fail)
     ·rw[hq,hb,if_neg (by simp)]at hF
      rw[←hF]
     ·exact hK _ (i+1) (Gh.canon [1] [] [] (zk hw) rfl rfl) hi (by rw[zaO hi,hq,hb];rfl) (by omega)
    ·have h0:0<i:=by simpa using e0
     have hq:zcy r.held i r.held[i]= !(!nameP r.held[i].name||decide (r.held[i].token<1)||decide (r.held[i].token>2305843009213693952)|| !(zef (r.held[i - 1]'(by omega)).name r.held[i].name)):=by
      unfold zcy zsK
      have:decide (i>0)=true:=by simpa using e0
      rw[this,List.getElem?_eq_getElem (by omega)]
      simp only[Bool.true_and,Option.map_some,Option.getD_some]
     have hp:=zcb (show i - 1<r.held.length by omega)
     have hw1:IntKind.i64.wrap ((i:Int) - 1)=((i - 1:Nat):Int):=by rw[wrap64 (by omega) (by omega)];omega
     repeat'(first|refine zq (I hat (I hp (I hw1 (I e0 (I @zay zca))))) ?_|exact zd (I hat (I hp (I hw1 (I e0 (I @zay zca)))))|refine zc (hnm) ?_|refine zg (hnm) ?_|(refine zaa ?_ ?_<;>intro hb)|(refine And.intro ?_ ?_;exact zI)|(refine And.intro ?_ ?_<;>intro hg)|exact zC|fail)
     ·rw[hq,hb,if_neg (by simp)]at hF
      rw[←hF]
     ·exact hK _ (i+1) (Gh.canon [1] [] [] (zk hw) rfl rfl) hi (by rw[zaO hi,hq,hb];rfl) (by omega)
   ·have hi:i=r.held.length:=by
     have:¬(i:Int)<r.held.length:=by simpa using hge
     omega
    rw[zdo hi]at hF
    rw[←hF]
    repeat'(first|refine zq0 ?_|exact zd0|(refine zaa ?_ ?_<;>intro hb)|(refine And.intro ?_ ?_;exact zI)|(refine And.intro ?_ ?_<;>intro hg)|exact zC|fail)
  ·have hs:zbL r=false:=by
    unfold zbL
    rw[hB,Bool.not_true,Bool.and_false,Bool.false_and]
   rw[hs]
   repeat'(first|refine zq (I hA hB) ?_|exact zd (I hA hB)|(refine zaa ?_ ?_<;>intro hb)|(refine And.intro ?_ ?_;exact zI)|(refine And.intro ?_ ?_<;>intro hg)|exact zC|fail)
 ·have hs:zbL r=false:=by
   unfold zbL
   rw[show(decide (r.code<0)||decide (r.code>12)||decide (r.session<0)||decide (r.session>zbB)||decide (r.ahead<0)||decide (r.ahead>3))=true from hA]
   rfl
  rw[hs]
  repeat'(first|refine zq hA ?_|exact zd hA|(refine zaa ?_ ?_<;>intro hb)|(refine And.intro ?_ ?_;exact zI)|(refine And.intro ?_ ?_<;>intro hg)|exact zC|fail)
theorem zeU (m:Memo) (hr:zcd m.reply):CallOK Tryz.prog 76 [.f (.agg m.lent)] (fun x o=>x=[rb (answerB m)]∧o=[]):=by
 refine zac zas mixed (T:=Ty) (n:=26) Tryz.func76 (c:=Tryz.f76.body.getD .skip) rfl Tryz.results76 Tryz.ntmps76 Tryz.call76 ?_
 simp only[Tryz.f76,Option.getD]
 repeat'(first|refine zq0 ?_|exact zd0|refine zc (zeg m.reply hr) ?_|refine zg (zeg m.reply hr) ?_|(refine zaa ?_ ?_<;>intro hb)|(refine And.intro ?_ ?_;exact zI)|(refine And.intro ?_ ?_<;>intro hg)|exact zC|fail)
 rfl
def zfz:Memo:=⟨0,0,⟨0,0,0,[]⟩⟩
theorem zlA (l:List Memo) (hl:l.length<2^30) (hll:∀m∈l,zcd m.reply):CallOK Tryz.prog 74 [.f (al l.length (zaC l))] (fun r o=>r=[rb (memoB l)]∧o=[]):=by
 refine zac zas mixed (T:=Ty) (n:=37) Tryz.func74 (c:=Tryz.f74.body.getD .skip) rfl Tryz.results74 Tryz.ntmps74 Tryz.call74 ?_
 simp only[Tryz.f74,Option.getD]
 repeat'(first|refine zq @zaD ?_|exact zd @zaD|(refine zaa ?_ ?_<;>intro hb)|(refine And.intro ?_ ?_;exact zI)|(refine And.intro ?_ ?_<;>intro hg)|exact zC|fail)
 refine zam (τ:=Nat) (fun i=>⟨[al l.length (zaC l),dd,dd,dd,dd,al l.length (zaC l),ai l.length,ai i,dd,dd,dd,dd,dd,dd,dd,dd,dd,dd,dd,dd,dd,dd,dd,dd,dd,dd,dd,dd,dd,dd,dd,dd,dd,dd,dd,dd,dd],[(4,⟨2,[]⟩)]⟩)
  (fun i=>i≤l.length) (fun i=>zby (zlv l) i (l.drop i)) (fun i=>l.length - i) 0
  (Gh.canon [] [4] [] zK rfl rfl) (Nat.zero_le _) ?_
 intro i hi0 hF K hK
 rw[List.drop_zero]at hF
 refine zw ?_
 refine zaa (fun hlt=> ?_) (fun hge=> ?_)
 ·have hi:i<l.length:=by simpa using hlt
  have hat:=zcY hi
  have hw:=zaq hi (by omega)
  rw[zaO hi]at hF
  have hma:=zeU l[i] (hll _ (List.getElem_mem hi))
  cases e0:decide ((i:Int)>0)
  ·have h0:i=0:=by simpa using e0
   have hq:zlv l i l[i]= !(!answerB l[i]):=by
    unfold zlv
    have:decide (i>0)=false:=by simpa using e0
    rw[this,Bool.false_and,Bool.or_false]
   have hp:(zaC l).drop ((IntKind.i64.wrap ((i:Int) - 1)).toNat*6)=l[i].enc++zaC (l.drop (i+1)):=by
    rw[←zcY hi,h0];rfl
   repeat'(first|refine zq (I hat (I hp (I e0 (I @zaD zca)))) ?_|exact zd (I hat (I hp (I e0 (I @zaD zca))))|refine zc (hma) ?_|refine zg (hma) ?_|(refine zaa ?_ ?_<;>intro hb)|(refine And.intro ?_ ?_;exact zI)|(refine And.intro ?_ ?_<;>intro hg)|exact zC|fail)
   ·rw[hq,hb,if_neg (by simp)]at hF
    unfold memoB
    rw[←hF]
   ·exact hK _ (i+1) (Gh.canon [] [] [] (zk hw) rfl rfl) hi (by rw[zaO hi,hq,hb];rfl) (by omega)
  ·have h0:0<i:=by simpa using e0
   have hq:zlv l i l[i]= !(!answerB l[i]||decide ((l[i - 1]'(by omega)).client≥l[i].client)):=by
    unfold zlv zqQ
    have:decide (i>0)=true:=by simpa using e0
    rw[this,List.getElem?_eq_getElem (by omega)]
    simp only[Bool.true_and,Option.map_some,Option.getD_some]
   have hp:=zcY (show i - 1<l.length by omega)
   have hw1:IntKind.i64.wrap ((i:Int) - 1)=((i - 1:Nat):Int):=by rw[wrap64 (by omega) (by omega)];omega
   repeat'(first|refine zq (I hat (I hp (I hw1 (I e0 (I @zaD zca))))) ?_|exact zd (I hat (I hp (I hw1 (I e0 (I @zaD zca)))))|refine zc (hma) ?_|refine zg (hma) ?_|(refine zaa ?_ ?_<;>intro hb)|(refine And.intro ?_ ?_;exact zI)|(refine And.intro ?_ ?_<;>intro hg)|exact zC|fail)
   ·rw[hq,hb,if_neg (by simp)]at hF
    unfold memoB
    rw[←hF]
   ·exact hK _ (i+1) (Gh.canon [] [] [] (zk hw) rfl rfl) hi (by rw[zaO hi,hq,hb];rfl) (by omega)
 ·have hi:i=l.length:=by
   have:¬(i:Int)<l.length:=by simpa using hge
   omega
  rw[zdo hi]at hF
  unfold memoB
  rw[←hF]
  repeat'(first|refine zq0 ?_|exact zd0|(refine zaa ?_ ?_<;>intro hb)|(refine And.intro ?_ ?_;exact zI)|(refine And.intro ?_ ?_<;>intro hg)|exact zC|fail)
abbrev stE (s:St):List D:=[iD s.time,iD s.num,iD s.token, .sl s.sess.length (zaJ s.sess), .sl s.locks.length (zai s.locks), .sl s.memos.length (zaC s.memos)]
abbrev zu5 (s:St):RF:= .agg ((stE s).map RO.d)
abbrev zj5 (a:Reply):RF:= .agg [.d (iD a.code), .d (iD a.session), .d (iD a.ahead), .own 2 a.held.length (zaG a.held) false]
structure Small (s:St):Prop where
 sess:s.sess.length<2^30
 locks:s.locks.length<2^30
 memos:s.memos.length<2^30
 line:∀k∈s.locks,k.line.length<2^30∧k.name.size<2^62
 held:∀m∈s.memos,zcd m.reply
abbrev zqF (l:List Sess) (gone:List Int):List Sess:=l.filter fun x=> !hasI gone x.client
theorem zqG {s:St} (h:Small s) (now lease:Int):(zqN s.sess now lease).length<2^30:=by
 unfold zqN
 split
 ·simp
 ·rw[List.length_map]
  exact Nat.lt_of_le_of_lt (List.length_filter_le ..) h.sess
abbrev zyR (b:St) (x:Sess):Bool:= !((zaA b.sess x.client).any fun y=>y.num==x.num)
theorem zhZ (n:Int):CallOK Tryz.prog 71 [.f (ai n)] (fun r o=>r=[rb (within n)]∧o=[]):=by
 refine zac zas mixed (T:=Ty) (n:=9) Tryz.func71 (c:=Tryz.f71.body.getD .skip) rfl Tryz.results71 Tryz.ntmps71 Tryz.call71 ?_
 simp only[Tryz.f71,Option.getD]
 repeat'(first|refine zq0 ?_|exact zd0|(refine zaa ?_ ?_<;>intro hb)|(refine And.intro ?_ ?_;exact zI)|(refine And.intro ?_ ?_<;>intro hg)|exact zC|fail)
 rfl
theorem zqH (s:St) (h:Small s) (hs:SS s.sess):CallOK Tryz.prog 75 [.f (.agg s.lent)] (fun r o=>r=[rb (zgM s)]∧o=[]):=by
 refine zac zas mixed (T:=Ty) (n:=40) Tryz.func75 (c:=Tryz.f75.body.getD .skip) rfl Tryz.results75 Tryz.ntmps75 Tryz.call75 ?_
 simp only[Tryz.f75,Option.getD]
 have hL:=h.locks
 repeat'(first|refine zq0 ?_|exact zd0|(refine zaa ?_ ?_<;>intro hb)|(refine And.intro ?_ ?_;exact zI)|(refine And.intro ?_ ?_<;>intro hg)|exact zC|fail)
 refine zam (τ:=Nat) (fun i=>⟨[dd, .one (.ptr ⟨1,0,1⟩ 0),dd,ab true,dd,dd,dd,dd,dd,dd,dd,al s.locks.length (zai s.locks),ai s.locks.length,ai i,dd,dd,dd,dd,dd,dd,dd,dd,dd,dd,dd,dd,dd,dd,dd,dd,dd,dd,dd,dd,dd,dd,dd,dd,dd,dd],[(1,{next:=2,l:=[some {e:=1,var:=true,fz:=false,sz:=0,cells:=[di s.time,di s.num,di s.token, .lent s.sess.length (zaJ s.sess), .lent s.locks.length (zai s.locks), .lent s.memos.length (zaC s.memos)]},none,none,none,none,none,none]}),(5,⟨2,[]⟩),(8,⟨2,[]⟩),(19,⟨2,[]⟩),(22,⟨2,[]⟩)]⟩)
  (fun i=>i≤s.locks.length) (fun i=>(s.locks.drop i).all fun k=>(k.holder::k.line).all fun c=>(zaA s.sess c).isSome) (fun i=>s.locks.length - i) 0
  (Gh.canon [1] [5,8,19,22] [] zK rfl rfl) (Nat.zero_le _) ?_
 intro i hi0 hF K hK
 rw[List.drop_zero]at hF
 refine zw ?_
 refine zaa (fun hlt=> ?_) (fun hge=> ?_)
 ·have hi:i<s.locks.length:=by simpa using hlt
  have hat:=za0 hi
  have hw:=zaq hi (by omega)
  have hli:=(h.line _ (List.getElem_mem hi)).1
  rw[List.drop_eq_getElem_cons hi,List.all_cons]at hF
  obtain⟨c,hc⟩:∃c,c=s.locks[i].holder::s.locks[i].line:=⟨_,rfl⟩
  have hcl:c.length=1+s.locks[i].line.length:=by rw[hc,List.length_cons];omega
  rw[←hc]at hF
  repeat'(first|refine zq (I hat (I @zae (I @zak zca))) ?_|exact zd (I hat (I @zae (I @zak zca)))|(refine zaa ?_ ?_<;>intro hb)|(refine And.intro ?_ ?_;exact zI)|(refine And.intro ?_ ?_<;>intro hg)|exact zC|fail)
  refine zam (τ:=Nat) (fun j=>⟨[dd, .one (.ptr ⟨1,0,1⟩ 0),dd,ab true,dd,dd,dd,dd,dd,dd,dd,al s.locks.length (zai s.locks),ai s.locks.length,ai i,dd,dd,dd,dd,dd,dd,dd,dd, .one (.own ⟨19,1,1⟩ 0 c.length),ai c.length,ai j,dd,dd,dd,dd,dd,dd,dd,dd,dd,dd,dd,dd,dd,dd,dd],[(1,{next:=2,l:=[some {e:=1,var:=true,fz:=false,sz:=0,cells:=[di s.time,di s.num,di s.token, .lent s.sess.length (zaJ s.sess), .lent s.locks.length (zai s.locks), .lent s.memos.length (zaC s.memos)]},none,none,none,none,none,none]}),(5,⟨2,[]⟩),(8,⟨2,[]⟩),(19,{next:=2,l:=[none,some {e:=1,var:=false,fz:=false,sz:=1,cells:=(zaE c).map C.d}]}),(22,⟨2,[]⟩)]⟩)
   (fun j=>j≤c.length) (fun j=>(c.drop j).all fun c=>(zaA s.sess c).isSome) (fun j=>c.length - j) 0
   (Gh.canon [1,19] [] [] (zk hcl) rfl (by rw[hc];rfl)) (Nat.zero_le _) ?_
  intro j hj0 hF2 K2 hK2
  rw[List.drop_zero]at hF2
  refine zw ?_
  refine zaa (fun hlt2=> ?_) (fun hge2=> ?_)
  ·have hj:j<c.length:=by simpa using hlt2
   have haj:=zcp hj
   have hwj:=zaq hj (by omega)
   have hfi:=zsP s.sess hs (by have:=h.sess;omega) c[j]
   rw[List.drop_eq_getElem_cons hj,List.all_cons]at hF2
   cases hb:(zaA s.sess c[j]).isSome
   ·rw[hb]at hfi hF2
    rw[←hF2]at hF
    repeat'(first|refine zq (I haj (I @zmd (I @List.map_cons.{0,0} (I @zak zca)))) ?_|exact zd (I haj (I @zmd (I @List.map_cons.{0,0} (I @zak zca))))|refine zc (hfi) ?_|refine zg (hfi) ?_|(refine zaa ?_ ?_<;>intro hb)|(refine And.intro ?_ ?_;exact zI)|(refine And.intro ?_ ?_<;>intro hg)|exact zC|fail)
    unfold zgM
    rw[←hF]
    rfl
   ·rw[hb]at hfi hF2
    repeat'(first|refine zq (I haj (I @zmd (I @List.map_cons.{0,0} (I @zak zca)))) ?_|exact zd (I haj (I @zmd (I @List.map_cons.{0,0} (I @zak zca))))|refine zc (hfi) ?_|refine zg (hfi) ?_|(refine zaa ?_ ?_<;>intro hb)|(refine And.intro ?_ ?_;exact zI)|(refine And.intro ?_ ?_<;>intro hg)|exact zC|fail)
    exact hK2 _ (j+1) (Gh.canon [1,19] [] [] (zk hwj) rfl rfl) hj (by rw[List.drop_eq_getElem_cons hj,List.all_cons,hb,Bool.true_and]) (by omega)
  ·have hj:j=c.length:=by
    have:¬(j:Int)<c.length:=by simpa using hge2
    omega
   rw[hj,List.drop_length,List.all_nil]at hF2
   rw[←hF2,Bool.true_and]at hF
   repeat'(first|refine zq0 ?_|exact zd0|(refine zaa ?_ ?_<;>intro hb)|(refine And.intro ?_ ?_;exact zI)|(refine And.intro ?_ ?_<;>intro hg)|exact zC|fail)
   exact hK _ (i+1) (Gh.canon [1] [] [] (zk hw) rfl rfl) hi (by rw[List.drop_eq_getElem_cons hi,List.all_cons,←hc,←hF2,Bool.true_and]) (by omega)
 ·have hi:i=s.locks.length:=by
   have:¬(i:Int)<s.locks.length:=by simpa using hge
   omega
  rw[hi,List.drop_length,List.all_nil]at hF
  repeat'(first|refine zq0 ?_|exact zd0|(refine zaa ?_ ?_<;>intro hb)|(refine And.intro ?_ ?_;exact zI)|(refine And.intro ?_ ?_<;>intro hg)|exact zC|fail)
  unfold zgM
  rw[←hF]
set_option maxHeartbeats 1000000 in
theorem zj6 (s:St) (h:Small s):CallOK Tryz.prog 32 [.f (.agg s.lent)] (fun r o=>r=[rb (zcJ s)]∧o=[]):=by
 refine zac zas mixed (T:=Ty) (n:=69) Tryz.func32 (c:=Tryz.f32.body.getD .skip) rfl Tryz.results32 Tryz.ntmps32 Tryz.call32 ?_
 simp only[Tryz.f32,Option.getD]
 have w1:=zhZ s.time
 have w2:=zhZ s.num
 have w3:=zhZ s.token
 have hsr:=zlD s.sess h.sess
 have hlr:=zlC s.locks h.locks h.line
 have hmr:=zlA s.memos h.memos h.held
 have hns:=h.sess
 have hnl:=h.locks
 cases hA:(!within s.time|| !within s.num|| !within s.token|| !sessB s.sess|| !lockB s.locks|| !memoB s.memos)
 ·have hss:SS s.sess:=(zls.1 (by simp at hA;exact hA.1.1.2)).2.2.1
  have hrb:zcJ s=((s.sess.all fun x=>decide (x.num≤s.num))&&(s.locks.all fun k=>decide (k.token≤s.token))&&zgM s):=by
   unfold zcJ
   simp at hA
   rw[hA.1.1.1.1.1,hA.1.1.1.1.2,hA.1.1.1.2,hA.1.1.2,hA.1.2,hA.2]
   rfl
  have hse:=zqH s h hss
  repeat'(first|refine zq hA ?_|exact zd hA|refine zc (w1) ?_|refine zg (w1) ?_|refine zc (w2) ?_|refine zg (w2) ?_|refine zc (w3) ?_|refine zg (w3) ?_|refine zc (hsr) ?_|refine zg (hsr) ?_|refine zc (hlr) ?_|refine zg (hlr) ?_|refine zc (hmr) ?_|refine zg (hmr) ?_|(refine zaa ?_ ?_<;>intro hb)|(refine And.intro ?_ ?_;exact zI)|(refine And.intro ?_ ?_<;>intro hg)|exact zC|fail)
  refine zam (τ:=Nat) (fun i=>⟨[dd, .one (.ptr ⟨1,0,1⟩ 0),dd,dd,dd,dd,dd,dd,dd,dd,dd,dd,dd,dd,dd,dd,dd,dd,dd,dd,dd,dd,dd,dd,dd,dd,dd,dd,dd,dd,dd,dd,dd,dd,dd,dd,dd,dd,dd,dd,dd,dd,al s.sess.length (zaJ s.sess),ai s.sess.length,ai i,dd,dd,dd,dd,dd,dd,dd,dd,dd,dd,dd,dd,dd,dd,dd,dd,dd,dd,dd,dd,dd,dd,dd,dd],[(1,{next:=2,l:=[some {e:=1,var:=true,fz:=false,sz:=0,cells:=[di s.time,di s.num,di s.token, .lent s.sess.length (zaJ s.sess), .lent s.locks.length (zai s.locks), .lent s.memos.length (zaC s.memos)]},none,none,none,none,none,none]}),(4,⟨2,[]⟩)]⟩)
   (fun i=>i≤s.sess.length) (fun i=>(s.sess.drop i).all fun x=>decide (x.num≤s.num)) (fun i=>s.sess.length - i) 0
   (Gh.canon [1] [4] [] zK rfl rfl) (Nat.zero_le _) ?_
  intro i hi0 hF K hK
  rw[List.drop_zero]at hF
  refine zw ?_
  refine zaa (fun hlt=> ?_) (fun hge=> ?_)
  ·have hi:i<s.sess.length:=by simpa using hlt
   have hat:=zbZ hi
   have hw:=zaq hi (by omega)
   rw[List.drop_eq_getElem_cons hi,List.all_cons]at hF
   repeat'(first|refine zq (I hat (I @zau zca)) ?_|exact zd (I hat (I @zau zca))|(refine zaa ?_ ?_<;>intro hb)|(refine And.intro ?_ ?_;exact zI)|(refine And.intro ?_ ?_<;>intro hg)|exact zC|fail)
   ·rw[show decide (s.sess[i].num≤s.num)=false by simp at hb⊢;omega]at hF
    rw[hrb,←hF]
    rfl
   ·exact hK _ (i+1) (Gh.canon [1] [] [] (zk hw) rfl rfl) hi (by rw[List.drop_eq_getElem_cons hi,List.all_cons,show decide (s.sess[i].num≤s.num)=true by simp at hb⊢;omega,Bool.true_and]) (by omega)
  ·have hi:i=s.sess.length:=by
    have:¬(i:Int)<s.sess.length:=by simpa using hge
    omega
   rw[hi,List.drop_length,List.all_nil]at hF
   rw[←hF,Bool.true_and]at hrb
   repeat'(first|refine zq0 ?_|exact zd0|(refine zaa ?_ ?_<;>intro hb)|(refine And.intro ?_ ?_;exact zI)|(refine And.intro ?_ ?_<;>intro hg)|exact zC|fail)
   refine zam (τ:=Nat) (fun i=>⟨[dd, .one (.ptr ⟨1,0,1⟩ 0),dd,dd,dd,dd,dd,dd,dd,dd,dd,dd,dd,dd,dd,dd,dd,dd,dd,dd,dd,dd,dd,dd,dd,dd,dd,dd,dd,dd,dd,dd,dd,dd,dd,dd,dd,dd,dd,dd,dd,dd,dd,dd,dd,dd,dd,dd,dd,dd,dd,dd,dd,dd,dd,al s.locks.length (zai s.locks),ai s.locks.length,ai i,dd,dd,dd,dd,dd,dd,dd,dd,dd,dd,dd],[(1,{next:=2,l:=[some {e:=1,var:=true,fz:=false,sz:=0,cells:=[di s.time,di s.num,di s.token, .lent s.sess.length (zaJ s.sess), .lent s.locks.length (zai s.locks), .lent s.memos.length (zaC s.memos)]},none,none,none,none,none,none]}),(4,⟨2,[]⟩),(6,⟨2,[]⟩)]⟩)
    (fun i=>i≤s.locks.length) (fun i=>(s.locks.drop i).all fun k=>decide (k.token≤s.token)) (fun i=>s.locks.length - i) 0
    (Gh.canon [1] [6] [] zK rfl rfl) (Nat.zero_le _) ?_
   intro i hi0 hF K hK
   rw[List.drop_zero]at hF
   refine zw ?_
   refine zaa (fun hlt=> ?_) (fun hge=> ?_)
   ·have hi:i<s.locks.length:=by simpa using hlt
    have hat:=za0 hi
    have hw:=zaq hi (by omega)
    rw[List.drop_eq_getElem_cons hi,List.all_cons]at hF
    repeat'(first|refine zq (I hat (I @zae zca)) ?_|exact zd (I hat (I @zae zca))|(refine zaa ?_ ?_<;>intro hb)|(refine And.intro ?_ ?_;exact zI)|(refine And.intro ?_ ?_<;>intro hg)|exact zC|fail)
    ·rw[show decide (s.locks[i].token≤s.token)=false by simp at hb⊢;omega]at hF
     rw[hrb,←hF]
     rfl
    ·exact hK _ (i+1) (Gh.canon [1] [] [] (zk hw) rfl rfl) hi (by rw[List.drop_eq_getElem_cons hi,List.all_cons,show decide (s.locks[i].token≤s.token)=true by simp at hb⊢;omega,Bool.true_and]) (by omega)
   ·have hi:i=s.locks.length:=by
     have:¬(i:Int)<s.locks.length:=by simpa using hge
     omega
    rw[hi,List.drop_length,List.all_nil]at hF
    rw[←hF,Bool.true_and]at hrb
    rw[hrb]
    repeat'(first|refine zq0 ?_|exact zd0|refine zc (hse) ?_|refine zg (hse) ?_|(refine zaa ?_ ?_<;>intro hb)|(refine And.intro ?_ ?_;exact zI)|(refine And.intro ?_ ?_<;>intro hg)|exact zC|fail)
 ·have hrb:zcJ s=false:=by
   unfold zcJ
   simp at hA
   simp
   intros
   simp_all
  rw[hrb]
  repeat'(first|refine zq hA ?_|exact zd hA|refine zc (w1) ?_|refine zg (w1) ?_|refine zc (w2) ?_|refine zg (w2) ?_|refine zc (w3) ?_|refine zg (w3) ?_|refine zc (hsr) ?_|refine zg (hsr) ?_|refine zc (hlr) ?_|refine zg (hlr) ?_|refine zc (hmr) ?_|refine zg (hmr) ?_|(refine zaa ?_ ?_<;>intro hb)|(refine And.intro ?_ ?_;exact zI)|(refine And.intro ?_ ?_<;>intro hg)|exact zC|fail)
abbrev zu4 (s:St):AV:= .agg ((stE s).map C.d)
theorem zqC (l:List Lk) (name:ByteArray) (c t:Int) (w:Bool):(zaR l name c t w).1.length≤l.length+1:=by
 unfold zaR
 cases zc5 l name with
 |none=>
  simp only
  split
  ·simp
  ·exact Nat.le_of_eq (zu6 zmD _)
 |some k=>
  simp only
  repeat' split
  all_goals simp
theorem zqD (l:List Lk) (name:ByteArray) (c t:Int):(zbN l name c t).1.length≤l.length:=by
 unfold zbN
 cases zc5 l name with
 |none=>simp
 |some k=>
  simp only
  split
  ·unfold zfK
   split
   ·simp only;rw[List.length_eraseIdx];split<;>omega
   ·simp
  ·split<;>simp
theorem zqE (l:List Lk) (name:ByteArray) (c t:Int):0≤(zbN l name c t).2.1∧(zbN l name c t).2.1≤1:=by
 unfold zbN
 cases zc5 l name with
 |none=>simp
 |some k=>
  simp only
  split
  ·unfold zfK
   split<;>simp
  ·split<;>simp
theorem zqz {s:St} {r:Req} {x:Sess} (h1:(r.kind==1)=false) (hf:zaA s.sess r.client=some x) (hx:(x.num !=r.session)=false):
  zbm s r=if(r.kind==3||r.kind==4)=true then
  (if((zaR s.locks r.name r.client s.token (r.kind==3)).2.2==0)=true then(⟨s.time,s.num,s.token+1,(zco s.sess r.client s.time).1,(zaR s.locks r.name r.client s.token (r.kind==3)).1,s.memos⟩,⟨(zaR s.locks r.name r.client s.token (r.kind==3)).2.2,x.num,0,zbW (zaR s.locks r.name r.client s.token (r.kind==3)).1 r.client⟩)
  else if((zaR s.locks r.name r.client s.token (r.kind==3)).2.2==10)=true then(⟨s.time,s.num,s.token,(zco s.sess r.client s.time).1,(zaR s.locks r.name r.client s.token (r.kind==3)).1,s.memos⟩,⟨(zaR s.locks r.name r.client s.token (r.kind==3)).2.2,x.num,(zaR s.locks r.name r.client s.token (r.kind==3)).2.1,zbW (zaR s.locks r.name r.client s.token (r.kind==3)).1 r.client⟩)
  else(⟨s.time,s.num,s.token,(zco s.sess r.client s.time).1,s.locks,s.memos⟩,⟨(zaR s.locks r.name r.client s.token (r.kind==3)).2.2,x.num,0,zbW s.locks r.client⟩))
 else if(r.kind==5)=true then
  (if((zbN s.locks r.name r.client s.token).2.2==0)=true then(⟨s.time,s.num,s.token+(zbN s.locks r.name r.client s.token).2.1,(zco s.sess r.client s.time).1,(zbN s.locks r.name r.client s.token).1,s.memos⟩,⟨(zbN s.locks r.name r.client s.token).2.2,x.num,0,zbW (zbN s.locks r.name r.client s.token).1 r.client⟩)
  else(⟨s.time,s.num,s.token,(zco s.sess r.client s.time).1,s.locks,s.memos⟩,⟨(zbN s.locks r.name r.client s.token).2.2,x.num,0,zbW s.locks r.client⟩))
 else if(r.kind==6)=true then(zbv ⟨s.time,s.num,s.token,(zco s.sess r.client s.time).1,s.locks,s.memos⟩ [r.client],⟨0,0,0,[]⟩)
 else(⟨s.time,s.num,s.token,(zco s.sess r.client s.time).1,s.locks,s.memos⟩,⟨0,x.num,0,zbW s.locks r.client⟩):=by
 unfold zbm
 rw[if_neg (by rw[h1];simp),hf]
 simp only
 rw[if_neg (by rw[hx];simp)]
 split
 ·by_cases e0:(zaR s.locks r.name r.client s.token (r.kind==3)).2.2=0
  ·rw[if_pos e0,if_neg (by rw[e0];decide),if_pos (by simpa using e0)]
  ·by_cases e10:(zaR s.locks r.name r.client s.token (r.kind==3)).2.2=10
   ·rw[if_neg e0,if_pos e10,if_pos e10,if_neg (by simpa using e0),if_pos (by simpa using e10)]
   ·rw[if_neg e0,if_neg e10,if_neg e10,if_neg (by simpa using e0),if_neg (by simpa using e10)]
 ·split
  ·by_cases e0:(zbN s.locks r.name r.client s.token).2.2=0
   ·rw[if_pos e0,if_pos (by simpa using e0)]
   ·rw[if_neg e0,if_neg (by simpa using e0)]
  ·rfl
theorem zoA {s:St} (h:Small s) (r:Req):(zbm s r).1.memos=s.memos:=by
 unfold zbm
 split
 ·unfold zcv
  split
  ·rfl
  ·split<;>rfl
 ·split
  ·rfl
  ·split
   ·rfl
   ·simp only
    repeat' split
    all_goals rfl
theorem zgJ {b:ByteArray} (h:nameP b=true):b.size≤12:=by
 unfold nameP at h
 simp only[Bool.and_eq_true,decide_eq_true_eq]at h
 omega
theorem zqA {r:Reply} (h:zbL r=true):zcd r:=by
 unfold zbL at h
 simp only[Bool.and_eq_true,Bool.not_eq_true',Bool.or_eq_false_iff,decide_eq_false_iff_not]at h
 obtain⟨⟨_,h1,_⟩,h2⟩:=h
 refine⟨by omega,fun g hg=> ?_⟩
 obtain⟨j,hj,rfl⟩:=List.getElem_of_mem hg
 have:=zcx.1 h2 j hj
 unfold zcy at this
 simp only[Bool.not_eq_true',Bool.or_eq_false_iff,Bool.not_eq_false']at this
 have:=zgJ this.1.1.1
 omega
theorem zgK:∀{l:List Int} {a b:Int},l.Pairwise (·<·)→(∀x∈l,a≤x∧x<b)→(l.length:Int)≤max (b - a) 0
 |[],a,b,_,_=>by simp;omega
 |x::l,a,b,h,hb=>by
  have h':=List.pairwise_cons.1 h
  have hx:=hb x (List.mem_cons_self ..)
  have:=zgK (a:=x+1) (b:=b) h'.2 (fun y hy=>⟨by have:=h'.1 y hy;omega,(hb y (List.mem_cons_of_mem _ hy)).2⟩)
  simp only[List.length_cons];omega
theorem zcH {m:Memo} (h:answerB m=true):(0≤m.client∧m.client<8)∧(1≤m.seq∧m.seq≤zbB)∧zbL m.reply=true:=by
 unfold answerB at h
 simp only[Bool.and_eq_true,decide_eq_true_eq]at h
 exact⟨⟨h.1.1.1.1,h.1.1.1.2⟩,⟨h.1.1.2,h.1.2⟩,h.2⟩
theorem zb1 {s:St} (h:RightS s):Small s:=by
 refine⟨by have:=h.sl;omega,by have:=h.ll;omega, ?_,fun k hk=> ?_,fun m hm=>zqA (zcH (h.mok m hm)).2.2⟩
 ·have:=zgK (a:=0) (b:=8) (znM.1 h.ms) (fun x hx=>by
   obtain⟨m,hm,rfl⟩:=List.mem_map.1 hx
   exact(zcH (h.mok m hm)).1)
  rw[List.length_map]at this
  omega
 ·obtain⟨a,_,b,_⟩:=h.lok k hk
  have h1:=(zbF.1 b).1
  have h2:=zgJ (zcr.1 a).1
  omega
theorem zlp {l:List Lk} (hl:l.length<2^30) (hn:∀k∈l,k.name.size<2^62) (c:Int) (a b d:Int):zcd ⟨a,b,d,zbW l c⟩:=by
 refine⟨?_,fun g hg=> ?_⟩
 ·unfold zbW
  rw[List.length_map]
  exact Nat.lt_of_le_of_lt (List.length_filter_le ..) hl
 ·unfold zbW at hg
  obtain⟨k,hk,rfl⟩:=List.mem_map.1 hg
  exact hn k (List.mem_filter.1 hk).1
theorem zqB (s:St) (r:Req):(zbm s r).2.held=[]∨(zbm s r).2.held=zbW (zbm s r).1.locks r.client:=by
 unfold zbm
 split
 ·unfold zcv
  split
  ·exact .inr rfl
  ·split
   ·exact .inl rfl
   ·exact .inr rfl
 ·split
  ·exact .inl rfl
  ·split
   ·exact .inl rfl
   ·simp only
    repeat' split
    all_goals first|exact .inr rfl|exact .inl rfl
theorem zoB {s:St} (h:RightS s) {r:Req} (hm:Req.may r=true) (hN:s.num+1≤zbB) (hT:s.token+4≤zbB):zcd (zbm s r).2:=by
 have hs:=zb1 (zgL h hm hN hT).rt
 rcases zqB s r with e|e
 ·exact⟨by rw[e];simp,fun g hg=>by rw[e]at hg;cases hg⟩
 ·have:=zlp hs.locks (fun k hk=>(hs.line k hk).2) r.client 0 0 0
  unfold zcd at this⊢
  rw[e]
  exact this
theorem zlq {l:List Lk} (hs:SL l) (h:∀k∈l,zoG k=true) (c:Int):zby (zcy (zbW l c)) 0 (zbW l c)=true:=by
 have hp:(zbW l c).Pairwise fun a b=>zef a.name b.name=true:=by
  unfold zbW
  rw[List.pairwise_map]
  exact List.Pairwise.sublist (List.filter_sublist ..) hs
 rw[zcx]
 intro j hj
 rw[Nat.zero_add]
 have hm:∃k∈l,(zbW l c)[j]=⟨k.name,k.token⟩:=by
  have:=List.getElem_mem hj
  unfold zbW at this
  obtain⟨k,hk,e⟩:=List.mem_map.1 this
  exact⟨k,(List.mem_filter.1 hk).1,e.symm⟩
 obtain⟨k,hk,e⟩:=hm
 have ho:=zcr.1 (h k hk)
 unfold zcy
 simp only[Bool.not_eq_true',Bool.or_eq_false_iff,Bool.and_eq_false_iff,Bool.not_eq_false',decide_eq_false_iff_not]
 rw[e]
 refine⟨⟨⟨ho.1,by simp only;omega⟩,by simp only;omega⟩, ?_⟩
 by_cases h0:0<j
 ·right
  have:=zdJ hp j hj h0
  unfold zsK
  rw[List.getElem?_eq_getElem (by omega)]
  rw[e]at this
  simpa using this
 ·left;omega
theorem zoC {s:St} (h:RightS s) {r:Req} (hm:Req.may r=true) (hN:s.num+1≤zbB) (hT:s.token+4≤zbB):
  ((zbm s r).2.held=[]∨(1≤(zbm s r).2.session∧(zbm s r).2.held=zbW (zbm s r).1.locks r.client))∧(0≤(zbm s r).2.session∧(zbm s r).2.session≤zbB)∧(0≤(zbm s r).2.ahead∧(zbm s r).2.ahead≤3):=by
 have hH:zbB=2305843009213693952:=rfl
 obtain⟨hc,_,hnm⟩:=zj7 hm
 have hnum:=h.num
 cases h1:r.kind==1
 ·cases hf:zaA s.sess r.client with
  |none=>
   have hd:zbm s r=(s,⟨9,0,0,[]⟩):=by unfold zbm;rw[if_neg (by rw[h1];simp),hf]
   rw[hd]
   exact⟨.inl rfl,by simp only;omega,by simp only;omega⟩
  |some x=>
   have hxn:=(zb7.1 (h.sok x (List.mem_of_find?_eq_some hf)).1).2.1
   cases hx:x.num !=r.session
   ·rw[zqz h1 hf hx]
    have h1':=zh2 h hf
    have hf1:(zaA (zco s.sess r.client s.time).1 r.client).isSome=true:=by rw[zgi h hf,zhp (zh1 h hf).1,hf];rfl
    split
    ·rename_i hk
     obtain⟨_,_,_,ta⟩:=zi9 (w:=r.kind==3) h1' (hnm hk) hc hf1 hT
     simp only at ta
     split
     ·exact⟨.inr ⟨hxn.1,rfl⟩,by simp only;omega,by simp only;omega⟩
     ·split
      ·exact⟨.inr ⟨hxn.1,rfl⟩,by simp only;omega,ta⟩
      ·exact⟨.inr ⟨hxn.1,rfl⟩,by simp only;omega,by simp only;omega⟩
    ·split
     ·split
      ·exact⟨.inr ⟨hxn.1,rfl⟩,by simp only;omega,by simp only;omega⟩
      ·exact⟨.inr ⟨hxn.1,rfl⟩,by simp only;omega,by simp only;omega⟩
     ·split
      ·exact⟨.inl rfl,by simp only;omega,by simp only;omega⟩
      ·exact⟨.inr ⟨hxn.1,rfl⟩,by simp only;omega,by simp only;omega⟩
   ·have hd:zbm s r=(s,⟨9,0,0,[]⟩):=by unfold zbm;rw[if_neg (by rw[h1];simp),hf];simp only;rw[if_pos hx]
    rw[hd]
    exact⟨.inl rfl,by simp only;omega,by simp only;omega⟩
 ·have hd:zbm s r=zcv s r.client:=by unfold zbm;rw[if_pos h1]
  rw[hd]
  unfold zcv
  cases hf:zaA s.sess r.client with
  |some x=>
   have hxn:=(zb7.1 (h.sok x (List.mem_of_find?_eq_some hf)).1).2.1
   exact⟨.inr ⟨hxn.1,rfl⟩,by simp only;omega,by simp only;omega⟩
  |none=>
   simp only
   split
   ·exact⟨.inl rfl,by simp only;omega,by simp only;omega⟩
   ·exact⟨.inr ⟨by simp only;omega,rfl⟩,by simp only;omega,by simp only;omega⟩
theorem zmz {s:St} (h:RightS s) {r:Req} (hm:Req.may r=true) (hN:s.num+1≤zbB) (hT:s.token+4≤zbB):answerB ⟨r.client,r.seq,(zbm s r).2⟩=true:=by
 obtain⟨hc,hq,_⟩:=zj7 hm
 have hd:=zgL h hm hN hT
 obtain⟨h1,h2,h3⟩:=zoC h hm hN hT
 have hcl:=zc1.1 hc
 have hcode:=hd.code
 have hrt:=hd.rt
 unfold answerB zbL
 simp only[Bool.and_eq_true,decide_eq_true_eq,Bool.not_eq_true',Bool.or_eq_false_iff,Bool.and_eq_false_iff,decide_eq_false_iff_not]
 refine⟨⟨⟨⟨hcl.1,hcl.2⟩,hq.1⟩,hq.2⟩,⟨by omega, ?_⟩, ?_⟩
 ·rcases h1 with e|⟨e1,e2⟩
  ·rw[e];exact⟨by simp, .inr (by simp)⟩
  ·refine⟨?_, .inl (by simp;omega)⟩
   rw[e2]
   unfold zbW
   rw[List.length_map]
   have:=List.length_filter_le (fun k:Lk=>k.holder==r.client) (zbm s r).1.locks
   have:=hrt.ll
   omega
 ·rcases h1 with e|⟨e1,e2⟩
  ·rw[e];rfl
  ·rw[e2]
   exact zlq hrt.ls (fun k hk=>(hrt.lok k hk).1) _
end Go.Proofs.YtbpmcjeeeiffhaaGreat
