import Derived.Test.YtliimajkpggbhaaGreatVB
namespace Go.Proofs.YtliimajkpggbhaaGreat
open Go.Pk
set_option maxRecDepth 100000
set_option linter.unusedSimpArgs false
set_option linter.unusedVariables false
theorem zzw {l m:List Lk} (h:SL l) (hs:(m.map Lk.name).Sublist (l.map Lk.name)):SL m:=by
 have h1:(l.map Lk.name).Pairwise fun a b=>zed a b=true:=List.pairwise_map.2 h
 exact List.pairwise_map.1 (h1.sublist hs)
theorem zx7 {gone:List Int} {l:List Lk}:(l.map (zam gone)).map Lk.name=l.map Lk.name:=by rw[List.map_map];rfl
theorem zx8 {l:List Lk} (hs:SL l) {i:Nat} (hi:i<l.length):zdG l l[i].name=some l[i]∧zbB l l[i].name=i:=by
 have hself:∀x:Lk,isL x.name x=true:=fun x=>by simp[isL]
 have hne:∀{a b:Nat} (ha:a<l.length) (hb:b<l.length),a<b→l[a].name.toList=l[b].name.toList→False:=fun ha hb hab h=>by
  have:=List.pairwise_iff_getElem.1 hs _ _ ha hb hab
  simp only[zed,h,zpL]at this
  cases this
 have key:∀{j:Nat} (hj:j<l.length),isL l[i].name l[j]=true→j=i:=fun {j} hj h=>by
  simp only[isL,beq_iff_eq]at h
  rcases Nat.lt_trichotomy j i with h1|h1|h1
  ·exact(hne hj hi h1 h).elim
  ·exact h1
  ·exact(hne hi hj h1 h.symm).elim
 cases hf:zdG l l[i].name with
 |none=>exact absurd (hself l[i]) (List.find?_eq_none.1 hf _ (List.getElem_mem hi))
 |some x=>
  obtain⟨⟨hp,he⟩,hx⟩:=zdO hs hf
  have:=key hp (by rw[he];exact hx)
  refine⟨?_,this⟩
  rw[←he]
  simp only[this]
theorem zx9 {gone:List Int} {k:Lk} (h:k.line.length<2^30∧k.line.Nodup):(zam gone k).line.length<2^30∧(zam gone k).line.Nodup:=
 ⟨Nat.lt_of_le_of_lt (List.length_filter_le ..) h.1,h.2.filter _⟩
set_option maxHeartbeats 4000000 in
theorem zvK (l:List Lk) (hs:SL l) (hl:l.length<2^30) (hll:∀k∈l,k.line.length<2^30∧k.line.Nodup) (gone:List Int) (hg:gone.length<2^30) (t:Int) (ht:0≤t∧t≤2^61):
  CallOK Tryz.prog 203 [.f (al l.length (zaj l)), .f (al gone.length (zaB gone)), .f (ai t)]
  (fun r o=>r=[.one (.own 4 (zen l gone t).1.length (zaj (zen l gone t).1) false),ri (zen l gone t).2]∧o=[]):=by
 refine zh Tryz.func203 Tryz.results203 Tryz.ntmps203 Tryz.call203 ?_
 simp only[Tryz.f203,Option.getD]
 have hco:=ziy l hl (fun k hk=>(hll k hk).1)
 repeat'(first|exact zC|refine zq (I @zah @zaD) ?_|refine zx (hco) ?_|(apply zaa<;>intro hb)|(apply I;exact zI)|(apply I<;>intro hg))
 refine zaf (τ:=Nat) (fun i=>⟨(al l.length (zaj l)::al gone.length (zaB gone)::ai t::dq5 (.one (.own ⟨8,1,1⟩ 0 l.length)::ai i::zw3 (zdP []))),[(16,⟨2,[]⟩),(8,⟨2,[none,roq 1 4 (zaj (curL l gone i))]⟩),(31,⟨2,[]⟩)]⟩)
  (fun i=>i≤l.length) (fun _=>()) (fun i=>l.length - i) 0
  (Gh.canon [8] [31] [] zK rfl rfl) (Nat.zero_le _) ?_
 intro i hi0 hF K hK
 refine zw ?_
 refine zaa (fun hlt=> ?_) (fun hge=> ?_)
 ·have hi:i<l.length:=by simpa using hlt
  obtain⟨hic,hce⟩:=zx2 (gone:=gone) hi
  have hat:=za9 hic
  rw[hce]at hat
  have hat2:(zaj (curL l gone i)).drop (i*4+3)= .sl l[i].line.length (zaB l[i].line)::zaj ((curL l gone i).drop (i+1)):=by rw[←List.drop_drop,hat];rfl
  have hw:=zai hi (by omega)
  have hwo:=zjB l[i].line gone (hll _ (List.getElem_mem hi)).1 hg
  have hset:=zgz Lk.enc 4 (fun _=>rfl) hic (k:=3) (by decide) (.sl (za6 l[i].line gone).length (zaB (za6 l[i].line gone))) (zam gone l[i]) (by rw[hce];rfl)
  rw[ztr hi]at hset
  have hwl:(zaB (za6 l[i].line gone)).take ((za6 l[i].line gone).length*1)=zaB (za6 l[i].line gone):=List.take_of_length_le (by rw[zaA];omega)
  repeat'(first|(with_reducible first|refine zae _ _ ?_|refine zb8 ?_|refine zb9 ?_)|rw[zbD]|simp only[hat2,hset,hwl,rowI,←List.map_drop,List.map_cons,zah,zvC hi0,zY,Int.reduceEq,Int.reduceBEq,Int.reduceBNe,Nat.reduceSub,Nat.reduceEqDiff,Nat.reduceAdd,Nat.reduceMul,Nat.reduceLeDiff,Nat.reduceLT,Nat.reduceBEq,reduceCtorEq]|((first|((try refine zaM ?_);apply zaO)|(apply zaZ;intro _));(solve|exact(hwo)|(refine CallOK.le (hwo) ?_;exact zM)|fail);try case hn=>rfl)|refine za1 ?_|refine zaa (fun hb=> ?_) (fun hb=> ?_)|(refine And.intro ?_ ?_;exact zI)|refine And.intro (fun hg=> ?_) (fun hg=> ?_)|exact zC|fail)
  exact hK _ (i+1) (Gh.canon [8] [] [] (zk hw) rfl rfl) hi rfl (by omega)
 ·have hi:i=l.length:=by
   have:¬(i:Int)<l.length:=by simpa using hge
   omega
  rw[hi,zvD]
  have hdP:zen l gone t=zcd gone t (l.map (zam gone)) 0:=rfl
  rw[hdP]
  obtain⟨W,hW⟩:∃W,W=l.map (zam gone):=⟨_,rfl⟩
  have hWl:W.length=l.length:=by rw[hW,List.length_map]
  have hWn:W.map Lk.name=l.map Lk.name:=by rw[hW];exact zx7
  have hWg:∀(j:Nat) (hj:j<l.length),W[j]'(by omega)=zam gone l[j]:=fun j hj=>by simp[hW]
  have hWk:∀k∈W,k.line.length<2^30∧k.line.Nodup:=fun k hk=>by
   rw[hW]at hk
   obtain⟨k0,hk0,rfl⟩:=List.mem_map.1 hk
   exact zx9 (hll k0 hk0)
  rw[←hW]
  clear hdP hW
  repeat'(first|exact zC|refine zq0 ?_|(apply zaa<;>intro hb)|(apply I;exact zI)|(apply I<;>intro hg))
  refine zaf (τ:=List Lk×Nat×Int) (fun q=>⟨(al l.length (zaj l)::al gone.length (zaB gone)::ai t::dq5 (.one (.own ⟨8,1,1⟩ 0 (q.1++W.drop q.2.1).length)::dd::ai q.2.2::ai q.2.1::zry (zdP []))),[(16,⟨2,[]⟩),(8,⟨2,[none,roq 1 4 (zaj (q.1++W.drop q.2.1))]⟩),(31,⟨2,[]⟩),(12,⟨2,[]⟩),(62,⟨2,[]⟩)]⟩)
   (fun q=>q.2.1≤l.length∧(0≤q.2.2∧q.2.2≤q.2.1)∧(q.1.map Lk.name).Sublist ((l.take q.2.1).map Lk.name)∧∀k∈q.1,k.line.length<2^30∧k.line.Nodup)
   (fun q=>(q.1++(zcd gone t (W.drop q.2.1) q.2.2).1,(zcd gone t (W.drop q.2.1) q.2.2).2)) (fun q=>l.length - q.2.1) ([],0,0)
   (Gh.canon [8] [12,62] [] (zk (I @List.drop_zero.{0} (I @List.nil_append.{0} hWl))) rfl rfl) ⟨Nat.zero_le _,⟨Int.le_refl _,Int.le_refl _⟩,List.nil_sublist _,by simp⟩ ?_
  rintro⟨L,i,g⟩ ⟨j1,j2,j3,j4⟩ hF K hK
  simp only[List.drop_zero,List.nil_append]at j1 j2 j3 j4 hF hK⊢
  refine zw ?_
  refine zaa (fun hlt=> ?_) (fun hge=> ?_)
  ·have hi:i<l.length:=by simpa using hlt
   have hat:=za9 hi
   have hat1:(zaj l).drop (i*4+1)=iD l[i].holder::iD l[i].token:: .sl l[i].line.length (zaB l[i].line)::zaj (l.drop (i+1)):=by rw[←List.drop_drop,hat];rfl
   have hin:=zzt gone (by omega) l[i].holder
   have hw:=zai hi (by omega)
   have hiw:i<W.length:=by omega
   have hgw:=hWg i hi
   have hdr:=zqT (gone:=gone) (t:=t) (g:=g) hiw
   rw[hgw]at hdr
   have hdc:W.drop i=zam gone l[i]::W.drop (i+1):=by rw[List.drop_eq_getElem_cons hiw,hgw]
   have hL:L.length≤i:=by have:=j3.length_le;simp only[List.length_map,List.length_take]at this;omega
   have htk:(l.take (i+1)).map Lk.name=(l.take i).map Lk.name++[l[i].name]:=by rw[←List.take_append_getElem hi,List.map_append];rfl
   cases hh:hasI gone l[i].holder
   ·rw[hh]at hin
    rw[show hasI gone (zam gone l[i]).holder=false from hh,if_neg (by simp)]at hdr
    have hMe:L++W.drop i=L++[zam gone l[i]]++W.drop (i+1):=by rw[hdc];simp
    obtain⟨M,hM⟩:∃M,M=L++W.drop i:=⟨_,rfl⟩
    rw[←hM]
    rw[hMe]at hM
    repeat'(first|exact zC|refine zq (I hat (I hat1 (I @zah zca))) ?_|refine zx (hin) ?_|(apply zaa<;>intro hb)|(apply I;exact zI)|(apply I<;>intro hg))
    rw[hM]
    refine hK _ (L++[zam gone l[i]],i+1,g) (Gh.canon [8] [] [] (zk hw) rfl rfl) ⟨hi,⟨j2.1,by simp only;omega⟩, ?_, ?_⟩ ?_ (by simp only;omega)
    ·simp only[htk,List.map_append,List.map_cons,List.map_nil]
     exact j3.append (List.Sublist.refl _)
    ·intro k hk
     rcases List.mem_append.1 hk with hk|hk
     ·exact j4 k hk
     ·rw[List.mem_singleton.1 hk];exact zx9 (hll _ (List.getElem_mem hi))
    ·simp only;rw[hdr];simp
   ·rw[hh]at hin
    rw[show hasI gone (zam gone l[i]).holder=true from hh,if_pos rfl]at hdr
    -- the row,as it stands
    obtain⟨M,hM⟩:∃M,M=L++W.drop i:=⟨_,rfl⟩
    have hMl:M.length=L.length+(l.length - i):=by rw[hM,List.length_append,List.length_drop,hWl]
    have hMs:SL M:=zzw hs (by
     rw[hM,List.map_append,List.map_drop,hWn,←List.map_drop]
     have:=j3.append (List.Sublist.refl ((l.drop i).map Lk.name))
     rwa[show(l.take i).map Lk.name++(l.drop i).map Lk.name=l.map Lk.name from by rw[←List.map_append,List.take_append_drop]]at this)
    have hMk:∀k∈M,k.line.length<2^30∧k.line.Nodup:=fun k hk=>by
     rw[hM]at hk
     rcases List.mem_append.1 hk with hk|hk
     ·exact j4 k hk
     ·exact hWk k (List.mem_of_mem_drop hk)
    have hMi:L.length<M.length:=by omega
    have hMg:M[L.length]=zam gone l[i]:=by
     subst hM
     rw[List.getElem_append_right (Nat.le_refl _)]
     simp only[Nat.sub_self,List.getElem_drop,Nat.add_zero]
     exact hgw
    obtain⟨hf1,hf2⟩:=zx8 hMs hMi
    rw[hMg]at hf1 hf2
    have hf1:zdG M l[i].name=some (zam gone l[i]):=hf1
    have hf2:zbB M l[i].name=L.length:=hf2
    have hfr:=zpS M hMs (by omega) hMk l[i].name l[i].holder (t+g) (by omega)
    have hwt:IntKind.i64.wrap (t+g)=t+g:=wrap64 (by omega) (by omega)
    have hfp:zbV M l[i].name l[i].holder (t+g)=((zgw M L.length (zam gone l[i]) (t+g)).1,(zgw M L.length (zam gone l[i]) (t+g)).2,0):=by
     unfold zbV
     rw[hf1,hf2]
     simp only
     rw[if_pos (show((zam gone l[i]).holder==l[i].holder)=true from by simp[zam])]
    rw[hfp]at hfr
    rw[←hM]
    clear hlt
    cases hline:(zam gone l[i]).line with
    |nil=>
     rw[hline]at hdr
     simp only at hdr
     have hp:zgw M L.length (zam gone l[i]) (t+g)=(M.eraseIdx L.length,0):=by unfold zgw;rw[hline]
     rw[hp]at hfr
     have hg0:IntKind.i64.wrap (g+0)=g:=by rw[Int.add_zero];exact wrap64 (by omega) (by omega)
     have hMe:M.eraseIdx L.length=L++W.drop (i+1):=by rw[hM,List.eraseIdx_append_of_length_le (Nat.le_refl _),Nat.sub_self,hdc];rfl
     rw[hMe]at hfr
     repeat'(first|exact zC|refine zq (I hat (I hat1 (I hwt (I @zah (I @zaD zca))))) ?_|refine zx (hin) ?_|refine zx (hfr) ?_|(apply zaa<;>intro hb)|(apply I;exact zI)|(apply I<;>intro hg))
     refine hK _ (L,i+1,g) (Gh.canon [8] [] [] (zk (I hw hg0)) rfl rfl) ⟨hi,⟨j2.1,by simp only;omega⟩, ?_,j4⟩ ?_ (by simp only;omega)
     ·simp only[htk]
      exact j3.trans (List.sublist_append_left _ _)
     ·simp only;rw[hdr]
    |cons x rest=>
     rw[hline]at hdr
     simp only at hdr
     have hp:zgw M L.length (zam gone l[i]) (t+g)=(M.set L.length ⟨l[i].name,x,t+g+1,rest⟩,1):=by unfold zgw;rw[hline];rfl
     rw[hp]at hfr
     have hg1:IntKind.i64.wrap (g+1)=g+1:=wrap64 (by omega) (by omega)
     have hMe:M.set L.length ⟨l[i].name,x,t+g+1,rest⟩=L++[⟨l[i].name,x,t+g+1,rest⟩]++W.drop (i+1):=by rw[hM,List.set_append_right _ _ (Nat.le_refl _),Nat.sub_self,hdc];simp
     rw[hMe]at hfr
     repeat'(first|exact zC|refine zq (I hat (I hat1 (I hwt (I @zah (I @zaD zca))))) ?_|refine zx (hin) ?_|refine zx (hfr) ?_|(apply zaa<;>intro hb)|(apply I;exact zI)|(apply I<;>intro hg))
     refine hK _ (L++[⟨l[i].name,x,t+g+1,rest⟩],i+1,g+1) (Gh.canon [8] [] [] (zk (I hw hg1)) rfl rfl) ⟨hi,⟨by simp only;omega,by simp only;omega⟩, ?_, ?_⟩ ?_ (by simp only;omega)
     ·simp only[htk,List.map_append,List.map_cons,List.map_nil]
      exact j3.append (List.Sublist.refl _)
     ·intro k hk
      rcases List.mem_append.1 hk with hk|hk
      ·exact j4 k hk
      ·rw[List.mem_singleton.1 hk]
       have:=zx9 (gone:=gone) (hll _ (List.getElem_mem hi))
       rw[hline]at this
       exact⟨by have:=this.1;simp only[List.length_cons]at this⊢;omega,(List.nodup_cons.1 this.2).2⟩
     ·simp only;rw[hdr];simp[zam]
  ·have hi:i=l.length:=by
    have:¬(i:Int)<l.length:=by simpa using hge
    omega
   subst hi
   have hd0:W.drop l.length=[]:=List.drop_eq_nil_of_le (by omega)
   rw[hd0]at hF⊢
   simp only[zcd,List.append_nil]at hF⊢
   have e1:L=(zcd gone t W 0).1:=congrArg Prod.fst hF
   have e2:g=(zcd gone t W 0).2:=congrArg Prod.snd hF
   rw[←e1,←e2]
   repeat'(first|exact zC|refine zq0 ?_|(apply zaa<;>intro hb)|(apply I;exact zI)|(apply I<;>intro hg))
structure RightS (s:St):Prop where
 time:0≤s.time∧s.time≤zbs
 num:0≤s.num∧s.num≤zbs
 token:0≤s.token∧s.token≤zbs
 ss:SS s.sess
 sok:∀x∈s.sess,zh7 x=true∧x.num≤s.num
 snd:s.sess.Pairwise fun a b=>a.num≠b.num
 sl:s.sess.length≤5
 ls:SL s.locks
 lok:∀k∈s.locks,zqN k=true∧k.token≤s.token∧lineB k.line=true∧hasI k.line k.holder=false
 lnd:s.locks.Pairwise fun a b=>a.token≠b.token
 ll:s.locks.length≤4
 ms:SM s.memos
 mok:∀m∈s.memos,answerB m=true
 seat:∀k∈s.locks,(zaC s.sess k.holder).isSome=true∧∀c∈k.line,(zaC s.sess c).isSome=true
theorem zej {α:Type} {r:α→α→Prop} (ht:∀a b c,r a b→r b c→r a c):∀{l:List α},(∀j (hj:j<l.length),0<j→r (l[j - 1]'(by omega)) l[j])→l.Pairwise r
 |[],_=>List.Pairwise.nil
 |[x],_=>by simp
 |x::y::l,h=>by
  have h1:r x y:=h 1 (by simp) (by decide)
  have ih:(y::l).Pairwise r:=zej ht fun j hj h0=>by
   have:=h (j+1) (by simpa using hj) (by omega)
   obtain⟨k,rfl⟩:∃k,j=k+1:=⟨j - 1,by omega⟩
   simpa using this
  refine List.pairwise_cons.2 ⟨fun z hz=> ?_,ih⟩
  rcases List.mem_cons.1 hz with rfl|hz
  ·exact h1
  ·exact ht _ _ _ h1 ((List.pairwise_cons.1 ih).1 z hz)
theorem zek {α:Type} {r:α→α→Prop} {l:List α} (h:l.Pairwise r) (j:Nat) (hj:j<l.length) (h0:0<j):r (l[j - 1]'(by omega)) l[j]:=
 List.pairwise_iff_getElem.1 h (j - 1) j (by omega) hj (by omega)
theorem zf3 {α:Type} {l:List α} {i:Nat} {p:α→Bool} (hi:i<l.length):(l.take i).any p=false↔∀j (hj:j<l.length),j<i→p l[j]=false:=by
 rw[List.any_eq_false]
 constructor
 ·intro h j hj hji
  have hm:l[j]∈l.take i:=by
   rw[List.mem_take_iff_getElem]
   exact⟨j,by omega,rfl⟩
  simpa using h _ hm
 ·intro h x hx
  rw[List.mem_take_iff_getElem]at hx
  obtain⟨j,hj,rfl⟩:=hx
  simp[h j (by omega) (by omega)]
theorem znb {l:List Sess}:sessB l=true↔l.length≤5∧(∀x∈l,zh7 x=true)∧SS l∧l.Pairwise fun a b=>a.num≠b.num:=by
 unfold sessB
 rw[Bool.and_eq_true,zcy]
 simp only[Nat.zero_add,Bool.not_eq_true',decide_eq_false_iff_not]
 constructor
 ·rintro⟨h1,h2⟩
  have q:∀j (hj:j<l.length),zh7 l[j]=true∧(0<j→zta l j<l[j].client)∧(∀k (hk:k<l.length),k<j→l[k].num≠l[j].num):=by
   intro j hj
   have:=h2 j hj
   unfold zlB at this
   simp only[Bool.and_eq_true,Bool.not_eq_true',Bool.or_eq_false_iff,Bool.and_eq_false_iff,decide_eq_false_iff_not]at this
   obtain⟨a,b,c⟩:=this
   refine⟨a,fun h0=> ?_,fun k hk hkj=> ?_⟩
   ·rcases b with b|b
    ·omega
    ·omega
   ·have:=(zf3 hj).1 c k hk hkj
    simpa using this
  refine⟨by omega,fun x hx=> ?_, ?_, ?_⟩
  ·obtain⟨j,hj,rfl⟩:=List.getElem_of_mem hx
   exact(q j hj).1
  ·refine zej (fun a b c h1 h2=>by omega) fun j hj h0=> ?_
   have:=(q j hj).2.1 h0
   unfold zta at this
   rw[List.getElem?_eq_getElem (by omega)]at this
   simpa using this
  ·rw[List.pairwise_iff_getElem]
   intro i j hi hj hij
   exact(q j hj).2.2 i hi hij
 ·rintro⟨h1,h2,h3,h4⟩
  refine⟨by omega,fun j hj=> ?_⟩
  unfold zlB
  simp only[Bool.and_eq_true,Bool.not_eq_true',Bool.or_eq_false_iff,Bool.and_eq_false_iff,decide_eq_false_iff_not]
  refine⟨h2 _ (List.getElem_mem hj), ?_, ?_⟩
  ·by_cases h0:0<j
   ·right
    have:=zek h3 j hj h0
    unfold zta
    rw[List.getElem?_eq_getElem (by omega)]
    simpa using this
   ·left;omega
  ·exact(zf3 hj).2 fun k hk hkj=>by
    have:=List.pairwise_iff_getElem.1 h4 k j hk hj hkj
    simpa using this
theorem zbM {l:List Int}:lineB l=true↔l.length≤3∧(∀c∈l,isClient c=true)∧l.Nodup:=by
 unfold lineB
 rw[Bool.and_eq_true,zcy]
 simp only[Nat.zero_add,decide_eq_true_eq]
 constructor
 ·rintro⟨h1,h2⟩
  have q:∀j (hj:j<l.length),isClient l[j]=true∧(∀k (hk:k<l.length),k<j→l[k]≠l[j]):=by
   intro j hj
   have:=h1 j hj
   unfold ztc at this
   simp only[Bool.not_eq_true',Bool.or_eq_false_iff,Bool.not_eq_false']at this
   refine⟨this.1,fun k hk hkj=> ?_⟩
   have h3:=(zf3 hj).1 this.2 k hk hkj
   have h4:¬l[j]=l[k]:=by simpa using h3
   exact fun h=>h4 h.symm
  refine⟨by omega,fun x hx=> ?_, ?_⟩
  ·obtain⟨j,hj,rfl⟩:=List.getElem_of_mem hx
   exact(q j hj).1
  ·unfold List.Nodup
   rw[List.pairwise_iff_getElem]
   intro i j hi hj hij
   exact(q j hj).2 i hi hij
 ·rintro⟨h1,h2,h3⟩
  refine⟨fun j hj=> ?_,by omega⟩
  unfold ztc
  simp only[Bool.not_eq_true',Bool.or_eq_false_iff,Bool.not_eq_false']
  refine⟨h2 _ (List.getElem_mem hj), ?_⟩
  exact(zf3 hj).2 fun k hk hkj=>by
   unfold List.Nodup at h3
   have:=List.pairwise_iff_getElem.1 h3 k j hk hj hkj
   simpa using fun h=>this h.symm
theorem zs8 {l:List Lk}:lockB l=true↔l.length≤4∧(∀k∈l,zqN k=true∧lineB k.line=true∧hasI k.line k.holder=false)∧SL l∧l.Pairwise fun a b=>a.token≠b.token:=by
 unfold lockB
 rw[Bool.and_eq_true,zcy]
 simp only[Nat.zero_add,decide_eq_true_eq]
 constructor
 ·rintro⟨h1,h2⟩
  have q:∀j (hj:j<l.length),(zqN l[j]=true∧lineB l[j].line=true∧hasI l[j].line l[j].holder=false)∧(0<j→zed (ztd l j) l[j].name=true)∧(∀k (hk:k<l.length),k<j→l[k].token≠l[j].token):=by
   intro j hj
   have:=h1 j hj
   unfold znc at this
   simp only[Bool.and_eq_true,Bool.not_eq_true',Bool.or_eq_false_iff,Bool.and_eq_false_iff,decide_eq_false_iff_not,Bool.not_eq_false']at this
   obtain⟨⟨a,⟨b1,b2⟩,b3⟩,c⟩:=this
   refine⟨⟨a,b1,b2⟩,fun h0=> ?_,fun k hk hkj=> ?_⟩
   ·rcases b3 with b|b
    ·omega
    ·exact b
   ·have:=(zf3 hj).1 c k hk hkj
    simpa using this
  refine⟨by omega,fun x hx=> ?_, ?_, ?_⟩
  ·obtain⟨j,hj,rfl⟩:=List.getElem_of_mem hx
   exact(q j hj).1
  ·refine zej (r:=fun x y:Lk=>zed x.name y.name=true) (fun a b c h1 h2=>zlF h1 h2) fun j hj h0=> ?_
   have:=(q j hj).2.1 h0
   unfold ztd at this
   rw[List.getElem?_eq_getElem (by omega)]at this
   simpa using this
  ·rw[List.pairwise_iff_getElem]
   intro i j hi hj hij
   exact(q j hj).2.2 i hi hij
 ·rintro⟨h1,h2,h3,h4⟩
  refine⟨fun j hj=> ?_,by omega⟩
  unfold znc
  simp only[Bool.and_eq_true,Bool.not_eq_true',Bool.or_eq_false_iff,Bool.and_eq_false_iff,decide_eq_false_iff_not,Bool.not_eq_false']
  obtain⟨a,b,c⟩:=h2 _ (List.getElem_mem hj)
  refine⟨⟨a,⟨b,c⟩, ?_⟩, ?_⟩
  ·by_cases h0:0<j
   ·right
    have:=zek h3 j hj h0
    unfold ztd
    rw[List.getElem?_eq_getElem (by omega)]
    simpa using this
   ·left;omega
  ·exact(zf3 hj).2 fun k hk hkj=>by
    have:=List.pairwise_iff_getElem.1 h4 k j hk hj hkj
    simpa using this
theorem zs9 {l:List Memo}:memoB l=true↔(∀m∈l,answerB m=true)∧SM l:=by
 unfold memoB
 rw[zcy]
 simp only[Nat.zero_add]
 constructor
 ·intro h1
  have q:∀j (hj:j<l.length),answerB l[j]=true∧(0<j→zte l j<l[j].client):=by
   intro j hj
   have:=h1 j hj
   unfold zne at this
   simp only[Bool.not_eq_true',Bool.or_eq_false_iff,Bool.and_eq_false_iff,decide_eq_false_iff_not,Bool.not_eq_false']at this
   refine⟨this.1,fun h0=> ?_⟩
   rcases this.2 with b|b
   ·omega
   ·omega
  refine⟨fun x hx=> ?_, ?_⟩
  ·obtain⟨j,hj,rfl⟩:=List.getElem_of_mem hx
   exact(q j hj).1
  ·refine zej (fun a b c h1 h2=>by omega) fun j hj h0=> ?_
   have:=(q j hj).2 h0
   unfold zte at this
   rw[List.getElem?_eq_getElem (by omega)]at this
   simpa using this
 ·rintro⟨h2,h3⟩ j hj
  unfold zne
  simp only[Bool.not_eq_true',Bool.or_eq_false_iff,Bool.and_eq_false_iff,decide_eq_false_iff_not,Bool.not_eq_false']
  refine⟨h2 _ (List.getElem_mem hj), ?_⟩
  by_cases h0:0<j
  ·right
   have:=zek h3 j hj h0
   unfold zte
   rw[List.getElem?_eq_getElem (by omega)]
   simpa using this
  ·left;omega
theorem zdV {s:St}:zdc s=true↔RightS s:=by
 unfold zdc zhQ within
 simp only[Bool.and_eq_true,decide_eq_true_eq,znb,zs8,zs9,List.all_eq_true,List.mem_cons,forall_eq_or_imp]
 constructor
 ·rintro⟨⟨⟨⟨⟨⟨⟨⟨h1,h2⟩,h3⟩,a,b,c,d⟩,e,f,g,h⟩,i,j⟩,k⟩,l⟩,m⟩
  exact⟨h1,h2,h3,c,fun x hx=>⟨b x hx,k x hx⟩,d,a,g,fun k hk=>⟨(f k hk).1,l k hk,(f k hk).2⟩,h,e,j,i,m⟩
 ·intro h
  exact⟨⟨⟨⟨⟨⟨⟨⟨h.time,h.num⟩,h.token⟩,h.sl,fun x hx=>(h.sok x hx).1,h.ss,h.snd⟩,h.ll,fun k hk=>⟨(h.lok k hk).1,(h.lok k hk).2.2⟩,h.ls,h.lnd⟩,h.mok,h.ms⟩,fun x hx=>(h.sok x hx).2⟩,fun k hk=>(h.lok k hk).2.1⟩,h.seat⟩
theorem zvx {l:List Int} {v:Int}:hasI l v=true↔v∈l:=by
 unfold hasI
 simp[List.any_eq_true]
theorem zcX {l:List Int} {v:Int}:hasI l v=false↔v ∉ l:=by
 rw[←Bool.not_eq_true,zvx]
theorem zdm {l:List Sess} {c:Int}:(zaC l c).isSome=true↔∃x∈l,x.client=c:=by
 unfold zaC
 simp
theorem zhg {α:Type} {r:α→α→Prop} {l:List α} {x:α} {k:Nat} (hl:l.Pairwise r) (h1:∀y∈l.take k,r y x) (h2:∀y∈l.drop k,r x y):(l.take k++x::l.drop k).Pairwise r:=by
 rw[←List.take_append_drop k l]at hl
 obtain⟨a,b,c⟩:=List.pairwise_append.1 hl
 refine List.pairwise_append.2 ⟨a,List.pairwise_cons.2 ⟨h2,b⟩,fun y hy z hz=> ?_⟩
 rcases List.mem_cons.1 hz with rfl|hz
 ·exact h1 y hy
 ·exact c y hy z hz
theorem zjt {α:Type} {p:α→Bool} {l:List α} {y:α} (h:y∈l.take (zpK p l)):p y=true:=by
 rw[List.mem_take_iff_getElem]at h
 obtain⟨j,hj,rfl⟩:=h
 exact zlD (by omega) (by omega)
theorem zju {α:Type} {p:α→Bool} {l:List α} {y:α} (hm:zyA p l) (h:y∈l.drop (zpK p l)):p y=false:=by
 obtain⟨j,hj,rfl⟩:=List.getElem_of_mem h
 rw[List.getElem_drop]
 exact zlE _ hm (by omega)
theorem zlz {α β:Type} {f:α→β} {l:List α} {j:Nat} {x:α} (hj:j<l.length) (h:f x=f l[j]):(l.set j x).map f=l.map f:=by
 rw[List.map_set,h]
 apply List.ext_getElem (by simp)
 intro k h1 h2
 rw[List.getElem_set]
 split
 ·rename_i e;subst e;simp
 ·rfl
theorem zlA {α:Type} {l:List α} {j:Nat} {x y:α} (h:y∈l.set j x):y=x∨y∈l:=by
 rcases List.mem_or_eq_of_mem_set h with h|h
 ·exact .inr h
 ·exact .inl h
theorem zwM {l:List Sess}:SS l↔(l.map Sess.client).Pairwise (·<·):=by unfold SS;rw[List.pairwise_map]
theorem zpI {l:List Lk}:SL l↔(l.map Lk.name).Pairwise (fun a b=>zed a b=true):=by unfold SL;rw[List.pairwise_map]
theorem zpJ {l:List Memo}:SM l↔(l.map Memo.client).Pairwise (·<·):=by unfold SM;rw[List.pairwise_map]
theorem zeG (gone:List Int) (token:Int):∀(l:List Lk) (g:Int),0≤g→
  (g≤(zcd gone token l g).2∧(zcd gone token l g).2≤g+l.length)∧((zcd gone token l g).1.map Lk.name).Sublist (l.map Lk.name)∧
  (∀k∈(zcd gone token l g).1,(k∈l∧hasI gone k.holder=false)∨(token+g<k.token∧k.token≤token+(zcd gone token l g).2∧∃k0∈l,k0.name=k.name∧k0.line=k.holder::k.line))∧
  ((∀k∈l,k.token≤token)→(l.Pairwise fun a b=>a.token≠b.token)→(zcd gone token l g).1.Pairwise fun a b=>a.token≠b.token)
 |[],g,hg=>by simp[zcd]
 |k::r,g,hg=>by
  cases hk:hasI gone k.holder
  ·obtain⟨⟨a1,a2⟩,b,c,d⟩:=zeG gone token r g hg
   have e:zcd gone token (k::r) g=(k::(zcd gone token r g).1,(zcd gone token r g).2):=by rw[zcd,if_neg (by simp[hk])]
   rw[e]
   refine⟨⟨a1,by simp only[List.length_cons];omega⟩,b.cons_cons _,fun x hx=> ?_,fun ht hp=> ?_⟩
   ·rcases List.mem_cons.1 hx with rfl|hx
    ·exact .inl ⟨List.mem_cons_self ..,hk⟩
    ·rcases c x hx with⟨h1,h2⟩|⟨h1,h2,k0,h3,h4⟩
     ·exact .inl ⟨List.mem_cons_of_mem _ h1,h2⟩
     ·exact .inr ⟨h1,h2,k0,List.mem_cons_of_mem _ h3,h4⟩
   ·have hp':=List.pairwise_cons.1 hp
    have hkt:=ht k (List.mem_cons_self ..)
    refine List.pairwise_cons.2 ⟨fun x hx=> ?_,d (fun x hx=>ht x (List.mem_cons_of_mem _ hx)) hp'.2⟩
    rcases c x hx with⟨h1,h2⟩|⟨h1,h2,k0,h3,h4⟩
    ·exact hp'.1 x h1
    ·omega
  ·cases hl:k.line with
   |nil=>
    obtain⟨⟨a1,a2⟩,b,c,d⟩:=zeG gone token r g hg
    have e:zcd gone token (k::r) g=zcd gone token r g:=by rw[zcd,if_pos hk,hl]
    rw[e]
    refine⟨⟨a1,by simp only[List.length_cons];omega⟩,b.cons _,fun x hx=> ?_,fun ht hp=> ?_⟩
    ·rcases c x hx with⟨h1,h2⟩|⟨h1,h2,k0,h3,h4⟩
     ·exact .inl ⟨List.mem_cons_of_mem _ h1,h2⟩
     ·exact .inr ⟨h1,h2,k0,List.mem_cons_of_mem _ h3,h4⟩
    ·exact d (fun x hx=>ht x (List.mem_cons_of_mem _ hx)) (List.pairwise_cons.1 hp).2
   |cons c0 rest=>
    obtain⟨⟨a1,a2⟩,b,c,d⟩:=zeG gone token r (g+1) (by omega)
    have e:zcd gone token (k::r) g=(⟨k.name,c0,token+g+1,rest⟩::(zcd gone token r (g+1)).1,(zcd gone token r (g+1)).2):=by rw[zcd,if_pos hk,hl]
    rw[e]
    refine⟨⟨by simp only;omega,by simp only[List.length_cons];omega⟩,b.cons_cons _,fun x hx=> ?_,fun ht hp=> ?_⟩
    ·rcases List.mem_cons.1 hx with rfl|hx
     ·exact .inr ⟨by simp only;omega,by simp only;omega,k,List.mem_cons_self ..,rfl,hl⟩
     ·rcases c x hx with⟨h1,h2⟩|⟨h1,h2,k0,h3,h4⟩
      ·exact .inl ⟨List.mem_cons_of_mem _ h1,h2⟩
      ·exact .inr ⟨by omega,h2,k0,List.mem_cons_of_mem _ h3,h4⟩
    ·have hp':=List.pairwise_cons.1 hp
     refine List.pairwise_cons.2 ⟨fun x hx=> ?_,d (fun x hx=>ht x (List.mem_cons_of_mem _ hx)) hp'.2⟩
     simp only
     rcases c x hx with⟨h1,h2⟩|⟨h1,h2,k0,h3,h4⟩
     ·have:=ht x (List.mem_cons_of_mem _ h1);omega
     ·omega
theorem zcN {k:Lk}:zqN k=true↔nameP k.name=true∧(0≤k.holder∧k.holder<8)∧1≤k.token∧k.token≤zbs:=by
 unfold zqN
 simp only[Bool.and_eq_true,Bool.not_eq_true',decide_eq_false_iff_not]
 constructor
 ·rintro⟨⟨⟨⟨a,b⟩,c⟩,d⟩,e⟩;exact⟨a,⟨by omega,by omega⟩,by omega,by omega⟩
 ·rintro⟨a,⟨b,c⟩,d,e⟩;exact⟨⟨⟨⟨a,by omega⟩,by omega⟩,by omega⟩,by omega⟩
theorem zdy {c:Int}:isClient c=true↔0≤c∧c<8:=by
 unfold isClient;simp
theorem zei {l gone:List Int} {c:Int}:c∈za6 l gone↔c∈l∧hasI gone c=false:=by
 unfold za6;simp
theorem zhh {s:St} (h:RightS s) (gone:List Int) (hT:s.token+4≤zbs):RightS (zbE s gone)∧s.token≤(zbE s gone).token∧(zbE s gone).token≤s.token+4:=by
 obtain⟨⟨a1,a2⟩,b,c,d⟩:=zeG gone s.token (s.locks.map (zam gone)) 0 (Int.le_refl _)
 have hlen:((s.locks.map (zam gone)).length:Int)≤4:=by rw[List.length_map];have:=h.ll;omega
 have hl1:∀k∈s.locks.map (zam gone),zqN k=true∧k.token≤s.token∧lineB k.line=true∧hasI k.line k.holder=false∧(∀c∈k.line,hasI gone c=false)∧(zaC s.sess k.holder).isSome=true∧∀c∈k.line,(zaC s.sess c).isSome=true:=by
  intro k hk
  obtain⟨k0,hk0,rfl⟩:=List.mem_map.1 hk
  obtain⟨e1,e2,e3,e4⟩:=h.lok k0 hk0
  obtain⟨f1,f2⟩:=h.seat k0 hk0
  obtain⟨g1,g2,g3⟩:=zbM.1 e3
  refine⟨e1,e2,zbM.2 ⟨?_,fun c hc=>g2 c (zei.1 hc).1, ?_⟩, ?_,fun c hc=>(zei.1 hc).2,f1,fun c hc=>f2 c (zei.1 hc).1⟩
  ·exact Nat.le_trans (List.length_filter_le ..) g1
  ·exact g3.sublist (List.filter_sublist ..)
  ·rw[zcX]at e4⊢
   exact fun hc=>e4 (zei.1 hc).1
 have hfind:∀c,(zaC s.sess c).isSome=true→hasI gone c=false→(zaC (s.sess.filter fun x=> !hasI gone x.client) c).isSome=true:=by
  intro c hc hg
  obtain⟨x,hx,rfl⟩:=zdm.1 hc
  exact zdm.2 ⟨x,List.mem_filter.2 ⟨hx,by simp[hg]⟩,rfl⟩
 have hok:∀k∈(zen s.locks gone s.token).1,zqN k=true∧k.token≤s.token+(zen s.locks gone s.token).2∧lineB k.line=true∧hasI k.line k.holder=false∧(hasI gone k.holder=false∧∀c∈k.line,hasI gone c=false)∧(zaC s.sess k.holder).isSome=true∧∀c∈k.line,(zaC s.sess c).isSome=true:=by
  intro k hk
  rcases c k hk with⟨h1,h2⟩|⟨h1,h2,k0,h3,h4,h5⟩
  ·obtain⟨e1,e2,e3,e4,e5,e6,e7⟩:=hl1 k h1
   refine⟨e1, ?_,e3,e4,⟨h2,e5⟩,e6,e7⟩
   have:0≤(zen s.locks gone s.token).2:=a1
   omega
  ·obtain⟨e1,e2,e3,e4,e5,e6,e7⟩:=hl1 k0 h3
   rw[h5]at e3 e5 e7
   obtain⟨g1,g2,g3⟩:=zbM.1 e3
   have g3':=List.nodup_cons.1 g3
   have i1:=zcN.1 e1
   have i2:=zdy.1 (g2 k.holder (List.mem_cons_self ..))
   have a2':(zen s.locks gone s.token).2≤4:=by have:(zen s.locks gone s.token).2=(zcd gone s.token (s.locks.map (zam gone)) 0).2:=rfl;omega
   have h2':k.token≤s.token+(zen s.locks gone s.token).2:=h2
   have:=h.token
   refine⟨zcN.2 ⟨h4▸i1.1,i2,by omega,by omega⟩,h2',zbM.2 ⟨?_,fun c hc=>g2 c (List.mem_cons_of_mem _ hc),g3'.2⟩,zcX.2 g3'.1,⟨e5 _ (List.mem_cons_self ..),fun c hc=>e5 c (List.mem_cons_of_mem _ hc)⟩,e7 _ (List.mem_cons_self ..),fun c hc=>e7 c (List.mem_cons_of_mem _ hc)⟩
   simp only[List.length_cons]at g1;omega
 have hnm:(s.locks.map (zam gone)).map Lk.name=s.locks.map Lk.name:=by rw[List.map_map];rfl
 have a2':(zen s.locks gone s.token).2≤4:=by have:(zen s.locks gone s.token).2=(zcd gone s.token (s.locks.map (zam gone)) 0).2:=rfl;omega
 have a1':0≤(zen s.locks gone s.token).2:=a1
 have hT0:=h.token
 refine⟨⟨h.time,h.num,⟨by simp only[zbE];omega,by simp only[zbE];omega⟩, ?_, ?_, ?_, ?_, ?_, ?_, ?_, ?_,h.ms,h.mok, ?_⟩,by simp only[zbE];omega,by simp only[zbE];omega⟩
 ·exact List.Pairwise.sublist (List.filter_sublist ..) h.ss
 ·exact fun x hx=>h.sok x (List.mem_filter.1 hx).1
 ·exact List.Pairwise.sublist (List.filter_sublist ..) h.snd
 ·exact Nat.le_trans (List.length_filter_le ..) h.sl
 ·rw[zpI]
  rw[hnm]at b
  exact List.Pairwise.sublist b (zpI.1 h.ls)
 ·exact fun k hk=>⟨(hok k hk).1,(hok k hk).2.1,(hok k hk).2.2.1,(hok k hk).2.2.2.1⟩
 ·refine d (fun k hk=>(hl1 k hk).2.1) ?_
  rw[List.pairwise_map]
  exact h.lnd
 ·have:=b.length_le
  rw[hnm,List.length_map,List.length_map]at this
  exact Nat.le_trans this h.ll
 ·intro k hk
  obtain⟨_,_,_,_,⟨g1,g2⟩,f1,f2⟩:=hok k hk
  exact⟨hfind _ f1 g1,fun c hc=>hfind c (f2 c hc) (g2 c hc)⟩
theorem zhi {s:St} (h:RightS s) (time lease:Int) (hT:s.token+4≤zbs):
  RightS (zcz s time lease)∧s.token≤(zcz s time lease).token∧(zcz s time lease).token≤s.token+4∧(zcz s time lease).num=s.num∧s.time≤(zcz s time lease).time:=by
 have ht:s.time≤zeH s time∧zeH s time≤zbs:=by
  have:=h.time
  unfold zeH
  split
  ·rename_i hc;simp at hc;omega
  ·omega
 have h':RightS {s with time:=zeH s time}:=⟨⟨by have:=h.time;simp only;omega,ht.2⟩,h.num,h.token,h.ss,h.sok,h.snd,h.sl,h.ls,h.lok,h.lnd,h.ll,h.ms,h.mok,h.seat⟩
 obtain⟨a,b,c⟩:=zhh h' (ztb s.sess (zeH s time) (max lease 1)) hT
 exact⟨a,b,c,rfl,ht.1⟩
theorem zjo {α:Type} {l:List α} {k:Nat} {x y:α}:y∈l.take k++x::l.drop k↔y=x∨y∈l:=by
 rw[List.mem_append,List.mem_cons]
 constructor
 ·rintro(h|h|h)
  ·exact .inr (List.mem_of_mem_take h)
  ·exact .inl h
  ·exact .inr (List.mem_of_mem_drop h)
 ·rintro(h|h)
  ·exact .inr (.inl h)
  ·rw[←List.take_append_drop k l]at h
   rcases List.mem_append.1 h with h|h
   ·exact .inl h
   ·exact .inr (.inr h)
theorem zs7 {α:Type} {l:List α} {k:Nat} {x:α}:(l.take k++x::l.drop k).length=l.length+1:=by
 simp only[List.length_append,List.length_take,List.length_cons,List.length_drop];omega
theorem zcW {x:Sess}:zh7 x=true↔isClient x.client=true∧(1≤x.num∧x.num≤zbs)∧0≤x.renewed∧x.renewed≤zbs:=by
 unfold zh7
 simp only[Bool.and_eq_true,Bool.not_eq_true',decide_eq_false_iff_not]
 constructor
 ·rintro⟨⟨⟨⟨a,b⟩,c⟩,d⟩,e⟩;exact⟨a,⟨by omega,by omega⟩,by omega,by omega⟩
 ·rintro⟨a,⟨b,c⟩,d,e⟩;exact⟨⟨⟨⟨a,by omega⟩,by omega⟩,by omega⟩,by omega⟩
theorem zhe {s:St} (h:RightS s):numbered s.sess (s.num+1)=false:=by
 unfold numbered
 rw[List.any_eq_false]
 intro x hx
 have:=(h.sok x hx).2
 simp;omega
theorem zpH {s:St} (h:RightS s) {c:Int} (hc:isClient c=true) (hN:s.num+1≤zbs) (hf:zaC s.sess c=none):
  zdN s.sess c (s.num+1) s.time=if s.sess.length≥5 then([],5)else(s.sess.take (zgx s.sess c)++⟨c,s.num+1,s.time⟩::s.sess.drop (zgx s.sess c),0):=by
 unfold zdN
 have h1:=h.num
 have h2:=h.time
 rw[if_neg (by
  rw[zhe h,hc,hf]
  have e1:decide (s.num+1<1)=false:=by simp;omega
  have e2:decide (s.num+1>zbs)=false:=by simp;omega
  have e3:decide (s.time<0)=false:=by simp;omega
  have e4:decide (s.time>zbs)=false:=by simp;omega
  rw[e1,e2,e3,e4];simp),if_neg (by rw[hf];simp)]
 by_cases h5:s.sess.length≥5
 ·rw[if_pos (by simp;omega),if_pos h5]
 ·rw[if_neg (by simp;omega),if_neg h5]
theorem zqK {s:St} (h:RightS s) {c:Int} (hc:isClient c=true) (hN:s.num+1≤zbs) (hf:zaC s.sess c=none) (h5:s.sess.length<5):
  RightS {s with sess:=s.sess.take (zgx s.sess c)++⟨c,s.num+1,s.time⟩::s.sess.drop (zgx s.sess c),num:=s.num+1}:=by
 have h1:=h.num
 have h2:=h.time
 have hne:∀y∈s.sess,y.client≠c:=by
  intro y hy he
  have:(zaC s.sess c).isSome=true:=zdm.2 ⟨y,hy,he⟩
  rw[hf]at this;cases this
 refine⟨h.time,⟨by simp only;omega,hN⟩,h.token, ?_, ?_, ?_, ?_,h.ls,h.lok,h.lnd,h.ll,h.ms,h.mok, ?_⟩
 ·refine zhg h.ss (fun y hy=> ?_) (fun y hy=> ?_)
  ·simpa using zjt hy
  ·have:=zju (zot h.ss c) hy
   have:=hne y (List.mem_of_mem_drop hy)
   simp at*;omega
 ·intro x hx
  rcases zjo.1 hx with rfl|hx
  ·exact⟨zcW.2 ⟨hc,⟨by simp only;omega,hN⟩,h2⟩,Int.le_refl _⟩
  ·exact⟨(h.sok x hx).1,by have:=(h.sok x hx).2;simp only;omega⟩
 ·refine zhg h.snd (fun y hy=> ?_) (fun y hy=> ?_)
  ·have:=(h.sok y (List.mem_of_mem_take hy)).2;simp only;omega
  ·have:=(h.sok y (List.mem_of_mem_drop hy)).2;simp only;omega
 ·simp only[zs7];omega
 ·intro k hk
  have:∀c',(zaC s.sess c').isSome=true→(zaC (s.sess.take (zgx s.sess c)++⟨c,s.num+1,s.time⟩::s.sess.drop (zgx s.sess c)) c').isSome=true:=fun c' hc'=>by
   obtain⟨x,hx,e⟩:=zdm.1 hc'
   exact zdm.2 ⟨x,zjo.2 (.inr hx),e⟩
  exact⟨this _ (h.seat k hk).1,fun c' hc'=>this _ ((h.seat k hk).2 c' hc')⟩
theorem zhf {s:St} (h:RightS s) {c:Int} {x:Sess} (hf:zaC s.sess c=some x):zcH s.sess c s.time=(s.sess.set (zgx s.sess c) ⟨x.client,x.num,max x.renewed s.time⟩,0):=by
 have:=h.time
 unfold zcH
 rw[if_neg (by simp;omega),hf]
theorem zjq {s:St} (h:RightS s) {c:Int} {x:Sess} (hf:zaC s.sess c=some x):
  (s.sess.set (zgx s.sess c) ⟨x.client,x.num,max x.renewed s.time⟩).map Sess.client=s.sess.map Sess.client∧(s.sess.set (zgx s.sess c) ⟨x.client,x.num,max x.renewed s.time⟩).map Sess.num=s.sess.map Sess.num:=by
 obtain⟨⟨hi,he⟩,_⟩:=zlG h.ss hf
 exact⟨zlz hi (by rw[he]),zlz hi (by rw[he])⟩
theorem ziw {l m:List Sess} (h:l.map Sess.client=m.map Sess.client) (c:Int):(zaC l c).isSome=(zaC m c).isSome:=by
 have key:∀l:List Sess,(zaC l c).isSome=(l.map Sess.client).any fun x=>x==c:=fun l=>by
  rw[List.any_map,Bool.eq_iff_iff,zdm,List.any_eq_true]
  simp
 rw[key,key,h]
theorem zjr {s:St} (h:RightS s) {c:Int} {x:Sess} (hf:zaC s.sess c=some x):RightS {s with sess:=(zcH s.sess c s.time).1}:=by
 rw[zhf h hf]
 simp only
 obtain⟨⟨hi,he⟩,hxc⟩:=zlG h.ss hf
 obtain⟨m1,m2⟩:=zjq h hf
 have hx:x∈s.sess:=he▸List.getElem_mem hi
 refine⟨h.time,h.num,h.token, ?_, ?_, ?_, ?_,h.ls,h.lok,h.lnd,h.ll,h.ms,h.mok, ?_⟩
 ·rw[zwM,m1];exact zwM.1 h.ss
 ·intro y hy
  rcases zlA hy with rfl|hy
  ·obtain⟨a,b⟩:=h.sok x hx
   obtain⟨a1,a2,a3,a4⟩:=zcW.1 a
   have:=h.time
   exact⟨zcW.2 ⟨a1,a2,by simp only;omega,by simp only;omega⟩,b⟩
  ·exact h.sok y hy
 ·have:((s.sess.set (zgx s.sess c) ⟨x.client,x.num,max x.renewed s.time⟩).map Sess.num).Pairwise (·≠·):=by rw[m2,List.pairwise_map];exact h.snd
  rwa[List.pairwise_map]at this
 ·simp only[List.length_set];exact h.sl
 ·intro k hk
  exact⟨by simp only;rw[ziw m1];exact(h.seat k hk).1,fun c' hc'=>by simp only;rw[ziw m1];exact(h.seat k hk).2 c' hc'⟩
theorem zgv {s:St} (h:RightS s) {L:List Lk} {t:Int} (ht:s.token≤t∧t≤zbs) (h1:SL L) (h2:∀k∈L,zqN k=true∧k.token≤t∧lineB k.line=true∧hasI k.line k.holder=false) (h3:L.Pairwise fun a b=>a.token≠b.token)
  (h4:L.length≤4) (h5:∀k∈L,(zaC s.sess k.holder).isSome=true∧∀c∈k.line,(zaC s.sess c).isSome=true):RightS {s with locks:=L,token:=t}:=
 ⟨h.time,h.num,⟨by have:=h.token;simp only;omega,ht.2⟩,h.ss,h.sok,h.snd,h.sl,h1,h2,h3,h4,h.ms,h.mok,h5⟩
theorem zjs {s:St} (h:RightS s) {j:Nat} (hj:j<s.locks.length) {k:Lk} {t:Int} (ht:s.token≤t∧t≤zbs) (hn:k.name=s.locks[j].name) (hk:zqN k=true∧k.token≤t∧lineB k.line=true∧hasI k.line k.holder=false)
  (hd:k.token=s.locks[j].token∨s.token<k.token) (hs:(zaC s.sess k.holder).isSome=true∧∀c∈k.line,(zaC s.sess c).isSome=true):RightS {s with locks:=s.locks.set j k,token:=t}:=by
 refine zgv h ht ?_ ?_ ?_ ?_ ?_
 ·rw[zpI,zlz hj hn];exact zpI.1 h.ls
 ·intro x hx
  rcases zlA hx with rfl|hx
  ·exact hk
  ·obtain⟨a,b,c⟩:=h.lok x hx
   exact⟨a,by omega,c⟩
 ·rw[List.pairwise_iff_getElem]
  intro i m hi hm him
  have hi':i<s.locks.length:=by simpa using hi
  have hm':m<s.locks.length:=by simpa using hm
  have hp:=List.pairwise_iff_getElem.1 h.lnd
  have hb:∀q (hq:q<s.locks.length),s.locks[q].token≤s.token:=fun q hq=>(h.lok _ (List.getElem_mem hq)).2.1
  rw[List.getElem_set,List.getElem_set]
  split
  ·rename_i e
   subst e
   rw[if_neg (by omega)]
   have:=hb m hm'
   rcases hd with hd|hd
   ·rw[hd];exact hp j m hj hm' him
   ·omega
  ·split
   ·rename_i e
    subst e
    have:=hb i hi'
    rcases hd with hd|hd
    ·rw[hd];exact hp i j hi' hj him
    ·omega
   ·exact hp i m hi' hm' him
 ·rw[List.length_set];exact h.ll
 ·intro x hx
  rcases zlA hx with rfl|hx
  ·exact hs
  ·exact h.seat x hx
theorem zoq {s:St} (h:RightS s) (j:Nat):RightS {s with locks:=s.locks.eraseIdx j,token:=s.token}:=by
 have hsub:(s.locks.eraseIdx j).Sublist s.locks:=List.eraseIdx_sublist ..
 refine zgv h ⟨Int.le_refl _,h.token.2⟩ (List.Pairwise.sublist hsub h.ls) (fun k hk=>h.lok k (hsub.subset hk)) (List.Pairwise.sublist hsub h.lnd) (Nat.le_trans hsub.length_le h.ll) (fun k hk=>h.seat k (hsub.subset hk))
theorem zkK {s:St} (h:RightS s) {name:ByteArray} {c:Int} {w:Bool} (hnm:nameP name=true) (hc:isClient c=true) (hf:(zaC s.sess c).isSome=true) (hT:s.token+4≤zbs):
  ((zaX s.locks name c s.token w).2.2=0→RightS {s with locks:=(zaX s.locks name c s.token w).1,token:=s.token+1})∧
  ((zaX s.locks name c s.token w).2.2=10→RightS {s with locks:=(zaX s.locks name c s.token w).1,token:=s.token})∧
  (0≤(zaX s.locks name c s.token w).2.2∧(zaX s.locks name c s.token w).2.2≤10)∧(0≤(zaX s.locks name c s.token w).2.1∧(zaX s.locks name c s.token w).2.1≤3):=by
 have hT0:=h.token
 unfold zaX
 cases hl:zdG s.locks name with
 |none=>
  simp only
  split
  ·refine⟨fun h=>by simp at h,fun h=>by simp at h,⟨by simp only;decide,by simp only;decide⟩,⟨by simp only;decide,by simp only;decide⟩⟩
  ·rename_i h4
   simp only[decide_eq_true_eq]at h4
   refine⟨fun _=> ?_,fun h=>by simp at h,⟨by simp only;decide,by simp only;decide⟩,⟨by simp only;decide,by simp only;decide⟩⟩
   have hne:∀y∈s.locks,isL name y=false:=by
    intro y hy
    have:=List.find?_eq_none.1 hl y hy
    simpa using this
   refine zgv h ⟨by omega,by omega⟩ ?_ ?_ ?_ ?_ ?_
   ·refine zhg h.ls (fun y hy=>zjt (p:=fun x:Lk=>zed x.name name) hy) (fun y hy=> ?_)
    have h1:=zju (zou h.ls name) hy
    have h2:=hne y (List.mem_of_mem_drop hy)
    cases h3:zed name y.name
    ·have:=zwN h1 h3
     rw[isL,this]at h2
     simp at h2
    ·rfl
   ·intro x hx
    rcases zjo.1 hx with rfl|hx
    ·exact⟨zcN.2 ⟨hnm,zdy.1 hc,by simp only;omega,by simp only;omega⟩,Int.le_refl _,by simp[lineB,zbA],rfl⟩
    ·obtain⟨a,b,d⟩:=h.lok x hx
     exact⟨a,by omega,d⟩
   ·refine zhg h.lnd (fun y hy=> ?_) (fun y hy=> ?_)
    ·have:=(h.lok y (List.mem_of_mem_take hy)).2.1;simp only;omega
    ·have:=(h.lok y (List.mem_of_mem_drop hy)).2.1;simp only;omega
   ·rw[zs7];omega
   ·intro x hx
    rcases zjo.1 hx with rfl|hx
    ·exact⟨hf,fun c hc=>by simp at hc⟩
    ·exact h.seat x hx
 |some k=>
  simp only
  obtain⟨⟨hi,he⟩,hn⟩:=zdO h.ls hl
  have hk:k∈s.locks:=he▸List.getElem_mem hi
  have hlk:=h.lok k hk
  split
  ·refine⟨fun h=>by simp at h,fun h=>by simp at h,⟨by simp only;decide,by simp only;decide⟩,⟨by simp only;decide,by simp only;decide⟩⟩
  ·rename_i hh
   split
   ·refine⟨fun h=>by simp at h,fun h=>by simp at h,⟨by simp only;decide,by simp only;decide⟩,⟨by simp only;decide,by simp only;decide⟩⟩
   ·split
    ·rename_i hin
     obtain⟨g1,g2,g3⟩:=zbM.1 hlk.2.2.1
     refine⟨fun h=>by simp at h,fun _=>h,⟨by simp only;decide,by simp only;decide⟩, ?_⟩
     unfold znd
     rcases zix (fun x=>c==x) k.line 0 with⟨q1,q2⟩|⟨q,hq,q1,_⟩
     ·rw[show((0:Nat):Int)=0 from rfl]at q2
      rw[q2];simp
     ·rw[show((0:Nat):Int)=0 from rfl]at q1
      rw[q1];simp;omega
    ·rename_i hin
     split
     ·rename_i hj
      unfold zjw at hj⊢
      rw[if_neg (by simp[hc]),if_neg (by simpa using hin)]at*
      split
      ·refine⟨fun h=>by simp at h,fun h=>by simp at h,⟨by simp only;decide,by simp only;decide⟩,⟨by simp only;decide,by simp only;decide⟩⟩
      ·rename_i h3;rw[if_neg h3]at hj;simp at hj
     ·rename_i hj
      have h3:¬decide ((k.line.length:Int)≥3)=true:=by
       intro h3
       unfold zjw at hj
       rw[if_neg (by simp[hc]),if_neg (by simpa using hin),if_pos h3]at hj
       simp at hj
      have ej:zjw k.line c=(k.line++[c],(k.line.length:Int),0):=by
       unfold zjw
       rw[if_neg (by simp[hc]),if_neg (by simpa using hin),if_neg h3]
      rw[ej]
      simp only[decide_eq_true_eq]at h3
      refine⟨fun h=>by simp at h,fun _=> ?_,⟨by simp only;decide,by simp only;decide⟩,⟨by simp only;omega,by simp only;omega⟩⟩
      obtain⟨g1,g2,g3⟩:=zbM.1 hlk.2.2.1
      have hin':c ∉ k.line:=zcX.1 (by simpa using hin)
      refine zjs h hi ⟨Int.le_refl _,hT0.2⟩ (by simp only;rw[he]) ⟨?_,hlk.2.1,zbM.2 ⟨?_, ?_, ?_⟩, ?_⟩ (.inl (by simp only;rw[he])) ⟨(h.seat k hk).1, ?_⟩
      ·have:=zcN.1 hlk.1;exact zcN.2 this
      ·simp only[List.length_append,List.length_singleton];omega
      ·intro x hx
       rcases List.mem_append.1 hx with hx|hx
       ·exact g2 x hx
       ·rw[List.mem_singleton]at hx;subst hx;exact hc
      ·rw[List.nodup_append]
       refine⟨g3,by simp,fun a ha b hb=> ?_⟩
       rw[List.mem_singleton]at hb;subst hb
       exact fun e=>hin' (e▸ha)
      ·rw[zcX]
       intro hx
       rcases List.mem_append.1 hx with hx|hx
       ·exact zcX.1 hlk.2.2.2 hx
       ·rw[List.mem_singleton]at hx;rw[hx]at hh;simp at hh
      ·intro x hx
       rcases List.mem_append.1 hx with hx|hx
       ·exact(h.seat k hk).2 x hx
       ·rw[List.mem_singleton]at hx;subst hx;exact hf
theorem zor {α:Type} {l:List α} {j:Nat} {x:α} (h:x∈l.eraseIdx j):x∈l:=(List.eraseIdx_sublist ..).subset h
theorem zqL {s:St} (h:RightS s) {name:ByteArray} {c:Int} (hT:s.token+4≤zbs):
  ((zbV s.locks name c s.token).2.2=0→RightS {s with locks:=(zbV s.locks name c s.token).1,token:=s.token+(zbV s.locks name c s.token).2.1})∧
  (0≤(zbV s.locks name c s.token).2.2∧(zbV s.locks name c s.token).2.2≤10)∧(0≤(zbV s.locks name c s.token).2.1∧(zbV s.locks name c s.token).2.1≤1):=by
 have hT0:=h.token
 unfold zbV
 cases hl:zdG s.locks name with
 |none=>exact⟨fun h=>by simp at h,⟨by simp only;decide,by simp only;decide⟩,⟨by simp only;decide,by simp only;decide⟩⟩
 |some k=>
  simp only
  obtain⟨⟨hi,he⟩,hn⟩:=zdO h.ls hl
  have hk:k∈s.locks:=he▸List.getElem_mem hi
  have hlk:=h.lok k hk
  obtain⟨g1,g2,g3⟩:=zbM.1 hlk.2.2.1
  split
  ·unfold zgw
   split
   ·refine⟨fun _=> ?_,⟨by simp only;decide,by simp only;decide⟩,⟨by simp only;decide,by simp only;decide⟩⟩
    simp only[Int.add_zero]
    exact zoq h _
   ·rename_i c0 rest hline
    rw[hline]at g1 g2 g3
    refine⟨fun _=> ?_,⟨by simp only;decide,by simp only;decide⟩,⟨by simp only;decide,by simp only;decide⟩⟩
    have g3':=List.nodup_cons.1 g3
    have hs:=(h.seat k hk).2
    rw[hline]at hs
    simp only[List.length_cons]at g1
    refine zjs h hi ⟨by simp only;omega,by simp only;omega⟩ (by simp only;rw[he]) ⟨zcN.2 ⟨(zcN.1 hlk.1).1,zdy.1 (g2 _ (List.mem_cons_self ..)),by simp only;omega,by simp only;omega⟩,Int.le_refl _,zbM.2 ⟨by simp only[List.length_cons]at g1⊢;omega,fun x hx=>g2 x (List.mem_cons_of_mem _ hx),g3'.2⟩,zcX.2 g3'.1⟩ (.inr (by simp only;omega)) ⟨hs _ (List.mem_cons_self ..),fun x hx=>hs x (List.mem_cons_of_mem _ hx)⟩
  ·split
   ·refine⟨fun _=> ?_,⟨by simp only;decide,by simp only;decide⟩,⟨by simp only;decide,by simp only;decide⟩⟩
    simp only[Int.add_zero]
    have hle:∀x∈(zhk k.line c).1,x∈k.line:=by
     intro x hx
     unfold zhk at hx
     split at hx
     ·exact hx
     ·exact zor hx
    have hsub:(zhk k.line c).1.Sublist k.line:=by
     unfold zhk
     split
     ·exact List.Sublist.refl _
     ·exact List.eraseIdx_sublist ..
    refine zjs h hi ⟨Int.le_refl _,hT0.2⟩ (by simp only;rw[he]) ⟨zcN.2 (zcN.1 hlk.1),hlk.2.1,zbM.2 ⟨Nat.le_trans hsub.length_le g1,fun x hx=>g2 x (hle x hx),g3.sublist hsub⟩, ?_⟩ (.inl (by simp only;rw[he])) ⟨(h.seat k hk).1,fun x hx=>(h.seat k hk).2 x (hle x hx)⟩
    rw[zcX]
    exact fun hx=>zcX.1 hlk.2.2.2 (hle _ hx)
   ·exact⟨fun h=>by simp at h,⟨by simp only;decide,by simp only;decide⟩,⟨by simp only;decide,by simp only;decide⟩⟩
theorem zqM {s:St} (h:RightS s) (a:Memo):RightS {s with memos:=zlC s.memos a}:=by
 unfold zlC
 split
 ·exact h
 ·rename_i hc
  simp only[Bool.or_eq_true,Bool.not_eq_true',not_or,Bool.not_eq_false]at hc
  split
  ·rename_i hf
   obtain⟨x,hx⟩:=Option.isSome_iff_exists.1 hf
   obtain⟨⟨hi,he⟩,hxc⟩:=zvy h.ms hx
   refine⟨h.time,h.num,h.token,h.ss,h.sok,h.snd,h.sl,h.ls,h.lok,h.lnd,h.ll, ?_, ?_,h.seat⟩
   ·rw[zpJ,zlz hi (by rw[he,hxc])];exact zpJ.1 h.ms
   ·intro m hm
    rcases zlA hm with rfl|hm
    ·exact hc.1
    ·exact h.mok m hm
  ·rename_i hf
   have hne:∀y∈s.memos,y.client≠a.client:=by
    intro y hy e
    refine hf ?_
    unfold zce
    rw[List.find?_isSome]
    exact⟨y,hy,by simpa using e⟩
   refine⟨h.time,h.num,h.token,h.ss,h.sok,h.snd,h.sl,h.ls,h.lok,h.lnd,h.ll, ?_, ?_,h.seat⟩
   ·refine zhg h.ms (fun y hy=> ?_) (fun y hy=> ?_)
    ·simpa using zjt hy
    ·have:=zju (ztf h.ms a.client) hy
     have:=hne y (List.mem_of_mem_drop hy)
     simp at*;omega
   ·intro m hm
    rcases zjo.1 hm with rfl|hm
    ·exact hc.1
    ·exact h.mok m hm
theorem zly {r:Req} (h:Req.may r=true):isClient r.client=true∧(1≤r.seq∧r.seq≤zbs)∧((r.kind==3||r.kind==4)=true→nameP r.name=true):=by
 unfold Req.may at h
 simp only[Bool.and_eq_true,decide_eq_true_eq]at h
 obtain⟨⟨⟨⟨a,b⟩,c⟩,d⟩,e⟩:=h
 refine⟨zdy.2 ⟨a,b⟩,⟨c,d⟩,fun hk=> ?_⟩
 unfold zlM at e
 split at e
 ·cases e
 ·split at e
  ·cases e
  ·rename_i h2
   have h3:(r.kind==3||r.kind==4||r.kind==5)=true:=by rw[hk];rfl
   rw[h3]at h2
   simpa using h2
structure DoneR (s t:St) (a:Reply):Prop where
 rt:RightS t
 tok:s.token≤t.token∧t.token≤s.token+4
 num:s.num≤t.num∧t.num≤s.num+1
 time:t.time=s.time
 code:0≤a.code∧a.code≤12
theorem zna {s:St} (h:RightS s) {c:Int} (hc:isClient c=true) (hN:s.num+1≤zbs):DoneR s (zcU s c).1 (zcU s c).2:=by
 unfold zcU
 cases hf:zaC s.sess c with
 |some x=>exact⟨h,by simp only;omega,by simp only;omega,rfl,by simp only;decide⟩
 |none=>
  simp only
  rw[zpH h hc hN hf]
  by_cases h5:s.sess.length≥5
  ·rw[if_pos h5,if_pos (by simp)]
   exact⟨h,by simp only;omega,by simp only;omega,rfl,by simp only;decide⟩
  ·rw[if_neg h5,if_neg (by simp)]
   exact⟨zqK h hc hN hf (by omega),by simp only;omega,by simp only;omega,rfl,by simp only;decide⟩
theorem zhP {s:St} (h:RightS s) {r:Req} (hr:Req.may r=true) (hN:s.num+1≤zbs) (hT:s.token+4≤zbs):DoneR s (zbu s r).1 (zbu s r).2:=by
 obtain⟨hc,_,hnm⟩:=zly hr
 unfold zbu
 split
 ·exact zna h hc hN
 ·cases hf:zaC s.sess r.client with
  |none=>exact⟨h,by simp only;omega,by simp only;omega,rfl,by simp only;decide⟩
  |some x=>
   simp only
   split
   ·exact⟨h,by simp only;omega,by simp only;omega,rfl,by simp only;decide⟩
   ·have h1:=zjr h hf
    have hf1:(zaC (zcH s.sess r.client s.time).1 r.client).isSome=true:=by
     rw[zhf h hf,ziw (zjq h hf).1,hf];rfl
    split
    ·rename_i hk
     obtain⟨t0,t10,tc,ta⟩:=zkK (w:=r.kind==3) h1 (hnm hk) hc hf1 hT
     simp only at t0 t10 tc ta
     by_cases e0:(zaX s.locks r.name r.client s.token (r.kind==3)).2.2=0
     ·rw[if_pos e0]
      exact⟨t0 e0,by simp only;omega,by simp only;omega,rfl,by simp only;omega⟩
     ·rw[if_neg e0]
      by_cases e10:(zaX s.locks r.name r.client s.token (r.kind==3)).2.2=10
      ·rw[if_pos e10]
       exact⟨t10 e10,by simp only;omega,by simp only;omega,rfl,by simp only;omega⟩
      ·rw[if_neg e10]
       exact⟨h1,by simp only;omega,by simp only;omega,rfl,by simp only;omega⟩
    ·split
     ·obtain⟨t0,tc,ta⟩:=zqL (name:=r.name) (c:=r.client) h1 hT
      simp only at t0 tc ta
      by_cases e0:(zbV s.locks r.name r.client s.token).2.2=0
      ·rw[if_pos e0]
       exact⟨t0 e0,by simp only;omega,by simp only;omega,rfl,by simp only;omega⟩
      ·rw[if_neg e0]
       exact⟨h1,by simp only;omega,by simp only;omega,rfl,by simp only;omega⟩
     ·split
      ·obtain⟨a,b,c⟩:=zhh h1 [r.client] hT
       exact⟨a,⟨b,c⟩,by simp only[zbE];omega,rfl,by simp only;decide⟩
      ·exact⟨h1,by simp only;omega,by simp only;omega,rfl,by simp only;decide⟩
theorem zs6 {s:St} (h:RightS s) {c:Int}:0≤(((zce s.memos c).map Memo.reply).getD ⟨0,0,0,[]⟩).code∧(((zce s.memos c).map Memo.reply).getD ⟨0,0,0,[]⟩).code≤12:=by
 cases hf:zce s.memos c with
 |none=>simp
 |some m=>
  have:=h.mok m (List.mem_of_find?_eq_some hf)
  unfold answerB zbU at this
  simp at this
  simp;omega
theorem zop {s:St} (h:RightS s) (r:Req) (hN:s.num+1≤zbs) (hT:s.token+4≤zbs):DoneR s (zeI s r).1 (zeI s r).2.1:=by
 unfold zeI
 split
 ·exact⟨h,by simp only;omega,by simp only;omega,rfl,by simp only;decide⟩
 ·rename_i hm
  split
  ·exact⟨h,by simp only;omega,by simp only;omega,rfl,by simp only;decide⟩
  ·split
   ·exact⟨h,by simp only;omega,by simp only;omega,rfl,zs6 h⟩
   ·have hd:=zhP h (r:=r) (by simpa using hm) hN hT
    exact⟨zqM hd.rt _,hd.tok,hd.num,hd.time,hd.code⟩
end Go.Proofs.YtliimajkpggbhaaGreat
