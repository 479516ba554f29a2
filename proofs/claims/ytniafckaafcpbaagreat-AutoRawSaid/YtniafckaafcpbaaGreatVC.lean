import Derived.Test.YtniafckaafcpbaaGreatVB
namespace Go.Proofs.YtniafckaafcpbaaGreat
open Go.Pk
set_option maxRecDepth 100000
set_option linter.unusedSimpArgs false
set_option linter.unusedVariables false
theorem zoD {l m:List Lk} (h:SL l) (hs:(m.map Lk.name).Sublist (l.map Lk.name)):SL m:=by
 have h1:(l.map Lk.name).Pairwise fun a b=>bLess a b=true:=List.pairwise_map.2 h
 exact List.pairwise_map.1 (h1.sublist hs)
theorem zn4 {gone:List Int} {l:List Lk}:(l.map (lockWithout gone)).map Lk.name=l.map Lk.name:=by rw[List.map_map];rfl
theorem zn5 {l:List Lk} (hs:SL l) {i:Nat} (hi:i<l.length):findL l l[i].name=some l[i]∧posL l l[i].name=i:=by
 have hself:∀x:Lk,isL x.name x=true:=fun x=>by simp[isL]
 have hne:∀{a b:Nat} (ha:a<l.length) (hb:b<l.length),a<b→l[a].name.toList=l[b].name.toList→False:=fun ha hb hab h=>by
  have:=List.pairwise_iff_getElem.1 hs _ _ ha hb hab
  simp only[bLess,h,zeM]at this
  cases this
 have key:∀{j:Nat} (hj:j<l.length),isL l[i].name l[j]=true→j=i:=fun {j} hj h=>by
  simp only[isL,beq_iff_eq]at h
  rcases Nat.lt_trichotomy j i with h1|h1|h1
  ·exact(hne hj hi h1 h).elim
  ·exact h1
  ·exact(hne hi hj h1 h.symm).elim
 cases hf:findL l l[i].name with
 |none=>exact absurd (hself l[i]) (List.find?_eq_none.1 hf _ (List.getElem_mem hi))
 |some x=>
  obtain⟨⟨hp,he⟩,hx⟩:=zby hs hf
  have:=key hp (by rw[he];exact hx)
  refine⟨?_,this⟩
  rw[←he]
  simp only[this]
theorem zn6 {gone:List Int} {k:Lk} (h:k.line.length<2^30∧k.line.Nodup):(lockWithout gone k).line.length<2^30∧(lockWithout gone k).line.Nodup:=
 ⟨Nat.lt_of_le_of_lt (List.length_filter_le ..) h.1,h.2.filter _⟩
set_option maxHeartbeats 4000000 in
theorem zmA (l:List Lk) (hs:SL l) (hl:l.length<2^30) (hll:∀k∈l,k.line.length<2^30∧k.line.Nodup) (gone:List Int) (hg:gone.length<2^30) (t:Int) (ht:0≤t∧t≤2^61):
  CallOK Tryz.prog 69 [.f (al l.length (locksE l)), .f (al gone.length (intsE gone)), .f (ai t)]
  (fun r o=>r=[.one (.own 4 (dropP l gone t).1.length (locksE (dropP l gone t).1) false),ri (dropP l gone t).2]∧o=[]):=by
 refine zak zaA mixed (T:=Ty) (n:=72) Tryz.func69 (c:=Tryz.f69.body.getD .skip) rfl Tryz.results69 Tryz.ntmps69 Tryz.call69 ?_
 simp only[Tryz.f69,Option.getD]
 have hco:=zeA l hl (fun k hk=>(hll k hk).1)
 repeat'(first|(with_reducible first|refine zaa _ _ ?_|refine zae ?_|refine zaf ?_)|rw[zad]|simp only[zam,zaL,zY,Int.reduceEq,Int.reduceBEq,Int.reduceBNe,Nat.reduceSub,Nat.reduceEqDiff,Nat.reduceAdd,Nat.reduceMul,Nat.reduceLeDiff,Nat.reduceLT,Nat.reduceBEq,reduceCtorEq]|((first|((try refine zai ?_);apply zaj)|(apply zah;intro _));(solve|exact(hco)|(refine CallOK.le (hco) ?_;exact zM)|fail);try case hn=>rfl)|refine zab ?_|refine zac (fun hb=> ?_) (fun hb=> ?_)|(refine And.intro ?_ ?_;exact zI)|refine And.intro (fun hg=> ?_) (fun hg=> ?_)|exact zC|fail)
 refine zau (τ:=Nat) (fun i=>⟨[al l.length (locksE l),al gone.length (intsE gone),ai t,dd,dd,dd,dd,dd, .one (.own ⟨8,1,1⟩ 0 l.length),ai i,dd,dd,dd,dd,dd,dd,dd,dd,dd,dd,dd,dd,dd,dd,dd,dd,dd,dd,dd,dd,dd,dd,dd,dd,dd,dd,dd,dd,dd,dd,dd,dd,dd,dd,dd,dd,dd,dd,dd,dd,dd,dd,dd,dd,dd,dd,dd,dd,dd,dd,dd,dd,dd,dd,dd,dd,dd,dd,dd,dd,dd,dd],[(16,⟨2,[]⟩),(8,{next:=2,l:=[none,some {e:=1,var:=false,fz:=false,sz:=4,cells:=(locksE (curL l gone i)).map C.d}]}),(31,⟨2,[]⟩)]⟩)
  (fun i=>i≤l.length) (fun _=>()) (fun i=>l.length - i) 0
  (Gh.canon [8] [31] [] zK rfl rfl) (Nat.zero_le _) ?_
 intro i hi0 hF K hK
 repeat(first|with_reducible refine zaa _ _ ?_|with_reducible refine And.imp_right (zaa _ _) ?_|with_reducible refine And.imp_right (And.imp_right (zaa _ _)) ?_|with_reducible refine And.imp_right (And.imp_right (And.imp_right (zaa _ _))) ?_|rw[zad]|simp only[zB,Nat.reduceSub,Nat.reduceEqDiff,Nat.reduceAdd,Nat.reduceMul,Nat.reduceLeDiff,Nat.reduceLT,Nat.reduceBEq,reduceCtorEq])
 refine zac (fun hlt=> ?_) (fun hge=> ?_)
 ·have hi:i<l.length:=by simpa using hlt
  obtain⟨hic,hce⟩:=zlj (gone:=gone) hi
  have hat:=zaG hic
  rw[hce]at hat
  have hat2:(locksE (curL l gone i)).drop (i*4+3)= .sl l[i].line.length (intsE l[i].line)::locksE ((curL l gone i).drop (i+1)):=by rw[←List.drop_drop,hat];rfl
  have hw:=zat hi (by omega)
  have hwo:=zfg l[i].line gone (hll _ (List.getElem_mem hi)).1 hg
  have hset:=zbr Lk.enc 4 (fun _=>rfl) hic (k:=3) (by decide) (.sl (withoutP l[i].line gone).length (intsE (withoutP l[i].line gone))) (lockWithout gone l[i]) (by rw[hce];rfl)
  rw[zhK hi]at hset
  have hwl:(intsE (withoutP l[i].line gone)).take ((withoutP l[i].line gone).length*1)=intsE (withoutP l[i].line gone):=List.take_of_length_le (by rw[zaw];omega)
  repeat'(first|(with_reducible first|refine zaa _ _ ?_|refine zae ?_|refine zaf ?_)|rw[zad]|simp only[hat2,hset,hwl,rowI,←List.map_drop,List.map_cons,zam,zi5 hi0,zY,Int.reduceEq,Int.reduceBEq,Int.reduceBNe,Nat.reduceSub,Nat.reduceEqDiff,Nat.reduceAdd,Nat.reduceMul,Nat.reduceLeDiff,Nat.reduceLT,Nat.reduceBEq,reduceCtorEq]|((first|((try refine zai ?_);apply zaj)|(apply zah;intro _));(solve|exact(hwo)|(refine CallOK.le (hwo) ?_;exact zM)|fail);try case hn=>rfl)|refine zab ?_|refine zac (fun hb=> ?_) (fun hb=> ?_)|(refine And.intro ?_ ?_;exact zI)|refine And.intro (fun hg=> ?_) (fun hg=> ?_)|exact zC|fail)
  exact hK _ (i+1) (Gh.canon [8] [] [] (by simp only[hw,zan,zaz,zao,zaq,zar,zas,List.set_cons_zero,List.set_cons_succ,and_true,true_and,Int.natCast_zero,Int.cast_ofNat_Int,D.v.injEq,Value.int.injEq];try(repeat'(first|rfl|omega|with_reducible apply And.intro))) rfl rfl) hi rfl (by omega)
 ·have hi:i=l.length:=by
   have:¬(i:Int)<l.length:=by simpa using hge
   omega
  rw[hi,zi6]
  have hdP:dropP l gone t=dropR gone t (l.map (lockWithout gone)) 0:=rfl
  rw[hdP]
  obtain⟨W,hW⟩:∃W,W=l.map (lockWithout gone):=⟨_,rfl⟩
  have hWl:W.length=l.length:=by rw[hW,List.length_map]
  have hWn:W.map Lk.name=l.map Lk.name:=by rw[hW];exact zn4
  have hWg:∀(j:Nat) (hj:j<l.length),W[j]'(by omega)=lockWithout gone l[j]:=fun j hj=>by simp[hW]
  have hWk:∀k∈W,k.line.length<2^30∧k.line.Nodup:=fun k hk=>by
   rw[hW]at hk
   obtain⟨k0,hk0,rfl⟩:=List.mem_map.1 hk
   exact zn6 (hll k0 hk0)
  rw[←hW]
  clear hdP hW
  repeat'(first|(with_reducible first|refine zaa _ _ ?_|refine zae ?_|refine zaf ?_)|rw[zad]|simp only[zY,Int.reduceEq,Int.reduceBEq,Int.reduceBNe,Nat.reduceSub,Nat.reduceEqDiff,Nat.reduceAdd,Nat.reduceMul,Nat.reduceLeDiff,Nat.reduceLT,Nat.reduceBEq,reduceCtorEq]|refine zab ?_|refine zac (fun hb=> ?_) (fun hb=> ?_)|(refine And.intro ?_ ?_;exact zI)|refine And.intro (fun hg=> ?_) (fun hg=> ?_)|exact zC|fail)
  refine zau (τ:=List Lk×Nat×Int) (fun q=>⟨[al l.length (locksE l),al gone.length (intsE gone),ai t,dd,dd,dd,dd,dd, .one (.own ⟨8,1,1⟩ 0 (q.1++W.drop q.2.1).length),dd,ai q.2.2,ai q.2.1,dd,dd,dd,dd,dd,dd,dd,dd,dd,dd,dd,dd,dd,dd,dd,dd,dd,dd,dd,dd,dd,dd,dd,dd,dd,dd,dd,dd,dd,dd,dd,dd,dd,dd,dd,dd,dd,dd,dd,dd,dd,dd,dd,dd,dd,dd,dd,dd,dd,dd,dd,dd,dd,dd,dd,dd,dd,dd,dd,dd],[(16,⟨2,[]⟩),(8,{next:=2,l:=[none,some {e:=1,var:=false,fz:=false,sz:=4,cells:=(locksE (q.1++W.drop q.2.1)).map C.d}]}),(31,⟨2,[]⟩),(12,⟨2,[]⟩),(62,⟨2,[]⟩)]⟩)
   (fun q=>q.2.1≤l.length∧(0≤q.2.2∧q.2.2≤q.2.1)∧(q.1.map Lk.name).Sublist ((l.take q.2.1).map Lk.name)∧∀k∈q.1,k.line.length<2^30∧k.line.Nodup)
   (fun q=>(q.1++(dropR gone t (W.drop q.2.1) q.2.2).1,(dropR gone t (W.drop q.2.1) q.2.2).2)) (fun q=>l.length - q.2.1) ([],0,0)
   (Gh.canon [8] [12,62] [] (by simp only[List.drop_zero,List.nil_append,hWl,zan,zaz,zao,zaq,zar,zas,List.set_cons_zero,List.set_cons_succ,and_true,true_and,Int.natCast_zero,Int.cast_ofNat_Int,D.v.injEq,Value.int.injEq];try(repeat'(first|rfl|omega|with_reducible apply And.intro))) rfl rfl) ⟨Nat.zero_le _,⟨Int.le_refl _,Int.le_refl _⟩,List.nil_sublist _,by simp⟩ ?_
  rintro⟨L,i,g⟩ ⟨j1,j2,j3,j4⟩ hF K hK
  simp only[List.drop_zero,List.nil_append]at j1 j2 j3 j4 hF hK⊢
  repeat(first|with_reducible refine zaa _ _ ?_|with_reducible refine And.imp_right (zaa _ _) ?_|with_reducible refine And.imp_right (And.imp_right (zaa _ _)) ?_|with_reducible refine And.imp_right (And.imp_right (And.imp_right (zaa _ _))) ?_|rw[zad]|simp only[zB,Nat.reduceSub,Nat.reduceEqDiff,Nat.reduceAdd,Nat.reduceMul,Nat.reduceLeDiff,Nat.reduceLT,Nat.reduceBEq,reduceCtorEq])
  refine zac (fun hlt=> ?_) (fun hge=> ?_)
  ·have hi:i<l.length:=by simpa using hlt
   have hat:=zaG hi
   have hat1:(locksE l).drop (i*4+1)=iD l[i].holder::iD l[i].token:: .sl l[i].line.length (intsE l[i].line)::locksE (l.drop (i+1)):=by rw[←List.drop_drop,hat];rfl
   have hin:=zmu gone (by omega) l[i].holder
   have hw:=zat hi (by omega)
   have hiw:i<W.length:=by omega
   have hgw:=hWg i hi
   have hdr:=zfW (gone:=gone) (t:=t) (g:=g) hiw
   rw[hgw]at hdr
   have hdc:W.drop i=lockWithout gone l[i]::W.drop (i+1):=by rw[List.drop_eq_getElem_cons hiw,hgw]
   have hL:L.length≤i:=by have:=j3.length_le;simp only[List.length_map,List.length_take]at this;omega
   have htk:(l.take (i+1)).map Lk.name=(l.take i).map Lk.name++[l[i].name]:=by rw[←List.take_append_getElem hi,List.map_append];rfl
   cases hh:hasI gone l[i].holder
   ·rw[hh]at hin
    rw[show hasI gone (lockWithout gone l[i]).holder=false from hh,if_neg (by simp)]at hdr
    have hMe:L++W.drop i=L++[lockWithout gone l[i]]++W.drop (i+1):=by rw[hdc];simp
    obtain⟨M,hM⟩:∃M,M=L++W.drop i:=⟨_,rfl⟩
    rw[←hM]
    rw[hMe]at hM
    repeat'(first|(with_reducible first|refine zaa _ _ ?_|refine zae ?_|refine zaf ?_)|rw[zad]|simp only[hat,hat1,List.cons_append,List.nil_append,zam,zY,Int.reduceEq,Int.reduceBEq,Int.reduceBNe,Nat.reduceSub,Nat.reduceEqDiff,Nat.reduceAdd,Nat.reduceMul,Nat.reduceLeDiff,Nat.reduceLT,Nat.reduceBEq,reduceCtorEq]|((first|((try refine zai ?_);apply zaj)|(apply zah;intro _));(solve|exact(hin)|(refine CallOK.le (hin) ?_;exact zM)|fail);try case hn=>rfl)|refine zab ?_|refine zac (fun hb=> ?_) (fun hb=> ?_)|(refine And.intro ?_ ?_;exact zI)|refine And.intro (fun hg=> ?_) (fun hg=> ?_)|exact zC|fail)
    rw[hM]
    refine hK _ (L++[lockWithout gone l[i]],i+1,g) (Gh.canon [8] [] [] (by simp only[hw,zan,zaz,zao,zaq,zar,zas,List.set_cons_zero,List.set_cons_succ,and_true,true_and,Int.natCast_zero,Int.cast_ofNat_Int,D.v.injEq,Value.int.injEq];try(repeat'(first|rfl|omega|with_reducible apply And.intro))) rfl rfl) ⟨hi,⟨j2.1,by simp only;omega⟩, ?_, ?_⟩ ?_ (by simp only;omega)
    ·simp only[htk,List.map_append,List.map_cons,List.map_nil]
     exact j3.append (List.Sublist.refl _)
    ·intro k hk
     rcases List.mem_append.1 hk with hk|hk
     ·exact j4 k hk
     ·rw[List.mem_singleton.1 hk];exact zn6 (hll _ (List.getElem_mem hi))
    ·simp only;rw[hdr];simp
   ·rw[hh]at hin
    rw[show hasI gone (lockWithout gone l[i]).holder=true from hh,if_pos rfl]at hdr
    -- the row,as it stands
    obtain⟨M,hM⟩:∃M,M=L++W.drop i:=⟨_,rfl⟩
    have hMl:M.length=L.length+(l.length - i):=by rw[hM,List.length_append,List.length_drop,hWl]
    have hMs:SL M:=zoD hs (by
     rw[hM,List.map_append,List.map_drop,hWn,←List.map_drop]
     have:=j3.append (List.Sublist.refl ((l.drop i).map Lk.name))
     rwa[show(l.take i).map Lk.name++(l.drop i).map Lk.name=l.map Lk.name from by rw[←List.map_append,List.take_append_drop]]at this)
    have hMk:∀k∈M,k.line.length<2^30∧k.line.Nodup:=fun k hk=>by
     rw[hM]at hk
     rcases List.mem_append.1 hk with hk|hk
     ·exact j4 k hk
     ·exact hWk k (List.mem_of_mem_drop hk)
    have hMi:L.length<M.length:=by omega
    have hMg:M[L.length]=lockWithout gone l[i]:=by
     subst hM
     rw[List.getElem_append_right (Nat.le_refl _)]
     simp only[Nat.sub_self,List.getElem_drop,Nat.add_zero]
     exact hgw
    obtain⟨hf1,hf2⟩:=zn5 hMs hMi
    rw[hMg]at hf1 hf2
    have hf1:findL M l[i].name=some (lockWithout gone l[i]):=hf1
    have hf2:posL M l[i].name=L.length:=hf2
    have hfr:=zi9 M hMs (by omega) hMk l[i].name l[i].holder (t+g) (by omega)
    have hwt:IntKind.i64.wrap (t+g)=t+g:=wrap64 (by omega) (by omega)
    have hfp:freeP M l[i].name l[i].holder (t+g)=((passP M L.length (lockWithout gone l[i]) (t+g)).1,(passP M L.length (lockWithout gone l[i]) (t+g)).2,0):=by
     unfold freeP
     rw[hf1,hf2]
     simp only
     rw[if_pos (show((lockWithout gone l[i]).holder==l[i].holder)=true from by simp[lockWithout])]
    rw[hfp]at hfr
    rw[←hM]
    clear hlt
    cases hline:(lockWithout gone l[i]).line with
    |nil=>
     rw[hline]at hdr
     simp only at hdr
     have hp:passP M L.length (lockWithout gone l[i]) (t+g)=(M.eraseIdx L.length,0):=by unfold passP;rw[hline]
     rw[hp]at hfr
     have hg0:IntKind.i64.wrap (g+0)=g:=by rw[Int.add_zero];exact wrap64 (by omega) (by omega)
     have hMe:M.eraseIdx L.length=L++W.drop (i+1):=by rw[hM,List.eraseIdx_append_of_length_le (Nat.le_refl _),Nat.sub_self,hdc];rfl
     rw[hMe]at hfr
     repeat'(first|(with_reducible first|refine zaa _ _ ?_|refine zae ?_|refine zaf ?_)|rw[zad]|simp only[hat,hat1,hwt,List.cons_append,List.nil_append,zam,zaL,zY,Int.reduceEq,Int.reduceBEq,Int.reduceBNe,Nat.reduceSub,Nat.reduceEqDiff,Nat.reduceAdd,Nat.reduceMul,Nat.reduceLeDiff,Nat.reduceLT,Nat.reduceBEq,reduceCtorEq]|((first|((try refine zai ?_);apply zaj)|(apply zah;intro _));(solve|exact(hin)|exact(hfr)|(refine CallOK.le (hin) ?_;exact zM)|(refine CallOK.le (hfr) ?_;exact zM)|fail);try case hn=>rfl)|refine zab ?_|refine zac (fun hb=> ?_) (fun hb=> ?_)|(refine And.intro ?_ ?_;exact zI)|refine And.intro (fun hg=> ?_) (fun hg=> ?_)|exact zC|fail)
     refine hK _ (L,i+1,g) (Gh.canon [8] [] [] (by simp only[hw,hg0,zan,zaz,zao,zaq,zar,zas,List.set_cons_zero,List.set_cons_succ,and_true,true_and,Int.natCast_zero,Int.cast_ofNat_Int,D.v.injEq,Value.int.injEq];try(repeat'(first|rfl|omega|with_reducible apply And.intro))) rfl rfl) ⟨hi,⟨j2.1,by simp only;omega⟩, ?_,j4⟩ ?_ (by simp only;omega)
     ·simp only[htk]
      exact j3.trans (List.sublist_append_left _ _)
     ·simp only;rw[hdr]
    |cons x rest=>
     rw[hline]at hdr
     simp only at hdr
     have hp:passP M L.length (lockWithout gone l[i]) (t+g)=(M.set L.length ⟨l[i].name,x,t+g+1,rest⟩,1):=by unfold passP;rw[hline];rfl
     rw[hp]at hfr
     have hg1:IntKind.i64.wrap (g+1)=g+1:=wrap64 (by omega) (by omega)
     have hMe:M.set L.length ⟨l[i].name,x,t+g+1,rest⟩=L++[⟨l[i].name,x,t+g+1,rest⟩]++W.drop (i+1):=by rw[hM,List.set_append_right _ _ (Nat.le_refl _),Nat.sub_self,hdc];simp
     rw[hMe]at hfr
     repeat'(first|(with_reducible first|refine zaa _ _ ?_|refine zae ?_|refine zaf ?_)|rw[zad]|simp only[hat,hat1,hwt,List.cons_append,List.nil_append,zam,zaL,zY,Int.reduceEq,Int.reduceBEq,Int.reduceBNe,Nat.reduceSub,Nat.reduceEqDiff,Nat.reduceAdd,Nat.reduceMul,Nat.reduceLeDiff,Nat.reduceLT,Nat.reduceBEq,reduceCtorEq]|((first|((try refine zai ?_);apply zaj)|(apply zah;intro _));(solve|exact(hin)|exact(hfr)|(refine CallOK.le (hin) ?_;exact zM)|(refine CallOK.le (hfr) ?_;exact zM)|fail);try case hn=>rfl)|refine zab ?_|refine zac (fun hb=> ?_) (fun hb=> ?_)|(refine And.intro ?_ ?_;exact zI)|refine And.intro (fun hg=> ?_) (fun hg=> ?_)|exact zC|fail)
     refine hK _ (L++[⟨l[i].name,x,t+g+1,rest⟩],i+1,g+1) (Gh.canon [8] [] [] (by simp only[hw,hg1,zan,zaz,zao,zaq,zar,zas,List.set_cons_zero,List.set_cons_succ,and_true,true_and,Int.natCast_zero,Int.cast_ofNat_Int,D.v.injEq,Value.int.injEq];try(repeat'(first|rfl|omega|with_reducible apply And.intro))) rfl rfl) ⟨hi,⟨by simp only;omega,by simp only;omega⟩, ?_, ?_⟩ ?_ (by simp only;omega)
     ·simp only[htk,List.map_append,List.map_cons,List.map_nil]
      exact j3.append (List.Sublist.refl _)
     ·intro k hk
      rcases List.mem_append.1 hk with hk|hk
      ·exact j4 k hk
      ·rw[List.mem_singleton.1 hk]
       have:=zn6 (gone:=gone) (hll _ (List.getElem_mem hi))
       rw[hline]at this
       exact⟨by have:=this.1;simp only[List.length_cons]at this⊢;omega,(List.nodup_cons.1 this.2).2⟩
     ·simp only;rw[hdr];simp[lockWithout]
  ·have hi:i=l.length:=by
    have:¬(i:Int)<l.length:=by simpa using hge
    omega
   subst hi
   have hd0:W.drop l.length=[]:=List.drop_eq_nil_of_le (by omega)
   rw[hd0]at hF⊢
   simp only[dropR,List.append_nil]at hF⊢
   have e1:L=(dropR gone t W 0).1:=congrArg Prod.fst hF
   have e2:g=(dropR gone t W 0).2:=congrArg Prod.snd hF
   rw[←e1,←e2]
   repeat'(first|(with_reducible first|refine zaa _ _ ?_|refine zae ?_|refine zaf ?_)|rw[zad]|simp only[zY,Int.reduceEq,Int.reduceBEq,Int.reduceBNe,Nat.reduceSub,Nat.reduceEqDiff,Nat.reduceAdd,Nat.reduceMul,Nat.reduceLeDiff,Nat.reduceLT,Nat.reduceBEq,reduceCtorEq]|refine zab ?_|refine zac (fun hb=> ?_) (fun hb=> ?_)|(refine And.intro ?_ ?_;exact zI)|refine And.intro (fun hg=> ?_) (fun hg=> ?_)|exact zC|fail)
end Go.Proofs.YtniafckaafcpbaaGreat
