import Derived.Test.YtniafckaafcpbaaGreatVO
namespace Go.Proofs.YtniafckaafcpbaaGreat
open Go.Pk
set_option maxRecDepth 100000
set_option linter.unusedSimpArgs false
set_option linter.unusedVariables false
theorem zlG (l:List Int) (hl:l.length<2^30):CallOK Tryz.prog 98 [.f (al l.length (intsE l))] (fun r o=>r=[rb (lineB l)]∧o=[]):=by
 refine zak zaA mixed (T:=Ty) (n:=29) Tryz.func98 (c:=Tryz.f98.body.getD .skip) rfl Tryz.results98 Tryz.ntmps98 Tryz.call98 ?_
 simp only[Tryz.f98,Option.getD]
 cases h3:decide ((l.length:Int)>3)
 ·have hs:lineB l=checkP (lineQ l) 0 l:=by
   unfold lineB
   rw[show decide ((l.length:Int)≤3)=true by simp at h3⊢;omega,Bool.and_true]
  rw[hs]
  repeat'(first|(with_reducible first|refine zaa _ _ ?_|refine zae ?_|refine zaf ?_)|rw[zad]|simp only[h3,zaw,zY,Int.reduceEq,Int.reduceBEq,Int.reduceBNe,Nat.reduceSub,Nat.reduceEqDiff,Nat.reduceAdd,Nat.reduceMul,Nat.reduceLeDiff,Nat.reduceLT,Nat.reduceBEq,reduceCtorEq]|refine zab ?_|refine zac (fun hb=> ?_) (fun hb=> ?_)|(refine And.intro ?_ ?_;exact zI)|refine And.intro (fun hg=> ?_) (fun hg=> ?_)|exact zC|fail)
  refine zau (τ:=Nat) (fun i=>⟨[al l.length (intsE l),dd,dd,ai i,dd,dd,dd,dd,dd,dd,dd,dd,dd,dd,dd,dd,dd,dd,dd,dd,dd,dd,dd,dd,dd,dd,dd,dd,dd],[]⟩)
   (fun i=>i≤l.length) (fun i=>checkP (lineQ l) i (l.drop i)) (fun i=>l.length - i) 0
   (Gh.canon [] [] [] zK rfl rfl) (Nat.zero_le _) ?_
  intro i hi0 hF K hK
  rw[List.drop_zero]at hF
  repeat(first|with_reducible refine zaa _ _ ?_|with_reducible refine And.imp_right (zaa _ _) ?_|with_reducible refine And.imp_right (And.imp_right (zaa _ _)) ?_|with_reducible refine And.imp_right (And.imp_right (And.imp_right (zaa _ _))) ?_|rw[zad]|simp only[zB,Nat.reduceSub,Nat.reduceEqDiff,Nat.reduceAdd,Nat.reduceMul,Nat.reduceLeDiff,Nat.reduceLT,Nat.reduceBEq,reduceCtorEq])
  refine zac (fun hlt=> ?_) (fun hge=> ?_)
  ·have hi:i<l.length:=by simpa using hlt
   have hat:=zbo hi
   have hw:=zat hi (by omega)
   rw[zaB hi]at hF
   have hcl:=zdf l[i]
   have hlt2:(l.take i).length=i:=by rw[List.length_take];omega
   have htk:(intsE l).take i=intsE (l.take i):=zeN (by omega)
   have hco:=zmu (l.take i) (by omega) l[i]
   rw[hlt2]at hco
   have hq:lineQ l i l[i]= !(!(isClient l[i])||hasI (l.take i) l[i]):=rfl
   repeat'(first|(with_reducible first|refine zaa _ _ ?_|refine zae ?_|refine zaf ?_)|rw[zad]|simp only[hat,htk,List.cons_append,List.nil_append,zaw,zY,Int.reduceEq,Int.reduceBEq,Int.reduceBNe,Nat.reduceSub,Nat.reduceEqDiff,Nat.reduceAdd,Nat.reduceMul,Nat.reduceLeDiff,Nat.reduceLT,Nat.reduceBEq,reduceCtorEq]|((first|((try refine zai ?_);apply zaj)|(apply zah;intro _));(solve|exact(hcl)|exact(hco)|(refine CallOK.le (hcl) ?_;exact zM)|(refine CallOK.le (hco) ?_;exact zM)|fail);try case hn=>rfl)|refine zab ?_|refine zac (fun hb=> ?_) (fun hb=> ?_)|(refine And.intro ?_ ?_;exact zI)|refine And.intro (fun hg=> ?_) (fun hg=> ?_)|exact zC|fail)
   ·rw[hq,hb,if_neg (by simp)]at hF
    rw[←hF]
   ·exact hK _ (i+1) (Gh.canon [] [] [] (by simp only[hw,zan,zaz,zao,zaq,zar,zas,List.set_cons_zero,List.set_cons_succ,and_true,true_and,Int.natCast_zero,Int.cast_ofNat_Int,D.v.injEq,Value.int.injEq];try(repeat'(first|rfl|omega|with_reducible apply And.intro))) rfl rfl) hi (by rw[zaB hi,hq,hb];rfl) (by omega)
  ·have hi:i=l.length:=by
    have:¬(i:Int)<l.length:=by simpa using hge
    omega
   rw[zbf hi]at hF
   rw[←hF]
   repeat'(first|(with_reducible first|refine zaa _ _ ?_|refine zae ?_|refine zaf ?_)|rw[zad]|simp only[zY,Int.reduceEq,Int.reduceBEq,Int.reduceBNe,Nat.reduceSub,Nat.reduceEqDiff,Nat.reduceAdd,Nat.reduceMul,Nat.reduceLeDiff,Nat.reduceLT,Nat.reduceBEq,reduceCtorEq]|refine zab ?_|refine zac (fun hb=> ?_) (fun hb=> ?_)|(refine And.intro ?_ ?_;exact zI)|refine And.intro (fun hg=> ?_) (fun hg=> ?_)|exact zC|fail)
 ·have hs:lineB l=false:=by
   unfold lineB
   rw[show decide ((l.length:Int)≤3)=false by simp at h3⊢;omega,Bool.and_false]
  rw[hs]
  repeat'(first|(with_reducible first|refine zaa _ _ ?_|refine zae ?_|refine zaf ?_)|rw[zad]|simp only[h3,zaw,zY,Int.reduceEq,Int.reduceBEq,Int.reduceBNe,Nat.reduceSub,Nat.reduceEqDiff,Nat.reduceAdd,Nat.reduceMul,Nat.reduceLeDiff,Nat.reduceLT,Nat.reduceBEq,reduceCtorEq]|refine zab ?_|refine zac (fun hb=> ?_) (fun hb=> ?_)|(refine And.intro ?_ ?_;exact zI)|refine And.intro (fun hg=> ?_) (fun hg=> ?_)|exact zC|fail)
theorem zj0 {l:List Sess} {i:Nat} {n:Int} (h:∀k (hk:k<i) (hl:k<l.length),l[k].num≠n):numbered (l.take i) n=false:=by
 unfold numbered
 rw[List.any_eq_false]
 intro x hx
 obtain⟨k,hk,rfl⟩:=List.getElem_of_mem hx
 rw[List.length_take]at hk
 rw[List.getElem_take]
 have:=h k (by omega) (by omega)
 simpa using this
theorem zil {l:List Sess} {i k:Nat} {n:Int} (hk:k<i) (hl:k<l.length) (h:l[k].num=n):numbered (l.take i) n=true:=by
 unfold numbered
 rw[List.any_eq_true]
 exact⟨l[k],List.mem_take_iff_getElem.2 ⟨k,by omega,rfl⟩,by simpa using h⟩
theorem zmE (p:Bool) (n r:Int):(p&& !(decide (n<1))&& !(decide (n>High))&& !(decide (r<0))&& !(decide (r>High)))= !(!p|| !(decide (n≥1)&&decide (n≤2305843009213693952))|| !(decide (r≥0)&&decide (r≤2305843009213693952))):=by
 have hH:High=2305843009213693952:=rfl
 rw[Bool.eq_iff_iff]
 cases p
 ·simp
 ·simp only[hH,Bool.true_and,Bool.not_true,Bool.false_or,Bool.and_eq_true,Bool.not_eq_true',Bool.or_eq_false_iff,decide_eq_false_iff_not,Bool.not_eq_false',decide_eq_true_eq]
  omega
set_option maxHeartbeats 4000000 in
theorem zlH (l:List Sess) (hl:l.length<2^30):CallOK Tryz.prog 56 [.f (al l.length (sessE l))] (fun r o=>r=[rb (sessB l)]∧o=[]):=by
 refine zak zaA mixed (T:=Ty) (n:=63) Tryz.func56 (c:=Tryz.f56.body.getD .skip) rfl Tryz.results56 Tryz.ntmps56 Tryz.call56 ?_
 simp only[Tryz.f56,Option.getD]
 cases h5:decide ((l.length:Int)>5)
 ·have hs:sessB l=checkP (sessQ l) 0 l:=by rw[sessB,h5];rfl
  rw[hs]
  repeat'(first|(with_reducible first|refine zaa _ _ ?_|refine zae ?_|refine zaf ?_)|rw[zad]|simp only[h5,zax,zY,Int.reduceEq,Int.reduceBEq,Int.reduceBNe,Nat.reduceSub,Nat.reduceEqDiff,Nat.reduceAdd,Nat.reduceMul,Nat.reduceLeDiff,Nat.reduceLT,Nat.reduceBEq,reduceCtorEq]|refine zab ?_|refine zac (fun hb=> ?_) (fun hb=> ?_)|(refine And.intro ?_ ?_;exact zI)|refine And.intro (fun hg=> ?_) (fun hg=> ?_)|exact zC|fail)
  refine zau (τ:=Nat) (fun i=>⟨[al l.length (sessE l),dd,dd,ai i,dd,dd,dd,dd,dd,dd,dd,dd,dd,dd,dd,dd,dd,dd,dd,dd,dd,dd,dd,dd,dd,dd,dd,dd,dd,dd,dd,dd,dd,dd,dd,dd,dd,dd,dd,dd,dd,dd,dd,dd,dd,dd,dd,dd,dd,dd,dd,dd,dd,dd,dd,dd,dd,dd,dd,dd,dd,dd,dd],[(4,⟨2,[]⟩)]⟩)
   (fun i=>i≤l.length) (fun i=>checkP (sessQ l) i (l.drop i)) (fun i=>l.length - i) 0
   (Gh.canon [] [4] [] zK rfl rfl) (Nat.zero_le _) ?_
  intro i hi0 hF K hK
  simp only[List.drop_zero]at hF hK⊢
  repeat(first|with_reducible refine zaa _ _ ?_|with_reducible refine And.imp_right (zaa _ _) ?_|with_reducible refine And.imp_right (And.imp_right (zaa _ _)) ?_|with_reducible refine And.imp_right (And.imp_right (And.imp_right (zaa _ _))) ?_|rw[zad]|simp only[zB,Nat.reduceSub,Nat.reduceEqDiff,Nat.reduceAdd,Nat.reduceMul,Nat.reduceLeDiff,Nat.reduceLT,Nat.reduceBEq,reduceCtorEq])
  refine zac (fun hlt=> ?_) (fun hge=> ?_)
  ·have hi:i<l.length:=by simpa using hlt
   have hat:=zaV hi
   have hw:=zat hi (by omega)
   rw[zaB hi]at hF
   have hcl:=zdf l[i].client
   have hh1:=zb4 l[i].num 1
   have hh2:=zb4 l[i].renewed 0
   cases e0:decide ((i:Int)>0)
   ·have hq:sessQ l i l[i]=(!(!(isClient l[i].client)|| !(decide (l[i].num≥1)&&decide (l[i].num≤2305843009213693952))|| !(decide (l[i].renewed≥0)&&decide (l[i].renewed≤2305843009213693952)))&& !(numbered (l.take i) l[i].num)):=by
     unfold sessQ okSess
     have h0:decide (i>0)=false:=by simpa using e0
     rw[h0,Bool.false_and,Bool.false_or]
     congr 1
     exact zmE _ _ _
    have h0:i=0:=by simpa using e0
    have hp:(sessE l).drop ((IntKind.i64.wrap ((i:Int) - 1)).toNat*3)=l[i].enc++sessE (l.drop (i+1)):=by
     rw[←zaV hi,h0];rfl
    repeat'(first|(with_reducible first|refine zaa _ _ ?_|refine zae ?_|refine zaf ?_)|rw[zad]|simp only[hat,hp,e0,List.cons_append,List.nil_append,zax,zY,Int.reduceEq,Int.reduceBEq,Int.reduceBNe,Nat.reduceSub,Nat.reduceEqDiff,Nat.reduceAdd,Nat.reduceMul,Nat.reduceLeDiff,Nat.reduceLT,Nat.reduceBEq,reduceCtorEq]|((first|((try refine zai ?_);apply zaj)|(apply zah;intro _));(solve|exact(hcl)|exact(hh1)|exact(hh2)|(refine CallOK.le (hcl) ?_;exact zM)|(refine CallOK.le (hh1) ?_;exact zM)|(refine CallOK.le (hh2) ?_;exact zM)|fail);try case hn=>rfl)|refine zab ?_|refine zac (fun hb=> ?_) (fun hb=> ?_)|(refine And.intro ?_ ?_;exact zI)|refine And.intro (fun hg=> ?_) (fun hg=> ?_)|exact zC|fail)
    ·rw[hq,hb,Bool.not_true,Bool.false_and,if_neg (by simp)]at hF
     rw[←hF]
    ·have hb1:=hb
     clear hb
     refine zau (τ:=Nat) (fun k=>⟨[al l.length (sessE l),dd,dd,ai i, .one (.ptr ⟨4,0,1⟩ 0),ai k,dd,dd,dd,dd,dd,dd,dd,dd,dd,dd,dd,dd,dd,dd,dd,dd,dd,dd,dd,dd,dd,dd,dd,dd,dd,dd,dd,dd,dd,dd,dd,dd,dd,dd,dd,dd,dd,dd,dd,dd,dd,dd,dd,dd,dd,dd,dd,dd,dd,dd,dd,dd,dd,dd,dd,dd,dd],[(4,{next:=2,l:=[some {e:=1,var:=true,fz:=false,sz:=0,cells:=[di l[i].client,di l[i].num,di l[i].renewed]},none,none,none]})]⟩)
      (fun k=>k≤i∧∀k' (hk:k'<k) (hkl:k'<l.length),l[k'].num≠l[i].num) (fun _=>()) (fun k=>i - k) 0
      (Gh.canon [4] [] [] zK rfl rfl) ⟨Nat.zero_le _,fun k' hk=>absurd hk (Nat.not_lt_zero _)⟩ ?_
     intro k ⟨k1,k2⟩ _ K2 hK2
     repeat(first|with_reducible refine zaa _ _ ?_|with_reducible refine And.imp_right (zaa _ _) ?_|with_reducible refine And.imp_right (And.imp_right (zaa _ _)) ?_|with_reducible refine And.imp_right (And.imp_right (And.imp_right (zaa _ _))) ?_|rw[zad]|simp only[zB,Nat.reduceSub,Nat.reduceEqDiff,Nat.reduceAdd,Nat.reduceMul,Nat.reduceLeDiff,Nat.reduceLT,Nat.reduceBEq,reduceCtorEq])
     refine zac (fun hlt2=> ?_) (fun hge2=> ?_)
     ·have hk:k<i:=by simpa using hlt2
      have hat2:=zaV (show k<l.length by omega)
      have hw2:IntKind.i64.wrap ((k:Int)+1)=((k+1:Nat):Int):=zat hk (by omega)
      repeat'(first|(with_reducible first|refine zaa _ _ ?_|refine zae ?_|refine zaf ?_)|rw[zad]|simp only[hat2,List.cons_append,List.nil_append,zax,zY,Int.reduceEq,Int.reduceBEq,Int.reduceBNe,Nat.reduceSub,Nat.reduceEqDiff,Nat.reduceAdd,Nat.reduceMul,Nat.reduceLeDiff,Nat.reduceLT,Nat.reduceBEq,reduceCtorEq]|refine zab ?_|refine zac (fun hb=> ?_) (fun hb=> ?_)|(refine And.intro ?_ ?_;exact zI)|refine And.intro (fun hg=> ?_) (fun hg=> ?_)|exact zC|fail)
      ·rw[hq,hb1,zil hk (by omega) (by simpa using hb),Bool.not_true,Bool.and_false,if_neg (by simp)]at hF
       rw[←hF]
      ·refine hK2 _ (k+1) (Gh.canon [4] [] [] (by simp only[hw2,zan,zaz,zao,zaq,zar,zas,List.set_cons_zero,List.set_cons_succ,and_true,true_and,Int.natCast_zero,Int.cast_ofNat_Int,D.v.injEq,Value.int.injEq];try(repeat'(first|rfl|omega|with_reducible apply And.intro))) rfl rfl) ⟨by omega,fun k' hk' hl'=> ?_⟩ rfl (by omega)
       rcases Nat.lt_or_ge k' k with h|h
       ·exact k2 k' h hl'
       ·have:k'=k:=by omega
        subst this
        simpa using hb
     ·have hki:k=i:=by
       have:¬(k:Int)<i:=by simpa using hge2
       omega
      rw[hki]at k2
      repeat'(first|(with_reducible first|refine zaa _ _ ?_|refine zae ?_|refine zaf ?_)|rw[zad]|simp only[zY,Int.reduceEq,Int.reduceBEq,Int.reduceBNe,Nat.reduceSub,Nat.reduceEqDiff,Nat.reduceAdd,Nat.reduceMul,Nat.reduceLeDiff,Nat.reduceLT,Nat.reduceBEq,reduceCtorEq]|refine zab ?_|refine zac (fun hb=> ?_) (fun hb=> ?_)|(refine And.intro ?_ ?_;exact zI)|refine And.intro (fun hg=> ?_) (fun hg=> ?_)|exact zC|fail)
      exact hK _ (i+1) (Gh.canon [] [] [] (by simp only[hw,zan,zaz,zao,zaq,zar,zas,List.set_cons_zero,List.set_cons_succ,and_true,true_and,Int.natCast_zero,Int.cast_ofNat_Int,D.v.injEq,Value.int.injEq];try(repeat'(first|rfl|omega|with_reducible apply And.intro))) rfl rfl) hi (by rw[zaB hi,hq,hb1,zj0 k2];rfl) (by omega)
   ·have hq:sessQ l i l[i]=(!(!(isClient l[i].client)|| !(decide (l[i].num≥1)&&decide (l[i].num≤2305843009213693952))|| !(decide (l[i].renewed≥0)&&decide (l[i].renewed≤2305843009213693952))||decide (l[i].client≤(l[i - 1]'(by omega)).client))&& !(numbered (l.take i) l[i].num)):=by
     unfold sessQ okSess prevS
     have h0:decide (i>0)=true:=by simpa using e0
     rw[h0,Bool.true_and,List.getElem?_eq_getElem (by omega),zmE]
     simp only[Bool.not_or,Bool.not_not,Option.map_some,Option.getD_some,ge_iff_le,Bool.and_assoc]
    have h0:0<i:=by simpa using e0
    have hp:=zaV (show i - 1<l.length by omega)
    have hw1:IntKind.i64.wrap ((i:Int) - 1)=((i - 1:Nat):Int):=by rw[wrap64 (by omega) (by omega)];omega
    repeat'(first|(with_reducible first|refine zaa _ _ ?_|refine zae ?_|refine zaf ?_)|rw[zad]|simp only[hat,hp,hw1,e0,List.cons_append,List.nil_append,zax,zY,Int.reduceEq,Int.reduceBEq,Int.reduceBNe,Nat.reduceSub,Nat.reduceEqDiff,Nat.reduceAdd,Nat.reduceMul,Nat.reduceLeDiff,Nat.reduceLT,Nat.reduceBEq,reduceCtorEq]|((first|((try refine zai ?_);apply zaj)|(apply zah;intro _));(solve|exact(hcl)|exact(hh1)|exact(hh2)|(refine CallOK.le (hcl) ?_;exact zM)|(refine CallOK.le (hh1) ?_;exact zM)|(refine CallOK.le (hh2) ?_;exact zM)|fail);try case hn=>rfl)|refine zab ?_|refine zac (fun hb=> ?_) (fun hb=> ?_)|(refine And.intro ?_ ?_;exact zI)|refine And.intro (fun hg=> ?_) (fun hg=> ?_)|exact zC|fail)
    ·rw[hq,hb,Bool.not_true,Bool.false_and,if_neg (by simp)]at hF
     rw[←hF]
    ·have hb1:=hb
     clear hb
     refine zau (τ:=Nat) (fun k=>⟨[al l.length (sessE l),dd,dd,ai i, .one (.ptr ⟨4,0,1⟩ 0),ai k,dd,dd,dd,dd,dd,dd,dd,dd,dd,dd,dd,dd,dd,dd,dd,dd,dd,dd,dd,dd,dd,dd,dd,dd,dd,dd,dd,dd,dd,dd,dd,dd,dd,dd,dd,dd,dd,dd,dd,dd,dd,dd,dd,dd,dd,dd,dd,dd,dd,dd,dd,dd,dd,dd,dd,dd,dd],[(4,{next:=2,l:=[some {e:=1,var:=true,fz:=false,sz:=0,cells:=[di l[i].client,di l[i].num,di l[i].renewed]},none,none,none]})]⟩)
      (fun k=>k≤i∧∀k' (hk:k'<k) (hkl:k'<l.length),l[k'].num≠l[i].num) (fun _=>()) (fun k=>i - k) 0
      (Gh.canon [4] [] [] zK rfl rfl) ⟨Nat.zero_le _,fun k' hk=>absurd hk (Nat.not_lt_zero _)⟩ ?_
     intro k ⟨k1,k2⟩ _ K2 hK2
     repeat(first|with_reducible refine zaa _ _ ?_|with_reducible refine And.imp_right (zaa _ _) ?_|with_reducible refine And.imp_right (And.imp_right (zaa _ _)) ?_|with_reducible refine And.imp_right (And.imp_right (And.imp_right (zaa _ _))) ?_|rw[zad]|simp only[zB,Nat.reduceSub,Nat.reduceEqDiff,Nat.reduceAdd,Nat.reduceMul,Nat.reduceLeDiff,Nat.reduceLT,Nat.reduceBEq,reduceCtorEq])
     refine zac (fun hlt2=> ?_) (fun hge2=> ?_)
     ·have hk:k<i:=by simpa using hlt2
      have hat2:=zaV (show k<l.length by omega)
      have hw2:IntKind.i64.wrap ((k:Int)+1)=((k+1:Nat):Int):=zat hk (by omega)
      repeat'(first|(with_reducible first|refine zaa _ _ ?_|refine zae ?_|refine zaf ?_)|rw[zad]|simp only[hat2,List.cons_append,List.nil_append,zax,zY,Int.reduceEq,Int.reduceBEq,Int.reduceBNe,Nat.reduceSub,Nat.reduceEqDiff,Nat.reduceAdd,Nat.reduceMul,Nat.reduceLeDiff,Nat.reduceLT,Nat.reduceBEq,reduceCtorEq]|refine zab ?_|refine zac (fun hb=> ?_) (fun hb=> ?_)|(refine And.intro ?_ ?_;exact zI)|refine And.intro (fun hg=> ?_) (fun hg=> ?_)|exact zC|fail)
      ·rw[hq,hb1,zil hk (by omega) (by simpa using hb),Bool.not_true,Bool.and_false,if_neg (by simp)]at hF
       rw[←hF]
      ·refine hK2 _ (k+1) (Gh.canon [4] [] [] (by simp only[hw2,zan,zaz,zao,zaq,zar,zas,List.set_cons_zero,List.set_cons_succ,and_true,true_and,Int.natCast_zero,Int.cast_ofNat_Int,D.v.injEq,Value.int.injEq];try(repeat'(first|rfl|omega|with_reducible apply And.intro))) rfl rfl) ⟨by omega,fun k' hk' hl'=> ?_⟩ rfl (by omega)
       rcases Nat.lt_or_ge k' k with h|h
       ·exact k2 k' h hl'
       ·have:k'=k:=by omega
        subst this
        simpa using hb
     ·have hki:k=i:=by
       have:¬(k:Int)<i:=by simpa using hge2
       omega
      rw[hki]at k2
      repeat'(first|(with_reducible first|refine zaa _ _ ?_|refine zae ?_|refine zaf ?_)|rw[zad]|simp only[zY,Int.reduceEq,Int.reduceBEq,Int.reduceBNe,Nat.reduceSub,Nat.reduceEqDiff,Nat.reduceAdd,Nat.reduceMul,Nat.reduceLeDiff,Nat.reduceLT,Nat.reduceBEq,reduceCtorEq]|refine zab ?_|refine zac (fun hb=> ?_) (fun hb=> ?_)|(refine And.intro ?_ ?_;exact zI)|refine And.intro (fun hg=> ?_) (fun hg=> ?_)|exact zC|fail)
      exact hK _ (i+1) (Gh.canon [] [] [] (by simp only[hw,zan,zaz,zao,zaq,zar,zas,List.set_cons_zero,List.set_cons_succ,and_true,true_and,Int.natCast_zero,Int.cast_ofNat_Int,D.v.injEq,Value.int.injEq];try(repeat'(first|rfl|omega|with_reducible apply And.intro))) rfl rfl) hi (by rw[zaB hi,hq,hb1,zj0 k2];rfl) (by omega)
  ·have hi:i=l.length:=by
    have:¬(i:Int)<l.length:=by simpa using hge
    omega
   rw[zbf hi]at hF
   rw[←hF]
   repeat'(first|(with_reducible first|refine zaa _ _ ?_|refine zae ?_|refine zaf ?_)|rw[zad]|simp only[zY,Int.reduceEq,Int.reduceBEq,Int.reduceBNe,Nat.reduceSub,Nat.reduceEqDiff,Nat.reduceAdd,Nat.reduceMul,Nat.reduceLeDiff,Nat.reduceLT,Nat.reduceBEq,reduceCtorEq]|refine zab ?_|refine zac (fun hb=> ?_) (fun hb=> ?_)|(refine And.intro ?_ ?_;exact zI)|refine And.intro (fun hg=> ?_) (fun hg=> ?_)|exact zC|fail)
 ·have hs:sessB l=false:=by rw[sessB,h5];rfl
  rw[hs]
  repeat'(first|(with_reducible first|refine zaa _ _ ?_|refine zae ?_|refine zaf ?_)|rw[zad]|simp only[h5,zax,zY,Int.reduceEq,Int.reduceBEq,Int.reduceBNe,Nat.reduceSub,Nat.reduceEqDiff,Nat.reduceAdd,Nat.reduceMul,Nat.reduceLeDiff,Nat.reduceLT,Nat.reduceBEq,reduceCtorEq]|refine zab ?_|refine zac (fun hb=> ?_) (fun hb=> ?_)|(refine And.intro ?_ ?_;exact zI)|refine And.intro (fun hg=> ?_) (fun hg=> ?_)|exact zC|fail)
theorem zj1 {l:List Lk} {i:Nat} {n:Int} (h:∀k (hk:k<i) (hl:k<l.length),l[k].token≠n):((l.take i).any fun o=>o.token==n)=false:=by
 rw[List.any_eq_false]
 intro x hx
 obtain⟨k,hk,rfl⟩:=List.getElem_of_mem hx
 rw[List.length_take]at hk
 rw[List.getElem_take]
 have:=h k (by omega) (by omega)
 simpa using this
theorem zim {l:List Lk} {i k:Nat} {n:Int} (hk:k<i) (hl:k<l.length) (h:l[k].token=n):((l.take i).any fun o=>o.token==n)=true:=by
 rw[List.any_eq_true]
 exact⟨l[k],List.mem_take_iff_getElem.2 ⟨k,by omega,rfl⟩,by simpa using h⟩
theorem zn9 (a b:List UInt8):(!(Go.Op.bytesLess b a))=(Go.Op.bytesLess a b||a==b):=by
 cases h:Go.Op.bytesLess b a
 ·cases h2:Go.Op.bytesLess a b
  ·rw[ziu h2 h];simp
  ·rfl
 ·rw[zlK h]
  cases h3:a==b
  ·rfl
  ·rw[show a=b by simpa using h3,zeM]at h;cases h
theorem zmF (p L H X:Bool) (h t:Int):(p&& !(decide (h<0))&& !(decide (h≥8))&& !(decide (t<1))&& !(decide (t>High))&& !(!L||H||X))= !(!p|| !(isClient h)|| !(decide (t≥1)&&decide (t≤2305843009213693952))|| !L||H||X):=by
 have hH:High=2305843009213693952:=rfl
 unfold isClient
 rw[Bool.eq_iff_iff]
 cases p<;>cases L<;>cases H<;>cases X<;>simp[hH]
 omega
set_option maxHeartbeats 4000000 in
theorem zj2 (l:List Lk) (hl:l.length<2^30) (hll:∀k∈l,k.line.length<2^30∧k.name.size<2^62):CallOK Tryz.prog 57 [.f (al l.length (locksE l))] (fun r o=>r=[rb (lockB l)]∧o=[]):=by
 refine zak zaA mixed (T:=Ty) (n:=76) Tryz.func57 (c:=Tryz.f57.body.getD .skip) rfl Tryz.results57 Tryz.ntmps57 Tryz.call57 ?_
 simp only[Tryz.f57,Option.getD]
 cases h5:decide ((l.length:Int)>4)
 ·have hs:lockB l=checkP (lockQ l) 0 l:=by
   unfold lockB
   rw[show decide ((l.length:Int)≤4)=true by simp at h5⊢;omega,Bool.and_true]
  rw[hs]
  repeat'(first|(with_reducible first|refine zaa _ _ ?_|refine zae ?_|refine zaf ?_)|rw[zad]|simp only[h5,zam,zY,Int.reduceEq,Int.reduceBEq,Int.reduceBNe,Nat.reduceSub,Nat.reduceEqDiff,Nat.reduceAdd,Nat.reduceMul,Nat.reduceLeDiff,Nat.reduceLT,Nat.reduceBEq,reduceCtorEq]|refine zab ?_|refine zac (fun hb=> ?_) (fun hb=> ?_)|(refine And.intro ?_ ?_;exact zI)|refine And.intro (fun hg=> ?_) (fun hg=> ?_)|exact zC|fail)
  refine zau (τ:=Nat) (fun i=>⟨[al l.length (locksE l),dd,dd,ai i,dd,dd,dd,dd,dd,dd,dd,dd,dd,dd,dd,dd,dd,dd,dd,dd,dd,dd,dd,dd,dd,dd,dd,dd,dd,dd,dd,dd,dd,dd,dd,dd,dd,dd,dd,dd,dd,dd,dd,dd,dd,dd,dd,dd,dd,dd,dd,dd,dd,dd,dd,dd,dd,dd,dd,dd,dd,dd,dd,dd,dd,dd,dd,dd,dd,dd,dd,dd,dd,dd,dd,dd],[(4,⟨2,[]⟩)]⟩)
   (fun i=>i≤l.length) (fun i=>checkP (lockQ l) i (l.drop i)) (fun i=>l.length - i) 0
   (Gh.canon [] [4] [] zK rfl rfl) (Nat.zero_le _) ?_
  intro i hi0 hF K hK
  simp only[List.drop_zero]at hF hK⊢
  repeat(first|with_reducible refine zaa _ _ ?_|with_reducible refine And.imp_right (zaa _ _) ?_|with_reducible refine And.imp_right (And.imp_right (zaa _ _)) ?_|with_reducible refine And.imp_right (And.imp_right (And.imp_right (zaa _ _))) ?_|rw[zad]|simp only[zB,Nat.reduceSub,Nat.reduceEqDiff,Nat.reduceAdd,Nat.reduceMul,Nat.reduceLeDiff,Nat.reduceLT,Nat.reduceBEq,reduceCtorEq])
  refine zac (fun hlt=> ?_) (fun hge=> ?_)
  ·have hi:i<l.length:=by simpa using hlt
   have hat:=zaG hi
   obtain⟨hk1,hk2⟩:=hll _ (List.getElem_mem hi)
   have hw:=zat hi (by omega)
   rw[zaB hi]at hF
   have hnm:=zez l[i].name hk2
   have hlr:=zlG l[i].line hk1
   have hcl:=zdf l[i].holder
   have hlc:=zmu l[i].line (by omega) l[i].holder
   have hh1:=zb4 l[i].token 1
   cases e0:decide ((i:Int)>0)
   ·have hq:lockQ l i l[i]=(!(!(nameP l[i].name)|| !(isClient l[i].holder)|| !(decide (l[i].token≥1)&&decide (l[i].token≤2305843009213693952))|| !(lineB l[i].line)||hasI l[i].line l[i].holder)&& !((l.take i).any fun o=>o.token==l[i].token)):=by
     unfold lockQ okLk
     have h0:decide (i>0)=false:=by simpa using e0
     rw[h0,Bool.false_and]
     congr 1
     rw[zmF,Bool.or_false]
    have h0:i=0:=by simpa using e0
    have hp:(locksE l).drop ((IntKind.i64.wrap ((i:Int) - 1)).toNat*4)=l[i].enc++locksE (l.drop (i+1)):=by
     rw[←zaG hi,h0];rfl
    repeat'(first|(with_reducible first|refine zaa _ _ ?_|refine zae ?_|refine zaf ?_)|rw[zad]|simp only[hat,hp,e0,List.cons_append,List.nil_append,zam,zY,Int.reduceEq,Int.reduceBEq,Int.reduceBNe,Nat.reduceSub,Nat.reduceEqDiff,Nat.reduceAdd,Nat.reduceMul,Nat.reduceLeDiff,Nat.reduceLT,Nat.reduceBEq,reduceCtorEq]|((first|((try refine zai ?_);apply zaj)|(apply zah;intro _));(solve|exact(hnm)|exact(hlr)|exact(hcl)|exact(hlc)|exact(hh1)|(refine CallOK.le (hnm) ?_;exact zM)|(refine CallOK.le (hlr) ?_;exact zM)|(refine CallOK.le (hcl) ?_;exact zM)|(refine CallOK.le (hlc) ?_;exact zM)|(refine CallOK.le (hh1) ?_;exact zM)|fail);try case hn=>rfl)|refine zab ?_|refine zac (fun hb=> ?_) (fun hb=> ?_)|(refine And.intro ?_ ?_;exact zI)|refine And.intro (fun hg=> ?_) (fun hg=> ?_)|exact zC|fail)
    ·rw[hq,hb,Bool.not_true,Bool.false_and,if_neg (by simp)]at hF
     rw[←hF]
    ·have hb1:=hb
     clear hb
     refine zau (τ:=Nat) (fun k=>⟨[al l.length (locksE l),dd,dd,ai i, .one (.ptr ⟨4,0,1⟩ 0),ai k,dd,dd,dd,dd,dd,dd,dd,dd,dd,dd,dd,dd,dd,dd,dd,dd,dd,dd,dd,dd,dd,dd,dd,dd,dd,dd,dd,dd,dd,dd,dd,dd,dd,dd,dd,dd,dd,dd,dd,dd,dd,dd,dd,dd,dd,dd,dd,dd,dd,dd,dd,dd,dd,dd,dd,dd,dd,dd,dd,dd,dd,dd,dd,dd,dd,dd,dd,dd,dd,dd],[(4,{next:=2,l:=[some {e:=1,var:=true,fz:=false,sz:=0,cells:=[.d (sD l[i].name),di l[i].holder,di l[i].token, .d (.sl l[i].line.length (intsE l[i].line))]},none,none,none,none]})]⟩)
      (fun k=>k≤i∧∀k' (hk:k'<k) (hkl:k'<l.length),l[k'].token≠l[i].token) (fun _=>()) (fun k=>i - k) 0
      (Gh.canon [4] [] [] zK rfl rfl) ⟨Nat.zero_le _,fun k' hk=>absurd hk (Nat.not_lt_zero _)⟩ ?_
     intro k ⟨k1,k2⟩ _ K2 hK2
     repeat(first|with_reducible refine zaa _ _ ?_|with_reducible refine And.imp_right (zaa _ _) ?_|with_reducible refine And.imp_right (And.imp_right (zaa _ _)) ?_|with_reducible refine And.imp_right (And.imp_right (And.imp_right (zaa _ _))) ?_|rw[zad]|simp only[zB,Nat.reduceSub,Nat.reduceEqDiff,Nat.reduceAdd,Nat.reduceMul,Nat.reduceLeDiff,Nat.reduceLT,Nat.reduceBEq,reduceCtorEq])
     refine zac (fun hlt2=> ?_) (fun hge2=> ?_)
     ·have hk:k<i:=by simpa using hlt2
      have hat2:=zaG (show k<l.length by omega)
      have hw2:IntKind.i64.wrap ((k:Int)+1)=((k+1:Nat):Int):=zat hk (by omega)
      repeat'(first|(with_reducible first|refine zaa _ _ ?_|refine zae ?_|refine zaf ?_)|rw[zad]|simp only[hat2,List.cons_append,List.nil_append,zam,zY,Int.reduceEq,Int.reduceBEq,Int.reduceBNe,Nat.reduceSub,Nat.reduceEqDiff,Nat.reduceAdd,Nat.reduceMul,Nat.reduceLeDiff,Nat.reduceLT,Nat.reduceBEq,reduceCtorEq]|refine zab ?_|refine zac (fun hb=> ?_) (fun hb=> ?_)|(refine And.intro ?_ ?_;exact zI)|refine And.intro (fun hg=> ?_) (fun hg=> ?_)|exact zC|fail)
      ·rw[hq,hb1,zim hk (by omega) (by simpa using hb),Bool.not_true,Bool.and_false,if_neg (by simp)]at hF
       rw[←hF]
      ·refine hK2 _ (k+1) (Gh.canon [4] [] [] (by simp only[hw2,zan,zaz,zao,zaq,zar,zas,List.set_cons_zero,List.set_cons_succ,and_true,true_and,Int.natCast_zero,Int.cast_ofNat_Int,D.v.injEq,Value.int.injEq];try(repeat'(first|rfl|omega|with_reducible apply And.intro))) rfl rfl) ⟨by omega,fun k' hk' hl'=> ?_⟩ rfl (by omega)
       rcases Nat.lt_or_ge k' k with h|h
       ·exact k2 k' h hl'
       ·have:k'=k:=by omega
        subst this
        simpa using hb
     ·have hki:k=i:=by
       have:¬(k:Int)<i:=by simpa using hge2
       omega
      rw[hki]at k2
      repeat'(first|(with_reducible first|refine zaa _ _ ?_|refine zae ?_|refine zaf ?_)|rw[zad]|simp only[zY,Int.reduceEq,Int.reduceBEq,Int.reduceBNe,Nat.reduceSub,Nat.reduceEqDiff,Nat.reduceAdd,Nat.reduceMul,Nat.reduceLeDiff,Nat.reduceLT,Nat.reduceBEq,reduceCtorEq]|refine zab ?_|refine zac (fun hb=> ?_) (fun hb=> ?_)|(refine And.intro ?_ ?_;exact zI)|refine And.intro (fun hg=> ?_) (fun hg=> ?_)|exact zC|fail)
      exact hK _ (i+1) (Gh.canon [] [] [] (by simp only[hw,zan,zaz,zao,zaq,zar,zas,List.set_cons_zero,List.set_cons_succ,and_true,true_and,Int.natCast_zero,Int.cast_ofNat_Int,D.v.injEq,Value.int.injEq];try(repeat'(first|rfl|omega|with_reducible apply And.intro))) rfl rfl) hi (by rw[zaB hi,hq,hb1,zj1 k2];rfl) (by omega)
   ·have hq:lockQ l i l[i]=(!(!(nameP l[i].name)|| !(isClient l[i].holder)|| !(decide (l[i].token≥1)&&decide (l[i].token≤2305843009213693952))|| !(lineB l[i].line)||hasI l[i].line l[i].holder||(Go.Op.bytesLess l[i].name.toList (l[i - 1]'(by omega)).name.toList||l[i].name.toList==(l[i - 1]'(by omega)).name.toList))&& !((l.take i).any fun o=>o.token==l[i].token)):=by
     unfold lockQ okLk prevL
     have h0:decide (i>0)=true:=by simpa using e0
     rw[h0,Bool.true_and,List.getElem?_eq_getElem (by omega)]
     congr 1
     rw[zmF,←zn9]
     rfl
    have h0:0<i:=by simpa using e0
    have hp:=zaG (show i - 1<l.length by omega)
    have hw1:IntKind.i64.wrap ((i:Int) - 1)=((i - 1:Nat):Int):=by rw[wrap64 (by omega) (by omega)];omega
    repeat'(first|(with_reducible first|refine zaa _ _ ?_|refine zae ?_|refine zaf ?_)|rw[zad]|simp only[hat,hp,hw1,e0,List.cons_append,List.nil_append,zam,zY,Int.reduceEq,Int.reduceBEq,Int.reduceBNe,Nat.reduceSub,Nat.reduceEqDiff,Nat.reduceAdd,Nat.reduceMul,Nat.reduceLeDiff,Nat.reduceLT,Nat.reduceBEq,reduceCtorEq]|((first|((try refine zai ?_);apply zaj)|(apply zah;intro _));(solve|exact(hnm)|exact(hlr)|exact(hcl)|exact(hlc)|exact(hh1)|(refine CallOK.le (hnm) ?_;exact zM)|(refine CallOK.le (hlr) ?_;exact zM)|(refine CallOK.le (hcl) ?_;exact zM)|(refine CallOK.le (hlc) ?_;exact zM)|(refine CallOK.le (hh1) ?_;exact zM)|fail);try case hn=>rfl)|refine zab ?_|refine zac (fun hb=> ?_) (fun hb=> ?_)|(refine And.intro ?_ ?_;exact zI)|refine And.intro (fun hg=> ?_) (fun hg=> ?_)|exact zC|fail)
    ·rw[hq,hb,Bool.not_true,Bool.false_and,if_neg (by simp)]at hF
     rw[←hF]
    ·have hb1:=hb
     clear hb
     refine zau (τ:=Nat) (fun k=>⟨[al l.length (locksE l),dd,dd,ai i, .one (.ptr ⟨4,0,1⟩ 0),ai k,dd,dd,dd,dd,dd,dd,dd,dd,dd,dd,dd,dd,dd,dd,dd,dd,dd,dd,dd,dd,dd,dd,dd,dd,dd,dd,dd,dd,dd,dd,dd,dd,dd,dd,dd,dd,dd,dd,dd,dd,dd,dd,dd,dd,dd,dd,dd,dd,dd,dd,dd,dd,dd,dd,dd,dd,dd,dd,dd,dd,dd,dd,dd,dd,dd,dd,dd,dd,dd,dd],[(4,{next:=2,l:=[some {e:=1,var:=true,fz:=false,sz:=0,cells:=[.d (sD l[i].name),di l[i].holder,di l[i].token, .d (.sl l[i].line.length (intsE l[i].line))]},none,none,none,none]})]⟩)
      (fun k=>k≤i∧∀k' (hk:k'<k) (hkl:k'<l.length),l[k'].token≠l[i].token) (fun _=>()) (fun k=>i - k) 0
      (Gh.canon [4] [] [] zK rfl rfl) ⟨Nat.zero_le _,fun k' hk=>absurd hk (Nat.not_lt_zero _)⟩ ?_
     intro k ⟨k1,k2⟩ _ K2 hK2
     repeat(first|with_reducible refine zaa _ _ ?_|with_reducible refine And.imp_right (zaa _ _) ?_|with_reducible refine And.imp_right (And.imp_right (zaa _ _)) ?_|with_reducible refine And.imp_right (And.imp_right (And.imp_right (zaa _ _))) ?_|rw[zad]|simp only[zB,Nat.reduceSub,Nat.reduceEqDiff,Nat.reduceAdd,Nat.reduceMul,Nat.reduceLeDiff,Nat.reduceLT,Nat.reduceBEq,reduceCtorEq])
     refine zac (fun hlt2=> ?_) (fun hge2=> ?_)
     ·have hk:k<i:=by simpa using hlt2
      have hat2:=zaG (show k<l.length by omega)
      have hw2:IntKind.i64.wrap ((k:Int)+1)=((k+1:Nat):Int):=zat hk (by omega)
      repeat'(first|(with_reducible first|refine zaa _ _ ?_|refine zae ?_|refine zaf ?_)|rw[zad]|simp only[hat2,List.cons_append,List.nil_append,zam,zY,Int.reduceEq,Int.reduceBEq,Int.reduceBNe,Nat.reduceSub,Nat.reduceEqDiff,Nat.reduceAdd,Nat.reduceMul,Nat.reduceLeDiff,Nat.reduceLT,Nat.reduceBEq,reduceCtorEq]|refine zab ?_|refine zac (fun hb=> ?_) (fun hb=> ?_)|(refine And.intro ?_ ?_;exact zI)|refine And.intro (fun hg=> ?_) (fun hg=> ?_)|exact zC|fail)
      ·rw[hq,hb1,zim hk (by omega) (by simpa using hb),Bool.not_true,Bool.and_false,if_neg (by simp)]at hF
       rw[←hF]
      ·refine hK2 _ (k+1) (Gh.canon [4] [] [] (by simp only[hw2,zan,zaz,zao,zaq,zar,zas,List.set_cons_zero,List.set_cons_succ,and_true,true_and,Int.natCast_zero,Int.cast_ofNat_Int,D.v.injEq,Value.int.injEq];try(repeat'(first|rfl|omega|with_reducible apply And.intro))) rfl rfl) ⟨by omega,fun k' hk' hl'=> ?_⟩ rfl (by omega)
       rcases Nat.lt_or_ge k' k with h|h
       ·exact k2 k' h hl'
       ·have:k'=k:=by omega
        subst this
        simpa using hb
     ·have hki:k=i:=by
       have:¬(k:Int)<i:=by simpa using hge2
       omega
      rw[hki]at k2
      repeat'(first|(with_reducible first|refine zaa _ _ ?_|refine zae ?_|refine zaf ?_)|rw[zad]|simp only[zY,Int.reduceEq,Int.reduceBEq,Int.reduceBNe,Nat.reduceSub,Nat.reduceEqDiff,Nat.reduceAdd,Nat.reduceMul,Nat.reduceLeDiff,Nat.reduceLT,Nat.reduceBEq,reduceCtorEq]|refine zab ?_|refine zac (fun hb=> ?_) (fun hb=> ?_)|(refine And.intro ?_ ?_;exact zI)|refine And.intro (fun hg=> ?_) (fun hg=> ?_)|exact zC|fail)
      exact hK _ (i+1) (Gh.canon [] [] [] (by simp only[hw,zan,zaz,zao,zaq,zar,zas,List.set_cons_zero,List.set_cons_succ,and_true,true_and,Int.natCast_zero,Int.cast_ofNat_Int,D.v.injEq,Value.int.injEq];try(repeat'(first|rfl|omega|with_reducible apply And.intro))) rfl rfl) hi (by rw[zaB hi,hq,hb1,zj1 k2];rfl) (by omega)
  ·have hi:i=l.length:=by
    have:¬(i:Int)<l.length:=by simpa using hge
    omega
   rw[zbf hi]at hF
   rw[←hF]
   repeat'(first|(with_reducible first|refine zaa _ _ ?_|refine zae ?_|refine zaf ?_)|rw[zad]|simp only[zY,Int.reduceEq,Int.reduceBEq,Int.reduceBNe,Nat.reduceSub,Nat.reduceEqDiff,Nat.reduceAdd,Nat.reduceMul,Nat.reduceLeDiff,Nat.reduceLT,Nat.reduceBEq,reduceCtorEq]|refine zab ?_|refine zac (fun hb=> ?_) (fun hb=> ?_)|(refine And.intro ?_ ?_;exact zI)|refine And.intro (fun hg=> ?_) (fun hg=> ?_)|exact zC|fail)
 ·have hs:lockB l=false:=by
   unfold lockB
   rw[show decide ((l.length:Int)≤4)=false by simp at h5⊢;omega,Bool.and_false]
  rw[hs]
  repeat'(first|(with_reducible first|refine zaa _ _ ?_|refine zae ?_|refine zaf ?_)|rw[zad]|simp only[h5,zam,zY,Int.reduceEq,Int.reduceBEq,Int.reduceBNe,Nat.reduceSub,Nat.reduceEqDiff,Nat.reduceAdd,Nat.reduceMul,Nat.reduceLeDiff,Nat.reduceLT,Nat.reduceBEq,reduceCtorEq]|refine zab ?_|refine zac (fun hb=> ?_) (fun hb=> ?_)|(refine And.intro ?_ ?_;exact zI)|refine And.intro (fun hg=> ?_) (fun hg=> ?_)|exact zC|fail)
end Go.Proofs.YtniafckaafcpbaaGreat
