import Derived.Test.YtniafckaafcpbaaGreatVK
namespace Go.Proofs.YtniafckaafcpbaaGreat
open Go.Pk
set_option maxRecDepth 100000
set_option linter.unusedSimpArgs false
set_option linter.unusedVariables false
theorem zmj (a b:St) (ha:Small a) (hb:Small b):CallOK Tryz.prog 14 [.f (.agg a.lent), .f (.agg b.lent)] (fun r o=>r=[rowI (goneP a b)]∧o=[]):=by
 refine CallOK.nil ?_
 refine zak zay mixed (T:=Ty) (n:=51) Tryz.func14 (c:=Tryz.f14.body.getD .skip) rfl Tryz.results14 Tryz.ntmps14 Tryz.call14 ?_
 simp only[Tryz.f14,Option.getD]
 repeat'(first|(with_reducible first|refine zaa _ _ ?_|refine zae ?_|refine zaf ?_)|rw[zad]|simp only[zY,Int.reduceEq,Int.reduceBEq,Int.reduceBNe,Nat.reduceSub,Nat.reduceEqDiff,Nat.reduceAdd,Nat.reduceMul,Nat.reduceLeDiff,Nat.reduceLT,Nat.reduceBEq,reduceCtorEq]|refine zab ?_|refine zac (fun hb=> ?_) (fun hb=> ?_)|(refine And.intro ?_ ?_;exact zI)|refine And.intro (fun hg=> ?_) (fun hg=> ?_)|exact zC|fail)
 have hal:=ha.sess
 refine zav (τ:=Nat×List Int) (fun t=>⟨[dd,dd, .one (.ptr ⟨2,0,1⟩ 0), .one (.ptr ⟨3,0,1⟩ 0),dd, .one (.own ⟨5,1,1⟩ 0 t.2.length),ai t.1,dd,dd,dd,dd,dd,dd,dd,dd,dd,dd,dd,dd,dd,dd,dd,dd,dd,dd,dd,dd,dd,dd,dd,dd,dd,dd,dd,dd,dd,dd,dd,dd,dd,dd,dd,dd,dd,dd,dd,dd,dd,dd,dd,dd],[(2,{next:=2,l:=[some {e:=1,var:=true,fz:=false,sz:=0,cells:=[di a.time,di a.num,di a.token, .lent a.sess.length (sessE a.sess), .lent a.locks.length (locksE a.locks), .lent a.memos.length (memosE a.memos)]},none,none,none,none,none,none]}),(3,{next:=2,l:=[some {e:=1,var:=true,fz:=false,sz:=0,cells:=[di b.time,di b.num,di b.token, .lent b.sess.length (sessE b.sess), .lent b.locks.length (locksE b.locks), .lent b.memos.length (memosE b.memos)]},none,none,none,none,none,none]}),(5,{next:=2,l:=[none,some {e:=1,var:=false,fz:=false,sz:=1,cells:=(intsE t.2).map C.d}]}),(7,⟨2,[]⟩),(48,⟨2,[]⟩),(49,⟨2,[]⟩)]⟩)
  (fun t=>t.1≤a.sess.length∧t.2.length≤t.1) (fun t=>t.2++((a.sess.drop t.1).filter (lostP b)).map Sess.client) (fun t=>a.sess.length - t.1) (0,[])
  ((Gh.nil (i:=5) (s:=5) (sz:=1) rfl).trans (Gh.canon [2,3,5] [7,48,49] [] zK rfl rfl)) ⟨Nat.zero_le _,Nat.zero_le _⟩ ?_
 intro⟨i,acc⟩ ⟨hi0,hac⟩ hF K hK
 simp only[List.drop_zero,List.nil_append]at hi0 hac hF hK⊢
 repeat(first|with_reducible refine zaa _ _ ?_|with_reducible refine And.imp_right (zaa _ _) ?_|with_reducible refine And.imp_right (And.imp_right (zaa _ _)) ?_|with_reducible refine And.imp_right (And.imp_right (And.imp_right (zaa _ _))) ?_|rw[zad]|simp only[zB,Nat.reduceSub,Nat.reduceEqDiff,Nat.reduceAdd,Nat.reduceMul,Nat.reduceLeDiff,Nat.reduceLT,Nat.reduceBEq,reduceCtorEq])
 refine zac (fun hlt=> ?_) (fun hge=> ?_)
 ·have hi:i<a.sess.length:=by simpa using hlt
  have hat:=za2 hi
  have hw:=zau hi (by omega)
  have hfi:=zcc b.sess (by have:=hb.sess;omega) a.sess[i].client
  have hFs:((a.sess.drop i).filter (lostP b)).map Sess.client=if lostP b a.sess[i]=true then a.sess[i].client::((a.sess.drop (i+1)).filter (lostP b)).map Sess.client else((a.sess.drop (i+1)).filter (lostP b)).map Sess.client:=by
   rw[List.drop_eq_getElem_cons hi,List.filter_cons]
   split<;>simp
  have hlo:lostP b a.sess[i]=(!(findS b.sess a.sess[i].client).isSome||(((findS b.sess a.sess[i].client).getD noSess).num !=a.sess[i].num)):=by
   unfold lostP
   cases findS b.sess a.sess[i].client<;>rfl
  cases hl:lostP b a.sess[i]
  ·rw[hl]at hlo
   rw[hl,if_neg (by simp)]at hFs
   repeat'(first|(with_reducible first|refine zaa _ _ ?_|refine zae ?_|refine zaf ?_)|rw[zad]|simp only[hat,←hlo,List.cons_append,List.nil_append,zaz,zY,Int.reduceEq,Int.reduceBEq,Int.reduceBNe,Nat.reduceSub,Nat.reduceEqDiff,Nat.reduceAdd,Nat.reduceMul,Nat.reduceLeDiff,Nat.reduceLT,Nat.reduceBEq,reduceCtorEq]|((first|((try refine zai ?_);apply zaj)|(apply zah;intro _));(solve|exact(hfi)|(refine CallOK.le (hfi) ?_;exact zM)|fail);try case hn=>rfl)|refine zab ?_|refine zac (fun hb=> ?_) (fun hb=> ?_)|(refine And.intro ?_ ?_;exact zI)|refine And.intro (fun hg=> ?_) (fun hg=> ?_)|exact zC|fail)
   exact hK _ (i+1,acc) (Gh.canon [2,3,5] [] [] (by simp only[hw,zan,zaA,zao,zar,zas,zat,List.set_cons_zero,List.set_cons_succ,and_true,true_and,Int.natCast_zero,Int.cast_ofNat_Int,D.v.injEq,Value.int.injEq];try(repeat'(first|rfl|omega|with_reducible apply And.intro))) rfl rfl) ⟨hi,by simp only;omega⟩ (by simp only;rw[hFs]) (by simp only;omega)
  ·rw[hl]at hlo
   rw[hl,if_pos rfl]at hFs
   repeat'(first|(with_reducible first|refine zaa _ _ ?_|refine zae ?_|refine zaf ?_)|rw[zad]|simp only[hat,←hlo,List.cons_append,List.nil_append,zaz,zY,Int.reduceEq,Int.reduceBEq,Int.reduceBNe,Nat.reduceSub,Nat.reduceEqDiff,Nat.reduceAdd,Nat.reduceMul,Nat.reduceLeDiff,Nat.reduceLT,Nat.reduceBEq,reduceCtorEq]|((first|((try refine zai ?_);apply zaj)|(apply zah;intro _));(solve|exact(hfi)|(refine CallOK.le (hfi) ?_;exact zM)|fail);try case hn=>rfl)|refine zab ?_|refine zac (fun hb=> ?_) (fun hb=> ?_)|(refine And.intro ?_ ?_;exact zI)|refine And.intro (fun hg=> ?_) (fun hg=> ?_)|exact zC|fail)
   exact hK _ (i+1,acc++[a.sess[i].client]) (Gh.canon [2,3,5] [] [] (by simp only[hw,List.length_append,List.length_singleton,zan,zaA,zao,zar,zas,zat,List.set_cons_zero,List.set_cons_succ,and_true,true_and,Int.natCast_zero,Int.cast_ofNat_Int,D.v.injEq,Value.int.injEq];try(repeat'(first|rfl|omega|with_reducible apply And.intro))) rfl (by simp only[List.length_append,List.length_singleton];rw[zce];rfl)) ⟨hi,by simp only[List.length_append,List.length_singleton];omega⟩ (by simp only[List.append_assoc,List.singleton_append];rw[hFs]) (by simp only;omega)
 ·have hi:i=a.sess.length:=by
   have:¬(i:Int)<a.sess.length:=by simpa using hge
   omega
  rw[hi,List.drop_length,List.filter_nil,List.map_nil,List.append_nil]at hF
  have hgo:goneP a b=acc:=hF.symm
  rw[hgo]
  repeat'(first|(with_reducible first|refine zaa _ _ ?_|refine zae ?_|refine zaf ?_)|rw[zad]|simp only[zY,Int.reduceEq,Int.reduceBEq,Int.reduceBNe,Nat.reduceSub,Nat.reduceEqDiff,Nat.reduceAdd,Nat.reduceMul,Nat.reduceLeDiff,Nat.reduceLT,Nat.reduceBEq,reduceCtorEq]|refine zab ?_|refine zac (fun hb=> ?_) (fun hb=> ?_)|(refine And.intro ?_ ?_;exact zI)|refine And.intro (fun hg=> ?_) (fun hg=> ?_)|exact zC|fail)
  simp[rfs1,roLe,rowI]
theorem zi4:∀l:List Int,((l.zip l).all fun p=>p.1==p.2)=true
 |[]=>rfl
 |a::l=>by rw[List.zip_cons_cons,List.all_cons,zi4 l];simp
theorem zlf (l:List Int):sameI l l=true:=by
 unfold sameI
 rw[zi4];simp
theorem zmk {s:St} {i:Nat} (h:Mk s i) (hi:i≤1000) (time lease:Int) (r:Req):Mk (applyP (advanceP s time lease) r).1 (i+1):=by
 have hH:High=2305843009213693952:=rfl
 obtain⟨h1,h2,h3⟩:=h
 obtain⟨r1,r2,r3,r4,r5⟩:=zcz h1 time lease (by omega)
 obtain⟨d1,d2,d3,d4,d5⟩:=zeT r1 r (by omega) (by omega)
 exact⟨d1,by omega,by omega⟩
set_option maxHeartbeats 8000000 in
theorem zii (acts:List Act) (hl:acts.length<2^60) (ha:∀a∈acts,actOk a) (lease:Int) (hle:i64 lease):
  CallOK Tryz.prog 3 [.f (al acts.length (actsE acts)), .f (ai lease)] (fun r o=>r=[rb true]∧o=[]):=by
 refine zak zay mixed (T:=Ty) (n:=101) Tryz.func3 (c:=Tryz.f3.body.getD .skip) rfl Tryz.results3 Tryz.ntmps3 Tryz.call3 ?_
 simp only[Tryz.f3,Option.getD]
 have haw:=zml
 have hH:High=2305843009213693952:=rfl
 cases hg:decide ((acts.length:Int)>60)
 ·have hl60:acts.length≤60:=by simp at hg;omega
  repeat'(first|(with_reducible first|refine zaa _ _ ?_|refine zae ?_|refine zaf ?_)|rw[zad]|simp only[hg,zY,Int.reduceEq,Int.reduceBEq,Int.reduceBNe,Nat.reduceSub,Nat.reduceEqDiff,Nat.reduceAdd,Nat.reduceMul,Nat.reduceLeDiff,Nat.reduceLT,Nat.reduceBEq,reduceCtorEq]|refine zab ?_|refine zac (fun hb=> ?_) (fun hb=> ?_)|(refine And.intro ?_ ?_;exact zI)|refine And.intro (fun hg=> ?_) (fun hg=> ?_)|exact zC|fail)
  refine zgy (Gh.sealF 5 3 (.d (.v (.slice none 0 0))) ?_) ?_
  ·simp only[sealFOK,zY,Nat.reduceSub,Nat.reduceEqDiff,Nat.reduceAdd,Nat.reduceMul,Nat.reduceLeDiff,Nat.reduceLT,Nat.reduceBEq,reduceCtorEq]
  simp only[sealFR,zY,Nat.reduceSub,Nat.reduceEqDiff,Nat.reduceAdd,Nat.reduceMul,Nat.reduceLeDiff,Nat.reduceLT,Nat.reduceBEq,reduceCtorEq]
  refine zgy (Gh.sealF 5 4 (.d (.v (.slice none 0 0))) ?_) ?_
  ·simp only[sealFOK,zY,Nat.reduceSub,Nat.reduceEqDiff,Nat.reduceAdd,Nat.reduceMul,Nat.reduceLeDiff,Nat.reduceLT,Nat.reduceBEq,reduceCtorEq]
  simp only[sealFR,zY,Nat.reduceSub,Nat.reduceEqDiff,Nat.reduceAdd,Nat.reduceMul,Nat.reduceLeDiff,Nat.reduceLT,Nat.reduceBEq,reduceCtorEq]
  refine zgy (Gh.sealF 5 5 (.d (.v (.slice none 0 0))) ?_) ?_
  ·simp only[sealFOK,zY,Nat.reduceSub,Nat.reduceEqDiff,Nat.reduceAdd,Nat.reduceMul,Nat.reduceLeDiff,Nat.reduceLT,Nat.reduceBEq,reduceCtorEq]
  simp only[sealFR,zY,Nat.reduceSub,Nat.reduceEqDiff,Nat.reduceAdd,Nat.reduceMul,Nat.reduceLeDiff,Nat.reduceLT,Nat.reduceBEq,reduceCtorEq]
  refine zav (τ:=Nat×St) (fun q=>⟨[al acts.length (actsE acts),ai lease,dd,dd,dd, .one (.ptr ⟨5,0,1⟩ 0),ai q.1,dd,dd,dd,dd,dd,dd,dd,dd,dd,dd,dd,dd,dd,dd,dd,dd,dd,dd,dd,dd,dd,dd,dd,dd,dd,dd,dd,dd,dd,dd,dd,dd,dd,dd,dd,dd,dd,dd,dd,dd,dd,dd,dd,dd,dd,dd,dd,dd,dd,dd,dd,dd,dd,dd,dd,dd,dd,dd,dd,dd,dd,dd,dd,dd,dd,dd,dd,dd,dd,dd,dd,dd,dd,dd,dd,dd,dd,dd,dd,dd,dd,dd,dd,dd,dd,dd,dd,dd,dd,dd,dd,dd,dd,dd],[(5,{next:=2,l:=[some {e:=1,var:=true,fz:=false,sz:=0,cells:=[di q.2.time,di q.2.num,di q.2.token, .d (.sl q.2.sess.length (sessE q.2.sess)), .d (.sl q.2.locks.length (locksE q.2.locks)), .d (.sl q.2.memos.length (memosE q.2.memos))]},none,none,none,none,none,none]}),(8,⟨2,[]⟩),(9,⟨2,[]⟩),(10,⟨2,[]⟩),(11,⟨2,[]⟩),(12,⟨2,[]⟩),(14,⟨2,[]⟩),(15,⟨2,[]⟩),(40,⟨2,[]⟩),(44,⟨2,[]⟩),(52,⟨2,[]⟩),(55,⟨2,[]⟩),(68,⟨2,[]⟩),(75,⟨2,[]⟩)]⟩)
   (fun q=>q.1≤acts.length∧Mk q.2 q.1) (fun _=>()) (fun q=>acts.length - q.1) (0,st0)
   (Gh.canon [5] [8,9,10,11,12,14,15,40,44,52,55,68,75] [] zK rfl rfl) ⟨Nat.zero_le _,zcY,by decide,by decide⟩ ?_
  intro⟨i,s⟩ ⟨j1,j2⟩ _ K hK
  simp only at j1 j2 hK⊢
  repeat(first|with_reducible refine zaa _ _ ?_|with_reducible refine And.imp_right (zaa _ _) ?_|with_reducible refine And.imp_right (And.imp_right (zaa _ _)) ?_|with_reducible refine And.imp_right (And.imp_right (And.imp_right (zaa _ _))) ?_|rw[zad]|simp only[zB,Nat.reduceSub,Nat.reduceEqDiff,Nat.reduceAdd,Nat.reduceMul,Nat.reduceLeDiff,Nat.reduceLT,Nat.reduceBEq,reduceCtorEq])
  refine zac (fun hlt=> ?_) (fun hge=> ?_)
  ·have hi:i<acts.length:=by simpa using hlt
   have hat:=znD hi
   have hw:=zau hi (by omega)
   have hao:=ha _ (List.getElem_mem hi)
   have hwt:=zcr hao.1
   have htm:=zbO hao.1.1 16
   have hrt:=j2.rt.time
   have hnu:=j2.num
   have htk:=j2.tok
   have hsm:=zbd j2.rt
   have hwa:IntKind.i64.wrap (s.time+acts[i].time % 16)=s.time+acts[i].time % 16:=wrap64 (by omega) (by omega)
   have had:=zfJ s hsm j2.rt (s.time+acts[i].time % 16) lease
   have hra:=zil s hsm j2.rt (s.time+acts[i].time % 16) lease
   obtain⟨r1,r2,r3,r4,r5⟩:=zcz j2.rt (s.time+acts[i].time % 16) lease (by omega)
   have hmk:=fun r=>zmk j2 (by omega) (s.time+acts[i].time % 16) lease r
   generalize advanceP s (s.time+acts[i].time % 16) lease=t at*
   have hts:=zbd r1
   have hsame:=zi5 t hts
   have hgo:=zkY s t hsm hts r1.ss
   have hrg:=zmj s t hsm hts
   have hgl:(goneP s t).length<2^62:=by
    have:=List.length_filter_le (fun x:Sess=> !((findS t.sess x.client).any fun y=>y.num==x.num)) s.sess
    have:=hsm.sess
    unfold goneP;rw[List.length_map];omega
   have hsi:=zdw (goneP s t) (goneP s t) hgl hgl
   rw[zlf]at hsi
   have hrq:=zjt t hts r1 acts[i] hao
   have hro:=znQ r1 hao
   generalize reqA t acts[i]=q at*
   have hap:=ziW t hts r1 q hro (fun hm=>zdc r1 hm (by omega) (by omega))
   have hrp:=zli t hts r1 q hro (fun hm=>zh9 r1 hm (by omega) (by omega)) (fun hm=>zdc r1 hm (by omega) (by omega))
   have hmk:=hmk q
   have hrx:=zjJ r1 hts (q:=q) (by omega) (by omega)
   generalize applyP t q=U at*
   have hus:=zbd hmk.rt
   have hsu:=zi5 U.1 hus
   have hsr:=zfQ U.2.1 hrx
   have hri:=ziX U.1 hus
   rw[zd2.2 hmk.rt]at hri
   repeat'(first|(with_reducible first|refine zaa _ _ ?_|refine zae ?_|refine zaf ?_)|rw[zad]|simp only[hat,hwt,htm,hwa,List.cons_append,List.nil_append,zmd,bne_self_eq_false,rowI,zY,Int.reduceEq,Int.reduceBEq,Int.reduceBNe,Nat.reduceSub,Nat.reduceEqDiff,Nat.reduceAdd,Nat.reduceMul,Nat.reduceLeDiff,Nat.reduceLT,Nat.reduceBEq,reduceCtorEq]|((first|((try refine zai ?_);apply zaj)|(apply zah;intro _));(solve|exact(had)|exact(hra)|exact(hsame)|exact(hgo)|exact(hrg)|exact(hsi)|exact(hrq)|exact(hap)|exact(hrp)|exact(hsu)|exact(hsr)|exact(hri)|(refine CallOK.le (had) ?_;exact zM)|(refine CallOK.le (hra) ?_;exact zM)|(refine CallOK.le (hsame) ?_;exact zM)|(refine CallOK.le (hgo) ?_;exact zM)|(refine CallOK.le (hrg) ?_;exact zM)|(refine CallOK.le (hsi) ?_;exact zM)|(refine CallOK.le (hrq) ?_;exact zM)|(refine CallOK.le (hap) ?_;exact zM)|(refine CallOK.le (hrp) ?_;exact zM)|(refine CallOK.le (hsu) ?_;exact zM)|(refine CallOK.le (hsr) ?_;exact zM)|(refine CallOK.le (hri) ?_;exact zM)|fail);try case hn=>rfl)|refine zab ?_|refine zac (fun hb=> ?_) (fun hb=> ?_)|(refine And.intro ?_ ?_;exact zI)|refine And.intro (fun hg=> ?_) (fun hg=> ?_)|exact zC|fail)
   exact hK _ (i+1,U.1) (Gh.canon [5] [] [] (by simp only[hw,zan,zaA,zao,zar,zas,zat,List.set_cons_zero,List.set_cons_succ,and_true,true_and,Int.natCast_zero,Int.cast_ofNat_Int,D.v.injEq,Value.int.injEq];try(repeat'(first|rfl|omega|with_reducible apply And.intro))) rfl rfl) ⟨hi,hmk⟩ trivial (by simp only;omega)
  ·repeat'(first|(with_reducible first|refine zaa _ _ ?_|refine zae ?_|refine zaf ?_)|rw[zad]|simp only[zY,Int.reduceEq,Int.reduceBEq,Int.reduceBNe,Nat.reduceSub,Nat.reduceEqDiff,Nat.reduceAdd,Nat.reduceMul,Nat.reduceLeDiff,Nat.reduceLT,Nat.reduceBEq,reduceCtorEq]|((first|((try refine zai ?_);apply zaj)|(apply zah;intro _));(solve|exact(haw)|(refine CallOK.le (haw) ?_;exact zM)|fail);try case hn=>rfl)|refine zab ?_|refine zac (fun hb=> ?_) (fun hb=> ?_)|(refine And.intro ?_ ?_;exact zI)|refine And.intro (fun hg=> ?_) (fun hg=> ?_)|exact zC|fail)
 ·repeat'(first|(with_reducible first|refine zaa _ _ ?_|refine zae ?_|refine zaf ?_)|rw[zad]|simp only[hg,zY,Int.reduceEq,Int.reduceBEq,Int.reduceBNe,Nat.reduceSub,Nat.reduceEqDiff,Nat.reduceAdd,Nat.reduceMul,Nat.reduceLeDiff,Nat.reduceLT,Nat.reduceBEq,reduceCtorEq]|((first|((try refine zai ?_);apply zaj)|(apply zah;intro _));(solve|exact(haw)|(refine CallOK.le (haw) ?_;exact zM)|fail);try case hn=>rfl)|refine zab ?_|refine zac (fun hb=> ?_) (fun hb=> ?_)|(refine And.intro ?_ ?_;exact zI)|refine And.intro (fun hg=> ?_) (fun hg=> ?_)|exact zC|fail)
end Go.Proofs.YtniafckaafcpbaaGreat
