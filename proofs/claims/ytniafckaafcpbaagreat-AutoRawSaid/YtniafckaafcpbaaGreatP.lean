import Derived.Test.YtniafckaafcpbaaGreatN
namespace Go.Proofs.YtniafckaafcpbaaGreat
open Go.Pk
set_option maxRecDepth 100000
set_option linter.unusedSimpArgs false
set_option linter.unusedVariables false
def replyOk (r:Reply):Prop:=r.held.length<2^30∧∀g∈r.held,g.name.size<2^62
theorem ze9 (r:Reply) (hr:replyOk r):CallOK Tryz.prog 118 [.f (.agg r.lent)] (fun x o=>x=[rb (replyB r)]∧o=[]):=by
 refine zak zaA mixed (T:=Ty) (n:=87) Tryz.func118 (c:=Tryz.f118.body.getD .skip) rfl Tryz.results118 Tryz.ntmps118 Tryz.call118 ?_
 simp only[Tryz.f118,Option.getD]
 obtain⟨h1,h2⟩:=hr
 cases hA:(decide (r.code<0)||decide (r.code>12)||decide (r.session<0)||decide (r.session>2305843009213693952)||decide (r.ahead<0)||decide (r.ahead>3))
 ·cases hB:(decide ((r.held.length:Int)>4)||(r.session==0)&&decide ((r.held.length:Int)>0))
  ·have hs:replyB r=checkP (grantQ r.held) 0 r.held:=by
    unfold replyB
    rw[show(decide (r.code<0)||decide (r.code>12)||decide (r.session<0)||decide (r.session>High)||decide (r.ahead<0)||decide (r.ahead>3))=false from hA,hB]
    rfl
   rw[hs]
   repeat'(first|(with_reducible first|refine zaa _ _ ?_|refine zae ?_|refine zaf ?_)|rw[zad]|simp only[hA,hB,zY,Int.reduceEq,Int.reduceBEq,Int.reduceBNe,Nat.reduceSub,Nat.reduceEqDiff,Nat.reduceAdd,Nat.reduceMul,Nat.reduceLeDiff,Nat.reduceLT,Nat.reduceBEq,reduceCtorEq]|refine zab ?_|refine zac (fun hb=> ?_) (fun hb=> ?_)|(refine And.intro ?_ ?_;exact zI)|refine And.intro (fun hg=> ?_) (fun hg=> ?_)|exact zC|fail)
   refine zau (τ:=Nat) (fun i=>⟨[dd, .one (.ptr ⟨1,0,1⟩ 0),dd,dd,dd,dd,dd,dd,dd,dd,dd,dd,dd,dd,dd,dd,dd,dd,dd,dd,dd,dd,dd,dd,dd,dd,dd,dd,dd,dd,dd,dd,dd,dd,dd,dd,dd,dd,dd,dd,dd,dd,dd,dd,dd,dd,dd,dd,dd,al r.held.length (grantsE r.held),ai r.held.length,ai i,dd,dd,dd,dd,dd,dd,dd,dd,dd,dd,dd,dd,dd,dd,dd,dd,dd,dd,dd,dd,dd,dd,dd,dd,dd,dd,dd,dd,dd,dd,dd,dd,dd,dd,dd],[(1,{next:=2,l:=[some {e:=1,var:=true,fz:=false,sz:=0,cells:=[di r.code,di r.session,di r.ahead, .lent r.held.length (grantsE r.held)]},none,none,none,none]}),(4,⟨2,[]⟩)]⟩)
    (fun i=>i≤r.held.length) (fun i=>checkP (grantQ r.held) i (r.held.drop i)) (fun i=>r.held.length - i) 0
    (Gh.canon [1] [4] [] zK rfl rfl) (Nat.zero_le _) ?_
   intro i hi0 hF K hK
   rw[List.drop_zero]at hF
   repeat(first|with_reducible refine zaa _ _ ?_|with_reducible refine And.imp_right (zaa _ _) ?_|with_reducible refine And.imp_right (And.imp_right (zaa _ _)) ?_|with_reducible refine And.imp_right (And.imp_right (And.imp_right (zaa _ _))) ?_|rw[zad]|simp only[zB,Nat.reduceSub,Nat.reduceEqDiff,Nat.reduceAdd,Nat.reduceMul,Nat.reduceLeDiff,Nat.reduceLT,Nat.reduceBEq,reduceCtorEq])
   refine zac (fun hlt=> ?_) (fun hge=> ?_)
   ·have hi:i<r.held.length:=by simpa using hlt
    have hat:=zbV hi
    have hw:=zat hi (by omega)
    rw[zaB hi]at hF
    have hnm:=zgw r.held[i].name (h2 _ (List.getElem_mem hi))
    cases e0:decide ((i:Int)>0)
    ·have h0:i=0:=by simpa using e0
     have hq:grantQ r.held i r.held[i]= !(!nameP r.held[i].name||decide (r.held[i].token<1)||decide (r.held[i].token>2305843009213693952)):=by
      unfold grantQ
      have:decide (i>0)=false:=by simpa using e0
      rw[this,Bool.false_and,Bool.or_false]
     have hp:(grantsE r.held).drop ((IntKind.i64.wrap ((i:Int) - 1)).toNat*2)=r.held[i].enc++grantsE (r.held.drop (i+1)):=by
      rw[←zbV hi,h0];rfl
     repeat'(first|(with_reducible first|refine zaa _ _ ?_|refine zae ?_|refine zaf ?_)|rw[zad]|simp only[hat,hp,e0,List.cons_append,List.nil_append,zbl,zY,Int.reduceEq,Int.reduceBEq,Int.reduceBNe,Nat.reduceSub,Nat.reduceEqDiff,Nat.reduceAdd,Nat.reduceMul,Nat.reduceLeDiff,Nat.reduceLT,Nat.reduceBEq,reduceCtorEq]|((first|((try refine zai ?_);apply zaj)|(apply zah;intro _));(solve|exact(hnm)|(refine CallOK.le (hnm) ?_;exact zM)|fail);try case hn=>rfl)|refine zab ?_|refine zac (fun hb=> ?_) (fun hb=> ?_)|(refine And.intro ?_ ?_;exact zI)|refine And.intro (fun hg=> ?_) (fun hg=> ?_)|exact zC|fail)
     ·rw[hq,hb,if_neg (by simp)]at hF
      rw[←hF]
     ·exact hK _ (i+1) (Gh.canon [1] [] [] (by simp only[hw,zan,zaz,zao,zaq,zar,zas,List.set_cons_zero,List.set_cons_succ,and_true,true_and,Int.natCast_zero,Int.cast_ofNat_Int,D.v.injEq,Value.int.injEq];try(repeat'(first|rfl|omega|with_reducible apply And.intro))) rfl rfl) hi (by rw[zaB hi,hq,hb];rfl) (by omega)
    ·have h0:0<i:=by simpa using e0
     have hq:grantQ r.held i r.held[i]= !(!nameP r.held[i].name||decide (r.held[i].token<1)||decide (r.held[i].token>2305843009213693952)|| !(bLess (r.held[i - 1]'(by omega)).name r.held[i].name)):=by
      unfold grantQ prevG
      have:decide (i>0)=true:=by simpa using e0
      rw[this,List.getElem?_eq_getElem (by omega)]
      simp only[Bool.true_and,Option.map_some,Option.getD_some]
     have hp:=zbV (show i - 1<r.held.length by omega)
     have hw1:IntKind.i64.wrap ((i:Int) - 1)=((i - 1:Nat):Int):=by rw[wrap64 (by omega) (by omega)];omega
     repeat'(first|(with_reducible first|refine zaa _ _ ?_|refine zae ?_|refine zaf ?_)|rw[zad]|simp only[hat,hp,hw1,e0,List.cons_append,List.nil_append,zbl,zY,Int.reduceEq,Int.reduceBEq,Int.reduceBNe,Nat.reduceSub,Nat.reduceEqDiff,Nat.reduceAdd,Nat.reduceMul,Nat.reduceLeDiff,Nat.reduceLT,Nat.reduceBEq,reduceCtorEq]|((first|((try refine zai ?_);apply zaj)|(apply zah;intro _));(solve|exact(hnm)|(refine CallOK.le (hnm) ?_;exact zM)|fail);try case hn=>rfl)|refine zab ?_|refine zac (fun hb=> ?_) (fun hb=> ?_)|(refine And.intro ?_ ?_;exact zI)|refine And.intro (fun hg=> ?_) (fun hg=> ?_)|exact zC|fail)
     ·rw[hq,hb,if_neg (by simp)]at hF
      rw[←hF]
     ·exact hK _ (i+1) (Gh.canon [1] [] [] (by simp only[hw,zan,zaz,zao,zaq,zar,zas,List.set_cons_zero,List.set_cons_succ,and_true,true_and,Int.natCast_zero,Int.cast_ofNat_Int,D.v.injEq,Value.int.injEq];try(repeat'(first|rfl|omega|with_reducible apply And.intro))) rfl rfl) hi (by rw[zaB hi,hq,hb];rfl) (by omega)
   ·have hi:i=r.held.length:=by
     have:¬(i:Int)<r.held.length:=by simpa using hge
     omega
    rw[zbf hi]at hF
    rw[←hF]
    repeat'(first|(with_reducible first|refine zaa _ _ ?_|refine zae ?_|refine zaf ?_)|rw[zad]|simp only[zY,Int.reduceEq,Int.reduceBEq,Int.reduceBNe,Nat.reduceSub,Nat.reduceEqDiff,Nat.reduceAdd,Nat.reduceMul,Nat.reduceLeDiff,Nat.reduceLT,Nat.reduceBEq,reduceCtorEq]|refine zab ?_|refine zac (fun hb=> ?_) (fun hb=> ?_)|(refine And.intro ?_ ?_;exact zI)|refine And.intro (fun hg=> ?_) (fun hg=> ?_)|exact zC|fail)
  ·have hs:replyB r=false:=by
    unfold replyB
    rw[hB,Bool.not_true,Bool.and_false,Bool.false_and]
   rw[hs]
   repeat'(first|(with_reducible first|refine zaa _ _ ?_|refine zae ?_|refine zaf ?_)|rw[zad]|simp only[hA,hB,zY,Int.reduceEq,Int.reduceBEq,Int.reduceBNe,Nat.reduceSub,Nat.reduceEqDiff,Nat.reduceAdd,Nat.reduceMul,Nat.reduceLeDiff,Nat.reduceLT,Nat.reduceBEq,reduceCtorEq]|refine zab ?_|refine zac (fun hb=> ?_) (fun hb=> ?_)|(refine And.intro ?_ ?_;exact zI)|refine And.intro (fun hg=> ?_) (fun hg=> ?_)|exact zC|fail)
 ·have hs:replyB r=false:=by
   unfold replyB
   rw[show(decide (r.code<0)||decide (r.code>12)||decide (r.session<0)||decide (r.session>High)||decide (r.ahead<0)||decide (r.ahead>3))=true from hA]
   rfl
  rw[hs]
  repeat'(first|(with_reducible first|refine zaa _ _ ?_|refine zae ?_|refine zaf ?_)|rw[zad]|simp only[hA,zY,Int.reduceEq,Int.reduceBEq,Int.reduceBNe,Nat.reduceSub,Nat.reduceEqDiff,Nat.reduceAdd,Nat.reduceMul,Nat.reduceLeDiff,Nat.reduceLT,Nat.reduceBEq,reduceCtorEq]|refine zab ?_|refine zac (fun hb=> ?_) (fun hb=> ?_)|(refine And.intro ?_ ?_;exact zI)|refine And.intro (fun hg=> ?_) (fun hg=> ?_)|exact zC|fail)
theorem zeg (m:Memo) (hr:replyOk m.reply):CallOK Tryz.prog 80 [.f (.agg m.lent)] (fun x o=>x=[rb (answerB m)]∧o=[]):=by
 refine zak zaA mixed (T:=Ty) (n:=26) Tryz.func80 (c:=Tryz.f80.body.getD .skip) rfl Tryz.results80 Tryz.ntmps80 Tryz.call80 ?_
 simp only[Tryz.f80,Option.getD]
 repeat'(first|(with_reducible first|refine zaa _ _ ?_|refine zae ?_|refine zaf ?_)|rw[zad]|simp only[zY,Int.reduceEq,Int.reduceBEq,Int.reduceBNe,Nat.reduceSub,Nat.reduceEqDiff,Nat.reduceAdd,Nat.reduceMul,Nat.reduceLeDiff,Nat.reduceLT,Nat.reduceBEq,reduceCtorEq]|((first|((try refine zai ?_);apply zaj)|(apply zah;intro _));(solve|exact(ze9 m.reply hr)|(refine CallOK.le (ze9 m.reply hr) ?_;exact zM)|fail);try case hn=>rfl)|refine zab ?_|refine zac (fun hb=> ?_) (fun hb=> ?_)|(refine And.intro ?_ ?_;exact zI)|refine And.intro (fun hg=> ?_) (fun hg=> ?_)|exact zC|fail)
 rfl
theorem zjM (x:Memo) (c:Int):CallOK Tryz.prog 111 [.f (memoAV x), .f (ai c)] (fun r o=>r=[ri (cmpI x.client c)]∧o=[]):=by
 refine zak zaA mixed (T:=Ty) (n:=9) Tryz.func111 (c:=Tryz.f111.body.getD .skip) rfl Tryz.results111 Tryz.ntmps111 Tryz.call111 ?_
 simp only[Tryz.f111,Option.getD]
 repeat'(first|(with_reducible first|refine zaa _ _ ?_|refine zae ?_|refine zaf ?_)|rw[zad]|simp only[zY,Int.reduceEq,Int.reduceBEq,Int.reduceBNe,Nat.reduceSub,Nat.reduceEqDiff,Nat.reduceAdd,Nat.reduceMul,Nat.reduceLeDiff,Nat.reduceLT,Nat.reduceBEq,reduceCtorEq]|((first|((try refine zai ?_);apply zaj)|(apply zah;intro _));(solve|exact(zct x.client c)|(refine CallOK.le (zct x.client c) ?_;exact zM)|fail);try case hn=>rfl)|refine zab ?_|refine zac (fun hb=> ?_) (fun hb=> ?_)|(refine And.intro ?_ ?_;exact zI)|refine And.intro (fun hg=> ?_) (fun hg=> ?_)|exact zC|fail)
theorem zfa (l:List Memo) (hs:SM l) (hl:l.length<2^62) (c:Int):CallOK Tryz.prog 73 [.f (al l.length (memosE l)), .f (ai c)] (fun r o=>r=[ri (posM l c),rb (findM l c).isSome]∧o=[]):=by
 refine zak zaA mixed (T:=Ty) (n:=11) Tryz.func73 (c:=Tryz.f73.body.getD .skip) rfl Tryz.results73 Tryz.ntmps73 Tryz.call73 ?_
 simp only[Tryz.f73,Option.getD]
 have h:=zgV l hl c (fun x=>cmpI x.client c) 111 (posM l c) zbw
  (fun j hj h=>by have:=zd0 hj h;simp at this;exact zgy.2 this)
  (fun j hj h=>by have:=zd1 hj (zhZ hs c) h;simp at this;have h2:= @zgy l[j].client c;omega) (fun x _=>zjM x c)
 have e:((l[posM l c]?.map fun x=>cmpI x.client c==0).getD false)=(findM l c).isSome:=by
  rw[zgP hs,zgz]
  simp only[zhI]
 rw[e]at h
 repeat'(first|(with_reducible first|refine zaa _ _ ?_|refine zae ?_|refine zaf ?_)|rw[zad]|simp only[zY,Int.reduceEq,Int.reduceBEq,Int.reduceBNe,Nat.reduceSub,Nat.reduceEqDiff,Nat.reduceAdd,Nat.reduceMul,Nat.reduceLeDiff,Nat.reduceLT,Nat.reduceBEq,reduceCtorEq]|((first|((try refine zai ?_);apply zaj)|(apply zah;intro _));(solve|exact(h)|(refine CallOK.le (h) ?_;exact zM)|fail);try case hn=>rfl)|refine zab ?_|refine zac (fun hb=> ?_) (fun hb=> ?_)|(refine And.intro ?_ ?_;exact zI)|refine And.intro (fun hg=> ?_) (fun hg=> ?_)|exact zC|fail)
theorem zjN (l:List Memo) (hl:l.length<2^30) (hll:∀m∈l,m.reply.held.length<2^30):CallOK Tryz.prog 79 [.f (al l.length (memosE l))] (fun r o=>r=[.one (.own 6 l.length (memosE l) false)]∧o=[]):=by
 refine zak zaA mixed (T:=Ty) (n:=26) Tryz.func79 (c:=Tryz.f79.body.getD .skip) rfl Tryz.results79 Tryz.ntmps79 Tryz.call79 ?_
 simp only[Tryz.f79,Option.getD]
 have hcn:=zft l.length (memosE l) zaD (by omega)
 repeat'(first|(with_reducible first|refine zaa _ _ ?_|refine zae ?_|refine zaf ?_)|rw[zad]|simp only[zaD,zY,Int.reduceEq,Int.reduceBEq,Int.reduceBNe,Nat.reduceSub,Nat.reduceEqDiff,Nat.reduceAdd,Nat.reduceMul,Nat.reduceLeDiff,Nat.reduceLT,Nat.reduceBEq,reduceCtorEq]|((first|((try refine zai ?_);apply zaj)|(apply zah;intro _));(solve|exact(hcn)|(refine CallOK.le (hcn) ?_;exact zM)|fail);try case hn=>rfl)|refine zab ?_|refine zac (fun hb=> ?_) (fun hb=> ?_)|(refine And.intro ?_ ?_;exact zI)|refine And.intro (fun hg=> ?_) (fun hg=> ?_)|exact zC|fail)
 refine zau (τ:=Nat) (fun i=>⟨[dd,dd,dd, .one (.own ⟨3,1,1⟩ 0 l.length),dd,dd,dd,dd,ai l.length,ai i,dd,dd,dd,dd,dd,dd,dd,dd,dd,dd,dd,dd,dd,dd,dd,dd],[(6,⟨2,[]⟩),(3,{next:=2,l:=[none,some {e:=1,var:=false,fz:=false,sz:=6,cells:=(memosE l).map C.d}]}),(20,⟨2,[]⟩)]⟩)
  (fun i=>i≤l.length) (fun _=>()) (fun i=>l.length - i) 0
  (Gh.canon [3] [20] [] zK rfl rfl) (Nat.zero_le _) ?_
 intro i hi0 hF K hK
 repeat(first|with_reducible refine zaa _ _ ?_|with_reducible refine And.imp_right (zaa _ _) ?_|with_reducible refine And.imp_right (And.imp_right (zaa _ _)) ?_|with_reducible refine And.imp_right (And.imp_right (And.imp_right (zaa _ _))) ?_|rw[zad]|simp only[zB,Nat.reduceSub,Nat.reduceEqDiff,Nat.reduceAdd,Nat.reduceMul,Nat.reduceLeDiff,Nat.reduceLT,Nat.reduceBEq,reduceCtorEq])
 refine zac (fun hlt=> ?_) (fun hge=> ?_)
 ·have hi:i<l.length:=by simpa using hlt
  have hat:=za2 hi
  have hat2:(memosE l).drop (i*6+2+3)= .sl l[i].reply.held.length (grantsE l[i].reply.held)::memosE (l.drop (i+1)):=by rw[Nat.add_assoc,←List.drop_drop,hat];rfl
  have hw:=zat hi (by omega)
  have hci:=zcx l[i].reply.held.length (grantsE l[i].reply.held) zbl (by have:=hll _ (List.getElem_mem hi);omega)
  have hset:=zbr Memo.enc 6 (fun _=>rfl) hi (k:=5) (by decide) (.sl l[i].reply.held.length (grantsE l[i].reply.held)) l[i] rfl
  rw[List.set_getElem_self,show i*6+5=i*6+2+3 from rfl]at hset
  repeat'(first|(with_reducible first|refine zaa _ _ ?_|refine zae ?_|refine zaf ?_)|rw[zad]|simp only[hat2,hset,←List.map_drop,List.map_cons,zaD,zY,Int.reduceEq,Int.reduceBEq,Int.reduceBNe,Nat.reduceSub,Nat.reduceEqDiff,Nat.reduceAdd,Nat.reduceMul,Nat.reduceLeDiff,Nat.reduceLT,Nat.reduceBEq,reduceCtorEq]|((first|((try refine zai ?_);apply zaj)|(apply zah;intro _));(solve|exact(hci)|(refine CallOK.le (hci) ?_;exact zM)|fail);try case hn=>rfl)|refine zab ?_|refine zac (fun hb=> ?_) (fun hb=> ?_)|(refine And.intro ?_ ?_;exact zI)|refine And.intro (fun hg=> ?_) (fun hg=> ?_)|exact zC|fail)
  exact hK _ (i+1) (Gh.canon [3] [] [] (by simp only[hw,zan,zaz,zao,zaq,zar,zas,List.set_cons_zero,List.set_cons_succ,and_true,true_and,Int.natCast_zero,Int.cast_ofNat_Int,D.v.injEq,Value.int.injEq];try(repeat'(first|rfl|omega|with_reducible apply And.intro))) rfl rfl) hi rfl (by omega)
 ·have hi:i=l.length:=by
   have:¬(i:Int)<l.length:=by simpa using hge
   omega
  repeat'(first|(with_reducible first|refine zaa _ _ ?_|refine zae ?_|refine zaf ?_)|rw[zad]|simp only[zY,Int.reduceEq,Int.reduceBEq,Int.reduceBNe,Nat.reduceSub,Nat.reduceEqDiff,Nat.reduceAdd,Nat.reduceMul,Nat.reduceLeDiff,Nat.reduceLT,Nat.reduceBEq,reduceCtorEq]|refine zab ?_|refine zac (fun hb=> ?_) (fun hb=> ?_)|(refine And.intro ?_ ?_;exact zI)|refine And.intro (fun hg=> ?_) (fun hg=> ?_)|exact zC|fail)
theorem zi4 (l:List Memo) (hs:SM l) (hl:l.length<2^30) (c q:Int):CallOK Tryz.prog 42 [.f (al l.length (memosE l)), .f (ai c), .f (ai q)] (fun r o=>r=[ri (freshP l c q)]∧o=[]):=by
 refine zak zaA mixed (T:=Ty) (n:=35) Tryz.func42 (c:=Tryz.f42.body.getD .skip) rfl Tryz.results42 Tryz.ntmps42 Tryz.call42 ?_
 simp only[Tryz.f42,Option.getD]
 have hp:=zfa l hs (by omega) c
 cases hf:findM l c with
 |none=>
  rw[hf]at hp
  simp only[Option.isSome_none]at hp
  have hd:(memosE l).drop (posM l c*6)=[]∨∃x q,(memosE l).drop (posM l c*6)=Memo.enc x++q:=by
   rcases Nat.lt_or_ge (posM l c) l.length with h|h
   ·exact .inr ⟨_,_,za2 h⟩
   ·exact .inl (List.drop_of_length_le (by rw[zaD];omega))
  have hfr:freshP l c q=1:=by unfold freshP;rw[hf]
  rw[hfr]
  rcases hd with hat|⟨x,q,hat⟩
  ·repeat'(first|(with_reducible first|refine zaa _ _ ?_|refine zae ?_|refine zaf ?_)|rw[zad]|simp only[hat,List.drop_nil,zaD,zY,Int.reduceEq,Int.reduceBEq,Int.reduceBNe,Nat.reduceSub,Nat.reduceEqDiff,Nat.reduceAdd,Nat.reduceMul,Nat.reduceLeDiff,Nat.reduceLT,Nat.reduceBEq,reduceCtorEq]|((first|((try refine zai ?_);apply zaj)|(apply zah;intro _));(solve|exact(hp)|(refine CallOK.le (hp) ?_;exact zM)|fail);try case hn=>rfl)|refine zab ?_|refine zac (fun hb=> ?_) (fun hb=> ?_)|(refine And.intro ?_ ?_;exact zI)|refine And.intro (fun hg=> ?_) (fun hg=> ?_)|exact zC|fail)
  ·repeat'(first|(with_reducible first|refine zaa _ _ ?_|refine zae ?_|refine zaf ?_)|rw[zad]|simp only[hat,List.cons_append,List.nil_append,zaD,zY,Int.reduceEq,Int.reduceBEq,Int.reduceBNe,Nat.reduceSub,Nat.reduceEqDiff,Nat.reduceAdd,Nat.reduceMul,Nat.reduceLeDiff,Nat.reduceLT,Nat.reduceBEq,reduceCtorEq]|((first|((try refine zai ?_);apply zaj)|(apply zah;intro _));(solve|exact(hp)|(refine CallOK.le (hp) ?_;exact zM)|fail);try case hn=>rfl)|refine zab ?_|refine zac (fun hb=> ?_) (fun hb=> ?_)|(refine And.intro ?_ ?_;exact zI)|refine And.intro (fun hg=> ?_) (fun hg=> ?_)|exact zC|fail)
 |some x=>
  rw[hf]at hp
  simp only[Option.isSome_some]at hp
  obtain⟨⟨hi,he⟩,hc⟩:=zen hs hf
  have hat:=za2 hi
  rw[he]at hat
  have hfr:freshP l c q=if x.seq<q then 1 else if x.seq=q then 0 else -1:=by unfold freshP;rw[hf]
  rw[hfr]
  repeat'(first|(with_reducible first|refine zaa _ _ ?_|refine zae ?_|refine zaf ?_)|rw[zad]|simp only[hat,List.cons_append,List.nil_append,zaD,zY,Int.reduceEq,Int.reduceBEq,Int.reduceBNe,Nat.reduceSub,Nat.reduceEqDiff,Nat.reduceAdd,Nat.reduceMul,Nat.reduceLeDiff,Nat.reduceLT,Nat.reduceBEq,reduceCtorEq]|((first|((try refine zai ?_);apply zaj)|(apply zah;intro _));(solve|exact(hp)|(refine CallOK.le (hp) ?_;exact zM)|fail);try case hn=>rfl)|refine zab ?_|refine zac (fun hb=> ?_) (fun hb=> ?_)|(refine And.intro ?_ ?_;exact zI)|refine And.intro (fun hg=> ?_) (fun hg=> ?_)|exact zC|fail)
  ·rw[if_pos (by simpa using hb)]
  ·rename_i h1
   rw[if_neg (by simpa using h1),if_pos (by simpa using hb)]
  ·rename_i h1
   rw[if_neg (by simpa using h1),if_neg (by simpa using hb)]
def noMemo:Memo:=⟨0,0,⟨0,0,0,[]⟩⟩
theorem znT (l:List Memo) (hs:SM l) (hl:l.length<2^30) (hll:∀m∈l,m.reply.held.length<2^30) (c:Int):CallOK Tryz.prog 43 [.f (al l.length (memosE l)), .f (ai c)]
  (fun r o=>r=[.agg [.d (iD ((findM l c).getD noMemo).client), .d (iD ((findM l c).getD noMemo).seq), .d (iD ((findM l c).getD noMemo).reply.code), .d (iD ((findM l c).getD noMemo).reply.session), .d (iD ((findM l c).getD noMemo).reply.ahead), .own 2 ((findM l c).getD noMemo).reply.held.length (grantsE ((findM l c).getD noMemo).reply.held) false],rb (findM l c).isSome]∧o=[]):=by
 refine CallOK.nil ?_
 refine zak zaA mixed (T:=Ty) (n:=29) Tryz.func43 (c:=Tryz.f43.body.getD .skip) rfl Tryz.results43 Tryz.ntmps43 Tryz.call43 ?_
 simp only[Tryz.f43,Option.getD]
 have hp:=zfa l hs (by omega) c
 cases hf:findM l c with
 |none=>
  rw[hf]at hp
  simp only[Option.isSome_none]at hp
  repeat'(first|(with_reducible first|refine zaa _ _ ?_|refine zae ?_|refine zaf ?_)|rw[zad]|simp only[zaD,zY,Int.reduceEq,Int.reduceBEq,Int.reduceBNe,Nat.reduceSub,Nat.reduceEqDiff,Nat.reduceAdd,Nat.reduceMul,Nat.reduceLeDiff,Nat.reduceLT,Nat.reduceBEq,reduceCtorEq]|((first|((try refine zai ?_);apply zaj)|(apply zah;intro _));(solve|exact(hp)|(refine CallOK.le (hp) ?_;exact zM)|fail);try case hn=>rfl)|refine zab ?_|refine zac (fun hb=> ?_) (fun hb=> ?_)|(refine And.intro ?_ ?_;exact zI)|refine And.intro (fun hg=> ?_) (fun hg=> ?_)|exact zC|fail)
  simp[rfsLe,rfLe,rosLe,roLe,noMemo]
 |some x=>
  rw[hf]at hp
  simp only[Option.isSome_some]at hp
  obtain⟨⟨hi,he⟩,hc⟩:=zen hs hf
  have hat:=za2 hi
  rw[he]at hat
  have hci:=zcx x.reply.held.length (grantsE x.reply.held) zbl (by have:=hll x (he▸List.getElem_mem hi);omega)
  repeat'(first|(with_reducible first|refine zaa _ _ ?_|refine zae ?_|refine zaf ?_)|rw[zad]|simp only[hat,List.cons_append,List.nil_append,zaD,zY,Int.reduceEq,Int.reduceBEq,Int.reduceBNe,Nat.reduceSub,Nat.reduceEqDiff,Nat.reduceAdd,Nat.reduceMul,Nat.reduceLeDiff,Nat.reduceLT,Nat.reduceBEq,reduceCtorEq]|((first|((try refine zai ?_);apply zaj)|(apply zah;intro _));(solve|exact(hp)|exact(hci)|(refine CallOK.le (hp) ?_;exact zM)|(refine CallOK.le (hci) ?_;exact zM)|fail);try case hn=>rfl)|refine zab ?_|refine zac (fun hb=> ?_) (fun hb=> ?_)|(refine And.intro ?_ ?_;exact zI)|refine And.intro (fun hg=> ?_) (fun hg=> ?_)|exact zC|fail)
  simp[rfsLe,rfLe,rosLe,roLe]
set_option maxHeartbeats 2000000 in
theorem znU (l:List Memo) (hs:SM l) (hl:l.length<2^30) (hll:∀m∈l,m.reply.held.length<2^30) (a:Memo) (ha:replyOk a.reply):CallOK Tryz.prog 45 [.f (al l.length (memosE l)), .f (.agg a.lent)]
  (fun r o=>r=[.one (.own 6 (keepP l a).length (memosE (keepP l a)) false)]∧o=[]):=by
 refine zak zaA mixed (T:=Ty) (n:=55) Tryz.func45 (c:=Tryz.f45.body.getD .skip) rfl Tryz.results45 Tryz.ntmps45 Tryz.call45 ?_
 simp only[Tryz.f45,Option.getD]
 have hcp:=zjN l hl hll
 have hma:=zeg a ha
 have hfr:=zi4 l hs hl a.client a.seq
 have hp:=zfa l hs (by omega) a.client
 have hci:=zcx a.reply.held.length (grantsE a.reply.held) zbl (by have:=ha.1;omega)
 cases hA:answerB a
 ·have hk:keepP l a=l:=by unfold keepP;rw[hA];rfl
  rw[hk]
  rw[hA]at hma
  repeat'(first|(with_reducible first|refine zaa _ _ ?_|refine zae ?_|refine zaf ?_)|rw[zad]|simp only[zaD,zY,Int.reduceEq,Int.reduceBEq,Int.reduceBNe,Nat.reduceSub,Nat.reduceEqDiff,Nat.reduceAdd,Nat.reduceMul,Nat.reduceLeDiff,Nat.reduceLT,Nat.reduceBEq,reduceCtorEq]|((first|((try refine zai ?_);apply zaj)|(apply zah;intro _));(solve|exact(hcp)|exact(hma)|exact(hfr)|(refine CallOK.le (hcp) ?_;exact zM)|(refine CallOK.le (hma) ?_;exact zM)|(refine CallOK.le (hfr) ?_;exact zM)|fail);try case hn=>rfl)|refine zab ?_|refine zac (fun hb=> ?_) (fun hb=> ?_)|(refine And.intro ?_ ?_;exact zI)|refine And.intro (fun hg=> ?_) (fun hg=> ?_)|exact zC|fail)
 ·rw[hA]at hma
  cases hB:freshP l a.client a.seq !=1
  ·have hk:keepP l a=if(findM l a.client).isSome=true then l.set (posM l a.client) a else l.take (posM l a.client)++a::l.drop (posM l a.client):=by unfold keepP;rw[hA,hB];rfl
   rw[hk]
   cases hf:(findM l a.client).isSome
   ·rw[hf]at hp
    rw[if_neg (by simp)]
    have hin:=zjt l.length (posM l a.client) (memosE l) a.enc zaD rfl zbw hl
    have hti:=zh1 Memo.enc 6 (fun _=>rfl) (l:=l) (k:=posM l a.client) zbw a
    have htl:=zf4 (l:=l) (k:=posM l a.client) zbw a
    simp only[htl,hti]
    repeat'(first|(with_reducible first|refine zaa _ _ ?_|refine zae ?_|refine zaf ?_)|rw[zad]|simp only[zaD,hB,zY,Int.reduceEq,Int.reduceBEq,Int.reduceBNe,Nat.reduceSub,Nat.reduceEqDiff,Nat.reduceAdd,Nat.reduceMul,Nat.reduceLeDiff,Nat.reduceLT,Nat.reduceBEq,reduceCtorEq]|((first|((try refine zai ?_);apply zaj)|(apply zah;intro _));(solve|exact(hcp)|exact(hma)|exact(hfr)|exact(hci)|exact(hp)|(refine CallOK.le (hcp) ?_;exact zM)|(refine CallOK.le (hma) ?_;exact zM)|(refine CallOK.le (hfr) ?_;exact zM)|(refine CallOK.le (hci) ?_;exact zM)|(refine CallOK.le (hp) ?_;exact zM)|fail);try case hn=>rfl)|refine zab ?_|refine zac (fun hb=> ?_) (fun hb=> ?_)|(refine And.intro ?_ ?_;exact zI)|refine And.intro (fun hg=> ?_) (fun hg=> ?_)|exact zC|fail)
    refine zbi (mv:= ?mv1) (lent:= ?le1) 0 ?ha1 (hin) ?hb1 ?hc1
    case ha1=>(try simp only[zB,zaF,Nat.reduceSub,Nat.reduceEqDiff,Nat.reduceAdd,Nat.reduceMul,Nat.reduceLeDiff,Nat.reduceLT,Nat.reduceBEq,reduceCtorEq]);exact rfl
    case hb1=>(try simp only[zB,scM,Nat.reduceSub,Nat.reduceEqDiff,Nat.reduceAdd,Nat.reduceMul,Nat.reduceLeDiff,Nat.reduceLT,Nat.reduceBEq,reduceCtorEq]);repeat'(first|rfl|trivial|omega|with_reducible refine And.intro ?_ ?_)
    show aops _ _ _ _ _ _ _ _
    repeat'(first|(with_reducible first|refine zaa _ _ ?_|refine zae ?_|refine zaf ?_)|rw[zad]|simp only[zY,Int.reduceEq,Int.reduceBEq,Int.reduceBNe,Nat.reduceSub,Nat.reduceEqDiff,Nat.reduceAdd,Nat.reduceMul,Nat.reduceLeDiff,Nat.reduceLT,Nat.reduceBEq,reduceCtorEq]|refine zab ?_|refine zac (fun hb=> ?_) (fun hb=> ?_)|(refine And.intro ?_ ?_;exact zI)|refine And.intro (fun hg=> ?_) (fun hg=> ?_)|exact zC|fail)
   ·rw[hf]at hp
    rw[if_pos rfl]
    obtain⟨x,hx⟩:=Option.isSome_iff_exists.1 hf
    obtain⟨⟨hi,he⟩,hc⟩:=zen hs hx
    have hset:=zcX Memo.enc 6 (fun _=>rfl) hi a
    simp only[fillAt,List.map_cons,List.map_nil]at hset
    repeat'(first|(with_reducible first|refine zaa _ _ ?_|refine zae ?_|refine zaf ?_)|rw[zad]|simp only[zaD,hB,hset,zY,Int.reduceEq,Int.reduceBEq,Int.reduceBNe,Nat.reduceSub,Nat.reduceEqDiff,Nat.reduceAdd,Nat.reduceMul,Nat.reduceLeDiff,Nat.reduceLT,Nat.reduceBEq,reduceCtorEq]|((first|((try refine zai ?_);apply zaj)|(apply zah;intro _));(solve|exact(hcp)|exact(hma)|exact(hfr)|exact(hci)|exact(hp)|(refine CallOK.le (hcp) ?_;exact zM)|(refine CallOK.le (hma) ?_;exact zM)|(refine CallOK.le (hfr) ?_;exact zM)|(refine CallOK.le (hci) ?_;exact zM)|(refine CallOK.le (hp) ?_;exact zM)|fail);try case hn=>rfl)|refine zab ?_|refine zac (fun hb=> ?_) (fun hb=> ?_)|(refine And.intro ?_ ?_;exact zI)|refine And.intro (fun hg=> ?_) (fun hg=> ?_)|exact zC|fail)
    rw[List.length_set]
  ·have hk:keepP l a=l:=by unfold keepP;rw[hB,Bool.or_true];rfl
   rw[hk]
   repeat'(first|(with_reducible first|refine zaa _ _ ?_|refine zae ?_|refine zaf ?_)|rw[zad]|simp only[zaD,hB,zY,Int.reduceEq,Int.reduceBEq,Int.reduceBNe,Nat.reduceSub,Nat.reduceEqDiff,Nat.reduceAdd,Nat.reduceMul,Nat.reduceLeDiff,Nat.reduceLT,Nat.reduceBEq,reduceCtorEq]|((first|((try refine zai ?_);apply zaj)|(apply zah;intro _));(solve|exact(hcp)|exact(hma)|exact(hfr)|(refine CallOK.le (hcp) ?_;exact zM)|(refine CallOK.le (hma) ?_;exact zM)|(refine CallOK.le (hfr) ?_;exact zM)|fail);try case hn=>rfl)|refine zab ?_|refine zac (fun hb=> ?_) (fun hb=> ?_)|(refine And.intro ?_ ?_;exact zI)|refine And.intro (fun hg=> ?_) (fun hg=> ?_)|exact zC|fail)
theorem zhD (l:List Memo) (hl:l.length<2^30) (hll:∀m∈l,replyOk m.reply):CallOK Tryz.prog 53 [.f (al l.length (memosE l))] (fun r o=>r=[rb (memoB l)]∧o=[]):=by
 refine zak zaA mixed (T:=Ty) (n:=37) Tryz.func53 (c:=Tryz.f53.body.getD .skip) rfl Tryz.results53 Tryz.ntmps53 Tryz.call53 ?_
 simp only[Tryz.f53,Option.getD]
 repeat'(first|(with_reducible first|refine zaa _ _ ?_|refine zae ?_|refine zaf ?_)|rw[zad]|simp only[zaD,zY,Int.reduceEq,Int.reduceBEq,Int.reduceBNe,Nat.reduceSub,Nat.reduceEqDiff,Nat.reduceAdd,Nat.reduceMul,Nat.reduceLeDiff,Nat.reduceLT,Nat.reduceBEq,reduceCtorEq]|refine zab ?_|refine zac (fun hb=> ?_) (fun hb=> ?_)|(refine And.intro ?_ ?_;exact zI)|refine And.intro (fun hg=> ?_) (fun hg=> ?_)|exact zC|fail)
 refine zau (τ:=Nat) (fun i=>⟨[al l.length (memosE l),dd,dd,dd,dd,al l.length (memosE l),ai l.length,ai i,dd,dd,dd,dd,dd,dd,dd,dd,dd,dd,dd,dd,dd,dd,dd,dd,dd,dd,dd,dd,dd,dd,dd,dd,dd,dd,dd,dd,dd],[(4,⟨2,[]⟩)]⟩)
  (fun i=>i≤l.length) (fun i=>checkP (memoQ l) i (l.drop i)) (fun i=>l.length - i) 0
  (Gh.canon [] [4] [] zK rfl rfl) (Nat.zero_le _) ?_
 intro i hi0 hF K hK
 rw[List.drop_zero]at hF
 repeat(first|with_reducible refine zaa _ _ ?_|with_reducible refine And.imp_right (zaa _ _) ?_|with_reducible refine And.imp_right (And.imp_right (zaa _ _)) ?_|with_reducible refine And.imp_right (And.imp_right (And.imp_right (zaa _ _))) ?_|rw[zad]|simp only[zB,Nat.reduceSub,Nat.reduceEqDiff,Nat.reduceAdd,Nat.reduceMul,Nat.reduceLeDiff,Nat.reduceLT,Nat.reduceBEq,reduceCtorEq])
 refine zac (fun hlt=> ?_) (fun hge=> ?_)
 ·have hi:i<l.length:=by simpa using hlt
  have hat:=za2 hi
  have hw:=zat hi (by omega)
  rw[zaB hi]at hF
  have hma:=zeg l[i] (hll _ (List.getElem_mem hi))
  cases e0:decide ((i:Int)>0)
  ·have h0:i=0:=by simpa using e0
   have hq:memoQ l i l[i]= !(!answerB l[i]):=by
    unfold memoQ
    have:decide (i>0)=false:=by simpa using e0
    rw[this,Bool.false_and,Bool.or_false]
   have hp:(memosE l).drop ((IntKind.i64.wrap ((i:Int) - 1)).toNat*6)=l[i].enc++memosE (l.drop (i+1)):=by
    rw[←za2 hi,h0];rfl
   repeat'(first|(with_reducible first|refine zaa _ _ ?_|refine zae ?_|refine zaf ?_)|rw[zad]|simp only[hat,hp,e0,List.cons_append,List.nil_append,zaD,zY,Int.reduceEq,Int.reduceBEq,Int.reduceBNe,Nat.reduceSub,Nat.reduceEqDiff,Nat.reduceAdd,Nat.reduceMul,Nat.reduceLeDiff,Nat.reduceLT,Nat.reduceBEq,reduceCtorEq]|((first|((try refine zai ?_);apply zaj)|(apply zah;intro _));(solve|exact(hma)|(refine CallOK.le (hma) ?_;exact zM)|fail);try case hn=>rfl)|refine zab ?_|refine zac (fun hb=> ?_) (fun hb=> ?_)|(refine And.intro ?_ ?_;exact zI)|refine And.intro (fun hg=> ?_) (fun hg=> ?_)|exact zC|fail)
   ·rw[hq,hb,if_neg (by simp)]at hF
    unfold memoB
    rw[←hF]
   ·exact hK _ (i+1) (Gh.canon [] [] [] (by simp only[hw,zan,zaz,zao,zaq,zar,zas,List.set_cons_zero,List.set_cons_succ,and_true,true_and,Int.natCast_zero,Int.cast_ofNat_Int,D.v.injEq,Value.int.injEq];try(repeat'(first|rfl|omega|with_reducible apply And.intro))) rfl rfl) hi (by rw[zaB hi,hq,hb];rfl) (by omega)
  ·have h0:0<i:=by simpa using e0
   have hq:memoQ l i l[i]= !(!answerB l[i]||decide ((l[i - 1]'(by omega)).client≥l[i].client)):=by
    unfold memoQ prevM
    have:decide (i>0)=true:=by simpa using e0
    rw[this,List.getElem?_eq_getElem (by omega)]
    simp only[Bool.true_and,Option.map_some,Option.getD_some]
   have hp:=za2 (show i - 1<l.length by omega)
   have hw1:IntKind.i64.wrap ((i:Int) - 1)=((i - 1:Nat):Int):=by rw[wrap64 (by omega) (by omega)];omega
   repeat'(first|(with_reducible first|refine zaa _ _ ?_|refine zae ?_|refine zaf ?_)|rw[zad]|simp only[hat,hp,hw1,e0,List.cons_append,List.nil_append,zaD,zY,Int.reduceEq,Int.reduceBEq,Int.reduceBNe,Nat.reduceSub,Nat.reduceEqDiff,Nat.reduceAdd,Nat.reduceMul,Nat.reduceLeDiff,Nat.reduceLT,Nat.reduceBEq,reduceCtorEq]|((first|((try refine zai ?_);apply zaj)|(apply zah;intro _));(solve|exact(hma)|(refine CallOK.le (hma) ?_;exact zM)|fail);try case hn=>rfl)|refine zab ?_|refine zac (fun hb=> ?_) (fun hb=> ?_)|(refine And.intro ?_ ?_;exact zI)|refine And.intro (fun hg=> ?_) (fun hg=> ?_)|exact zC|fail)
   ·rw[hq,hb,if_neg (by simp)]at hF
    unfold memoB
    rw[←hF]
   ·exact hK _ (i+1) (Gh.canon [] [] [] (by simp only[hw,zan,zaz,zao,zaq,zar,zas,List.set_cons_zero,List.set_cons_succ,and_true,true_and,Int.natCast_zero,Int.cast_ofNat_Int,D.v.injEq,Value.int.injEq];try(repeat'(first|rfl|omega|with_reducible apply And.intro))) rfl rfl) hi (by rw[zaB hi,hq,hb];rfl) (by omega)
 ·have hi:i=l.length:=by
   have:¬(i:Int)<l.length:=by simpa using hge
   omega
  rw[zbf hi]at hF
  unfold memoB
  rw[←hF]
  repeat'(first|(with_reducible first|refine zaa _ _ ?_|refine zae ?_|refine zaf ?_)|rw[zad]|simp only[zY,Int.reduceEq,Int.reduceBEq,Int.reduceBNe,Nat.reduceSub,Nat.reduceEqDiff,Nat.reduceAdd,Nat.reduceMul,Nat.reduceLeDiff,Nat.reduceLT,Nat.reduceBEq,reduceCtorEq]|refine zab ?_|refine zac (fun hb=> ?_) (fun hb=> ?_)|(refine And.intro ?_ ?_;exact zI)|refine And.intro (fun hg=> ?_) (fun hg=> ?_)|exact zC|fail)
end Go.Proofs.YtniafckaafcpbaaGreat
