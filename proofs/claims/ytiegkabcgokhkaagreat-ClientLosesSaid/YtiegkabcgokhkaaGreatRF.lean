import Derived.Test.YtiegkabcgokhkaaGreatRE
namespace Go.Proofs.YtiegkabcgokhkaaGreat
open Go.Pk
set_option maxRecDepth 100000
set_option linter.unusedSimpArgs false
set_option linter.unusedVariables false
abbrev bLess (a b:ByteArray):Bool:=Go.Op.bytesLess a.toList b.toList
def checkP {α:Type} (q:Nat→α→Bool):Nat→List α→Bool
 |_,[]=>true
 |i,x::r=>if q i x=true then checkP q (i+1) r else false
theorem zde {α:Type} {q:Nat→α→Bool} {l:List α} {i:Nat} (h:i<l.length):checkP q i (l.drop i)=if q i l[i]=true then checkP q (i+1) (l.drop (i+1))else false:=by
 rw[List.drop_eq_getElem_cons h,checkP]
theorem zi0 {α:Type} {q:Nat→α→Bool} {l:List α} {i:Nat} (h:i=l.length):checkP q i (l.drop i)=true:=by
 rw[h,List.drop_length,checkP]
def prevG (l:List Grant) (i:Nat):ByteArray:=(l[i - 1]?.map Grant.name).getD .empty
def grantQ (l:List Grant) (i:Nat) (g:Grant):Bool:= !(!nameP g.name||decide (g.token<1)||decide (g.token>High)||(decide (i>0)&& !(bLess (prevG l i) g.name)))
def replyB (r:Reply):Bool:=
 !(decide (r.code<0)||decide (r.code>12)||decide (r.session<0)||decide (r.session>High)||decide (r.ahead<0)||decide (r.ahead>3))&&
 !(decide ((r.held.length:Int)>4)||((r.session==0)&&decide ((r.held.length:Int)>0)))&&checkP (grantQ r.held) 0 r.held
def answerB (m:Memo):Bool:=decide (m.client≥0)&&decide (m.client<8)&&decide (m.seq≥1)&&decide (m.seq≤High)&&replyB m.reply
def replyOk (r:Reply):Prop:=r.held.length<2^30∧∀g∈r.held,g.name.size<2^62
theorem zch (r:Reply) (hr:replyOk r):CallOK Tryz.prog 133 [.f (.agg r.lent)] (fun x o=>x=[rb (replyB r)]∧o=[]):=by
 refine zal zat mixed (T:=Ty) (n:=87) Tryz.func133 (c:=Tryz.f133.body.getD .skip) rfl Tryz.results133 Tryz.ntmps133 Tryz.call133 ?_
 simp only[Tryz.f133,Option.getD]
 obtain⟨h1,h2⟩:=hr
 cases hA:(decide (r.code<0)||decide (r.code>12)||decide (r.session<0)||decide (r.session>2305843009213693952)||decide (r.ahead<0)||decide (r.ahead>3))
 ·cases hB:(decide ((r.held.length:Int)>4)||(r.session==0)&&decide ((r.held.length:Int)>0))
  ·have hs:replyB r=checkP (grantQ r.held) 0 r.held:=by
    unfold replyB
    rw[show(decide (r.code<0)||decide (r.code>12)||decide (r.session<0)||decide (r.session>High)||decide (r.ahead<0)||decide (r.ahead>3))=false from hA,hB]
    rfl
   rw[hs]
   repeat'(first|(with_reducible first|refine zaa _ _ ?_|refine zad ?_|refine zae ?_)|rw[zaf]|simp only[hA,hB,zY,Int.reduceEq,Int.reduceBEq,Int.reduceBNe,Nat.reduceSub,Nat.reduceEqDiff,Nat.reduceAdd,Nat.reduceMul,Nat.reduceLeDiff,Nat.reduceLT,Nat.reduceBEq,reduceCtorEq]|refine zab ?_|refine zac (fun hb=> ?_) (fun hb=> ?_)|(refine And.intro ?_ ?_;exact zI)|refine And.intro (fun hg=> ?_) (fun hg=> ?_)|exact zC|fail)
   refine zaV (τ:=Nat) (fun i=>⟨[dd, .one (.ptr ⟨1,0,1⟩ 0),dd,dd,dd,dd,dd,dd,dd,dd,dd,dd,dd,dd,dd,dd,dd,dd,dd,dd,dd,dd,dd,dd,dd,dd,dd,dd,dd,dd,dd,dd,dd,dd,dd,dd,dd,dd,dd,dd,dd,dd,dd,dd,dd,dd,dd,dd,dd,al r.held.length (grantsE r.held),ai r.held.length,ai i,dd,dd,dd,dd,dd,dd,dd,dd,dd,dd,dd,dd,dd,dd,dd,dd,dd,dd,dd,dd,dd,dd,dd,dd,dd,dd,dd,dd,dd,dd,dd,dd,dd,dd,dd],[(1,{next:=2,l:=[some {e:=1,var:=true,fz:=false,sz:=0,cells:=[di r.code,di r.session,di r.ahead, .lent r.held.length (grantsE r.held)]},none,none,none,none]}),(4,⟨2,[]⟩)]⟩)
    (fun i=>i≤r.held.length) (fun i=>checkP (grantQ r.held) i (r.held.drop i)) (fun i=>r.held.length - i) 0
    (Gh.canon [1] [4] [] zK rfl rfl) (Nat.zero_le _) ?_
   intro i hi0 hF K hK
   rw[List.drop_zero]at hF
   repeat(first|with_reducible refine zaa _ _ ?_|with_reducible refine And.imp_right (zaa _ _) ?_|with_reducible refine And.imp_right (And.imp_right (zaa _ _)) ?_|with_reducible refine And.imp_right (And.imp_right (And.imp_right (zaa _ _))) ?_|rw[zaf]|simp only[zB,Nat.reduceSub,Nat.reduceEqDiff,Nat.reduceAdd,Nat.reduceMul,Nat.reduceLeDiff,Nat.reduceLT,Nat.reduceBEq,reduceCtorEq])
   refine zac (fun hlt=> ?_) (fun hge=> ?_)
   ·have hi:i<r.held.length:=by simpa using hlt
    have hat:=zaP hi
    have hw:=za3 hi (by omega)
    rw[zde hi]at hF
    have hnm:=zge r.held[i].name (h2 _ (List.getElem_mem hi))
    cases e0:decide ((i:Int)>0)
    ·have h0:i=0:=by simpa using e0
     have hq:grantQ r.held i r.held[i]= !(!nameP r.held[i].name||decide (r.held[i].token<1)||decide (r.held[i].token>2305843009213693952)):=by
      unfold grantQ
      have:decide (i>0)=false:=by simpa using e0
      rw[this,Bool.false_and,Bool.or_false]
     have hp:(grantsE r.held).drop ((IntKind.i64.wrap ((i:Int) - 1)).toNat*2)=r.held[i].enc++grantsE (r.held.drop (i+1)):=by
      rw[←zaP hi,h0];rfl
     repeat'(first|(with_reducible first|refine zaa _ _ ?_|refine zad ?_|refine zae ?_)|rw[zaf]|simp only[hat,hp,e0,List.cons_append,List.nil_append,zaD,zY,Int.reduceEq,Int.reduceBEq,Int.reduceBNe,Nat.reduceSub,Nat.reduceEqDiff,Nat.reduceAdd,Nat.reduceMul,Nat.reduceLeDiff,Nat.reduceLT,Nat.reduceBEq,reduceCtorEq]|((first|((try refine zah ?_);apply zak)|(apply zai;intro _));(solve|exact(hnm)|(refine CallOK.le (hnm) ?_;exact zM)|fail);try case hn=>rfl)|refine zab ?_|refine zac (fun hb=> ?_) (fun hb=> ?_)|(refine And.intro ?_ ?_;exact zI)|refine And.intro (fun hg=> ?_) (fun hg=> ?_)|exact zC|fail)
     ·rw[hq,hb,if_neg (by simp)]at hF
      rw[←hF]
     ·exact hK _ (i+1) (Gh.canon [1] [] [] (by simp only[hw,zaq,zaE,zar,zaw,zax,zay,List.set_cons_zero,List.set_cons_succ,and_true,true_and,Int.natCast_zero,Int.cast_ofNat_Int,D.v.injEq,Value.int.injEq];try(repeat'(first|rfl|omega|with_reducible apply And.intro))) rfl rfl) hi (by rw[zde hi,hq,hb];rfl) (by omega)
    ·have h0:0<i:=by simpa using e0
     have hq:grantQ r.held i r.held[i]= !(!nameP r.held[i].name||decide (r.held[i].token<1)||decide (r.held[i].token>2305843009213693952)|| !(bLess (r.held[i - 1]'(by omega)).name r.held[i].name)):=by
      unfold grantQ prevG
      have:decide (i>0)=true:=by simpa using e0
      rw[this,List.getElem?_eq_getElem (by omega)]
      simp only[Bool.true_and,Option.map_some,Option.getD_some]
     have hp:=zaP (show i - 1<r.held.length by omega)
     have hw1:IntKind.i64.wrap ((i:Int) - 1)=((i - 1:Nat):Int):=by rw[wrap64 (by omega) (by omega)];omega
     repeat'(first|(with_reducible first|refine zaa _ _ ?_|refine zad ?_|refine zae ?_)|rw[zaf]|simp only[hat,hp,hw1,e0,List.cons_append,List.nil_append,zaD,zY,Int.reduceEq,Int.reduceBEq,Int.reduceBNe,Nat.reduceSub,Nat.reduceEqDiff,Nat.reduceAdd,Nat.reduceMul,Nat.reduceLeDiff,Nat.reduceLT,Nat.reduceBEq,reduceCtorEq]|((first|((try refine zah ?_);apply zak)|(apply zai;intro _));(solve|exact(hnm)|(refine CallOK.le (hnm) ?_;exact zM)|fail);try case hn=>rfl)|refine zab ?_|refine zac (fun hb=> ?_) (fun hb=> ?_)|(refine And.intro ?_ ?_;exact zI)|refine And.intro (fun hg=> ?_) (fun hg=> ?_)|exact zC|fail)
     ·rw[hq,hb,if_neg (by simp)]at hF
      rw[←hF]
     ·exact hK _ (i+1) (Gh.canon [1] [] [] (by simp only[hw,zaq,zaE,zar,zaw,zax,zay,List.set_cons_zero,List.set_cons_succ,and_true,true_and,Int.natCast_zero,Int.cast_ofNat_Int,D.v.injEq,Value.int.injEq];try(repeat'(first|rfl|omega|with_reducible apply And.intro))) rfl rfl) hi (by rw[zde hi,hq,hb];rfl) (by omega)
   ·have hi:i=r.held.length:=by
     have:¬(i:Int)<r.held.length:=by simpa using hge
     omega
    rw[zi0 hi]at hF
    rw[←hF]
    repeat'(first|(with_reducible first|refine zaa _ _ ?_|refine zad ?_|refine zae ?_)|rw[zaf]|simp only[zY,Int.reduceEq,Int.reduceBEq,Int.reduceBNe,Nat.reduceSub,Nat.reduceEqDiff,Nat.reduceAdd,Nat.reduceMul,Nat.reduceLeDiff,Nat.reduceLT,Nat.reduceBEq,reduceCtorEq]|refine zab ?_|refine zac (fun hb=> ?_) (fun hb=> ?_)|(refine And.intro ?_ ?_;exact zI)|refine And.intro (fun hg=> ?_) (fun hg=> ?_)|exact zC|fail)
  ·have hs:replyB r=false:=by
    unfold replyB
    rw[hB,Bool.not_true,Bool.and_false,Bool.false_and]
   rw[hs]
   repeat'(first|(with_reducible first|refine zaa _ _ ?_|refine zad ?_|refine zae ?_)|rw[zaf]|simp only[hA,hB,zY,Int.reduceEq,Int.reduceBEq,Int.reduceBNe,Nat.reduceSub,Nat.reduceEqDiff,Nat.reduceAdd,Nat.reduceMul,Nat.reduceLeDiff,Nat.reduceLT,Nat.reduceBEq,reduceCtorEq]|refine zab ?_|refine zac (fun hb=> ?_) (fun hb=> ?_)|(refine And.intro ?_ ?_;exact zI)|refine And.intro (fun hg=> ?_) (fun hg=> ?_)|exact zC|fail)
 ·have hs:replyB r=false:=by
   unfold replyB
   rw[show(decide (r.code<0)||decide (r.code>12)||decide (r.session<0)||decide (r.session>High)||decide (r.ahead<0)||decide (r.ahead>3))=true from hA]
   rfl
  rw[hs]
  repeat'(first|(with_reducible first|refine zaa _ _ ?_|refine zad ?_|refine zae ?_)|rw[zaf]|simp only[hA,zY,Int.reduceEq,Int.reduceBEq,Int.reduceBNe,Nat.reduceSub,Nat.reduceEqDiff,Nat.reduceAdd,Nat.reduceMul,Nat.reduceLeDiff,Nat.reduceLT,Nat.reduceBEq,reduceCtorEq]|refine zab ?_|refine zac (fun hb=> ?_) (fun hb=> ?_)|(refine And.intro ?_ ?_;exact zI)|refine And.intro (fun hg=> ?_) (fun hg=> ?_)|exact zC|fail)
theorem zcE (m:Memo) (hr:replyOk m.reply):CallOK Tryz.prog 92 [.f (.agg m.lent)] (fun x o=>x=[rb (answerB m)]∧o=[]):=by
 refine zal zat mixed (T:=Ty) (n:=26) Tryz.func92 (c:=Tryz.f92.body.getD .skip) rfl Tryz.results92 Tryz.ntmps92 Tryz.call92 ?_
 simp only[Tryz.f92,Option.getD]
 repeat'(first|(with_reducible first|refine zaa _ _ ?_|refine zad ?_|refine zae ?_)|rw[zaf]|simp only[zY,Int.reduceEq,Int.reduceBEq,Int.reduceBNe,Nat.reduceSub,Nat.reduceEqDiff,Nat.reduceAdd,Nat.reduceMul,Nat.reduceLeDiff,Nat.reduceLT,Nat.reduceBEq,reduceCtorEq]|((first|((try refine zah ?_);apply zak)|(apply zai;intro _));(solve|exact(zch m.reply hr)|(refine CallOK.le (zch m.reply hr) ?_;exact zM)|fail);try case hn=>rfl)|refine zab ?_|refine zac (fun hb=> ?_) (fun hb=> ?_)|(refine And.intro ?_ ?_;exact zI)|refine And.intro (fun hg=> ?_) (fun hg=> ?_)|exact zC|fail)
 rfl
def dGrants (bs:List Int):Nat→Int→List Grant→List Grant×Int×Int
 |0,p,acc=>(acc,p,0)
 |k+1,p,acc=>
  if(dText bs p 12).2.2≠0 then([],0,(dText bs p 12).2.2)else
  if(dNum bs (dText bs p 12).2.1).2.2≠0 then([],0,(dNum bs (dText bs p 12).2.1).2.2)else
  dGrants bs k (dNum bs (dText bs p 12).2.1).2.1 (acc++[⟨(dText bs p 12).1,(dNum bs (dText bs p 12).2.1).1⟩])
abbrev rowGr (l:List Grant):RF:= .one (.own 2 l.length (grantsE l) false)
theorem zd9 {n:Nat} (hn:n<2^60) {p:Int} (h:0≤p∧p≤n):i64 p:=by unfold i64;omega
set_option maxHeartbeats 1000000 in
theorem zkC (bs:List Int) (p:Int) (n:Nat) (h:BsOk bs) (hp:i64 p) (hn:n<2^20):
  CallOK Tryz.prog 132 [.f (asl bs.length (bytesE bs)), .f (ai p), .f (ai n)] (fun r o=>r=[rowGr (dGrants bs n p []).1,ri (dGrants bs n p []).2.1,ri (dGrants bs n p []).2.2]∧o=[]):=by
 refine CallOK.nil ?_
 refine zal zat mixed (T:=Ty) (n:=45) Tryz.func132 (c:=Tryz.f132.body.getD .skip) rfl Tryz.results132 Tryz.ntmps132 Tryz.call132 ?_
 simp only[Tryz.f132,Option.getD]
 repeat'(first|(with_reducible first|refine zaa _ _ ?_|refine zad ?_|refine zae ?_)|rw[zaf]|simp only[zY,Int.reduceEq,Int.reduceBEq,Int.reduceBNe,Nat.reduceSub,Nat.reduceEqDiff,Nat.reduceAdd,Nat.reduceMul,Nat.reduceLeDiff,Nat.reduceLT,Nat.reduceBEq,reduceCtorEq]|refine zab ?_|refine zac (fun hb=> ?_) (fun hb=> ?_)|(refine And.intro ?_ ?_;exact zI)|refine And.intro (fun hg=> ?_) (fun hg=> ?_)|exact zC|fail)
 refine zaV (τ:=Nat×Int×List Grant) (fun t=>⟨[asl bs.length (bytesE bs),ai t.2.1,dd,dd,dd,dd,dd,dd,dd, .one (.own ⟨9,1,1⟩ 0 t.2.2.length),dd,dd,ai n,ai t.1,dd,dd,dd,dd,dd,dd,dd,dd,dd,dd,dd,dd,dd,dd,dd,dd,dd,dd,dd,dd,dd,dd,dd,dd,dd,dd,dd,dd,dd,dd,dd],[(9,{next:=2,l:=[none,some {e:=1,var:=false,fz:=false,sz:=2,cells:=(grantsE t.2.2).map C.d}]}),(6,⟨2,[]⟩),(10,⟨2,[]⟩),(40,⟨2,[]⟩),(41,⟨2,[]⟩)]⟩)
  (fun t=>t.1≤n∧i64 t.2.1∧t.2.2.length=t.1) (fun t=>dGrants bs (n - t.1) t.2.1 t.2.2) (fun t=>n - t.1) (0,p,[])
  ((Gh.nil (i:=9) (s:=9) (sz:=2) rfl).trans (Gh.canon [9] [6,10,40,41] [] zK rfl rfl)) ⟨Nat.zero_le _,hp,rfl⟩ ?_
 intro⟨i,q,acc⟩ ⟨hi0,hq,ha⟩ hF K hK
 simp only[Nat.sub_zero]at hi0 hq ha hF hK⊢
 repeat(first|with_reducible refine zaa _ _ ?_|with_reducible refine And.imp_right (zaa _ _) ?_|with_reducible refine And.imp_right (And.imp_right (zaa _ _)) ?_|with_reducible refine And.imp_right (And.imp_right (And.imp_right (zaa _ _))) ?_|rw[zaf]|simp only[zB,Nat.reduceSub,Nat.reduceEqDiff,Nat.reduceAdd,Nat.reduceMul,Nat.reduceLeDiff,Nat.reduceLT,Nat.reduceBEq,reduceCtorEq])
 refine zac (fun hlt=> ?_) (fun hge=> ?_)
 ·have hi:i<n:=by simpa using hlt
  have hw:=za3 hi (by omega)
  have ht:=zlH bs q 12 h hq
  have hm:=zhG bs (dText bs q 12).2.1 h (zd9 h.l (zi1 h))
  have hst:n - i=(n - (i+1))+1:=by omega
  rw[hst,dGrants]at hF
  have hle:(acc.length+1≤2^47)=True:=eq_true (by omega)
  cases e1:((dText bs q 12).2.2 !=0)
  ·have e1':(dText bs q 12).2.2=0:=by simpa using e1
   rw[if_neg (by simp[e1'])]at hF
   cases e2:((dNum bs (dText bs q 12).2.1).2.2 !=0)
   ·have e2':(dNum bs (dText bs q 12).2.1).2.2=0:=by simpa using e2
    rw[if_neg (by simp[e2'])]at hF
    repeat'(first|(with_reducible first|refine zaa _ _ ?_|refine zad ?_|refine zae ?_)|rw[zaf]|simp only[e1,e2,hle,zY,Int.reduceEq,Int.reduceBEq,Int.reduceBNe,Nat.reduceSub,Nat.reduceEqDiff,Nat.reduceAdd,Nat.reduceMul,Nat.reduceLeDiff,Nat.reduceLT,Nat.reduceBEq,reduceCtorEq]|((first|((try refine zah ?_);apply zak)|(apply zai;intro _));(solve|exact(ht)|exact(hm)|(refine CallOK.le (ht) ?_;exact zM)|(refine CallOK.le (hm) ?_;exact zM)|fail);try case hn=>rfl)|refine zab ?_|refine zac (fun hb=> ?_) (fun hb=> ?_)|(refine And.intro ?_ ?_;exact zI)|refine And.intro (fun hg=> ?_) (fun hg=> ?_)|exact zC|fail)
    refine hK _ (i+1,(dNum bs (dText bs q 12).2.1).2.1,acc++[⟨(dText bs q 12).1,(dNum bs (dText bs q 12).2.1).1⟩]) (Gh.canon [9] [] [] (by simp only[hw,List.length_append,List.length_singleton,zaq,zaE,zar,zaw,zax,zay,List.set_cons_zero,List.set_cons_succ,and_true,true_and,Int.natCast_zero,Int.cast_ofNat_Int,D.v.injEq,Value.int.injEq];try(repeat'(first|rfl|omega|with_reducible apply And.intro))) rfl (by simp only[List.length_append,List.length_singleton];rw[zd1];rfl)) ⟨hi,zd9 h.l zdN,by simp only[List.length_append,List.length_singleton];omega⟩ ?_ (by simp only;omega)
    simp only
    rw[hst,dGrants,if_neg (by simp[e1']),if_neg (by simp[e2'])]
   ·have e2':(dNum bs (dText bs q 12).2.1).2.2≠0:=by simpa using e2
    rw[if_pos e2']at hF
    rw[←hF]
    repeat'(first|(with_reducible first|refine zaa _ _ ?_|refine zad ?_|refine zae ?_)|rw[zaf]|simp only[e1,e2,zY,Int.reduceEq,Int.reduceBEq,Int.reduceBNe,Nat.reduceSub,Nat.reduceEqDiff,Nat.reduceAdd,Nat.reduceMul,Nat.reduceLeDiff,Nat.reduceLT,Nat.reduceBEq,reduceCtorEq]|((first|((try refine zah ?_);apply zak)|(apply zai;intro _));(solve|exact(ht)|exact(hm)|(refine CallOK.le (ht) ?_;exact zM)|(refine CallOK.le (hm) ?_;exact zM)|fail);try case hn=>rfl)|refine zab ?_|refine zac (fun hb=> ?_) (fun hb=> ?_)|(refine And.intro ?_ ?_;exact zI)|refine And.intro (fun hg=> ?_) (fun hg=> ?_)|exact zC|fail)
    show roLe _ _∧roLe _ _∧roLe _ _∧True
    simp[roLe]
  ·have e1':(dText bs q 12).2.2≠0:=by simpa using e1
   rw[if_pos e1']at hF
   rw[←hF]
   repeat'(first|(with_reducible first|refine zaa _ _ ?_|refine zad ?_|refine zae ?_)|rw[zaf]|simp only[e1,zY,Int.reduceEq,Int.reduceBEq,Int.reduceBNe,Nat.reduceSub,Nat.reduceEqDiff,Nat.reduceAdd,Nat.reduceMul,Nat.reduceLeDiff,Nat.reduceLT,Nat.reduceBEq,reduceCtorEq]|((first|((try refine zah ?_);apply zak)|(apply zai;intro _));(solve|exact(ht)|exact(hm)|(refine CallOK.le (ht) ?_;exact zM)|(refine CallOK.le (hm) ?_;exact zM)|fail);try case hn=>rfl)|refine zab ?_|refine zac (fun hb=> ?_) (fun hb=> ?_)|(refine And.intro ?_ ?_;exact zI)|refine And.intro (fun hg=> ?_) (fun hg=> ?_)|exact zC|fail)
   show roLe _ _∧roLe _ _∧roLe _ _∧True
   simp[roLe]
 ·have hi:i=n:=by
   have:¬(i:Int)<n:=by simpa using hge
   omega
  rw[hi,Nat.sub_self,dGrants]at hF
  rw[←hF]
  repeat'(first|(with_reducible first|refine zaa _ _ ?_|refine zad ?_|refine zae ?_)|rw[zaf]|simp only[zY,Int.reduceEq,Int.reduceBEq,Int.reduceBNe,Nat.reduceSub,Nat.reduceEqDiff,Nat.reduceAdd,Nat.reduceMul,Nat.reduceLeDiff,Nat.reduceLT,Nat.reduceBEq,reduceCtorEq]|refine zab ?_|refine zac (fun hb=> ?_) (fun hb=> ?_)|(refine And.intro ?_ ?_;exact zI)|refine And.intro (fun hg=> ?_) (fun hg=> ?_)|exact zC|fail)
  show roLe _ _∧roLe _ _∧roLe _ _∧True
  simp[roLe]
end Go.Proofs.YtiegkabcgokhkaaGreat
