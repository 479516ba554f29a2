import Derived.Test.YtiegkabcgokhkaaGreatRK
namespace Go.Proofs.YtiegkabcgokhkaaGreat
open Go.Pk
set_option maxRecDepth 100000
set_option linter.unusedSimpArgs false
set_option linter.unusedVariables false
def szP (k:Nat):Nat:=if k=2 then 36 else 1
theorem znc {P:Program} {fc:FuncId} {ks:List Nat} {sz:Nat→Nat} {nw:Value→Nat→List Value}:CatchC P fc ks sz nw (fun _=>False):=fun _ _ _ h=>h.elim
theorem zlC {r:Reply} (h:replyB r=true):∀x∈replyI r,byteI x:=by
 obtain⟨f1,f2,f3,f4,f5⟩:=za2 h
 have hg:=za4 h
 intro x hx
 simp only[replyI,List.mem_append,List.mem_cons,List.not_mem_nil,or_false]at hx
 rcases hx with rfl|hx|(rfl|rfl)|hx
 ·exact⟨by omega,by omega⟩
 ·exact zky _ x hx
 ·exact⟨by omega,by omega⟩
 ·exact⟨by omega,by omega⟩
 ·obtain⟨g,g1,g2⟩:=List.mem_flatMap.1 hx
  rcases List.mem_append.1 g2 with g2|g2
  ·exact zng _ (by have:=(hg g g1).1;omega) x g2
  ·exact zky _ x g2
theorem ziS {m:Memo} (h:answerB m=true):BsOk (packAI m):=by
 obtain⟨f1,f2,f3⟩:=zaS h
 refine⟨?_, ?_⟩
 ·have:=zcf h
  rw[packAI,List.length_append,List.length_singleton];omega
 ·intro x hx
  simp only[packAI,answerI,List.mem_append,List.mem_cons,List.not_mem_nil,or_false]at hx
  rcases hx with rfl|rfl|hx|hx
  ·exact⟨by omega,by omega⟩
  ·exact⟨by omega,by omega⟩
  ·exact zky _ x hx
  ·exact zlC f3 x hx
abbrev z36:List C:=[di 0,di 0,di 0,di 0,di 0,di 0,di 0,di 0,dS .empty,di 0,di 0,di 0,di 0,di 0,dn,db false,di 0,di 0,di 0,di 0,dn,di 0,di 0,di 0,di 0,di 0,dn,di 0,di 0,di 0,di 0,di 0,di 0,dn,dn,dn]
set_option maxHeartbeats 1000000 in
theorem znd (bs:List Int) (m:Memo) (hm:answerB m=true) (hb:bs=packAI m):
  CallOK Tryz.prog 14 [.f (asl bs.length (bytesE bs))] (fun r o=>r=[.agg ((pkMD m).map RO.d),ri 0]∧o=[]):=by
 have h:BsOk bs:=hb▸ziS hm
 refine zaQ zat mixed (T:=Ty) Tryz.func14 rfl Tryz.results14 Tryz.ntmps14 Tryz.call14 Tryz.call39 (ks:=[2,3]) rfl rfl rfl rfl rfl rfl (by decide) (by decide)
  (xs:=[asl bs.length (bytesE bs)]) (sz:=szP) (nw:=fun _ _=>[]) zkx znc ⟨[asl bs.length (bytesE bs),dd, .one (.ptr ⟨2,0,0⟩ 0), .one (.ptr ⟨3,0,0⟩ 0),dd,dd,dd,dd,dd,dd,dd,dd,dd,dd,dd,dd,dd,dd,dd,dd,dd,dd,dd,dd,dd,dd,dd,dd,dd,dd,dd,dd,dd,dd,dd,dd,dd,dd,dd],[(2,{next:=1,l:=[some {e:=0,var:=true,fz:=false,sz:=0,cells:=z36},none,none,none,none,none,none,none,none,none,none,none,none,none,none,none,none,none,none,none,none,none,none,none,none,none,none,none,none,none,none,none,none,none,none,none,none]}),(3,{next:=1,l:=[some {e:=0,var:=true,fz:=false,sz:=0,cells:=[di 0]},none]})]⟩ ?_ ?_ rfl ?_
 ·simp only[List.map_cons,List.map_nil]
  repeat'(first|(with_reducible first|refine zaa _ _ ?_|refine zad ?_|refine zae ?_)|rw[zaf]|simp only[zY,Int.reduceEq,Int.reduceBEq,Int.reduceBNe,Nat.reduceSub,Nat.reduceEqDiff,Nat.reduceAdd,Nat.reduceMul,Nat.reduceLeDiff,Nat.reduceLT,Nat.reduceBEq,reduceCtorEq]|refine zab ?_|refine zac (fun hb=> ?_) (fun hb=> ?_)|(refine And.intro ?_ ?_;exact zI)|refine And.intro (fun hg=> ?_) (fun hg=> ?_)|exact zC|fail)
  exact fun _ _ _ h=>h
 ·exact⟨⟨_,rfl,rfl,rfl,rfl,rfl⟩,⟨_,rfl,rfl,rfl,rfl,rfl⟩,trivial⟩
 ·have h1:=ziT bs m h hm hb
  have h2:=zhB m hm
  rw[←hb]at h2
  have h3:=zlD bs.length bs rfl
  have hl:decide ((bs.length:Int)>2048)=false:=by
   have:=zcf hm
   have e:bs.length=1+(answerI m).length:=by rw[hb,packAI,List.length_append];rfl
   simp;omega
  have hne:((bs.length:Int) !=(bs.length:Int))=false:=by simp
  repeat'(first|(with_reducible first|refine zaa _ _ ?_|refine zad ?_|refine zae ?_)|rw[zaf]|simp only[hl,zY,Int.reduceEq,Int.reduceBEq,Int.reduceBNe,Nat.reduceSub,Nat.reduceEqDiff,Nat.reduceAdd,Nat.reduceMul,Nat.reduceLeDiff,Nat.reduceLT,Nat.reduceBEq,reduceCtorEq]|refine zab ?_|refine zac (fun hb=> ?_) (fun hb=> ?_)|(refine And.intro ?_ ?_;exact zI)|refine And.intro (fun hg=> ?_) (fun hg=> ?_)|exact zC|fail)
  refine zaG (mv:= ?mv1) (lent:= ?le1) (x:= ?x1) (ass:= ?ass1) ?ha1 (h1) ?hr1 rfl ?hs1 ?hb1 ?hc1
  case ha1=>(try simp only[zY,Int.reduceEq,Int.reduceBEq,Int.reduceBNe,Nat.reduceSub,Nat.reduceEqDiff,Nat.reduceAdd,Nat.reduceMul,Nat.reduceLeDiff,Nat.reduceLT,Nat.reduceBEq,reduceCtorEq]);exact rfl
  case hr1=>simp[rosA,roA]
  case hs1=>simp[argsLe,aLe,csLe,cLe]
  case hb1=>(try simp only[zB,scM,Nat.reduceSub,Nat.reduceEqDiff,Nat.reduceAdd,Nat.reduceMul,Nat.reduceLeDiff,Nat.reduceLT,Nat.reduceBEq,reduceCtorEq]);repeat'(first|rfl|trivial|omega|with_reducible refine And.intro ?_ ?_)
  show aops _ _ _ _ _ _ _ _
  have t2:(bytesE bs).take bs.length=bytesE bs:=List.take_of_length_le (by rw[List.length_map];exact Nat.le_refl _)
  repeat'(first|(with_reducible first|refine zaa _ _ ?_|refine zad ?_|refine zae ?_)|rw[zaf]|simp only[hne,t2,zeh,zY,Int.reduceEq,Int.reduceBEq,Int.reduceBNe,Nat.reduceSub,Nat.reduceEqDiff,Nat.reduceAdd,Nat.reduceMul,Nat.reduceLeDiff,Nat.reduceLT,Nat.reduceBEq,reduceCtorEq]|((first|((try refine zah ?_);apply zak)|(apply zai;intro _));(solve|exact(h2)|exact(h3)|(refine CallOK.le (h2) ?_;exact zM)|(refine CallOK.le (h3) ?_;exact zM)|fail);try case hn=>rfl)|refine zab ?_|refine zac (fun hb=> ?_) (fun hb=> ?_)|(refine And.intro ?_ ?_;exact zI)|refine And.intro (fun hg=> ?_) (fun hg=> ?_)|exact zC|fail)
end Go.Proofs.YtiegkabcgokhkaaGreat
