import Derived.Test.YtiegkabcgokhkaaGreatRJ
namespace Go.Proofs.YtiegkabcgokhkaaGreat
open Go.Pk
set_option maxRecDepth 100000
set_option linter.unusedSimpArgs false
set_option linter.unusedVariables false
theorem zdX {r:Reply} (h:replyB r=true):(replyI r).length≤95:=by
 have hgr:=za4 h
 have hf:=(za2 h).2.2.2.1
 have:=zcg (l:=r.held) (k:=12) fun g hg=>(hgr g hg).1
 have e:(replyI r).length=11+(grantsI r.held).length:=by simp[replyI,zbb];omega
 omega
theorem zcf {m:Memo} (h:answerB m=true):(answerI m).length≤104:=by
 have:=zdX (zaS h).2.2
 have e:(answerI m).length=9+(replyI m.reply).length:=by simp[answerI,zbb];omega
 omega
theorem zdd {m:Memo} (h:answerB m=true):replyOk m.reply:=by
 have hgr:=za4 (zaS h).2.2
 have hf:=(za2 (zaS h).2.2).2.2.2.1
 exact⟨by omega,fun g hg=>by have:=(hgr g hg).1;omega⟩
theorem zg8 (m:Memo) (h:answerB m=true):CallOK Tryz.prog 70 [.f (.agg m.lent)] (fun x o=>x=[.one (.own 1 (answerI m).length (bytesE (answerI m)) false),ri 0]∧o=[]):=by
 refine zal zat mixed (T:=Ty) (n:=31) Tryz.func70 (c:=Tryz.f70.body.getD .skip) rfl Tryz.results70 Tryz.ntmps70 Tryz.call70 ?_
 simp only[Tryz.f70,Option.getD]
 obtain⟨f1,f2,f3⟩:=zaS h
 have hmy:=zcE m (zdd h)
 rw[h]at hmy
 have hpn:=zcB m.seq (by omega)
 have hpr:=zhC m.reply f3
 have hrl:=zdX f3
 have w1:IntKind.u8.wrap m.client=m.client:=zdc (by omega) (by omega)
 have hcc:CallOK Tryz.prog 105 [.f (al 3 [.sl 1 (bytesE [m.client]), .sl 8 (bytesE (numB m.seq)), .sl (replyI m.reply).length (bytesE (replyI m.reply))])] (fun x o=>x=[.one (.own 1 (answerI m).length (bytesE (answerI m)) false)]∧o=[]):=by
  have hc:=zdF [bytesE [m.client],bytesE (numB m.seq),bytesE (replyI m.reply)] (by simp) (fun l hl=>by
   simp only[List.mem_cons,List.not_mem_nil,or_false]at hl
   rcases hl with rfl|rfl|rfl
   ·simp
   ·rw[za8];decide
   ·rw[List.length_map];omega)
  rw[show [bytesE [m.client],bytesE (numB m.seq),bytesE (replyI m.reply)].flatten=bytesE (answerI m) from by simp[answerI,bytesE]]at hc
  simp only[catE,List.map_cons,List.map_nil,List.length_map,List.length_cons,List.length_nil,zbb]at hc
  exact hc
 have t1:(bytesE (numB m.seq)).take 8=bytesE (numB m.seq):=List.take_of_length_le (by rw[za8];decide)
 have t2:(bytesE (replyI m.reply)).take (replyI m.reply).length=bytesE (replyI m.reply):=List.take_of_length_le (by rw[List.length_map];exact Nat.le_refl _)
 repeat'(first|(with_reducible first|refine zaa _ _ ?_|refine zad ?_|refine zae ?_)|rw[zaf]|simp only[t1,t2,w1,zY,Int.reduceEq,Int.reduceBEq,Int.reduceBNe,Nat.reduceSub,Nat.reduceEqDiff,Nat.reduceAdd,Nat.reduceMul,Nat.reduceLeDiff,Nat.reduceLT,Nat.reduceBEq,reduceCtorEq]|((first|((try refine zah ?_);apply zak)|(apply zai;intro _));(solve|exact(hmy)|exact(hpn)|exact(hpr)|exact(hcc)|(refine CallOK.le (hmy) ?_;exact zM)|(refine CallOK.le (hpn) ?_;exact zM)|(refine CallOK.le (hpr) ?_;exact zM)|(refine CallOK.le (hcc) ?_;exact zM)|fail);try case hn=>rfl)|refine zab ?_|refine zac (fun hb=> ?_) (fun hb=> ?_)|(refine And.intro ?_ ?_;exact zI)|refine And.intro (fun hg=> ?_) (fun hg=> ?_)|exact zC|fail)
abbrev pkM (m:Memo):List C:=[di 2,di 0,di 0,di 0,di 0,di 0,di 0,di 0,dS .empty,di m.client,di m.seq,di m.reply.code,di m.reply.session,di m.reply.ahead, .lent m.reply.held.length (grantsE m.reply.held),
 db false,di 0,di 0,di 0,di 0,dn,di 0,di 0,di 0,di 0,di 0,dn,di 0,di 0,di 0,di 0,di 0,di 0,dn,dn,dn]
abbrev pkMD (m:Memo):List D:=[iD 2,iD 0,iD 0,iD 0,iD 0,iD 0,iD 0,iD 0,sD .empty,iD m.client,iD m.seq,iD m.reply.code,iD m.reply.session,iD m.reply.ahead, .sl m.reply.held.length (grantsE m.reply.held),
 bD false,iD 0,iD 0,iD 0,iD 0, .v (.slice none 0 0),iD 0,iD 0,iD 0,iD 0,iD 0, .v (.slice none 0 0),iD 0,iD 0,iD 0,iD 0,iD 0,iD 0, .v (.slice none 0 0), .v (.slice none 0 0), .v (.slice none 0 0)]
abbrev pkRD (r:Req):List D:=[iD 1,iD 0,iD 0,iD 0,iD r.client,iD r.seq,iD r.kind,iD r.session,sD r.name,iD 0,iD 0,iD 0,iD 0,iD 0, .v (.slice none 0 0),
 bD false,iD 0,iD 0,iD 0,iD 0, .v (.slice none 0 0),iD 0,iD 0,iD 0,iD 0,iD 0, .v (.slice none 0 0),iD 0,iD 0,iD 0,iD 0,iD 0,iD 0, .v (.slice none 0 0), .v (.slice none 0 0), .v (.slice none 0 0)]
theorem zhA (m:Memo) (h:answerB m=true):CallOK Tryz.prog 68 [.f (.agg (pkM m))] (fun x o=>x=[rb true]∧o=[]):=by
 refine zal zat mixed (T:=Ty) (n:=91) Tryz.func68 (c:=Tryz.f68.body.getD .skip) rfl Tryz.results68 Tryz.ntmps68 Tryz.call68 ?_
 simp only[Tryz.f68,Option.getD]
 have hmy:=zcE m (zdd h)
 rw[h]at hmy
 repeat'(first|(with_reducible first|refine zaa _ _ ?_|refine zad ?_|refine zae ?_)|rw[zaf]|simp only[zY,Int.reduceEq,Int.reduceBEq,Int.reduceBNe,Nat.reduceSub,Nat.reduceEqDiff,Nat.reduceAdd,Nat.reduceMul,Nat.reduceLeDiff,Nat.reduceLT,Nat.reduceBEq,reduceCtorEq]|((first|((try refine zah ?_);apply zak)|(apply zai;intro _));(solve|exact(hmy)|exact(zep 2)|(refine CallOK.le (hmy) ?_;exact zM)|(refine CallOK.le (zep 2) ?_;exact zM)|fail);try case hn=>rfl)|refine zab ?_|refine zac (fun hb=> ?_) (fun hb=> ?_)|(refine And.intro ?_ ?_;exact zI)|refine And.intro (fun hg=> ?_) (fun hg=> ?_)|exact zC|fail)
theorem zhB (m:Memo) (h:answerB m=true):CallOK Tryz.prog 41 [.f (.agg (pkM m))] (fun x o=>x=[.one (.own 1 (packAI m).length (bytesE (packAI m)) false),ri 0]∧o=[]):=by
 refine zal zat mixed (T:=Ty) (n:=87) Tryz.func41 (c:=Tryz.f41.body.getD .skip) rfl Tryz.results41 Tryz.ntmps41 Tryz.call41 ?_
 simp only[Tryz.f41,Option.getD]
 have hmy:=zhA m h
 have hpt:=zg8 m h
 have hw:IntKind.u8.wrap 2=2:=zdc (by decide) (by decide)
 have hn:=zcf h
 have hle:(1+(answerI m).length≤2^47)=True:=eq_true (by omega)
 have t2:(bytesE (answerI m)).take (answerI m).length=bytesE (answerI m):=List.take_of_length_le (by rw[List.length_map];exact Nat.le_refl _)
 repeat'(first|(with_reducible first|refine zaa _ _ ?_|refine zad ?_|refine zae ?_)|rw[zaf]|simp only[hw,hle,t2,List.length_map,zY,Int.reduceEq,Int.reduceBEq,Int.reduceBNe,Nat.reduceSub,Nat.reduceEqDiff,Nat.reduceAdd,Nat.reduceMul,Nat.reduceLeDiff,Nat.reduceLT,Nat.reduceBEq,reduceCtorEq]|((first|((try refine zah ?_);apply zak)|(apply zai;intro _));(solve|exact(hmy)|exact(hpt)|(refine CallOK.le (hmy) ?_;exact zM)|(refine CallOK.le (hpt) ?_;exact zM)|fail);try case hn=>rfl)|refine zab ?_|refine zac (fun hb=> ?_) (fun hb=> ?_)|(refine And.intro ?_ ?_;exact zI)|refine And.intro (fun hg=> ?_) (fun hg=> ?_)|exact zC|fail)
 rw[show(packAI m).length=1+(answerI m).length from by unfold packAI;rw[List.length_append];rfl]
 rfl
theorem zlD (n:Nat) (bs:List Int) (hn:n=bs.length):CallOK Tryz.prog 42 [.f (al n (bytesE bs)), .f (asl n (bytesE bs))] (fun x o=>x=[rb true]∧o=[]):=by
 refine zal zat mixed (T:=Ty) (n:=10) Tryz.func42 (c:=Tryz.f42.body.getD .skip) rfl Tryz.results42 Tryz.ntmps42 Tryz.call42 ?_
 simp only[Tryz.f42,Option.getD]
 have t2:(bytesE bs).take n=bytesE bs:=List.take_of_length_le (by rw[List.length_map,hn];exact Nat.le_refl _)
 have hb:=zcj bs
 repeat'(first|(with_reducible first|refine zaa _ _ ?_|refine zad ?_|refine zae ?_)|rw[zaf]|simp only[t2,hb,zY,Int.reduceEq,Int.reduceBEq,Int.reduceBNe,Nat.reduceSub,Nat.reduceEqDiff,Nat.reduceAdd,Nat.reduceMul,Nat.reduceLeDiff,Nat.reduceLT,Nat.reduceBEq,reduceCtorEq]|refine zab ?_|refine zac (fun hb=> ?_) (fun hb=> ?_)|(refine And.intro ?_ ?_;exact zI)|refine And.intro (fun hg=> ?_) (fun hg=> ?_)|exact zC|fail)
theorem ziT (bs:List Int) (m:Memo) (h:BsOk bs) (hm:answerB m=true) (hb:bs=packAI m):
  CallOK Tryz.prog 40 [.obj (rdr bs.length (bytesE bs) 0)] (fun r o=>r=[.agg ((pkMD m).map RO.d)]∧o=[rdr bs.length (bytesE bs) (bs.length:Nat)]):=by
 refine zal zat mixed (T:=Ty) (n:=110) Tryz.func40 (c:=Tryz.f40.body.getD .skip) rfl Tryz.results40 Tryz.ntmps40 Tryz.call40 ?_
 simp only[Tryz.f40,Option.getD]
 have h0:bs.drop 0=[2]++(answerI m++[]):=by rw[hb,List.append_nil];rfl
 have e0:dByte bs 0=(2,1,0):=zdL h0
 have h1:=zlG bs 0 h ⟨by decide,by decide⟩ (by rw[e0])
 rw[e0]at h1
 have e1:dAnswer bs 1=(m,((bs.length:Nat):Int),0):=by
  have:=ziY (zbp h0) hm
  rw[show 0+[(2:Int)].length+(answerI m).length=bs.length from by rw[hb];simp[packAI];omega]at this
  exact this
 have h2:=zhb bs 1 h ⟨by decide,by decide⟩
 rw[e1]at h2
 repeat'(first|(with_reducible first|refine zaa _ _ ?_|refine zad ?_|refine zae ?_)|rw[zaf]|simp only[zY,Int.reduceEq,Int.reduceBEq,Int.reduceBNe,Nat.reduceSub,Nat.reduceEqDiff,Nat.reduceAdd,Nat.reduceMul,Nat.reduceLeDiff,Nat.reduceLT,Nat.reduceBEq,reduceCtorEq]|refine zab ?_|refine zac (fun hb=> ?_) (fun hb=> ?_)|(refine And.intro ?_ ?_;exact zI)|refine And.intro (fun hg=> ?_) (fun hg=> ?_)|exact zC|fail)
 refine zbl (mv:= ?mv1) (lent:= ?le1) 0 ?ha1 (h1) ?hb1 ?hc1
 case ha1=>(try simp only[zB,zaC,Nat.reduceSub,Nat.reduceEqDiff,Nat.reduceAdd,Nat.reduceMul,Nat.reduceLeDiff,Nat.reduceLT,Nat.reduceBEq,reduceCtorEq]);exact rfl
 case hb1=>(try simp only[zB,scM,Nat.reduceSub,Nat.reduceEqDiff,Nat.reduceAdd,Nat.reduceMul,Nat.reduceLeDiff,Nat.reduceLT,Nat.reduceBEq,reduceCtorEq]);repeat'(first|rfl|trivial|omega|with_reducible refine And.intro ?_ ?_)
 show aops _ _ _ _ _ _ _ _
 repeat'(first|(with_reducible first|refine zaa _ _ ?_|refine zad ?_|refine zae ?_)|rw[zaf]|simp only[zY,Int.reduceEq,Int.reduceBEq,Int.reduceBNe,Nat.reduceSub,Nat.reduceEqDiff,Nat.reduceAdd,Nat.reduceMul,Nat.reduceLeDiff,Nat.reduceLT,Nat.reduceBEq,reduceCtorEq]|((first|((try refine zah ?_);apply zak)|(apply zai;intro _));(solve|exact(h2)|exact(zlF)|(refine CallOK.le (h2) ?_;exact zM)|(refine CallOK.le (zlF) ?_;exact zM)|fail);try case hn=>rfl)|refine zab ?_|refine zac (fun hb=> ?_) (fun hb=> ?_)|(refine And.intro ?_ ?_;exact zI)|refine And.intro (fun hg=> ?_) (fun hg=> ?_)|exact zC|fail)
theorem zkx:IdleC Tryz.prog 39 2:=by
 refine zca zat mixed (T:=Ty) Tryz.func39 rfl rfl Tryz.ntmps39 rfl rfl rfl rfl rfl rfl rfl (by decide) (y7:= .tuple #[.agg #[.int .i64 0], .bool false]) (V7:= .tup [.agg [di 0],ab false]) ?_ ?_ (by decide) rfl ?_
 ·intro w
  simp[Instr.typeAssert,Tryz.underlying106,zgm (zcX) w]
 ·intro cx w r β
  simp[ReA,ReAs,ReC,ReCs,Rd,flat]
 ·simp only[List.replicate]
  simp only[zB,Nat.reduceSub,Nat.reduceEqDiff,Nat.reduceAdd,Nat.reduceMul,Nat.reduceLeDiff,Nat.reduceLT,Nat.reduceBEq,reduceCtorEq]
  repeat'(first|(with_reducible first|refine zaa _ _ ?_|refine zad ?_|refine zae ?_)|rw[zaf]|simp only[zY,Int.reduceEq,Int.reduceBEq,Int.reduceBNe,Nat.reduceSub,Nat.reduceEqDiff,Nat.reduceAdd,Nat.reduceMul,Nat.reduceLeDiff,Nat.reduceLT,Nat.reduceBEq,reduceCtorEq]|refine zab ?_|refine zac (fun hb=> ?_) (fun hb=> ?_)|(refine And.intro ?_ ?_;exact zI)|refine And.intro (fun hg=> ?_) (fun hg=> ?_)|exact zC|fail)
end Go.Proofs.YtiegkabcgokhkaaGreat
