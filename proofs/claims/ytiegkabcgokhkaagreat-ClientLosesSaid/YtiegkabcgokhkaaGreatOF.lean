import Derived.Test.YtiegkabcgokhkaaGreatOC
namespace Go.Proofs.YtiegkabcgokhkaaGreat
open Go.Pk
set_option maxRecDepth 100000
set_option linter.unusedSimpArgs false
set_option linter.unusedVariables false
abbrev dn:C:= .d (.v (.slice none 0 0))
abbrev afn (n:Nat):AV:= .one (.d (.v (.func (.func n) #[] #[])))
theorem zfy:CallOK Tryz.prog 178 [.f anil, .f anil] (fun r o=>r=[rb true]∧o=[]):=by
 refine zal zat mixed (T:=Ty) (n:=26) Tryz.func178 (c:=Tryz.f178.body.getD .skip) rfl Tryz.results178 Tryz.ntmps178 Tryz.call178 ?_
 simp only[Tryz.f178,Option.getD]
 repeat'(first|(with_reducible first|refine zaa _ _ ?_|refine zad ?_|refine zae ?_)|rw[zaf]|simp only[zY,Int.reduceEq,Int.reduceBEq,Int.reduceBNe,Nat.reduceSub,Nat.reduceEqDiff,Nat.reduceAdd,Nat.reduceMul,Nat.reduceLeDiff,Nat.reduceLT,Nat.reduceBEq,reduceCtorEq]|refine zab ?_|refine zac (fun hb=> ?_) (fun hb=> ?_)|(refine And.intro ?_ ?_;exact zI)|refine And.intro (fun hg=> ?_) (fun hg=> ?_)|exact zC|fail)
 refine zaW Ty Tryz.prog (τ:=Unit) (fun _=>⟨[anil,anil,dd,dd,dd,dd,dd,dd,dd,dd,dd,dd,ai 0,ai 0,dd,dd,dd,dd,dd,dd,dd,dd,dd,dd,dd,dd],[]⟩) (fun _=>True) (fun _=>0) ()
  (Gh.canon [] [] [] zK rfl rfl) trivial ?_
 intro _ _ K hK
 have h0:decide ((0:Int)<0)=false:=rfl
 repeat'(first|(with_reducible first|refine zaa _ _ ?_|refine zad ?_|refine zae ?_)|rw[zaf]|simp only[h0,zY,Int.reduceEq,Int.reduceBEq,Int.reduceBNe,Nat.reduceSub,Nat.reduceEqDiff,Nat.reduceAdd,Nat.reduceMul,Nat.reduceLeDiff,Nat.reduceLT,Nat.reduceBEq,reduceCtorEq]|refine zab ?_|refine zac (fun hb=> ?_) (fun hb=> ?_)|(refine And.intro ?_ ?_;exact zI)|refine And.intro (fun hg=> ?_) (fun hg=> ?_)|exact zC|fail)
theorem zfz:CallOK Tryz.prog 179 [.f anil, .f anil] (fun r o=>r=[rb true]∧o=[]):=by
 refine zal zat mixed (T:=Ty) (n:=26) Tryz.func179 (c:=Tryz.f179.body.getD .skip) rfl Tryz.results179 Tryz.ntmps179 Tryz.call179 ?_
 simp only[Tryz.f179,Option.getD]
 repeat'(first|(with_reducible first|refine zaa _ _ ?_|refine zad ?_|refine zae ?_)|rw[zaf]|simp only[zY,Int.reduceEq,Int.reduceBEq,Int.reduceBNe,Nat.reduceSub,Nat.reduceEqDiff,Nat.reduceAdd,Nat.reduceMul,Nat.reduceLeDiff,Nat.reduceLT,Nat.reduceBEq,reduceCtorEq]|refine zab ?_|refine zac (fun hb=> ?_) (fun hb=> ?_)|(refine And.intro ?_ ?_;exact zI)|refine And.intro (fun hg=> ?_) (fun hg=> ?_)|exact zC|fail)
 refine zaW Ty Tryz.prog (τ:=Unit) (fun _=>⟨[anil,anil,dd,dd,dd,dd,dd,dd,dd,dd,dd,dd,ai 0,ai 0,dd,dd,dd,dd,dd,dd,dd,dd,dd,dd,dd,dd],[]⟩) (fun _=>True) (fun _=>0) ()
  (Gh.canon [] [] [] zK rfl rfl) trivial ?_
 intro _ _ K hK
 have h0:decide ((0:Int)<0)=false:=rfl
 repeat'(first|(with_reducible first|refine zaa _ _ ?_|refine zad ?_|refine zae ?_)|rw[zaf]|simp only[h0,zY,Int.reduceEq,Int.reduceBEq,Int.reduceBNe,Nat.reduceSub,Nat.reduceEqDiff,Nat.reduceAdd,Nat.reduceMul,Nat.reduceLeDiff,Nat.reduceLT,Nat.reduceBEq,reduceCtorEq]|refine zab ?_|refine zac (fun hb=> ?_) (fun hb=> ?_)|(refine And.intro ?_ ?_;exact zI)|refine And.intro (fun hg=> ?_) (fun hg=> ?_)|exact zC|fail)
theorem zhx (n:Nat):CallOK Tryz.prog 180 [.f anil, .f anil, .f (afn n)] (fun r o=>r=[rb true]∧o=[]):=by
 refine zal zat mixed (T:=Ty) (n:=32) Tryz.func180 (c:=Tryz.f180.body.getD .skip) rfl Tryz.results180 Tryz.ntmps180 Tryz.call180 ?_
 simp only[Tryz.f180,Option.getD]
 repeat'(first|(with_reducible first|refine zaa _ _ ?_|refine zad ?_|refine zae ?_)|rw[zaf]|simp only[zY,Int.reduceEq,Int.reduceBEq,Int.reduceBNe,Nat.reduceSub,Nat.reduceEqDiff,Nat.reduceAdd,Nat.reduceMul,Nat.reduceLeDiff,Nat.reduceLT,Nat.reduceBEq,reduceCtorEq]|refine zab ?_|refine zac (fun hb=> ?_) (fun hb=> ?_)|(refine And.intro ?_ ?_;exact zI)|refine And.intro (fun hg=> ?_) (fun hg=> ?_)|exact zC|fail)
 refine zaW Ty Tryz.prog (τ:=Unit) (fun _=>⟨[dd,anil,afn n,dd,dd,dd,dd,dd,dd,dd,dd,dd,dd,dd,dd,anil,ai 0,ai 0,dd,dd,dd,dd,dd,dd,dd,dd,dd,dd,dd,dd,dd,dd],[]⟩) (fun _=>True) (fun _=>0) ()
  (Gh.canon [] [] [] zK rfl rfl) trivial ?_
 intro _ _ K hK
 have h0:decide ((0:Int)<0)=false:=rfl
 repeat'(first|(with_reducible first|refine zaa _ _ ?_|refine zad ?_|refine zae ?_)|rw[zaf]|simp only[h0,zY,Int.reduceEq,Int.reduceBEq,Int.reduceBNe,Nat.reduceSub,Nat.reduceEqDiff,Nat.reduceAdd,Nat.reduceMul,Nat.reduceLeDiff,Nat.reduceLT,Nat.reduceBEq,reduceCtorEq]|refine zab ?_|refine zac (fun hb=> ?_) (fun hb=> ?_)|(refine And.intro ?_ ?_;exact zI)|refine And.intro (fun hg=> ?_) (fun hg=> ?_)|exact zC|fail)
theorem zhy (n:Nat):CallOK Tryz.prog 183 [.f anil, .f anil, .f (afn n)] (fun r o=>r=[rb true]∧o=[]):=by
 refine zal zat mixed (T:=Ty) (n:=32) Tryz.func183 (c:=Tryz.f183.body.getD .skip) rfl Tryz.results183 Tryz.ntmps183 Tryz.call183 ?_
 simp only[Tryz.f183,Option.getD]
 repeat'(first|(with_reducible first|refine zaa _ _ ?_|refine zad ?_|refine zae ?_)|rw[zaf]|simp only[zY,Int.reduceEq,Int.reduceBEq,Int.reduceBNe,Nat.reduceSub,Nat.reduceEqDiff,Nat.reduceAdd,Nat.reduceMul,Nat.reduceLeDiff,Nat.reduceLT,Nat.reduceBEq,reduceCtorEq]|refine zab ?_|refine zac (fun hb=> ?_) (fun hb=> ?_)|(refine And.intro ?_ ?_;exact zI)|refine And.intro (fun hg=> ?_) (fun hg=> ?_)|exact zC|fail)
 refine zaW Ty Tryz.prog (τ:=Unit) (fun _=>⟨[dd,anil,afn n,dd,dd,dd,dd,dd,dd,dd,dd,dd,dd,dd,dd,anil,ai 0,ai 0,dd,dd,dd,dd,dd,dd,dd,dd,dd,dd,dd,dd,dd,dd],[]⟩) (fun _=>True) (fun _=>0) ()
  (Gh.canon [] [] [] zK rfl rfl) trivial ?_
 intro _ _ K hK
 have h0:decide ((0:Int)<0)=false:=rfl
 repeat'(first|(with_reducible first|refine zaa _ _ ?_|refine zad ?_|refine zae ?_)|rw[zaf]|simp only[h0,zY,Int.reduceEq,Int.reduceBEq,Int.reduceBNe,Nat.reduceSub,Nat.reduceEqDiff,Nat.reduceAdd,Nat.reduceMul,Nat.reduceLeDiff,Nat.reduceLT,Nat.reduceBEq,reduceCtorEq]|refine zab ?_|refine zac (fun hb=> ?_) (fun hb=> ?_)|(refine And.intro ?_ ?_;exact zI)|refine And.intro (fun hg=> ?_) (fun hg=> ?_)|exact zC|fail)
theorem zil:CallOK Tryz.prog 144 [.f (.agg [db false,di 0,di 0,di 0,di 0,dn]), .f (.agg [db false,di 0,di 0,di 0,di 0,dn])] (fun r o=>r=[rb true]∧o=[]):=by
 refine zal zat mixed (T:=Ty) (n:=38) Tryz.func144 (c:=Tryz.f144.body.getD .skip) rfl Tryz.results144 Tryz.ntmps144 Tryz.call144 ?_
 simp only[Tryz.f144,Option.getD]
 repeat'(first|(with_reducible first|refine zaa _ _ ?_|refine zad ?_|refine zae ?_)|rw[zaf]|simp only[zY,Int.reduceEq,Int.reduceBEq,Int.reduceBNe,Nat.reduceSub,Nat.reduceEqDiff,Nat.reduceAdd,Nat.reduceMul,Nat.reduceLeDiff,Nat.reduceLT,Nat.reduceBEq,reduceCtorEq]|((first|((try refine zah ?_);apply zak)|(apply zai;intro _));(solve|exact(zfy)|(refine CallOK.le (zfy) ?_;exact zM)|fail);try case hn=>rfl)|refine zab ?_|refine zac (fun hb=> ?_) (fun hb=> ?_)|(refine And.intro ?_ ?_;exact zI)|refine And.intro (fun hg=> ?_) (fun hg=> ?_)|exact zC|fail)
theorem zdH:CallOK Tryz.prog 145 [.f (.agg [di 0,di 0,di 0,dn,dn,dn]), .f (.agg [di 0,di 0,di 0,dn,dn,dn])] (fun r o=>r=[rb true]∧o=[]):=by
 refine zal zat mixed (T:=Ty) (n:=44) Tryz.func145 (c:=Tryz.f145.body.getD .skip) rfl Tryz.results145 Tryz.ntmps145 Tryz.call145 ?_
 simp only[Tryz.f145,Option.getD]
 repeat'(first|(with_reducible first|refine zaa _ _ ?_|refine zad ?_|refine zae ?_)|rw[zaf]|simp only[zY,Int.reduceEq,Int.reduceBEq,Int.reduceBNe,Nat.reduceSub,Nat.reduceEqDiff,Nat.reduceAdd,Nat.reduceMul,Nat.reduceLeDiff,Nat.reduceLT,Nat.reduceBEq,reduceCtorEq]|((first|((try refine zah ?_);apply zak)|(apply zai;intro _));(solve|exact(zfz)|exact(zhx _)|exact(zhy _)|(refine CallOK.le (zfz) ?_;exact zM)|fail);try case hn=>rfl)|refine zab ?_|refine zac (fun hb=> ?_) (fun hb=> ?_)|(refine And.intro ?_ ?_;exact zI)|refine And.intro (fun hg=> ?_) (fun hg=> ?_)|exact zC|fail)
abbrev pkC (k:Int) (r:Req):List C:=[di k,di 0,di 0,di 0,di r.client,di r.seq,di r.kind,di r.session,dS r.name,di 0,di 0, .d (.v (.int .i64 0)),di 0,di 0,dn,
 db false,di 0,di 0,di 0,di 0,dn,di 0,di 0,di 0,di 0,di 0,dn,di 0,di 0,di 0,di 0,di 0,di 0,dn,dn,dn]
theorem zep (k:Int):CallOK Tryz.prog 101 [.f (.agg (pkC k ⟨0,0,0,0, .empty⟩))] (fun r o=>r=[rb true]∧o=[]):=by
 refine zal zat mixed (T:=Ty) (n:=116) Tryz.func101 (c:=Tryz.f101.body.getD .skip) rfl Tryz.results101 Tryz.ntmps101 Tryz.call101 ?_
 simp only[Tryz.f101,Option.getD]
 repeat'(first|(with_reducible first|refine zaa _ _ ?_|refine zad ?_|refine zae ?_)|rw[zaf]|simp only[zY,Int.reduceEq,Int.reduceBEq,Int.reduceBNe,Nat.reduceSub,Nat.reduceEqDiff,Nat.reduceAdd,Nat.reduceMul,Nat.reduceLeDiff,Nat.reduceLT,Nat.reduceBEq,reduceCtorEq]|((first|((try refine zah ?_);apply zak)|(apply zai;intro _));(solve|exact(zil)|exact(zdH)|(refine CallOK.le (zil) ?_;exact zM)|(refine CallOK.le (zdH) ?_;exact zM)|fail);try case hn=>rfl)|refine zab ?_|refine zac (fun hb=> ?_) (fun hb=> ?_)|(refine And.intro ?_ ?_;exact zI)|refine And.intro (fun hg=> ?_) (fun hg=> ?_)|exact zC|fail)
theorem ziP (r:Req) (hr:r.ok) (h:Req.may r=true):CallOK Tryz.prog 68 [.f (.agg (pkC 1 r))] (fun x o=>x=[rb true]∧o=[]):=by
 refine zal zat mixed (T:=Ty) (n:=91) Tryz.func68 (c:=Tryz.f68.body.getD .skip) rfl Tryz.results68 Tryz.ntmps68 Tryz.call68 ?_
 simp only[Tryz.f68,Option.getD]
 have hmy:=zg1 r hr
 rw[h]at hmy
 repeat'(first|(with_reducible first|refine zaa _ _ ?_|refine zad ?_|refine zae ?_)|rw[zaf]|simp only[zY,Int.reduceEq,Int.reduceBEq,Int.reduceBNe,Nat.reduceSub,Nat.reduceEqDiff,Nat.reduceAdd,Nat.reduceMul,Nat.reduceLeDiff,Nat.reduceLT,Nat.reduceBEq,reduceCtorEq]|((first|((try refine zah ?_);apply zak)|(apply zai;intro _));(solve|exact(hmy)|exact(zep 1)|(refine CallOK.le (hmy) ?_;exact zM)|(refine CallOK.le (zep 1) ?_;exact zM)|fail);try case hn=>rfl)|refine zab ?_|refine zac (fun hb=> ?_) (fun hb=> ?_)|(refine And.intro ?_ ?_;exact zI)|refine And.intro (fun hg=> ?_) (fun hg=> ?_)|exact zC|fail)
theorem zlq (r:Req):(reqB r).length=19+r.name.size:=by
 unfold reqB
 rw[List.length_append,List.length_append,za8,zij];simp;omega
theorem ziQ {r:Req} (h:Req.may r=true):r.name.size≤12:=by
 unfold Req.may at h
 simp only[Bool.and_eq_true]at h
 exact(zcU h.2).2.2.2.2
def packB (r:Req):List D:=uD 1::reqB r
theorem zfA (r:Req) (hr:r.ok) (h:Req.may r=true):CallOK Tryz.prog 41 [.f (.agg (pkC 1 r))] (fun x o=>x=[.one (.own 1 (packB r).length (packB r) false),ri 0]∧o=[]):=by
 refine zal zat mixed (T:=Ty) (n:=87) Tryz.func41 (c:=Tryz.f41.body.getD .skip) rfl Tryz.results41 Tryz.ntmps41 Tryz.call41 ?_
 simp only[Tryz.f41,Option.getD]
 have hmy:=ziP r hr h
 have hpt:=zkj r hr h
 have hw:IntKind.u8.wrap 1=1:=zdc (by decide) (by decide)
 have hlr:=zlq r
 have hn:=ziQ h
 have hle:(1+(reqB r).length≤2^47)=True:=eq_true (by omega)
 repeat'(first|(with_reducible first|refine zaa _ _ ?_|refine zad ?_|refine zae ?_)|rw[zaf]|simp only[hw,hle,List.take_length,zY,Int.reduceEq,Int.reduceBEq,Int.reduceBNe,Nat.reduceSub,Nat.reduceEqDiff,Nat.reduceAdd,Nat.reduceMul,Nat.reduceLeDiff,Nat.reduceLT,Nat.reduceBEq,reduceCtorEq]|((first|((try refine zah ?_);apply zak)|(apply zai;intro _));(solve|exact(hmy)|exact(hpt)|(refine CallOK.le (hmy) ?_;exact zM)|(refine CallOK.le (hpt) ?_;exact zM)|fail);try case hn=>rfl)|refine zab ?_|refine zac (fun hb=> ?_) (fun hb=> ?_)|(refine And.intro ?_ ?_;exact zI)|refine And.intro (fun hg=> ?_) (fun hg=> ?_)|exact zC|fail)
 rw[show(packB r).length=1+(reqB r).length from by unfold packB;rw[List.length_cons];omega]
 rfl
end Go.Proofs.YtiegkabcgokhkaaGreat
