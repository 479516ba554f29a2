import Derived.Test.YtiegkabcgokhkaaGreatRN
namespace Go.Proofs.YtiegkabcgokhkaaGreat
open Go.Pk
set_option maxRecDepth 100000
set_option linter.unusedSimpArgs false
set_option linter.unusedVariables false
theorem zce (m:Memo) (h:answerB m=true):CallOK Tryz.prog 113 [.f (.agg m.lent)] (fun x o=>x=[rb true]∧o=[]):=by
 refine zal zat mixed (T:=Ty) (n:=21) Tryz.func113 (c:=Tryz.f113.body.getD .skip) rfl Tryz.results113 Tryz.ntmps113 Tryz.call113 ?_
 simp only[Tryz.f113,Option.getD]
 obtain⟨f1,f2,f3⟩:=zaS h
 have g1:decide (m.client≥0)=true:=by simp;omega
 have g2:decide (m.client<8)=true:=by simp;omega
 have hh:=zer m.seq 1
 rw[show decide (m.seq≥1)=true from by simp;omega,show decide (m.seq≤2305843009213693952)=true from by simp;omega]at hh
 repeat'(first|(with_reducible first|refine zaa _ _ ?_|refine zad ?_|refine zae ?_)|rw[zaf]|simp only[g1,g2,Bool.and_true,zY,Int.reduceEq,Int.reduceBEq,Int.reduceBNe,Nat.reduceSub,Nat.reduceEqDiff,Nat.reduceAdd,Nat.reduceMul,Nat.reduceLeDiff,Nat.reduceLT,Nat.reduceBEq,reduceCtorEq]|((first|((try refine zah ?_);apply zak)|(apply zai;intro _));(solve|exact(hh)|exact(zcC m.reply f3)|(refine CallOK.le (hh) ?_;exact zM)|(refine CallOK.le (zcC m.reply f3) ?_;exact zM)|fail);try case hn=>rfl)|refine zab ?_|refine zac (fun hb=> ?_) (fun hb=> ?_)|(refine And.intro ?_ ?_;exact zI)|refine And.intro (fun hg=> ?_) (fun hg=> ?_)|exact zC|fail)
theorem zlz (m:Memo) (h:answerB m=true):CallOK Tryz.prog 75 [.f (.agg ((pkMD m).map C.d))] (fun x o=>x=[rb true]∧o=[]):=by
 refine zal zat mixed (T:=Ty) (n:=57) Tryz.func75 (c:=Tryz.f75.body.getD .skip) rfl Tryz.results75 Tryz.ntmps75 Tryz.call75 ?_
 simp only[Tryz.f75,Option.getD]
 have hr:=(zdd h).1
 have hh:=zkv 0 0
 rw[show(decide ((0:Int)≥0)&&decide ((0:Int)≤2305843009213693952))=true from rfl]at hh
 repeat'(first|(with_reducible first|refine zaa _ _ ?_|refine zad ?_|refine zae ?_)|rw[zaf]|simp only[zY,Int.reduceEq,Int.reduceBEq,Int.reduceBNe,Nat.reduceSub,Nat.reduceEqDiff,Nat.reduceAdd,Nat.reduceMul,Nat.reduceLeDiff,Nat.reduceLT,Nat.reduceBEq,reduceCtorEq]|((first|((try refine zah ?_);apply zak)|(apply zai;intro _));(solve|exact(zkw m)|exact(zg7 m hr)|exact(hh)|exact(zce m h)|(refine CallOK.le (zkw m) ?_;exact zM)|(refine CallOK.le (zg7 m hr) ?_;exact zM)|(refine CallOK.le (hh) ?_;exact zM)|(refine CallOK.le (zce m h) ?_;exact zM)|fail);try case hn=>rfl)|refine zab ?_|refine zac (fun hb=> ?_) (fun hb=> ?_)|(refine And.intro ?_ ?_;exact zI)|refine And.intro (fun hg=> ?_) (fun hg=> ?_)|exact zC|fail)
theorem sub2 {a b:D}:toDs (sub 0 2 1 [C.d a,C.d b])=some [a,b]:=rfl
theorem sub9 {a:D} {n:Int}:toDs (sub 0 9 1 (C.d a::List.map C.d (bytesE (numB n))))=some (a::bytesE (numB n)):=rfl
abbrev replyD (r:Reply):List C:=r.enc.map C.d
set_option maxHeartbeats 1000000 in
theorem zg2 (r:Reply) (h:replyB r=true):CallOK Tryz.prog 118 [.f (.agg r.lent)] (fun x o=>x=[.one (.own 1 (replyI r).length (bytesE (replyI r)) false),ri 0]∧o=[]):=by
 obtain⟨f1,f2,f3,f4,f5⟩:=za2 h
 have hgr:=za4 h
 refine zal zat mixed (T:=Ty) (n:=62) Tryz.func118 (c:=Tryz.f118.body.getD .skip) rfl Tryz.results118 Tryz.ntmps118 Tryz.call118 ?_
 simp only[Tryz.f118,Option.getD]
 have hmy:=zcC r h
 have hpn:=zgl r.session (by omega)
 have w1:IntKind.u8.wrap r.code=r.code:=zdc (by omega) (by omega)
 have w2:IntKind.u8.wrap r.ahead=r.ahead:=zdc (by omega) (by omega)
 have w3:IntKind.u8.wrap (r.held.length:Int)=r.held.length:=zdc (by omega) (by omega)
 have t1:(bytesE (numB r.session)).take 8=bytesE (numB r.session):=List.take_of_length_le (by rw[za8];decide)
 repeat'(first|(with_reducible first|refine zaa _ _ ?_|refine zad ?_|refine zae ?_)|rw[zaf]|simp only[sub2,sub9,t1,w1,w2,w3,List.length_map,zbb,zY,Int.reduceEq,Int.reduceBEq,Int.reduceBNe,Nat.reduceSub,Nat.reduceEqDiff,Nat.reduceAdd,Nat.reduceMul,Nat.reduceLeDiff,Nat.reduceLT,Nat.reduceBEq,reduceCtorEq]|((first|((try refine zah ?_);apply zak)|(apply zai;intro _));(solve|exact(hmy)|exact(hpn)|(refine CallOK.le (hmy) ?_;exact zM)|(refine CallOK.le (hpn) ?_;exact zM)|fail);try case hn=>rfl)|refine zab ?_|refine zac (fun hb=> ?_) (fun hb=> ?_)|(refine And.intro ?_ ?_;exact zI)|refine And.intro (fun hg=> ?_) (fun hg=> ?_)|exact zC|fail)
 refine zaV (τ:=Nat) (fun i=>⟨[dd, .one (.ptr ⟨1,0,1⟩ 0),dd,dd, .one (.own ⟨4,1,1⟩ 0 (repB r i).length),ai i,dd,dd,dd,dd,dd,dd,dd,dd,dd,dd,dd,dd,dd,dd,dd,dd,dd,dd,dd,dd,dd,dd,dd,dd,dd,dd,dd,dd,dd,dd,dd,dd,dd,dd,dd,dd,dd,dd,dd,dd,dd,dd,dd,dd,dd,dd,dd,dd,dd,dd,dd,dd,dd,dd,dd,dd],[(1,{next:=2,l:=[some {e:=1,var:=true,fz:=false,sz:=0,cells:=[di r.code,di r.session,di r.ahead, .lent r.held.length (grantsE r.held)]},none,none,none,none]}),(12,⟨2,[]⟩),(15,⟨2,[]⟩),(4,{next:=2,l:=[none,some {e:=1,var:=false,fz:=false,sz:=1,cells:=(bytesE (repB r i)).map C.d}]}),(25,⟨2,[]⟩),(43,⟨2,[]⟩),(44,⟨2,[]⟩),(51,⟨2,[]⟩),(59,⟨2,[]⟩),(60,⟨2,[]⟩)]⟩)
  (fun i=>i≤r.held.length) (fun _=>()) (fun i=>r.held.length - i) 0
  (Gh.canon [1,4] [43,44,51,59,60] [] (by simp only[zdK,zcD,zaq,zaE,zar,zaw,zax,zay,List.set_cons_zero,List.set_cons_succ,and_true,true_and,Int.natCast_zero,Int.cast_ofNat_Int,D.v.injEq,Value.int.injEq];try(repeat'(first|rfl|omega|with_reducible apply And.intro))) rfl (by rw[zdK];rfl)) (Nat.zero_le _) ?_
 intro i hi0 hF K hK
 repeat(first|with_reducible refine zaa _ _ ?_|with_reducible refine And.imp_right (zaa _ _) ?_|with_reducible refine And.imp_right (And.imp_right (zaa _ _)) ?_|with_reducible refine And.imp_right (And.imp_right (And.imp_right (zaa _ _))) ?_|rw[zaf]|simp only[zB,Nat.reduceSub,Nat.reduceEqDiff,Nat.reduceAdd,Nat.reduceMul,Nat.reduceLeDiff,Nat.reduceLT,Nat.reduceBEq,reduceCtorEq])
 refine zac (fun hlt=> ?_) (fun hge=> ?_)
 ·have hi:i<r.held.length:=by simpa using hlt
  have hat:=zaP hi
  have hw:=za3 hi (by omega)
  have hg:=hgr _ (List.getElem_mem hi)
  have hpm:=zgl r.held[i].token hg.2
  have hlb:(repB r i).length≤11+4*21:=by
   rw[repB,List.length_append,zcD]
   have:=zcg (l:=r.held.take i) (k:=12) fun g hx=>(hgr g (List.mem_of_mem_take hx)).1
   have:(r.held.take i).length≤4:=by rw[List.length_take];omega
   omega
  have w4:IntKind.u8.wrap (r.held[i].name.size:Int)=r.held[i].name.size:=zdc (by omega) (by omega)
  have k3:(bytesE (repB r i)).take (repB r i).length=bytesE (repB r i):=List.take_of_length_le (by rw[List.length_map];exact Nat.le_refl _)
  have k2:(bytesE (numB r.held[i].token)).take 8=bytesE (numB r.held[i].token):=List.take_of_length_le (by rw[za8];decide)
  have hle:((repB r i).length+1≤2^47)=True:=eq_true (by omega)
  have hle2:((repB r i).length+1+r.held[i].name.size≤2^47)=True:=eq_true (by omega)
  have hle3:((repB r i).length+1+r.held[i].name.size+8≤2^47)=True:=eq_true (by omega)
  have hsl:(repB r (i+1)).length=(repB r i).length+1+r.held[i].name.size+8:=by rw[zdJ hi,List.length_append,List.length_append,zb5,zbb];omega
  have k4:(bytesE (repB r i)++[D.v (Value.int .u8 (r.held[i].name.size:Int))]).take ((repB r i).length+1)=bytesE (repB r i)++[D.v (Value.int .u8 (r.held[i].name.size:Int))]:=List.take_of_length_le (by rw[List.length_append,List.length_map];exact Nat.le_refl _)
  have k5:(bytesE (repB r i)++[D.v (Value.int .u8 (r.held[i].name.size:Int))]++textE r.held[i].name).take ((repB r i).length+1+r.held[i].name.size)=bytesE (repB r i)++[D.v (Value.int .u8 (r.held[i].name.size:Int))]++textE r.held[i].name:=List.take_of_length_le (by rw[List.length_append,List.length_append,List.length_map,List.length_map,zcV];exact Nat.le_refl _)
  repeat'(first|(with_reducible first|refine zaa _ _ ?_|refine zad ?_|refine zae ?_)|rw[zaf]|simp only[hat,w4,k4,k5,List.cons_append,List.nil_append,zaD,hle,hle2,hle3,k2,k3,zcV,List.length_map,zbb,zY,Int.reduceEq,Int.reduceBEq,Int.reduceBNe,Nat.reduceSub,Nat.reduceEqDiff,Nat.reduceAdd,Nat.reduceMul,Nat.reduceLeDiff,Nat.reduceLT,Nat.reduceBEq,reduceCtorEq]|((first|((try refine zah ?_);apply zak)|(apply zai;intro _));(solve|exact(hpm)|(refine CallOK.le (hpm) ?_;exact zM)|fail);try case hn=>rfl)|refine zab ?_|refine zac (fun hb=> ?_) (fun hb=> ?_)|(refine And.intro ?_ ?_;exact zI)|refine And.intro (fun hg=> ?_) (fun hg=> ?_)|exact zC|fail)
  exact hK _ (i+1) (Gh.canon [1,4] [] [] (by simp only[hw,hsl,zaq,zaE,zar,zaw,zax,zay,List.set_cons_zero,List.set_cons_succ,and_true,true_and,Int.natCast_zero,Int.cast_ofNat_Int,D.v.injEq,Value.int.injEq];try(repeat'(first|rfl|omega|with_reducible apply And.intro))) rfl (by rw[zdJ hi];simp only[bytesE,List.map_append,textI,List.map_cons,List.map_map,List.append_assoc,List.cons_append,List.nil_append];rfl)) hi rfl (by omega)
 ·have hi:i=r.held.length:=by
   have:¬(i:Int)<r.held.length:=by simpa using hge
   omega
  subst hi
  repeat'(first|(with_reducible first|refine zaa _ _ ?_|refine zad ?_|refine zae ?_)|rw[zaf]|simp only[zY,Int.reduceEq,Int.reduceBEq,Int.reduceBNe,Nat.reduceSub,Nat.reduceEqDiff,Nat.reduceAdd,Nat.reduceMul,Nat.reduceLeDiff,Nat.reduceLT,Nat.reduceBEq,reduceCtorEq]|refine zab ?_|refine zac (fun hb=> ?_) (fun hb=> ?_)|(refine And.intro ?_ ?_;exact zI)|refine And.intro (fun hg=> ?_) (fun hg=> ?_)|exact zC|fail)
  rw[ziv]
theorem zgj (m:Memo) (h:answerB m=true):CallOK Tryz.prog 77 [.f (.agg m.lent)] (fun x o=>x=[.one (.own 1 (answerI m).length (bytesE (answerI m)) false),ri 0]∧o=[]):=by
 refine zal zat mixed (T:=Ty) (n:=25) Tryz.func77 (c:=Tryz.f77.body.getD .skip) rfl Tryz.results77 Tryz.ntmps77 Tryz.call77 ?_
 simp only[Tryz.f77,Option.getD]
 obtain⟨f1,f2,f3⟩:=zaS h
 have hmy:=zce m h
 have hpr:=zg2 m.reply f3
 have hpn:=zgl m.seq (by omega)
 have hrl:=zdX f3
 have w1:IntKind.u8.wrap m.client=m.client:=zdc (by omega) (by omega)
 have t2:(bytesE (replyI m.reply)).take (replyI m.reply).length=bytesE (replyI m.reply):=List.take_of_length_le (by rw[List.length_map];exact Nat.le_refl _)
 have hle:(9+(replyI m.reply).length≤2^47)=True:=eq_true (by omega)
 have t1:(bytesE (numB m.seq)).take 8=bytesE (numB m.seq):=List.take_of_length_le (by rw[za8];decide)
 repeat'(first|(with_reducible first|refine zaa _ _ ?_|refine zad ?_|refine zae ?_)|rw[zaf]|simp only[sub2,sub9,w1,t1,t2,hle,List.length_map,zbb,zY,Int.reduceEq,Int.reduceBEq,Int.reduceBNe,Nat.reduceSub,Nat.reduceEqDiff,Nat.reduceAdd,Nat.reduceMul,Nat.reduceLeDiff,Nat.reduceLT,Nat.reduceBEq,reduceCtorEq]|((first|((try refine zah ?_);apply zak)|(apply zai;intro _));(solve|exact(hmy)|exact(hpr)|exact(hpn)|(refine CallOK.le (hmy) ?_;exact zM)|(refine CallOK.le (hpr) ?_;exact zM)|(refine CallOK.le (hpn) ?_;exact zM)|fail);try case hn=>rfl)|refine zab ?_|refine zac (fun hb=> ?_) (fun hb=> ?_)|(refine And.intro ?_ ?_;exact zI)|refine And.intro (fun hg=> ?_) (fun hg=> ?_)|exact zC|fail)
 rw[show(answerI m).length=9+(replyI m.reply).length from by simp[answerI,zbb];omega]
 simp[answerI,bytesE]
theorem ziq (m:Memo) (h:answerB m=true):CallOK Tryz.prog 48 [.f (.agg ((pkMD m).map C.d))] (fun x o=>x=[.one (.own 1 (packAI m).length (bytesE (packAI m)) false),ri 0]∧o=[]):=by
 refine zal zat mixed (T:=Ty) (n:=112) Tryz.func48 (c:=Tryz.f48.body.getD .skip) rfl Tryz.results48 Tryz.ntmps48 Tryz.call48 ?_
 simp only[Tryz.f48,Option.getD]
 have hmy:=zlz m h
 have hpt:=zgj m h
 have hw:IntKind.u8.wrap 2=2:=zdc (by decide) (by decide)
 have hn:=zcf h
 have hle:(1+(answerI m).length≤2^47)=True:=eq_true (by omega)
 have t2:(bytesE (answerI m)).take (answerI m).length=bytesE (answerI m):=List.take_of_length_le (by rw[List.length_map];exact Nat.le_refl _)
 repeat'(first|(with_reducible first|refine zaa _ _ ?_|refine zad ?_|refine zae ?_)|rw[zaf]|simp only[hw,hle,t2,List.length_map,zY,Int.reduceEq,Int.reduceBEq,Int.reduceBNe,Nat.reduceSub,Nat.reduceEqDiff,Nat.reduceAdd,Nat.reduceMul,Nat.reduceLeDiff,Nat.reduceLT,Nat.reduceBEq,reduceCtorEq]|((first|((try refine zah ?_);apply zak)|(apply zai;intro _));(solve|exact(hmy)|exact(hpt)|(refine CallOK.le (hmy) ?_;exact zM)|(refine CallOK.le (hpt) ?_;exact zM)|fail);try case hn=>rfl)|refine zab ?_|refine zac (fun hb=> ?_) (fun hb=> ?_)|(refine And.intro ?_ ?_;exact zI)|refine And.intro (fun hg=> ?_) (fun hg=> ?_)|exact zC|fail)
 rw[show(packAI m).length=1+(answerI m).length from by unfold packAI;rw[List.length_append];rfl]
 rfl
theorem zlA (m:Memo) (h:answerB m=true):CallOK Tryz.prog 18 [.f (ai m.client), .f (ai m.seq), .f (.agg (replyD m.reply))] (fun x o=>x=[.one (.own 1 (packAI m).length (bytesE (packAI m)) false)]∧o=[]):=by
 refine zal zat mixed (T:=Ty) (n:=19) Tryz.func18 (c:=Tryz.f18.body.getD .skip) rfl Tryz.results18 Tryz.ntmps18 Tryz.call18 ?_
 simp only[Tryz.f18,Option.getD]
 repeat'(first|(with_reducible first|refine zaa _ _ ?_|refine zad ?_|refine zae ?_)|rw[zaf]|simp only[zY,Int.reduceEq,Int.reduceBEq,Int.reduceBNe,Nat.reduceSub,Nat.reduceEqDiff,Nat.reduceAdd,Nat.reduceMul,Nat.reduceLeDiff,Nat.reduceLT,Nat.reduceBEq,reduceCtorEq]|((first|((try refine zah ?_);apply zak)|(apply zai;intro _));(solve|exact(ziq m h)|(refine CallOK.le (ziq m h) ?_;exact zM)|fail);try case hn=>rfl)|refine zab ?_|refine zac (fun hb=> ?_) (fun hb=> ?_)|(refine And.intro ?_ ?_;exact zI)|refine And.intro (fun hg=> ?_) (fun hg=> ?_)|exact zC|fail)
end Go.Proofs.YtiegkabcgokhkaaGreat
