import Derived.Test.YtniafckaafcpbaaGreatB
namespace Go.Proofs.YtniafckaafcpbaaGreat
open Go.Pk
set_option maxRecDepth 100000
set_option linter.unusedSimpArgs false
set_option linter.unusedVariables false
set_option maxHeartbeats 2000000 in
theorem zjq (n i:Nat) (ds:List D) (hd:ds.length=(n+1)*4) (hi:i≤n) (hn:n<2^30):CallOK Tryz.prog 132 [.row 4 (n+1) ds, .f (ai i), .f (ai ((i+1:Nat):Int))]
  (fun r o=>r=[.one (.own 4 n (ds.take (i*4)++ds.drop ((i+1)*4)) true)]∧o=[[]]):=by
 refine CallOK.wk ?_ (by simp only[List.length_append,List.length_take,List.length_drop];omega)
 refine zbQ zaA mixed (T:=Ty) (n:=33) Tryz.func132 (c:=Tryz.f132.body.getD .skip) rfl Tryz.results132 Tryz.ntmps132 Tryz.call132 (fun k=>⟨(openG 33 [.row 4 (n+1) ds, .f (ai i), .f (ai ((i+1:Nat):Int))]).v.set 0 (.one (.gap ⟨0,1,0⟩ 0 (n+1) k)),(openG 33 [.row 4 (n+1) ds, .f (ai i), .f (ai ((i+1:Nat):Int))]).r⟩) (fun k=>(n+1)≤k) (fun cx a w hh=>zhc hh rfl rfl) ?_
 intro k hk
 simp only[Tryz.f132,Option.getD]
 have hb1:((i:Int)==((i+1:Nat):Int))=false:=by simp;omega
 obtain⟨A,hA⟩:∃A,A=ds.take (i*4):=⟨_,rfl⟩
 obtain⟨Bq,hB⟩:∃B,B=ds.drop ((i+1)*4):=⟨_,rfl⟩
 have hn1:i+(n+1 - (i+1))=n:=by omega
 have hAl:A.length=i*4:=by rw[hA,List.length_take];omega
 have hBl:Bq.length=(n+1 - (i+1))*4:=by rw[hB,List.length_drop];omega
 have htB:Bq.take ((n+1 - (i+1))*4)=Bq:=List.take_of_length_le (by omega)
 obtain⟨Z,hZ⟩:∃Z,Z=zeroD [.string .empty, .int .i64 0, .int .i64 0, .slice none 0 0] (n+1 - n):=⟨_,rfl⟩
 have hl1:(A++Bq).length=n*4:=by rw[List.length_append];omega
 have e1:∀(a b:Out),(if n≤k then a else b)=a:=fun a b=>if_pos (by omega)
 have e2:List.take (n*4) (List.map C.d (A++Bq))++List.map C.d Z++List.drop (n*4+Z.length) (List.map C.d (A++Bq))=List.map C.d (A++Bq++Z):=by
  rw[List.take_of_length_le (by rw[List.length_map];omega),List.drop_of_length_le (by rw[List.length_map];omega)];simp
 have hl2:n*4≤(A++Bq++Z).length:=by rw[List.length_append];omega
 repeat'(first|(with_reducible first|refine zaa _ _ ?_|refine zae ?_|refine zaf ?_)|rw[zad]|simp only[hb1,e1,hd,←hA,←hB,htB,hBl,hn1,←hZ,e2,hl1,zY,Int.reduceEq,Int.reduceBEq,Int.reduceBNe,Nat.reduceSub,Nat.reduceEqDiff,Nat.reduceAdd,Nat.reduceMul,Nat.reduceLeDiff,Nat.reduceLT,Nat.reduceBEq,reduceCtorEq]|refine zab ?_|refine zac (fun hb=> ?_) (fun hb=> ?_)|(refine And.intro ?_ ?_;exact zI)|refine And.intro (fun hg=> ?_) (fun hg=> ?_)|exact zC|fail)
 exact⟨Z,_,rfl, .inl trivial⟩
set_option maxHeartbeats 2000000 in
theorem zkh (n i:Nat) (ds:List D) (hd:ds.length=(n+1)) (hi:i≤n) (hn:n<2^30):CallOK Tryz.prog 140 [.row 1 (n+1) ds, .f (ai i), .f (ai ((i+1:Nat):Int))]
  (fun r o=>r=[.one (.own 1 n (ds.take (i)++ds.drop ((i+1))) true)]∧o=[[]]):=by
 refine CallOK.wk ?_ (by simp only[List.length_append,List.length_take,List.length_drop];omega)
 refine zbQ zaA mixed (T:=Ty) (n:=33) Tryz.func140 (c:=Tryz.f140.body.getD .skip) rfl Tryz.results140 Tryz.ntmps140 Tryz.call140 (fun k=>⟨(openG 33 [.row 1 (n+1) ds, .f (ai i), .f (ai ((i+1:Nat):Int))]).v.set 0 (.one (.gap ⟨0,1,0⟩ 0 (n+1) k)),(openG 33 [.row 1 (n+1) ds, .f (ai i), .f (ai ((i+1:Nat):Int))]).r⟩) (fun k=>(n+1)≤k) (fun cx a w hh=>zhc hh rfl rfl) ?_
 intro k hk
 simp only[Tryz.f140,Option.getD]
 have hb1:((i:Int)==((i+1:Nat):Int))=false:=by simp;omega
 obtain⟨A,hA⟩:∃A,A=ds.take (i):=⟨_,rfl⟩
 obtain⟨Bq,hB⟩:∃B,B=ds.drop ((i+1)):=⟨_,rfl⟩
 have hn1:i+(n+1 - (i+1))=n:=by omega
 have hAl:A.length=i:=by rw[hA,List.length_take];omega
 have hBl:Bq.length=(n+1 - (i+1)):=by rw[hB,List.length_drop];omega
 have htB:Bq.take ((n+1 - (i+1)))=Bq:=List.take_of_length_le (by omega)
 obtain⟨Z,hZ⟩:∃Z,Z=zeroD [.int .i64 0] (n+1 - n):=⟨_,rfl⟩
 have hl1:(A++Bq).length=n:=by rw[List.length_append];omega
 have e1:∀(a b:Out),(if n≤k then a else b)=a:=fun a b=>if_pos (by omega)
 have e2:List.take (n) (List.map C.d (A++Bq))++List.map C.d Z++List.drop (n+Z.length) (List.map C.d (A++Bq))=List.map C.d (A++Bq++Z):=by
  rw[List.take_of_length_le (by rw[List.length_map];omega),List.drop_of_length_le (by rw[List.length_map];omega)];simp
 have hl2:n≤(A++Bq++Z).length:=by rw[List.length_append];omega
 repeat'(first|(with_reducible first|refine zaa _ _ ?_|refine zae ?_|refine zaf ?_)|rw[zad]|simp only[hb1,e1,hd,←hA,←hB,htB,hBl,hn1,←hZ,e2,hl1,zY,Int.reduceEq,Int.reduceBEq,Int.reduceBNe,Nat.reduceSub,Nat.reduceEqDiff,Nat.reduceAdd,Nat.reduceMul,Nat.reduceLeDiff,Nat.reduceLT,Nat.reduceBEq,reduceCtorEq]|refine zab ?_|refine zac (fun hb=> ?_) (fun hb=> ?_)|(refine And.intro ?_ ?_;exact zI)|refine And.intro (fun hg=> ?_) (fun hg=> ?_)|exact zC|fail)
 exact⟨Z,_,rfl, .inl trivial⟩
end Go.Proofs.YtniafckaafcpbaaGreat
