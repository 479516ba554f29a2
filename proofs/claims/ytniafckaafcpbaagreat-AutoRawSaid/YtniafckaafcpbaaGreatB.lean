import Derived.Test.YtniafckaafcpbaaGreatA
import Derived.Test.YtniafckaafcpbaaGreatK8
namespace Go.Proofs.YtniafckaafcpbaaGreat
open Go.Pk
set_option maxRecDepth 100000
set_option linter.unusedSimpArgs false
set_option linter.unusedVariables false
theorem zcZ {α:Type} {n:Nat} {l m:List α} (h:l.length=n):(l++m).take n=l:=List.take_left' h
theorem zf8 {α:Type} {n:Nat} {l m:List α} (h:l.length=n):(l++m).drop n=m:=List.drop_left' h
theorem zeO {α:Type} {n:Nat} {l m:List α} (h:l.length≤n):(l++m).drop n=m.drop (n - l.length):=by rw[List.drop_append,List.drop_eq_nil_of_le h,List.nil_append]
set_option maxHeartbeats 2000000 in
theorem zjr (n i:Nat) (ds vs:List D) (hd:ds.length=n*4) (hv:vs.length=4) (hi:i≤n) (hn:n<2^30):CallOK Tryz.prog 114 [.row 4 n ds, .f (ai i), .f (al 1 vs)]
  (fun r o=>r=[.one (.own 4 (n+1) (ds.take (i*4)++(vs++ds.drop (i*4))) true)]∧o=[[]]):=by
 refine CallOK.wk ?_ (by simp only[List.length_append,List.length_take,List.length_drop];omega)
 refine zbQ zaA mixed (T:=Ty) (n:=95) Tryz.func114 (c:=Tryz.f114.body.getD .skip) rfl Tryz.results114 Tryz.ntmps114 Tryz.call114 (fun k=>⟨(openG 95 [.row 4 n ds, .f (ai i), .f (al 1 vs)]).v.set 0 (.one (.gap ⟨0,1,0⟩ 0 (n) k)),(openG 95 [.row 4 n ds, .f (ai i), .f (al 1 vs)]).r⟩) (fun k=>(n)≤k) (fun cx a w hh=>zhc hh rfl rfl) ?_
 intro k hk
 simp only[Tryz.f114,Option.getD]
 have hz:(((1:Nat):Int)==0)=false:=rfl
 have hw1:IntKind.i64.wrap ((n:Int)+((1:Nat):Int))=((n+1:Nat):Int):=by rw[wrap64 (by omega) (by omega)];rfl
 have hw2:IntKind.i64.wrap (((n+1:Nat):Int) - (i:Int))=((n+1 - i:Nat):Int):=by rw[wrap64 (by omega) (by omega)];omega
 have hw3:IntKind.i64.wrap ((i:Int)+((1:Nat):Int))=((i+1:Nat):Int):=by rw[wrap64 (by omega) (by omega)];rfl
 have ht:ds.take (n*4)=ds:=List.take_of_length_le (by omega)
 have htv:vs.take 4=vs:=List.take_of_length_le (by omega)
 have hcon:(if([(6,1)]:List (Nat×Nat)).contains (0,1)=true then []else [C.own ⟨0,1,0⟩ 0 n])=[C.own ⟨0,1,0⟩ 0 n]:=rfl
 by_cases hin:i=n
 ·subst hin
  have hb1:((i:Int)==(i:Int))=true:=by simp
  have hdr:ds.drop (i*4)=[]:=List.drop_of_length_le (by omega)
  have hla:(ds++vs).length=(i+1)*4:=by rw[List.length_append];omega
  by_cases hk1:i+1≤k
  ·have e1:∀(a b:Out),(if i+1≤k then a else b)=a:=fun a b=>if_pos hk1
   repeat'(first|(with_reducible first|refine zaa _ _ ?_|refine zae ?_|refine zaf ?_)|rw[zad]|simp only[hz,hb1,hd,hv,ht,e1,hdr,hcon,zY,Int.reduceEq,Int.reduceBEq,Int.reduceBNe,Nat.reduceSub,Nat.reduceEqDiff,Nat.reduceAdd,Nat.reduceMul,Nat.reduceLeDiff,Nat.reduceLT,Nat.reduceBEq,reduceCtorEq]|refine zab ?_|refine zac (fun hb=> ?_) (fun hb=> ?_)|(refine And.intro ?_ ?_;exact zI)|refine And.intro (fun hg=> ?_) (fun hg=> ?_)|exact zC|fail)
   exact⟨[],_,by rw[List.append_nil], .inl trivial⟩
  ·have e1:∀(a b:Out),(if i+1≤k then a else b)=b:=fun a b=>if_neg hk1
   repeat'(first|(with_reducible first|refine zaa _ _ ?_|refine zae ?_|refine zaf ?_)|rw[zad]|simp only[hz,hb1,hd,hv,ht,e1,hdr,hcon,zY,Int.reduceEq,Int.reduceBEq,Int.reduceBNe,Nat.reduceSub,Nat.reduceEqDiff,Nat.reduceAdd,Nat.reduceMul,Nat.reduceLeDiff,Nat.reduceLT,Nat.reduceBEq,reduceCtorEq]|refine zab ?_|refine zac (fun hb=> ?_) (fun hb=> ?_)|(refine And.intro ?_ ?_;exact zI)|refine And.intro (fun hg=> ?_) (fun hg=> ?_)|exact zC|fail)
   exact⟨rfl,[],_,by rw[List.append_nil], .inr ⟨_,rfl⟩⟩
 ·have hb1:((i:Int)==(n:Int))=false:=by simp;omega
  obtain⟨A,hA⟩:∃A,A=ds.take (i*4):=⟨_,rfl⟩
  obtain⟨Bq,hB⟩:∃B,B=ds.drop (i*4):=⟨_,rfl⟩
  have hAl:A.length=i*4:=by rw[hA,List.length_take];omega
  have hBl:Bq.length=(n - i)*4:=by rw[hB,List.length_drop];omega
  have htB:Bq.take ((n - i)*4)=Bq:=List.take_of_length_le (by omega)
  by_cases hk1:n+1≤k
  ·have hb2:decide (((n+1:Nat):Int)>(k:Int))=false:=by simp;omega
   have hm1:min (n+1 - i) (n+1 - (i+1))=n - i:=by omega
   have hm2:min 1 (n+1 - i)=1:=by omega
   have htB2:Bq.take ((n+1 - i)*4)=Bq:=List.take_of_length_le (by omega)
   obtain⟨A1,hA1⟩:∃A,A=ds.take ((i+1)*4):=⟨_,rfl⟩
   have hA1l:A1.length=(i+1)*4:=by rw[hA1,List.length_take];omega
   have hA1t:A1.take (i*4)=A:=by rw[hA1,hA,List.take_take];congr 1;omega
   have e1:List.take ((i+1)*4) (List.map C.d ds)++List.map C.d Bq++List.drop ((i+1)*4+(n - i)*4) (List.map C.d ds)=List.map C.d (A1++Bq):=by
    rw[←List.map_take,←List.map_drop,←hA1,List.drop_of_length_le (by omega)];simp
   have e2:List.take (i*4) (List.map C.d (A1++Bq))++List.map C.d vs++List.drop (i*4+4) (List.map C.d (A1++Bq))=List.map C.d (A++(vs++Bq)):=by
    rw[←List.map_take,←List.map_drop,List.take_append_of_le_length (by omega),hA1t,zf8 (by omega)];simp
   have hl1:(A1++Bq).length=(n+1)*4:=by rw[List.length_append];omega
   have hl2:(A++(vs++Bq)).length=(n+1)*4:=by simp only[List.length_append];omega
   repeat'(first|(with_reducible first|refine zaa _ _ ?_|refine zae ?_|refine zaf ?_)|rw[zad]|simp only[hz,hb1,hb2,hw1,hw2,hw3,hd,hv,ht,hcon,zY,Int.reduceEq,Int.reduceBEq,Int.reduceBNe,Nat.reduceSub,Nat.reduceEqDiff,Nat.reduceAdd,Nat.reduceMul,Nat.reduceLeDiff,Nat.reduceLT,Nat.reduceBEq,reduceCtorEq]|refine zab ?_|refine zac (fun hb=> ?_) (fun hb=> ?_)|(refine And.intro ?_ ?_;exact zI)|refine And.intro (fun hg=> ?_) (fun hg=> ?_)|exact zC|fail)
   refine zer (zdn zaA (N:=138) Tryz.func138 (by kernel_rfl) (by kernel_rfl) (by kernel_rfl) (tS:=25) (tR:=4) (by kernel_rfl) (eE:=68) (ei:=⟨4,56,[.string .empty, .int .i64 0, .int .i64 0, .slice none 0 0], .struct [(0,9),(1,3),(2,3),(3,34)],false⟩) (by kernel_rfl) rfl rfl rfl rfl (.inr fun e=>by rw[e]at hv;cases hv) rfl rfl (fun e=>by
    have:=congrArg List.length e
    simp only[List.length_map,List.length_nil]at this
    omega)) ?_
   repeat'(first|(with_reducible first|refine zaa _ _ ?_|refine zae ?_|refine zaf ?_)|rw[zad]|simp only[hz,hb1,hb2,hw1,hw2,hw3,hm1,hm2,←hA,←hB,htB,htB2,hBl,hl1,hl2,e1,e2,hd,hv,ht,htv,hcon,Bool.not_false,zY,Int.reduceEq,Int.reduceBEq,Int.reduceBNe,Nat.reduceSub,Nat.reduceEqDiff,Nat.reduceAdd,Nat.reduceMul,Nat.reduceLeDiff,Nat.reduceLT,Nat.reduceBEq,reduceCtorEq]|refine zab ?_|refine zac (fun hb=> ?_) (fun hb=> ?_)|(refine And.intro ?_ ?_;exact zI)|refine And.intro (fun hg=> ?_) (fun hg=> ?_)|exact zC|fail)
   exact⟨[],_,by rw[List.append_nil], .inl trivial⟩
  ·have hb2:decide (((n+1:Nat):Int)>(k:Int))=true:=by simp;omega
   have hm1:min 1 (n+1 - i)=1:=by omega
   have hm2:min (n - i) (n+1 - (i+1))=n - i:=by omega
   have hn1:i+(n+1 - i)=n+1:=by omega
   obtain⟨Z,hZ⟩:∃Z,Z=zeroD [.string .empty, .int .i64 0, .int .i64 0, .slice none 0 0] (n+1 - i):=⟨_,rfl⟩
   have hZl:Z.length=(n+1 - i)*4:=by rw[hZ,zbC];rfl
   have e1:List.take (i*4) (List.map C.d (A++Z))++List.map C.d vs++List.drop (i*4+4) (List.map C.d (A++Z))=List.map C.d (A++vs++Z.drop 4):=by
    rw[←List.map_take,←List.map_drop,zcZ hAl,zeO (by omega),hAl,Nat.add_sub_cancel_left];simp
   have e2:List.take ((i+1)*4) (List.map C.d (A++vs++Z.drop 4))++List.map C.d Bq++List.drop ((i+1)*4+(n - i)*4) (List.map C.d (A++vs++Z.drop 4))=List.map C.d (A++(vs++Bq)):=by
    rw[←List.map_take,←List.map_drop,zcZ (by rw[List.length_append];omega),List.drop_of_length_le (by simp only[List.length_append,List.length_drop];omega)];simp
   have hl1:(A++vs++Z.drop 4).length=(n+1)*4:=by simp only[List.length_append,List.length_drop];omega
   have hl2:(A++Z).length=(n+1)*4:=by simp only[List.length_append];omega
   repeat'(first|(with_reducible first|refine zaa _ _ ?_|refine zae ?_|refine zaf ?_)|rw[zad]|simp only[hz,hb1,hb2,hw1,hw2,hw3,hm1,hm2,hn1,←hA,←hB,←hZ,hd,hv,ht,htv,htB,hBl,hl1,hl2,e1,e2,hcon,zY,Int.reduceEq,Int.reduceBEq,Int.reduceBNe,Nat.reduceSub,Nat.reduceEqDiff,Nat.reduceAdd,Nat.reduceMul,Nat.reduceLeDiff,Nat.reduceLT,Nat.reduceBEq,reduceCtorEq]|refine zab ?_|refine zac (fun hb=> ?_) (fun hb=> ?_)|(refine And.intro ?_ ?_;exact zI)|refine And.intro (fun hg=> ?_) (fun hg=> ?_)|exact zC|fail)
   exact⟨rfl,[],_,by rw[List.append_nil], .inr ⟨_,rfl⟩⟩
set_option maxHeartbeats 2000000 in
theorem zjs (n i:Nat) (ds vs:List D) (hd:ds.length=n*3) (hv:vs.length=3) (hi:i≤n) (hn:n<2^30):CallOK Tryz.prog 134 [.row 3 n ds, .f (ai i), .f (al 1 vs)]
  (fun r o=>r=[.one (.own 3 (n+1) (ds.take (i*3)++(vs++ds.drop (i*3))) true)]∧o=[[]]):=by
 refine CallOK.wk ?_ (by simp only[List.length_append,List.length_take,List.length_drop];omega)
 refine zbQ zaA mixed (T:=Ty) (n:=95) Tryz.func134 (c:=Tryz.f134.body.getD .skip) rfl Tryz.results134 Tryz.ntmps134 Tryz.call134 (fun k=>⟨(openG 95 [.row 3 n ds, .f (ai i), .f (al 1 vs)]).v.set 0 (.one (.gap ⟨0,1,0⟩ 0 (n) k)),(openG 95 [.row 3 n ds, .f (ai i), .f (al 1 vs)]).r⟩) (fun k=>(n)≤k) (fun cx a w hh=>zhc hh rfl rfl) ?_
 intro k hk
 simp only[Tryz.f134,Option.getD]
 have hz:(((1:Nat):Int)==0)=false:=rfl
 have hw1:IntKind.i64.wrap ((n:Int)+((1:Nat):Int))=((n+1:Nat):Int):=by rw[wrap64 (by omega) (by omega)];rfl
 have hw2:IntKind.i64.wrap (((n+1:Nat):Int) - (i:Int))=((n+1 - i:Nat):Int):=by rw[wrap64 (by omega) (by omega)];omega
 have hw3:IntKind.i64.wrap ((i:Int)+((1:Nat):Int))=((i+1:Nat):Int):=by rw[wrap64 (by omega) (by omega)];rfl
 have ht:ds.take (n*3)=ds:=List.take_of_length_le (by omega)
 have htv:vs.take 3=vs:=List.take_of_length_le (by omega)
 have hcon:(if([(6,1)]:List (Nat×Nat)).contains (0,1)=true then []else [C.own ⟨0,1,0⟩ 0 n])=[C.own ⟨0,1,0⟩ 0 n]:=rfl
 by_cases hin:i=n
 ·subst hin
  have hb1:((i:Int)==(i:Int))=true:=by simp
  have hdr:ds.drop (i*3)=[]:=List.drop_of_length_le (by omega)
  have hla:(ds++vs).length=(i+1)*3:=by rw[List.length_append];omega
  by_cases hk1:i+1≤k
  ·have e1:∀(a b:Out),(if i+1≤k then a else b)=a:=fun a b=>if_pos hk1
   repeat'(first|(with_reducible first|refine zaa _ _ ?_|refine zae ?_|refine zaf ?_)|rw[zad]|simp only[hz,hb1,hd,hv,ht,e1,hdr,hcon,zY,Int.reduceEq,Int.reduceBEq,Int.reduceBNe,Nat.reduceSub,Nat.reduceEqDiff,Nat.reduceAdd,Nat.reduceMul,Nat.reduceLeDiff,Nat.reduceLT,Nat.reduceBEq,reduceCtorEq]|refine zab ?_|refine zac (fun hb=> ?_) (fun hb=> ?_)|(refine And.intro ?_ ?_;exact zI)|refine And.intro (fun hg=> ?_) (fun hg=> ?_)|exact zC|fail)
   exact⟨[],_,by rw[List.append_nil], .inl trivial⟩
  ·have e1:∀(a b:Out),(if i+1≤k then a else b)=b:=fun a b=>if_neg hk1
   repeat'(first|(with_reducible first|refine zaa _ _ ?_|refine zae ?_|refine zaf ?_)|rw[zad]|simp only[hz,hb1,hd,hv,ht,e1,hdr,hcon,zY,Int.reduceEq,Int.reduceBEq,Int.reduceBNe,Nat.reduceSub,Nat.reduceEqDiff,Nat.reduceAdd,Nat.reduceMul,Nat.reduceLeDiff,Nat.reduceLT,Nat.reduceBEq,reduceCtorEq]|refine zab ?_|refine zac (fun hb=> ?_) (fun hb=> ?_)|(refine And.intro ?_ ?_;exact zI)|refine And.intro (fun hg=> ?_) (fun hg=> ?_)|exact zC|fail)
   exact⟨rfl,[],_,by rw[List.append_nil], .inr ⟨_,rfl⟩⟩
 ·have hb1:((i:Int)==(n:Int))=false:=by simp;omega
  obtain⟨A,hA⟩:∃A,A=ds.take (i*3):=⟨_,rfl⟩
  obtain⟨Bq,hB⟩:∃B,B=ds.drop (i*3):=⟨_,rfl⟩
  have hAl:A.length=i*3:=by rw[hA,List.length_take];omega
  have hBl:Bq.length=(n - i)*3:=by rw[hB,List.length_drop];omega
  have htB:Bq.take ((n - i)*3)=Bq:=List.take_of_length_le (by omega)
  by_cases hk1:n+1≤k
  ·have hb2:decide (((n+1:Nat):Int)>(k:Int))=false:=by simp;omega
   have hm1:min (n+1 - i) (n+1 - (i+1))=n - i:=by omega
   have hm2:min 1 (n+1 - i)=1:=by omega
   have htB2:Bq.take ((n+1 - i)*3)=Bq:=List.take_of_length_le (by omega)
   obtain⟨A1,hA1⟩:∃A,A=ds.take ((i+1)*3):=⟨_,rfl⟩
   have hA1l:A1.length=(i+1)*3:=by rw[hA1,List.length_take];omega
   have hA1t:A1.take (i*3)=A:=by rw[hA1,hA,List.take_take];congr 1;omega
   have e1:List.take ((i+1)*3) (List.map C.d ds)++List.map C.d Bq++List.drop ((i+1)*3+(n - i)*3) (List.map C.d ds)=List.map C.d (A1++Bq):=by
    rw[←List.map_take,←List.map_drop,←hA1,List.drop_of_length_le (by omega)];simp
   have e2:List.take (i*3) (List.map C.d (A1++Bq))++List.map C.d vs++List.drop (i*3+3) (List.map C.d (A1++Bq))=List.map C.d (A++(vs++Bq)):=by
    rw[←List.map_take,←List.map_drop,List.take_append_of_le_length (by omega),hA1t,zf8 (by omega)];simp
   have hl1:(A1++Bq).length=(n+1)*3:=by rw[List.length_append];omega
   have hl2:(A++(vs++Bq)).length=(n+1)*3:=by simp only[List.length_append];omega
   repeat'(first|(with_reducible first|refine zaa _ _ ?_|refine zae ?_|refine zaf ?_)|rw[zad]|simp only[hz,hb1,hb2,hw1,hw2,hw3,hd,hv,ht,hcon,zY,Int.reduceEq,Int.reduceBEq,Int.reduceBNe,Nat.reduceSub,Nat.reduceEqDiff,Nat.reduceAdd,Nat.reduceMul,Nat.reduceLeDiff,Nat.reduceLT,Nat.reduceBEq,reduceCtorEq]|refine zab ?_|refine zac (fun hb=> ?_) (fun hb=> ?_)|(refine And.intro ?_ ?_;exact zI)|refine And.intro (fun hg=> ?_) (fun hg=> ?_)|exact zC|fail)
   refine zer (zdn zaA (N:=143) Tryz.func143 (by kernel_rfl) (by kernel_rfl) (by kernel_rfl) (tS:=24) (tR:=4) (by kernel_rfl) (eE:=55) (ei:=⟨3,24,[.int .i64 0, .int .i64 0, .int .i64 0], .struct [(0,3),(1,3),(2,3)],true⟩) (by kernel_rfl) rfl rfl rfl rfl (.inr fun e=>by rw[e]at hv;cases hv) rfl rfl (fun e=>by
    have:=congrArg List.length e
    simp only[List.length_map,List.length_nil]at this
    omega)) ?_
   repeat'(first|(with_reducible first|refine zaa _ _ ?_|refine zae ?_|refine zaf ?_)|rw[zad]|simp only[hz,hb1,hb2,hw1,hw2,hw3,hm1,hm2,←hA,←hB,htB,htB2,hBl,hl1,hl2,e1,e2,hd,hv,ht,htv,hcon,Bool.not_false,zY,Int.reduceEq,Int.reduceBEq,Int.reduceBNe,Nat.reduceSub,Nat.reduceEqDiff,Nat.reduceAdd,Nat.reduceMul,Nat.reduceLeDiff,Nat.reduceLT,Nat.reduceBEq,reduceCtorEq]|refine zab ?_|refine zac (fun hb=> ?_) (fun hb=> ?_)|(refine And.intro ?_ ?_;exact zI)|refine And.intro (fun hg=> ?_) (fun hg=> ?_)|exact zC|fail)
   exact⟨[],_,by rw[List.append_nil], .inl trivial⟩
  ·have hb2:decide (((n+1:Nat):Int)>(k:Int))=true:=by simp;omega
   have hm1:min 1 (n+1 - i)=1:=by omega
   have hm2:min (n - i) (n+1 - (i+1))=n - i:=by omega
   have hn1:i+(n+1 - i)=n+1:=by omega
   obtain⟨Z,hZ⟩:∃Z,Z=zeroD [.int .i64 0, .int .i64 0, .int .i64 0] (n+1 - i):=⟨_,rfl⟩
   have hZl:Z.length=(n+1 - i)*3:=by rw[hZ,zbC];rfl
   have e1:List.take (i*3) (List.map C.d (A++Z))++List.map C.d vs++List.drop (i*3+3) (List.map C.d (A++Z))=List.map C.d (A++vs++Z.drop 3):=by
    rw[←List.map_take,←List.map_drop,zcZ hAl,zeO (by omega),hAl,Nat.add_sub_cancel_left];simp
   have e2:List.take ((i+1)*3) (List.map C.d (A++vs++Z.drop 3))++List.map C.d Bq++List.drop ((i+1)*3+(n - i)*3) (List.map C.d (A++vs++Z.drop 3))=List.map C.d (A++(vs++Bq)):=by
    rw[←List.map_take,←List.map_drop,zcZ (by rw[List.length_append];omega),List.drop_of_length_le (by simp only[List.length_append,List.length_drop];omega)];simp
   have hl1:(A++vs++Z.drop 3).length=(n+1)*3:=by simp only[List.length_append,List.length_drop];omega
   have hl2:(A++Z).length=(n+1)*3:=by simp only[List.length_append];omega
   repeat'(first|(with_reducible first|refine zaa _ _ ?_|refine zae ?_|refine zaf ?_)|rw[zad]|simp only[hz,hb1,hb2,hw1,hw2,hw3,hm1,hm2,hn1,←hA,←hB,←hZ,hd,hv,ht,htv,htB,hBl,hl1,hl2,e1,e2,hcon,zY,Int.reduceEq,Int.reduceBEq,Int.reduceBNe,Nat.reduceSub,Nat.reduceEqDiff,Nat.reduceAdd,Nat.reduceMul,Nat.reduceLeDiff,Nat.reduceLT,Nat.reduceBEq,reduceCtorEq]|refine zab ?_|refine zac (fun hb=> ?_) (fun hb=> ?_)|(refine And.intro ?_ ?_;exact zI)|refine And.intro (fun hg=> ?_) (fun hg=> ?_)|exact zC|fail)
   exact⟨rfl,[],_,by rw[List.append_nil], .inr ⟨_,rfl⟩⟩
set_option maxHeartbeats 2000000 in
theorem zjt (n i:Nat) (ds vs:List D) (hd:ds.length=n*6) (hv:vs.length=6) (hi:i≤n) (hn:n<2^30):CallOK Tryz.prog 81 [.row 6 n ds, .f (ai i), .f (al 1 vs)]
  (fun r o=>r=[.one (.own 6 (n+1) (ds.take (i*6)++(vs++ds.drop (i*6))) true)]∧o=[[]]):=by
 refine CallOK.wk ?_ (by simp only[List.length_append,List.length_take,List.length_drop];omega)
 refine zbQ zaA mixed (T:=Ty) (n:=95) Tryz.func81 (c:=Tryz.f81.body.getD .skip) rfl Tryz.results81 Tryz.ntmps81 Tryz.call81 (fun k=>⟨(openG 95 [.row 6 n ds, .f (ai i), .f (al 1 vs)]).v.set 0 (.one (.gap ⟨0,1,0⟩ 0 (n) k)),(openG 95 [.row 6 n ds, .f (ai i), .f (al 1 vs)]).r⟩) (fun k=>(n)≤k) (fun cx a w hh=>zhc hh rfl rfl) ?_
 intro k hk
 simp only[Tryz.f81,Option.getD]
 have hz:(((1:Nat):Int)==0)=false:=rfl
 have hw1:IntKind.i64.wrap ((n:Int)+((1:Nat):Int))=((n+1:Nat):Int):=by rw[wrap64 (by omega) (by omega)];rfl
 have hw2:IntKind.i64.wrap (((n+1:Nat):Int) - (i:Int))=((n+1 - i:Nat):Int):=by rw[wrap64 (by omega) (by omega)];omega
 have hw3:IntKind.i64.wrap ((i:Int)+((1:Nat):Int))=((i+1:Nat):Int):=by rw[wrap64 (by omega) (by omega)];rfl
 have ht:ds.take (n*6)=ds:=List.take_of_length_le (by omega)
 have htv:vs.take 6=vs:=List.take_of_length_le (by omega)
 have hcon:(if([(6,1)]:List (Nat×Nat)).contains (0,1)=true then []else [C.own ⟨0,1,0⟩ 0 n])=[C.own ⟨0,1,0⟩ 0 n]:=rfl
 by_cases hin:i=n
 ·subst hin
  have hb1:((i:Int)==(i:Int))=true:=by simp
  have hdr:ds.drop (i*6)=[]:=List.drop_of_length_le (by omega)
  have hla:(ds++vs).length=(i+1)*6:=by rw[List.length_append];omega
  by_cases hk1:i+1≤k
  ·have e1:∀(a b:Out),(if i+1≤k then a else b)=a:=fun a b=>if_pos hk1
   repeat'(first|(with_reducible first|refine zaa _ _ ?_|refine zae ?_|refine zaf ?_)|rw[zad]|simp only[hz,hb1,hd,hv,ht,e1,hdr,hcon,zY,Int.reduceEq,Int.reduceBEq,Int.reduceBNe,Nat.reduceSub,Nat.reduceEqDiff,Nat.reduceAdd,Nat.reduceMul,Nat.reduceLeDiff,Nat.reduceLT,Nat.reduceBEq,reduceCtorEq]|refine zab ?_|refine zac (fun hb=> ?_) (fun hb=> ?_)|(refine And.intro ?_ ?_;exact zI)|refine And.intro (fun hg=> ?_) (fun hg=> ?_)|exact zC|fail)
   exact⟨[],_,by rw[List.append_nil], .inl trivial⟩
  ·have e1:∀(a b:Out),(if i+1≤k then a else b)=b:=fun a b=>if_neg hk1
   repeat'(first|(with_reducible first|refine zaa _ _ ?_|refine zae ?_|refine zaf ?_)|rw[zad]|simp only[hz,hb1,hd,hv,ht,e1,hdr,hcon,zY,Int.reduceEq,Int.reduceBEq,Int.reduceBNe,Nat.reduceSub,Nat.reduceEqDiff,Nat.reduceAdd,Nat.reduceMul,Nat.reduceLeDiff,Nat.reduceLT,Nat.reduceBEq,reduceCtorEq]|refine zab ?_|refine zac (fun hb=> ?_) (fun hb=> ?_)|(refine And.intro ?_ ?_;exact zI)|refine And.intro (fun hg=> ?_) (fun hg=> ?_)|exact zC|fail)
   exact⟨rfl,[],_,by rw[List.append_nil], .inr ⟨_,rfl⟩⟩
 ·have hb1:((i:Int)==(n:Int))=false:=by simp;omega
  obtain⟨A,hA⟩:∃A,A=ds.take (i*6):=⟨_,rfl⟩
  obtain⟨Bq,hB⟩:∃B,B=ds.drop (i*6):=⟨_,rfl⟩
  have hAl:A.length=i*6:=by rw[hA,List.length_take];omega
  have hBl:Bq.length=(n - i)*6:=by rw[hB,List.length_drop];omega
  have htB:Bq.take ((n - i)*6)=Bq:=List.take_of_length_le (by omega)
  by_cases hk1:n+1≤k
  ·have hb2:decide (((n+1:Nat):Int)>(k:Int))=false:=by simp;omega
   have hm1:min (n+1 - i) (n+1 - (i+1))=n - i:=by omega
   have hm2:min 1 (n+1 - i)=1:=by omega
   have htB2:Bq.take ((n+1 - i)*6)=Bq:=List.take_of_length_le (by omega)
   obtain⟨A1,hA1⟩:∃A,A=ds.take ((i+1)*6):=⟨_,rfl⟩
   have hA1l:A1.length=(i+1)*6:=by rw[hA1,List.length_take];omega
   have hA1t:A1.take (i*6)=A:=by rw[hA1,hA,List.take_take];congr 1;omega
   have e1:List.take ((i+1)*6) (List.map C.d ds)++List.map C.d Bq++List.drop ((i+1)*6+(n - i)*6) (List.map C.d ds)=List.map C.d (A1++Bq):=by
    rw[←List.map_take,←List.map_drop,←hA1,List.drop_of_length_le (by omega)];simp
   have e2:List.take (i*6) (List.map C.d (A1++Bq))++List.map C.d vs++List.drop (i*6+6) (List.map C.d (A1++Bq))=List.map C.d (A++(vs++Bq)):=by
    rw[←List.map_take,←List.map_drop,List.take_append_of_le_length (by omega),hA1t,zf8 (by omega)];simp
   have hl1:(A1++Bq).length=(n+1)*6:=by rw[List.length_append];omega
   have hl2:(A++(vs++Bq)).length=(n+1)*6:=by simp only[List.length_append];omega
   repeat'(first|(with_reducible first|refine zaa _ _ ?_|refine zae ?_|refine zaf ?_)|rw[zad]|simp only[hz,hb1,hb2,hw1,hw2,hw3,hd,hv,ht,hcon,zY,Int.reduceEq,Int.reduceBEq,Int.reduceBNe,Nat.reduceSub,Nat.reduceEqDiff,Nat.reduceAdd,Nat.reduceMul,Nat.reduceLeDiff,Nat.reduceLT,Nat.reduceBEq,reduceCtorEq]|refine zab ?_|refine zac (fun hb=> ?_) (fun hb=> ?_)|(refine And.intro ?_ ?_;exact zI)|refine And.intro (fun hg=> ?_) (fun hg=> ?_)|exact zC|fail)
   refine zer (zdn zaA (N:=119) Tryz.func119 (by kernel_rfl) (by kernel_rfl) (by kernel_rfl) (tS:=26) (tR:=4) (by kernel_rfl) (eE:=60) (ei:=⟨6,64,[.int .i64 0, .int .i64 0, .int .i64 0, .int .i64 0, .int .i64 0, .slice none 0 0], .struct [(0,3),(1,3),(2,44)],false⟩) (by kernel_rfl) rfl rfl rfl rfl (.inr fun e=>by rw[e]at hv;cases hv) rfl rfl (fun e=>by
    have:=congrArg List.length e
    simp only[List.length_map,List.length_nil]at this
    omega)) ?_
   repeat'(first|(with_reducible first|refine zaa _ _ ?_|refine zae ?_|refine zaf ?_)|rw[zad]|simp only[hz,hb1,hb2,hw1,hw2,hw3,hm1,hm2,←hA,←hB,htB,htB2,hBl,hl1,hl2,e1,e2,hd,hv,ht,htv,hcon,Bool.not_false,zY,Int.reduceEq,Int.reduceBEq,Int.reduceBNe,Nat.reduceSub,Nat.reduceEqDiff,Nat.reduceAdd,Nat.reduceMul,Nat.reduceLeDiff,Nat.reduceLT,Nat.reduceBEq,reduceCtorEq]|refine zab ?_|refine zac (fun hb=> ?_) (fun hb=> ?_)|(refine And.intro ?_ ?_;exact zI)|refine And.intro (fun hg=> ?_) (fun hg=> ?_)|exact zC|fail)
   exact⟨[],_,by rw[List.append_nil], .inl trivial⟩
  ·have hb2:decide (((n+1:Nat):Int)>(k:Int))=true:=by simp;omega
   have hm1:min 1 (n+1 - i)=1:=by omega
   have hm2:min (n - i) (n+1 - (i+1))=n - i:=by omega
   have hn1:i+(n+1 - i)=n+1:=by omega
   obtain⟨Z,hZ⟩:∃Z,Z=zeroD [.int .i64 0, .int .i64 0, .int .i64 0, .int .i64 0, .int .i64 0, .slice none 0 0] (n+1 - i):=⟨_,rfl⟩
   have hZl:Z.length=(n+1 - i)*6:=by rw[hZ,zbC];rfl
   have e1:List.take (i*6) (List.map C.d (A++Z))++List.map C.d vs++List.drop (i*6+6) (List.map C.d (A++Z))=List.map C.d (A++vs++Z.drop 6):=by
    rw[←List.map_take,←List.map_drop,zcZ hAl,zeO (by omega),hAl,Nat.add_sub_cancel_left];simp
   have e2:List.take ((i+1)*6) (List.map C.d (A++vs++Z.drop 6))++List.map C.d Bq++List.drop ((i+1)*6+(n - i)*6) (List.map C.d (A++vs++Z.drop 6))=List.map C.d (A++(vs++Bq)):=by
    rw[←List.map_take,←List.map_drop,zcZ (by rw[List.length_append];omega),List.drop_of_length_le (by simp only[List.length_append,List.length_drop];omega)];simp
   have hl1:(A++vs++Z.drop 6).length=(n+1)*6:=by simp only[List.length_append,List.length_drop];omega
   have hl2:(A++Z).length=(n+1)*6:=by simp only[List.length_append];omega
   repeat'(first|(with_reducible first|refine zaa _ _ ?_|refine zae ?_|refine zaf ?_)|rw[zad]|simp only[hz,hb1,hb2,hw1,hw2,hw3,hm1,hm2,hn1,←hA,←hB,←hZ,hd,hv,ht,htv,htB,hBl,hl1,hl2,e1,e2,hcon,zY,Int.reduceEq,Int.reduceBEq,Int.reduceBNe,Nat.reduceSub,Nat.reduceEqDiff,Nat.reduceAdd,Nat.reduceMul,Nat.reduceLeDiff,Nat.reduceLT,Nat.reduceBEq,reduceCtorEq]|refine zab ?_|refine zac (fun hb=> ?_) (fun hb=> ?_)|(refine And.intro ?_ ?_;exact zI)|refine And.intro (fun hg=> ?_) (fun hg=> ?_)|exact zC|fail)
   exact⟨rfl,[],_,by rw[List.append_nil], .inr ⟨_,rfl⟩⟩
end Go.Proofs.YtniafckaafcpbaaGreat
