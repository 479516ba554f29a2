import Derived.Test.YtngleemijkaeoaaGreatTy
import Derived.Test.YtngleemijkaeoaaGreatK9
import Derived.KernelRfl
namespace Go.Proofs.YtngleemijkaeoaaGreat
open Go.Pk
set_option maxRecDepth 100000
set_option linter.unusedSimpArgs false
set_option linter.unusedVariables false
theorem zxS:(([31,108,50,126]:List Nat)).all (eqB Tryz.prog)=true:=by kernel_rfl
theorem zar:TOK Tryz.prog Ty:=zuJ fun t ht=>List.all_eq_true.1 zxS t ht
theorem mixed:Tryz.prog.follows .mixedOrders=true:=by kernel_rfl
def zfU (c:UInt8):Bool:= !((decide ((c.toNat:Int)<97)||decide ((c.toNat:Int)>122))&&(decide ((c.toNat:Int)<48)||decide ((c.toNat:Int)>57))&&((c.toNat:Int) !=45))
def nameP (s:ByteArray):Bool:=((List.range s.size).all fun j=>zfU (s.data.getD j 0))&&(decide ((s.size:Int)≥1)&&decide ((s.size:Int)≤12))
theorem znA (k:Int):CallOK Tryz.prog 118 [.f (ai k)] (fun r o=>r=[rb (k==3||k==4||k==5)]∧o=[]):=by
 refine zac zar mixed (T:=Ty) (n:=13) Tryz.func118 (c:=Tryz.f118.body.getD .skip) rfl Tryz.results118 Tryz.ntmps118 Tryz.call118 ?_
 simp only[Tryz.f118,Option.getD]
 repeat'(first|with_reducible refine zab _ _ ?_|rw[zaj]|simp only[zB,Nat.reduceSub,Nat.reduceEqDiff,Nat.reduceAdd,Nat.reduceMul,Nat.reduceLeDiff,Nat.reduceLT,Nat.reduceBEq,reduceCtorEq]|refine zal ?_|refine zaa (fun hb=> ?_) (fun hb=> ?_)|(refine And.intro ?_ ?_;exact zI)|refine And.intro (fun hg=> ?_) (fun hg=> ?_)|exact zC|fail)
theorem zjP (s:ByteArray) (hs:s.size<2^62):CallOK Tryz.prog 119 [.f (ast s)] (fun r o=>r=[rb (nameP s)]∧o=[]):=by
 refine zac zar mixed (T:=Ty) (n:=40) Tryz.func119 (c:=Tryz.f119.body.getD .skip) rfl Tryz.results119 Tryz.ntmps119 Tryz.call119 ?_
 simp only[Tryz.f119,Option.getD]
 refine zw ?_
 refine zjO Ty Tryz.prog (τ:=Nat) (fun i=>⟨[ast s,dd,ab false,dd,dd,ast s,ai s.size,ai i,dd,dd,dd,dd,dd,dd,dd,dd,dd,dd,dd,dd,dd,dd,dd,dd,dd,dd,dd,dd,dd,dd,dd,dd,dd,dd,dd,dd,dd,dd,dd,dd],[]⟩) (fun i=>i≤s.size∧∀j,j<i→zfU (s.data.getD j 0)=true) (fun i=>s.size - i) 0 ?_ ⟨Nat.zero_le _,fun j hj=>absurd hj (Nat.not_lt_zero j)⟩ ?_
 ·refine Gh.fgt ?_
  simp only[zaR,zaS,za5,Int.natCast_zero]
 intro i ⟨h1,h2⟩ K hK
 refine zw ?_
 rw[zcL]
 refine⟨trivial,fun hlt=> ?_,fun hge=> ?_⟩
 ·refine zw ?_
  have hi:i<s.size:=by simpa using hlt
  refine⟨⟨Int.natCast_nonneg i,by omega⟩,zqh (fun a b=>by rw[a,b];rfl), ?_⟩
  have hok:zfU (s.data.getD i 0)= !((decide (((s.data.getD i 0).toNat:Int)<97)||decide (((s.data.getD i 0).toNat:Int)>122))&&(decide (((s.data.getD i 0).toNat:Int)<48)||decide (((s.data.getD i 0).toNat:Int)>57))&&(((s.data.getD i 0).toNat:Int) !=45)):=rfl
  rw[zcL]
  refine⟨trivial,fun hb=> ?_,fun hb=> ?_⟩
  ·rw[hb]at hok
   refine zw ?_
   have hn:nameP s=false:=by
    unfold nameP
    rw[show((List.range s.size).all fun j=>zfU (s.data.getD j 0))=false from List.all_eq_false.2 ⟨i,List.mem_range.2 hi,by rw[hok];simp⟩,Bool.false_and]
   rw[hn]
  ·rw[hb]at hok
   refine zw ?_
   refine hK _ (i+1) (Gh.fgt ?_) ⟨hi,fun j hj=> ?_⟩ (by omega)
   ·have hw:IntKind.i64.wrap ((i:Int)+1)=((i+1:Nat):Int):=by rw[wrap64 (by omega) (by omega)];rfl
    simp only[hw,zaR,zaS,za5]
   ·rcases Nat.lt_or_ge j i with h|h
    ·exact h2 j h
    ·rw[show j=i from by omega,hok];rfl
 ·refine zw ?_
  have hi:i=s.size:=by
   have:¬(i:Int)<s.size:=by simpa using hge
   omega
  have hn:nameP s=(decide ((s.size:Int)≥1)&&decide ((s.size:Int)≤12)):=by
   unfold nameP
   rw[show((List.range s.size).all fun j=>zfU (s.data.getD j 0))=true from List.all_eq_true.2 fun j hj=>h2 j (by rw[hi];exact List.mem_range.1 hj),Bool.true_and]
  rw[hn]
def zlu (k n:Int) (s:ByteArray):Bool:=
 if(decide (k<1)||decide (k>6))=true then false else
 if((k==3||k==4||k==5)&& !nameP s|| !(k==3||k==4||k==5)&& !s.toList==(⟨#[]⟩:ByteArray).toList)=true then false else
 if(k==1)=true then n==0 else decide (n≥1)&&decide (n≤2305843009213693952)
theorem zs6 (k n:Int) (s:ByteArray) (hs:s.size<2^62):CallOK Tryz.prog 79 [.f (.agg [di k,di n,dS s])] (fun r o=>r=[rb (zlu k n s)]∧o=[]):=by
 refine zac zar mixed (T:=Ty) (n:=48) Tryz.func79 (c:=Tryz.f79.body.getD .skip) rfl Tryz.results79 Tryz.ntmps79 Tryz.call79 ?_
 simp only[Tryz.f79,Option.getD]
 repeat'(first|with_reducible refine zab _ _ ?_|rw[zaj]|simp only[zB,Nat.reduceSub,Nat.reduceEqDiff,Nat.reduceAdd,Nat.reduceMul,Nat.reduceLeDiff,Nat.reduceLT,Nat.reduceBEq,reduceCtorEq]|((first|((try refine zax ?_);apply zaA)|(apply zaB;intro _));(solve|exact(znA _)|exact(zjP _ hs)|(refine CallOK.le (znA _) ?_;exact zM)|(refine CallOK.le (zjP _ hs) ?_;exact zM)|fail);try case hn=>rfl)|refine zal ?_|refine zaa (fun hb=> ?_) (fun hb=> ?_)|(refine And.intro ?_ ?_;exact zI)|refine And.intro (fun hg=> ?_) (fun hg=> ?_)|exact zC|fail)
 ·rw[zlu,if_pos (by assumption)]
 ·rw[zlu,if_neg (by simp_all),if_pos (by assumption)]
 ·rw[zlu,if_neg (by simp_all),if_neg (by simp_all),if_pos (by assumption)]
 ·rw[zlu,if_neg (by simp_all),if_neg (by simp_all),if_neg (by simp_all)]
def Req.may (r:Req):Bool:=(decide (r.client≥0)&&decide (r.client<8)&&decide (r.seq≥1)&&decide (r.seq≤zaL))&&zlu r.kind r.session r.name
theorem zhP (r:Req) (hr:r.ok):CallOK Tryz.prog 43 [.f (.agg (r.enc.map C.d))] (fun x o=>x=[rb (Req.may r)]∧o=[]):=by
 refine zac zar mixed (T:=Ty) (n:=26) Tryz.func43 (c:=Tryz.f43.body.getD .skip) rfl Tryz.results43 Tryz.ntmps43 Tryz.call43 ?_
 simp only[Tryz.f43,Option.getD]
 repeat'(first|with_reducible refine zab _ _ ?_|rw[zaj]|simp only[zB,Nat.reduceSub,Nat.reduceEqDiff,Nat.reduceAdd,Nat.reduceMul,Nat.reduceLeDiff,Nat.reduceLT,Nat.reduceBEq,reduceCtorEq]|((first|((try refine zax ?_);apply zaA)|(apply zaB;intro _));(solve|exact(zs6 _ _ _ hr.2.2.2.2)|(refine CallOK.le (zs6 _ _ _ hr.2.2.2.2) ?_;exact zM)|fail);try case hn=>rfl)|refine zal ?_|refine zaa (fun hb=> ?_) (fun hb=> ?_)|(refine And.intro ?_ ?_;exact zI)|refine And.intro (fun hg=> ?_) (fun hg=> ?_)|exact zC|fail)
 rfl
theorem zeK {α:Type} {n:Nat} {l m:List α} (h:l.length=n):(l++m).take n=l:=List.take_left' h
theorem zjk {α:Type} {n:Nat} {l m:List α} (h:l.length=n):(l++m).drop n=m:=List.drop_left' h
theorem zhl {α:Type} {n:Nat} {l m:List α} (h:l.length≤n):(l++m).drop n=m.drop (n - l.length):=by rw[List.drop_append,List.drop_eq_nil_of_le h,List.nil_append]
set_option maxHeartbeats 2000000 in
theorem znX (n i:Nat) (ds vs:List D) (hd:ds.length=n*4) (hv:vs.length=4) (hi:i≤n) (hn:n<2^30):CallOK Tryz.prog 123 [.row 4 n ds, .f (ai i), .f (al 1 vs)]
  (fun r o=>r=[.one (.own 4 (n+1) (ds.take (i*4)++(vs++ds.drop (i*4))) true)]∧o=[[]]):=by
 refine CallOK.wk ?_ (by simp only[List.length_append,List.length_take,List.length_drop];omega)
 refine zc1 zar mixed (T:=Ty) (n:=95) Tryz.func123 (c:=Tryz.f123.body.getD .skip) rfl Tryz.results123 Tryz.ntmps123 Tryz.call123 (fun k=>⟨(openG 95 [.row 4 n ds, .f (ai i), .f (al 1 vs)]).v.set 0 (.one (.gap ⟨0,1,0⟩ 0 (n) k)),(openG 95 [.row 4 n ds, .f (ai i), .f (al 1 vs)]).r⟩) (fun k=>(n)≤k) (fun cx a w hh=>zkV hh rfl rfl) ?_
 intro k hk
 simp only[Tryz.f123,Option.getD]
 have hz:(((1:Nat):Int)==0)=false:=rfl
 have hw1:IntKind.i64.wrap ((n:Int)+((1:Nat):Int))=((n+1:Nat):Int):=by rw[wrap64 (by omega) (by omega)];rfl
 have hw2:IntKind.i64.wrap (((n+1:Nat):Int) - (i:Int))=((n+1 - i:Nat):Int):=by rw[wrap64 (by omega) (by omega)];omega
 have hw3:IntKind.i64.wrap ((i:Int)+((1:Nat):Int))=((i+1:Nat):Int):=by rw[wrap64 (by omega) (by omega)];rfl
 have ht:ds.take (n*4)=ds:=List.take_of_length_le (by omega)
 have htv:vs.take 4=vs:=List.take_of_length_le (by omega)
 have hcon:(if([(6,1)]:List (Nat×Nat)).contains (0,1)=true then []else [C.own ⟨0,1,0⟩ 0 n])=[C.own ⟨0,1,0⟩ 0 n]:=rfl
 by_cases hin:i=n
 ·subst hin
  have hb1:((i:Int)==(i:Int))=true:=by simp
  have hdr:ds.drop (i*4)=[]:=List.drop_of_length_le (by omega)
  have hla:(ds++vs).length=(i+1)*4:=by rw[List.length_append];omega
  by_cases hk1:i+1≤k
  ·have e1:∀(a b:Out),(if i+1≤k then a else b)=a:=fun a b=>if_pos hk1
   repeat'(first|refine zq (I hz (I hb1 (I hd (I hv (I ht (I e1 (I hdr hcon))))))) ?_|exact zd (I hz (I hb1 (I hd (I hv (I ht (I e1 (I hdr hcon)))))))|(refine zaa ?_ ?_<;>intro hb)|(refine And.intro ?_ ?_;exact zI)|(refine And.intro ?_ ?_<;>intro hg)|exact zC|fail)
   exact⟨[],_,by rw[List.append_nil], .inl trivial⟩
  ·have e1:∀(a b:Out),(if i+1≤k then a else b)=b:=fun a b=>if_neg hk1
   repeat'(first|refine zq (I hz (I hb1 (I hd (I hv (I ht (I e1 (I hdr hcon))))))) ?_|exact zd (I hz (I hb1 (I hd (I hv (I ht (I e1 (I hdr hcon)))))))|(refine zaa ?_ ?_<;>intro hb)|(refine And.intro ?_ ?_;exact zI)|(refine And.intro ?_ ?_<;>intro hg)|exact zC|fail)
   exact⟨rfl,[],_,by rw[List.append_nil], .inr ⟨_,rfl⟩⟩
 ·have hb1:((i:Int)==(n:Int))=false:=by simp;omega
  obtain⟨A,hA⟩:∃A,A=ds.take (i*4):=⟨_,rfl⟩
  obtain⟨Bq,hB⟩:∃B,B=ds.drop (i*4):=⟨_,rfl⟩
  have hAl:A.length=i*4:=by rw[hA,List.length_take];omega
  have hBl:Bq.length=(n - i)*4:=by rw[hB,List.length_drop];omega
  have htB:Bq.take ((n - i)*4)=Bq:=List.take_of_length_le (by omega)
  by_cases hk1:n+1≤k
  ·have hb2:decide (((n+1:Nat):Int)>(k:Int))=false:=by simp;omega
   have hm1:min (n+1 - i) (n+1 - (i+1))=n - i:=by omega
   have hm2:min 1 (n+1 - i)=1:=by omega
   have htB2:Bq.take ((n+1 - i)*4)=Bq:=List.take_of_length_le (by omega)
   obtain⟨A1,hA1⟩:∃A,A=ds.take ((i+1)*4):=⟨_,rfl⟩
   have hA1l:A1.length=(i+1)*4:=by rw[hA1,List.length_take];omega
   have hA1t:A1.take (i*4)=A:=by rw[hA1,hA,List.take_take];congr 1;omega
   have e1:List.take ((i+1)*4) (List.map C.d ds)++List.map C.d Bq++List.drop ((i+1)*4+(n - i)*4) (List.map C.d ds)=List.map C.d (A1++Bq):=by
    rw[←List.map_take,←List.map_drop,←hA1,List.drop_of_length_le (by omega)];simp
   have e2:List.take (i*4) (List.map C.d (A1++Bq))++List.map C.d vs++List.drop (i*4+4) (List.map C.d (A1++Bq))=List.map C.d (A++(vs++Bq)):=by
    rw[←List.map_take,←List.map_drop,List.take_append_of_le_length (by omega),hA1t,zjk (by omega)];simp
   have hl1:(A1++Bq).length=(n+1)*4:=by rw[List.length_append];omega
   have hl2:(A++(vs++Bq)).length=(n+1)*4:=by simp only[List.length_append];omega
   repeat'(first|refine zq (I hz (I hb1 (I hb2 (I hw1 (I hw2 (I hw3 (I hd (I hv (I ht hcon))))))))) ?_|exact zd (I hz (I hb1 (I hb2 (I hw1 (I hw2 (I hw3 (I hd (I hv (I ht hcon)))))))))|(refine zaa ?_ ?_<;>intro hb)|(refine And.intro ?_ ?_;exact zI)|(refine And.intro ?_ ?_<;>intro hg)|exact zC|fail)
   refine zgW (zfg zar (N:=158) Tryz.func158 (by kernel_rfl) (by kernel_rfl) (by kernel_rfl) (tS:=40) (tR:=4) (by kernel_rfl) (eE:=121) (ei:=⟨4,56,[.string .empty, .int .i64 0, .int .i64 0, .slice none 0 0], .struct [(0,9),(1,3),(2,3),(3,88)],false⟩) (by kernel_rfl) rfl rfl rfl rfl (.inr fun e=>by rw[e]at hv;cases hv) rfl rfl (fun e=>by
    have:=congrArg List.length e
    simp only[List.length_map,List.length_nil]at this
    omega)) ?_
   repeat'(first|refine zq (I hz (I hb1 (I hb2 (I hw1 (I hw2 (I hw3 (I hm1 (I hm2 (I (Eq.symm hA) (I (Eq.symm hB) (I htB (I htB2 (I hBl (I hl1 (I hl2 (I e1 (I e2 (I hd (I hv (I ht (I htv (I hcon @Bool.not_false)))))))))))))))))))))) ?_|exact zd (I hz (I hb1 (I hb2 (I hw1 (I hw2 (I hw3 (I hm1 (I hm2 (I (Eq.symm hA) (I (Eq.symm hB) (I htB (I htB2 (I hBl (I hl1 (I hl2 (I e1 (I e2 (I hd (I hv (I ht (I htv (I hcon @Bool.not_false))))))))))))))))))))))|(refine zaa ?_ ?_<;>intro hb)|(refine And.intro ?_ ?_;exact zI)|(refine And.intro ?_ ?_<;>intro hg)|exact zC|fail)
   exact⟨[],_,by rw[List.append_nil], .inl trivial⟩
  ·have hb2:decide (((n+1:Nat):Int)>(k:Int))=true:=by simp;omega
   have hm1:min 1 (n+1 - i)=1:=by omega
   have hm2:min (n - i) (n+1 - (i+1))=n - i:=by omega
   have hn1:i+(n+1 - i)=n+1:=by omega
   obtain⟨Z,hZ⟩:∃Z,Z=zdk [.string .empty, .int .i64 0, .int .i64 0, .slice none 0 0] (n+1 - i):=⟨_,rfl⟩
   have hZl:Z.length=(n+1 - i)*4:=by rw[hZ,zcz];rfl
   have e1:List.take (i*4) (List.map C.d (A++Z))++List.map C.d vs++List.drop (i*4+4) (List.map C.d (A++Z))=List.map C.d (A++vs++Z.drop 4):=by
    rw[←List.map_take,←List.map_drop,zeK hAl,zhl (by omega),hAl,Nat.add_sub_cancel_left];simp
   have e2:List.take ((i+1)*4) (List.map C.d (A++vs++Z.drop 4))++List.map C.d Bq++List.drop ((i+1)*4+(n - i)*4) (List.map C.d (A++vs++Z.drop 4))=List.map C.d (A++(vs++Bq)):=by
    rw[←List.map_take,←List.map_drop,zeK (by rw[List.length_append];omega),List.drop_of_length_le (by simp only[List.length_append,List.length_drop];omega)];simp
   have hl1:(A++vs++Z.drop 4).length=(n+1)*4:=by simp only[List.length_append,List.length_drop];omega
   have hl2:(A++Z).length=(n+1)*4:=by simp only[List.length_append];omega
   repeat'(first|refine zq (I hz (I hb1 (I hb2 (I hw1 (I hw2 (I hw3 (I hm1 (I hm2 (I hn1 (I (Eq.symm hA) (I (Eq.symm hB) (I (Eq.symm hZ) (I hd (I hv (I ht (I htv (I htB (I hBl (I hl1 (I hl2 (I e1 (I e2 hcon)))))))))))))))))))))) ?_|exact zd (I hz (I hb1 (I hb2 (I hw1 (I hw2 (I hw3 (I hm1 (I hm2 (I hn1 (I (Eq.symm hA) (I (Eq.symm hB) (I (Eq.symm hZ) (I hd (I hv (I ht (I htv (I htB (I hBl (I hl1 (I hl2 (I e1 (I e2 hcon))))))))))))))))))))))|(refine zaa ?_ ?_<;>intro hb)|(refine And.intro ?_ ?_;exact zI)|(refine And.intro ?_ ?_<;>intro hg)|exact zC|fail)
   exact⟨rfl,[],_,by rw[List.append_nil], .inr ⟨_,rfl⟩⟩
set_option maxHeartbeats 2000000 in
theorem znY (n i:Nat) (ds vs:List D) (hd:ds.length=n*3) (hv:vs.length=3) (hi:i≤n) (hn:n<2^30):CallOK Tryz.prog 154 [.row 3 n ds, .f (ai i), .f (al 1 vs)]
  (fun r o=>r=[.one (.own 3 (n+1) (ds.take (i*3)++(vs++ds.drop (i*3))) true)]∧o=[[]]):=by
 refine CallOK.wk ?_ (by simp only[List.length_append,List.length_take,List.length_drop];omega)
 refine zc1 zar mixed (T:=Ty) (n:=95) Tryz.func154 (c:=Tryz.f154.body.getD .skip) rfl Tryz.results154 Tryz.ntmps154 Tryz.call154 (fun k=>⟨(openG 95 [.row 3 n ds, .f (ai i), .f (al 1 vs)]).v.set 0 (.one (.gap ⟨0,1,0⟩ 0 (n) k)),(openG 95 [.row 3 n ds, .f (ai i), .f (al 1 vs)]).r⟩) (fun k=>(n)≤k) (fun cx a w hh=>zkV hh rfl rfl) ?_
 intro k hk
 simp only[Tryz.f154,Option.getD]
 have hz:(((1:Nat):Int)==0)=false:=rfl
 have hw1:IntKind.i64.wrap ((n:Int)+((1:Nat):Int))=((n+1:Nat):Int):=by rw[wrap64 (by omega) (by omega)];rfl
 have hw2:IntKind.i64.wrap (((n+1:Nat):Int) - (i:Int))=((n+1 - i:Nat):Int):=by rw[wrap64 (by omega) (by omega)];omega
 have hw3:IntKind.i64.wrap ((i:Int)+((1:Nat):Int))=((i+1:Nat):Int):=by rw[wrap64 (by omega) (by omega)];rfl
 have ht:ds.take (n*3)=ds:=List.take_of_length_le (by omega)
 have htv:vs.take 3=vs:=List.take_of_length_le (by omega)
 have hcon:(if([(6,1)]:List (Nat×Nat)).contains (0,1)=true then []else [C.own ⟨0,1,0⟩ 0 n])=[C.own ⟨0,1,0⟩ 0 n]:=rfl
 by_cases hin:i=n
 ·subst hin
  have hb1:((i:Int)==(i:Int))=true:=by simp
  have hdr:ds.drop (i*3)=[]:=List.drop_of_length_le (by omega)
  have hla:(ds++vs).length=(i+1)*3:=by rw[List.length_append];omega
  by_cases hk1:i+1≤k
  ·have e1:∀(a b:Out),(if i+1≤k then a else b)=a:=fun a b=>if_pos hk1
   repeat'(first|refine zq (I hz (I hb1 (I hd (I hv (I ht (I e1 (I hdr hcon))))))) ?_|exact zd (I hz (I hb1 (I hd (I hv (I ht (I e1 (I hdr hcon)))))))|(refine zaa ?_ ?_<;>intro hb)|(refine And.intro ?_ ?_;exact zI)|(refine And.intro ?_ ?_<;>intro hg)|exact zC|fail)
   exact⟨[],_,by rw[List.append_nil], .inl trivial⟩
  ·have e1:∀(a b:Out),(if i+1≤k then a else b)=b:=fun a b=>if_neg hk1
   repeat'(first|refine zq (I hz (I hb1 (I hd (I hv (I ht (I e1 (I hdr hcon))))))) ?_|exact zd (I hz (I hb1 (I hd (I hv (I ht (I e1 (I hdr hcon)))))))|(refine zaa ?_ ?_<;>intro hb)|(refine And.intro ?_ ?_;exact zI)|(refine And.intro ?_ ?_<;>intro hg)|exact zC|fail)
   exact⟨rfl,[],_,by rw[List.append_nil], .inr ⟨_,rfl⟩⟩
 ·have hb1:((i:Int)==(n:Int))=false:=by simp;omega
  obtain⟨A,hA⟩:∃A,A=ds.take (i*3):=⟨_,rfl⟩
  obtain⟨Bq,hB⟩:∃B,B=ds.drop (i*3):=⟨_,rfl⟩
  have hAl:A.length=i*3:=by rw[hA,List.length_take];omega
  have hBl:Bq.length=(n - i)*3:=by rw[hB,List.length_drop];omega
  have htB:Bq.take ((n - i)*3)=Bq:=List.take_of_length_le (by omega)
  by_cases hk1:n+1≤k
  ·have hb2:decide (((n+1:Nat):Int)>(k:Int))=false:=by simp;omega
   have hm1:min (n+1 - i) (n+1 - (i+1))=n - i:=by omega
   have hm2:min 1 (n+1 - i)=1:=by omega
   have htB2:Bq.take ((n+1 - i)*3)=Bq:=List.take_of_length_le (by omega)
   obtain⟨A1,hA1⟩:∃A,A=ds.take ((i+1)*3):=⟨_,rfl⟩
   have hA1l:A1.length=(i+1)*3:=by rw[hA1,List.length_take];omega
   have hA1t:A1.take (i*3)=A:=by rw[hA1,hA,List.take_take];congr 1;omega
   have e1:List.take ((i+1)*3) (List.map C.d ds)++List.map C.d Bq++List.drop ((i+1)*3+(n - i)*3) (List.map C.d ds)=List.map C.d (A1++Bq):=by
    rw[←List.map_take,←List.map_drop,←hA1,List.drop_of_length_le (by omega)];simp
   have e2:List.take (i*3) (List.map C.d (A1++Bq))++List.map C.d vs++List.drop (i*3+3) (List.map C.d (A1++Bq))=List.map C.d (A++(vs++Bq)):=by
    rw[←List.map_take,←List.map_drop,List.take_append_of_le_length (by omega),hA1t,zjk (by omega)];simp
   have hl1:(A1++Bq).length=(n+1)*3:=by rw[List.length_append];omega
   have hl2:(A++(vs++Bq)).length=(n+1)*3:=by simp only[List.length_append];omega
   repeat'(first|refine zq (I hz (I hb1 (I hb2 (I hw1 (I hw2 (I hw3 (I hd (I hv (I ht hcon))))))))) ?_|exact zd (I hz (I hb1 (I hb2 (I hw1 (I hw2 (I hw3 (I hd (I hv (I ht hcon)))))))))|(refine zaa ?_ ?_<;>intro hb)|(refine And.intro ?_ ?_;exact zI)|(refine And.intro ?_ ?_<;>intro hg)|exact zC|fail)
   refine zgW (zfg zar (N:=170) Tryz.func170 (by kernel_rfl) (by kernel_rfl) (by kernel_rfl) (tS:=39) (tR:=4) (by kernel_rfl) (eE:=108) (ei:=⟨3,24,[.int .i64 0, .int .i64 0, .int .i64 0], .struct [(0,3),(1,3),(2,3)],true⟩) (by kernel_rfl) rfl rfl rfl rfl (.inr fun e=>by rw[e]at hv;cases hv) rfl rfl (fun e=>by
    have:=congrArg List.length e
    simp only[List.length_map,List.length_nil]at this
    omega)) ?_
   repeat'(first|refine zq (I hz (I hb1 (I hb2 (I hw1 (I hw2 (I hw3 (I hm1 (I hm2 (I (Eq.symm hA) (I (Eq.symm hB) (I htB (I htB2 (I hBl (I hl1 (I hl2 (I e1 (I e2 (I hd (I hv (I ht (I htv (I hcon @Bool.not_false)))))))))))))))))))))) ?_|exact zd (I hz (I hb1 (I hb2 (I hw1 (I hw2 (I hw3 (I hm1 (I hm2 (I (Eq.symm hA) (I (Eq.symm hB) (I htB (I htB2 (I hBl (I hl1 (I hl2 (I e1 (I e2 (I hd (I hv (I ht (I htv (I hcon @Bool.not_false))))))))))))))))))))))|(refine zaa ?_ ?_<;>intro hb)|(refine And.intro ?_ ?_;exact zI)|(refine And.intro ?_ ?_<;>intro hg)|exact zC|fail)
   exact⟨[],_,by rw[List.append_nil], .inl trivial⟩
  ·have hb2:decide (((n+1:Nat):Int)>(k:Int))=true:=by simp;omega
   have hm1:min 1 (n+1 - i)=1:=by omega
   have hm2:min (n - i) (n+1 - (i+1))=n - i:=by omega
   have hn1:i+(n+1 - i)=n+1:=by omega
   obtain⟨Z,hZ⟩:∃Z,Z=zdk [.int .i64 0, .int .i64 0, .int .i64 0] (n+1 - i):=⟨_,rfl⟩
   have hZl:Z.length=(n+1 - i)*3:=by rw[hZ,zcz];rfl
   have e1:List.take (i*3) (List.map C.d (A++Z))++List.map C.d vs++List.drop (i*3+3) (List.map C.d (A++Z))=List.map C.d (A++vs++Z.drop 3):=by
    rw[←List.map_take,←List.map_drop,zeK hAl,zhl (by omega),hAl,Nat.add_sub_cancel_left];simp
   have e2:List.take ((i+1)*3) (List.map C.d (A++vs++Z.drop 3))++List.map C.d Bq++List.drop ((i+1)*3+(n - i)*3) (List.map C.d (A++vs++Z.drop 3))=List.map C.d (A++(vs++Bq)):=by
    rw[←List.map_take,←List.map_drop,zeK (by rw[List.length_append];omega),List.drop_of_length_le (by simp only[List.length_append,List.length_drop];omega)];simp
   have hl1:(A++vs++Z.drop 3).length=(n+1)*3:=by simp only[List.length_append,List.length_drop];omega
   have hl2:(A++Z).length=(n+1)*3:=by simp only[List.length_append];omega
   repeat'(first|refine zq (I hz (I hb1 (I hb2 (I hw1 (I hw2 (I hw3 (I hm1 (I hm2 (I hn1 (I (Eq.symm hA) (I (Eq.symm hB) (I (Eq.symm hZ) (I hd (I hv (I ht (I htv (I htB (I hBl (I hl1 (I hl2 (I e1 (I e2 hcon)))))))))))))))))))))) ?_|exact zd (I hz (I hb1 (I hb2 (I hw1 (I hw2 (I hw3 (I hm1 (I hm2 (I hn1 (I (Eq.symm hA) (I (Eq.symm hB) (I (Eq.symm hZ) (I hd (I hv (I ht (I htv (I htB (I hBl (I hl1 (I hl2 (I e1 (I e2 hcon))))))))))))))))))))))|(refine zaa ?_ ?_<;>intro hb)|(refine And.intro ?_ ?_;exact zI)|(refine And.intro ?_ ?_<;>intro hg)|exact zC|fail)
   exact⟨rfl,[],_,by rw[List.append_nil], .inr ⟨_,rfl⟩⟩
set_option maxHeartbeats 2000000 in
theorem znZ (n i:Nat) (ds vs:List D) (hd:ds.length=n*6) (hv:vs.length=6) (hi:i≤n) (hn:n<2^30):CallOK Tryz.prog 88 [.row 6 n ds, .f (ai i), .f (al 1 vs)]
  (fun r o=>r=[.one (.own 6 (n+1) (ds.take (i*6)++(vs++ds.drop (i*6))) true)]∧o=[[]]):=by
 refine CallOK.wk ?_ (by simp only[List.length_append,List.length_take,List.length_drop];omega)
 refine zc1 zar mixed (T:=Ty) (n:=95) Tryz.func88 (c:=Tryz.f88.body.getD .skip) rfl Tryz.results88 Tryz.ntmps88 Tryz.call88 (fun k=>⟨(openG 95 [.row 6 n ds, .f (ai i), .f (al 1 vs)]).v.set 0 (.one (.gap ⟨0,1,0⟩ 0 (n) k)),(openG 95 [.row 6 n ds, .f (ai i), .f (al 1 vs)]).r⟩) (fun k=>(n)≤k) (fun cx a w hh=>zkV hh rfl rfl) ?_
 intro k hk
 simp only[Tryz.f88,Option.getD]
 have hz:(((1:Nat):Int)==0)=false:=rfl
 have hw1:IntKind.i64.wrap ((n:Int)+((1:Nat):Int))=((n+1:Nat):Int):=by rw[wrap64 (by omega) (by omega)];rfl
 have hw2:IntKind.i64.wrap (((n+1:Nat):Int) - (i:Int))=((n+1 - i:Nat):Int):=by rw[wrap64 (by omega) (by omega)];omega
 have hw3:IntKind.i64.wrap ((i:Int)+((1:Nat):Int))=((i+1:Nat):Int):=by rw[wrap64 (by omega) (by omega)];rfl
 have ht:ds.take (n*6)=ds:=List.take_of_length_le (by omega)
 have htv:vs.take 6=vs:=List.take_of_length_le (by omega)
 have hcon:(if([(6,1)]:List (Nat×Nat)).contains (0,1)=true then []else [C.own ⟨0,1,0⟩ 0 n])=[C.own ⟨0,1,0⟩ 0 n]:=rfl
 by_cases hin:i=n
 ·subst hin
  have hb1:((i:Int)==(i:Int))=true:=by simp
  have hdr:ds.drop (i*6)=[]:=List.drop_of_length_le (by omega)
  have hla:(ds++vs).length=(i+1)*6:=by rw[List.length_append];omega
  by_cases hk1:i+1≤k
  ·have e1:∀(a b:Out),(if i+1≤k then a else b)=a:=fun a b=>if_pos hk1
   repeat'(first|refine zq (I hz (I hb1 (I hd (I hv (I ht (I e1 (I hdr hcon))))))) ?_|exact zd (I hz (I hb1 (I hd (I hv (I ht (I e1 (I hdr hcon)))))))|(refine zaa ?_ ?_<;>intro hb)|(refine And.intro ?_ ?_;exact zI)|(refine And.intro ?_ ?_<;>intro hg)|exact zC|fail)
   exact⟨[],_,by rw[List.append_nil], .inl trivial⟩
  ·have e1:∀(a b:Out),(if i+1≤k then a else b)=b:=fun a b=>if_neg hk1
   repeat'(first|refine zq (I hz (I hb1 (I hd (I hv (I ht (I e1 (I hdr hcon))))))) ?_|exact zd (I hz (I hb1 (I hd (I hv (I ht (I e1 (I hdr hcon)))))))|(refine zaa ?_ ?_<;>intro hb)|(refine And.intro ?_ ?_;exact zI)|(refine And.intro ?_ ?_<;>intro hg)|exact zC|fail)
   exact⟨rfl,[],_,by rw[List.append_nil], .inr ⟨_,rfl⟩⟩
 ·have hb1:((i:Int)==(n:Int))=false:=by simp;omega
  obtain⟨A,hA⟩:∃A,A=ds.take (i*6):=⟨_,rfl⟩
  obtain⟨Bq,hB⟩:∃B,B=ds.drop (i*6):=⟨_,rfl⟩
  have hAl:A.length=i*6:=by rw[hA,List.length_take];omega
  have hBl:Bq.length=(n - i)*6:=by rw[hB,List.length_drop];omega
  have htB:Bq.take ((n - i)*6)=Bq:=List.take_of_length_le (by omega)
  by_cases hk1:n+1≤k
  ·have hb2:decide (((n+1:Nat):Int)>(k:Int))=false:=by simp;omega
   have hm1:min (n+1 - i) (n+1 - (i+1))=n - i:=by omega
   have hm2:min 1 (n+1 - i)=1:=by omega
   have htB2:Bq.take ((n+1 - i)*6)=Bq:=List.take_of_length_le (by omega)
   obtain⟨A1,hA1⟩:∃A,A=ds.take ((i+1)*6):=⟨_,rfl⟩
   have hA1l:A1.length=(i+1)*6:=by rw[hA1,List.length_take];omega
   have hA1t:A1.take (i*6)=A:=by rw[hA1,hA,List.take_take];congr 1;omega
   have e1:List.take ((i+1)*6) (List.map C.d ds)++List.map C.d Bq++List.drop ((i+1)*6+(n - i)*6) (List.map C.d ds)=List.map C.d (A1++Bq):=by
    rw[←List.map_take,←List.map_drop,←hA1,List.drop_of_length_le (by omega)];simp
   have e2:List.take (i*6) (List.map C.d (A1++Bq))++List.map C.d vs++List.drop (i*6+6) (List.map C.d (A1++Bq))=List.map C.d (A++(vs++Bq)):=by
    rw[←List.map_take,←List.map_drop,List.take_append_of_le_length (by omega),hA1t,zjk (by omega)];simp
   have hl1:(A1++Bq).length=(n+1)*6:=by rw[List.length_append];omega
   have hl2:(A++(vs++Bq)).length=(n+1)*6:=by simp only[List.length_append];omega
   repeat'(first|refine zq (I hz (I hb1 (I hb2 (I hw1 (I hw2 (I hw3 (I hd (I hv (I ht hcon))))))))) ?_|exact zd (I hz (I hb1 (I hb2 (I hw1 (I hw2 (I hw3 (I hd (I hv (I ht hcon)))))))))|(refine zaa ?_ ?_<;>intro hb)|(refine And.intro ?_ ?_;exact zI)|(refine And.intro ?_ ?_<;>intro hg)|exact zC|fail)
   refine zgW (zfg zar (N:=128) Tryz.func128 (by kernel_rfl) (by kernel_rfl) (by kernel_rfl) (tS:=41) (tR:=4) (by kernel_rfl) (eE:=91) (ei:=⟨6,64,[.int .i64 0, .int .i64 0, .int .i64 0, .int .i64 0, .int .i64 0, .slice none 0 0], .struct [(0,3),(1,3),(2,54)],false⟩) (by kernel_rfl) rfl rfl rfl rfl (.inr fun e=>by rw[e]at hv;cases hv) rfl rfl (fun e=>by
    have:=congrArg List.length e
    simp only[List.length_map,List.length_nil]at this
    omega)) ?_
   repeat'(first|refine zq (I hz (I hb1 (I hb2 (I hw1 (I hw2 (I hw3 (I hm1 (I hm2 (I (Eq.symm hA) (I (Eq.symm hB) (I htB (I htB2 (I hBl (I hl1 (I hl2 (I e1 (I e2 (I hd (I hv (I ht (I htv (I hcon @Bool.not_false)))))))))))))))))))))) ?_|exact zd (I hz (I hb1 (I hb2 (I hw1 (I hw2 (I hw3 (I hm1 (I hm2 (I (Eq.symm hA) (I (Eq.symm hB) (I htB (I htB2 (I hBl (I hl1 (I hl2 (I e1 (I e2 (I hd (I hv (I ht (I htv (I hcon @Bool.not_false))))))))))))))))))))))|(refine zaa ?_ ?_<;>intro hb)|(refine And.intro ?_ ?_;exact zI)|(refine And.intro ?_ ?_<;>intro hg)|exact zC|fail)
   exact⟨[],_,by rw[List.append_nil], .inl trivial⟩
  ·have hb2:decide (((n+1:Nat):Int)>(k:Int))=true:=by simp;omega
   have hm1:min 1 (n+1 - i)=1:=by omega
   have hm2:min (n - i) (n+1 - (i+1))=n - i:=by omega
   have hn1:i+(n+1 - i)=n+1:=by omega
   obtain⟨Z,hZ⟩:∃Z,Z=zdk [.int .i64 0, .int .i64 0, .int .i64 0, .int .i64 0, .int .i64 0, .slice none 0 0] (n+1 - i):=⟨_,rfl⟩
   have hZl:Z.length=(n+1 - i)*6:=by rw[hZ,zcz];rfl
   have e1:List.take (i*6) (List.map C.d (A++Z))++List.map C.d vs++List.drop (i*6+6) (List.map C.d (A++Z))=List.map C.d (A++vs++Z.drop 6):=by
    rw[←List.map_take,←List.map_drop,zeK hAl,zhl (by omega),hAl,Nat.add_sub_cancel_left];simp
   have e2:List.take ((i+1)*6) (List.map C.d (A++vs++Z.drop 6))++List.map C.d Bq++List.drop ((i+1)*6+(n - i)*6) (List.map C.d (A++vs++Z.drop 6))=List.map C.d (A++(vs++Bq)):=by
    rw[←List.map_take,←List.map_drop,zeK (by rw[List.length_append];omega),List.drop_of_length_le (by simp only[List.length_append,List.length_drop];omega)];simp
   have hl1:(A++vs++Z.drop 6).length=(n+1)*6:=by simp only[List.length_append,List.length_drop];omega
   have hl2:(A++Z).length=(n+1)*6:=by simp only[List.length_append];omega
   repeat'(first|refine zq (I hz (I hb1 (I hb2 (I hw1 (I hw2 (I hw3 (I hm1 (I hm2 (I hn1 (I (Eq.symm hA) (I (Eq.symm hB) (I (Eq.symm hZ) (I hd (I hv (I ht (I htv (I htB (I hBl (I hl1 (I hl2 (I e1 (I e2 hcon)))))))))))))))))))))) ?_|exact zd (I hz (I hb1 (I hb2 (I hw1 (I hw2 (I hw3 (I hm1 (I hm2 (I hn1 (I (Eq.symm hA) (I (Eq.symm hB) (I (Eq.symm hZ) (I hd (I hv (I ht (I htv (I htB (I hBl (I hl1 (I hl2 (I e1 (I e2 hcon))))))))))))))))))))))|(refine zaa ?_ ?_<;>intro hb)|(refine And.intro ?_ ?_;exact zI)|(refine And.intro ?_ ?_<;>intro hg)|exact zC|fail)
   exact⟨rfl,[],_,by rw[List.append_nil], .inr ⟨_,rfl⟩⟩
set_option maxHeartbeats 2000000 in
theorem znW (n i:Nat) (ds:List D) (hd:ds.length=(n+1)*4) (hi:i≤n) (hn:n<2^30):CallOK Tryz.prog 149 [.row 4 (n+1) ds, .f (ai i), .f (ai ((i+1:Nat):Int))]
  (fun r o=>r=[.one (.own 4 n (ds.take (i*4)++ds.drop ((i+1)*4)) true)]∧o=[[]]):=by
 refine CallOK.wk ?_ (by simp only[List.length_append,List.length_take,List.length_drop];omega)
 refine zc1 zar mixed (T:=Ty) (n:=33) Tryz.func149 (c:=Tryz.f149.body.getD .skip) rfl Tryz.results149 Tryz.ntmps149 Tryz.call149 (fun k=>⟨(openG 33 [.row 4 (n+1) ds, .f (ai i), .f (ai ((i+1:Nat):Int))]).v.set 0 (.one (.gap ⟨0,1,0⟩ 0 (n+1) k)),(openG 33 [.row 4 (n+1) ds, .f (ai i), .f (ai ((i+1:Nat):Int))]).r⟩) (fun k=>(n+1)≤k) (fun cx a w hh=>zkV hh rfl rfl) ?_
 intro k hk
 simp only[Tryz.f149,Option.getD]
 have hb1:((i:Int)==((i+1:Nat):Int))=false:=by simp;omega
 obtain⟨A,hA⟩:∃A,A=ds.take (i*4):=⟨_,rfl⟩
 obtain⟨Bq,hB⟩:∃B,B=ds.drop ((i+1)*4):=⟨_,rfl⟩
 have hn1:i+(n+1 - (i+1))=n:=by omega
 have hAl:A.length=i*4:=by rw[hA,List.length_take];omega
 have hBl:Bq.length=(n+1 - (i+1))*4:=by rw[hB,List.length_drop];omega
 have htB:Bq.take ((n+1 - (i+1))*4)=Bq:=List.take_of_length_le (by omega)
 obtain⟨Z,hZ⟩:∃Z,Z=zdk [.string .empty, .int .i64 0, .int .i64 0, .slice none 0 0] (n+1 - n):=⟨_,rfl⟩
 have hl1:(A++Bq).length=n*4:=by rw[List.length_append];omega
 have e1:∀(a b:Out),(if n≤k then a else b)=a:=fun a b=>if_pos (by omega)
 have e2:List.take (n*4) (List.map C.d (A++Bq))++List.map C.d Z++List.drop (n*4+Z.length) (List.map C.d (A++Bq))=List.map C.d (A++Bq++Z):=by
  rw[List.take_of_length_le (by rw[List.length_map];omega),List.drop_of_length_le (by rw[List.length_map];omega)];simp
 have hl2:n*4≤(A++Bq++Z).length:=by rw[List.length_append];omega
 repeat'(first|refine zq (I hb1 (I e1 (I hd (I (Eq.symm hA) (I (Eq.symm hB) (I htB (I hBl (I hn1 (I (Eq.symm hZ) (I e2 hl1)))))))))) ?_|exact zd (I hb1 (I e1 (I hd (I (Eq.symm hA) (I (Eq.symm hB) (I htB (I hBl (I hn1 (I (Eq.symm hZ) (I e2 hl1))))))))))|(refine zaa ?_ ?_<;>intro hb)|(refine And.intro ?_ ?_;exact zI)|(refine And.intro ?_ ?_<;>intro hg)|exact zC|fail)
 exact⟨Z,_,rfl, .inl trivial⟩
set_option maxHeartbeats 2000000 in
theorem zpa (n i:Nat) (ds:List D) (hd:ds.length=(n+1)) (hi:i≤n) (hn:n<2^30):CallOK Tryz.prog 161 [.row 1 (n+1) ds, .f (ai i), .f (ai ((i+1:Nat):Int))]
  (fun r o=>r=[.one (.own 1 n (ds.take (i)++ds.drop ((i+1))) true)]∧o=[[]]):=by
 refine CallOK.wk ?_ (by simp only[List.length_append,List.length_take,List.length_drop];omega)
 refine zc1 zar mixed (T:=Ty) (n:=33) Tryz.func161 (c:=Tryz.f161.body.getD .skip) rfl Tryz.results161 Tryz.ntmps161 Tryz.call161 (fun k=>⟨(openG 33 [.row 1 (n+1) ds, .f (ai i), .f (ai ((i+1:Nat):Int))]).v.set 0 (.one (.gap ⟨0,1,0⟩ 0 (n+1) k)),(openG 33 [.row 1 (n+1) ds, .f (ai i), .f (ai ((i+1:Nat):Int))]).r⟩) (fun k=>(n+1)≤k) (fun cx a w hh=>zkV hh rfl rfl) ?_
 intro k hk
 simp only[Tryz.f161,Option.getD]
 have hb1:((i:Int)==((i+1:Nat):Int))=false:=by simp;omega
 obtain⟨A,hA⟩:∃A,A=ds.take (i):=⟨_,rfl⟩
 obtain⟨Bq,hB⟩:∃B,B=ds.drop ((i+1)):=⟨_,rfl⟩
 have hn1:i+(n+1 - (i+1))=n:=by omega
 have hAl:A.length=i:=by rw[hA,List.length_take];omega
 have hBl:Bq.length=(n+1 - (i+1)):=by rw[hB,List.length_drop];omega
 have htB:Bq.take ((n+1 - (i+1)))=Bq:=List.take_of_length_le (by omega)
 obtain⟨Z,hZ⟩:∃Z,Z=zdk [.int .i64 0] (n+1 - n):=⟨_,rfl⟩
 have hl1:(A++Bq).length=n:=by rw[List.length_append];omega
 have e1:∀(a b:Out),(if n≤k then a else b)=a:=fun a b=>if_pos (by omega)
 have e2:List.take (n) (List.map C.d (A++Bq))++List.map C.d Z++List.drop (n+Z.length) (List.map C.d (A++Bq))=List.map C.d (A++Bq++Z):=by
  rw[List.take_of_length_le (by rw[List.length_map];omega),List.drop_of_length_le (by rw[List.length_map];omega)];simp
 have hl2:n≤(A++Bq++Z).length:=by rw[List.length_append];omega
 repeat'(first|refine zq (I hb1 (I e1 (I hd (I (Eq.symm hA) (I (Eq.symm hB) (I htB (I hBl (I hn1 (I (Eq.symm hZ) (I e2 hl1)))))))))) ?_|exact zd (I hb1 (I e1 (I hd (I (Eq.symm hA) (I (Eq.symm hB) (I htB (I hBl (I hn1 (I (Eq.symm hZ) (I e2 hl1))))))))))|(refine zaa ?_ ?_<;>intro hb)|(refine And.intro ?_ ?_;exact zI)|(refine And.intro ?_ ?_<;>intro hg)|exact zC|fail)
 exact⟨Z,_,rfl, .inl trivial⟩
end Go.Proofs.YtngleemijkaeoaaGreat
