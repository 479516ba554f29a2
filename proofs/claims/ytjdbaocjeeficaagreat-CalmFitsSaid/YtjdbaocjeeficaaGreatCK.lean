import Derived.Test.YtjdbaocjeeficaaGreatK9
import Derived.JoinedOf
import Derived.Handed
import Derived.ProofKit
import Derived.Test.YtjdbaocjeeficaaGreatCE
set_option maxHeartbeats 8000000
namespace Go.Proofs.YtjdbaocjeeficaaGreat
open Go.Pk Tryz
set_option maxRecDepth 100000
set_option linter.unusedSimpArgs false
set_option linter.unusedVariables false
abbrev qD (n:Int):D:= .v (.int .u64 n)
theorem C0:ag prog 180 [.f (.one (.d (qD 1))), .f (.one (.d (qD 4)))] (λ r o=>r=[.one (.d (qD 0)), .one (.d (qD 4))]/\o=[]):=by
 refine bR bm mixed (T:=Ty) (n:=51) func180 (c:=f180.body.getD .skip) rfl results180 ntmps180 call180 ?_;simp only[f180,Option.getD];have n32:¬((32:Int)<0):=by decide
 have f1:Int.fdiv 1 (2^min (Int.toNat 32) IntKind.u64.bits)=0:=by decide
 have f4:Int.fdiv 4 (2^min (Int.toNat 32) IntKind.u64.bits)=0:=by decide
 have f0:Int.fdiv 0 (2^min (Int.toNat 32) IntKind.u64.bits)=0:=by decide
 have a1:IntKind.u64.wrap ((BitVec.ofInt IntKind.u64.bits 1&&&BitVec.ofInt IntKind.u64.bits 4294967295).toNat:Int)=1:=by decide
 have a4:IntKind.u64.wrap ((BitVec.ofInt IntKind.u64.bits 4&&&BitVec.ofInt IntKind.u64.bits 4294967295).toNat:Int)=4:=by decide
 have a0:IntKind.u64.wrap ((BitVec.ofInt IntKind.u64.bits 0&&&BitVec.ofInt IntKind.u64.bits 4294967295).toNat:Int)=0:=by decide
 have m1:IntKind.u64.wrap (1*4)=4:=by decide
 have m2:IntKind.u64.wrap (0*4)=0:=by decide
 have m3:IntKind.u64.wrap (1*0)=0:=by decide
 have m4:IntKind.u64.wrap (0*0)=0:=by decide
 have m5:IntKind.u64.wrap (0+0)=0:=by decide
 repeat'(first|(with_reducible first|refine ay _ _ ?_|refine aD ?_|refine aE ?_)|rw[aB]|simp only[aj n32,f1,f4,f0,a1,a4,a0,m1,m2,m3,m4,m5,zY,Int.reduceEq,Int.reduceBEq,Int.reduceBNe,Nat.reduceSub,Nat.reduceEqDiff,Nat.reduceAdd,Nat.reduceMul,Nat.reduceLeDiff,Nat.reduceLT,Nat.reduceBEq,reduceCtorEq]|refine aC ?_|refine aA (λ hb=> ?_) (λ hb=> ?_)|(refine And.intro ?_ ?_;exact zI)|refine And.intro (λ hg=> ?_) (λ hg=> ?_)|exact zC|fail)
theorem Eh:ag prog 128 [.f (.one (.d (qD 1))), .f (.one (.d (qD 4)))] (λ r o=>r=[.one (.d (qD 0)), .one (.d (qD 4))]/\o=[]):=by
 refine bR bm mixed (T:=Ty) (n:=30) func128 (c:=f128.body.getD .skip) rfl results128 ntmps128 call128 ?_;simp only[f128,Option.getD];have h:=C0
 repeat'(first|(with_reducible first|refine ay _ _ ?_|refine aD ?_|refine aE ?_)|rw[aB]|simp only[zY,Int.reduceEq,Int.reduceBEq,Int.reduceBNe,Nat.reduceSub,Nat.reduceEqDiff,Nat.reduceAdd,Nat.reduceMul,Nat.reduceLeDiff,Nat.reduceLT,Nat.reduceBEq,reduceCtorEq]|((first|((try refine aQ ?_);apply aS)|(apply aR;intro _));(solve|exact(h)|(refine ag.le (h) ?_;exact zM)|fail);try case hn=>rfl)|refine aC ?_|refine aA (λ hb=> ?_) (λ hb=> ?_)|(refine And.intro ?_ ?_;exact zI)|refine And.intro (λ hg=> ?_) (λ hg=> ?_)|exact zC|fail)
abbrev zF:D:= .v (.float .f64 0)
def l4:Nat->Int
 |0=>1
 |1=>2
 |_=>4
def pj (a b:D):Nat->List D
 |0=>[a,b,iD 0,zF,iD 0,zF,iD 0,zF]
 |1=>[a,b,a,b,iD 0,zF,iD 0,zF]
 |_=>[a,b,a,b,a,b,a,b]
theorem Bt (a b:D):ag prog 93 [.f (al 1 [a,b]), .f (ai 4)] (λ r o=>r=[.one (.own 2 4 [a,b,a,b,a,b,a,b] false)]/\o=[]):=by
 refine bR bm mixed (T:=Ty) (n:=48) func93 (c:=f93.body.getD .skip) rfl results93 ntmps93 call93 ?_;simp only[f93,Option.getD];have h:=Eh;have t1:decide ((4:Int)<0)=false:=rfl;have t2:decide ((0:Int)>0)=false:=rfl;have t3:decide ((4:Int)>9223372036854775807)=false:=rfl;have w1:IntKind.u64.wrap ((1:Nat):Int)=1:=by decide
 have w4:IntKind.u64.wrap 4=4:=by decide
 have w5:IntKind.i64.wrap 4=4:=by decide
 have n4:Int.toNat 4=4:=rfl;have mn:min 1 4=1:=rfl
 repeat'(first|(with_reducible first|refine ay _ _ ?_|refine aD ?_|refine aE ?_)|rw[aB]|simp only[t1,t2,t3,w1,w4,w5,n4,mn,zY,Int.reduceEq,Int.reduceBEq,Int.reduceBNe,Nat.reduceSub,Nat.reduceEqDiff,Nat.reduceAdd,Nat.reduceMul,Nat.reduceLeDiff,Nat.reduceLT,Nat.reduceBEq,reduceCtorEq]|((first|((try refine aQ ?_);apply aS)|(apply aR;intro _));(solve|exact(h)|(refine ag.le (h) ?_;exact zM)|fail);try case hn=>rfl)|refine aC ?_|refine aA (λ hb=> ?_) (λ hb=> ?_)|(refine And.intro ?_ ?_;exact zI)|refine And.intro (λ hg=> ?_) (λ hg=> ?_)|exact zC|fail)
 refine gI Ty prog (τ:=Nat) (λ k=>⟨[dd,dd,dd,dd,dd,dd,dd, .one (.own ⟨7,1,1⟩ 0 4),ai (l4 k),dd,dd,dd,dd,dd,dd,dd,dd,dd,dd,dd,dd,dd,dd,dd,dd,dd,dd,dd,dd,dd,dd,dd,dd,dd,dd,dd,dd,dd,dd,dd,dd,dd,dd,dd,dd,dd,dd,dd],[(30,⟨2,[]⟩),(7,{next:=2,l:=[none,some {e:=1,var:=false,fz:=false,sz:=2,cells:=(pj a b k).map C.d}]})]⟩) (λ k=>k≤2) (λ k=>2 - k) 0
  (Gh.canon [7] [] [] zK rfl rfl) (kC _) ?_
 intro k hk K hK;have n2:Int.toNat 2=2:=rfl;rcases(show k=0∨k=1∨k=2 by omega)with rfl|rfl|rfl
 .simp only[l4,pj]at hK⊢;have s1:cQ (sub 0 1 2 [C.d a,C.d b,C.d (iD 0),C.d zF,C.d (iD 0),C.d zF,C.d (iD 0),C.d zF])=some [a,b]:=rfl;have m1:min 1 3=1:=rfl;have hw:IntKind.i64.wrap (1+((1:Nat):Int))=2:=by decide
  repeat'(first|(with_reducible first|refine ay _ _ ?_|refine aD ?_|refine aE ?_)|rw[aB]|simp only[s1,m1,zY,Int.reduceEq,Int.reduceBEq,Int.reduceBNe,Nat.reduceSub,Nat.reduceEqDiff,Nat.reduceAdd,Nat.reduceMul,Nat.reduceLeDiff,Nat.reduceLT,Nat.reduceBEq,reduceCtorEq]|refine aC ?_|refine aA (λ hb=> ?_) (λ hb=> ?_)|(refine And.intro ?_ ?_;exact zJ)|refine And.intro (λ hg=> ?_) (λ hg=> ?_)|exact zC|fail)
  all_goals try exact absurd hb (by decide)
  exact hK _ 1 (Gh.canon [7] [] [] (by simp only[hw,l4,cw,cC,cG,cB,cE,cF,cD,cm,cn,cc,ca,cA,cJ,D.v.injEq,cH];try(repeat'(first|rfl|omega|with_reducible apply And.intro))) rfl rfl) (by decide) (by decide)
 .simp only[l4,pj]at hK⊢;have s1:cQ (sub 0 2 2 [C.d a,C.d b,C.d a,C.d b,C.d (iD 0),C.d zF,C.d (iD 0),C.d zF])=some [a,b,a,b]:=rfl;have hw:IntKind.i64.wrap (2+((2:Nat):Int))=4:=by decide
  have m2:min 2 2=2:=rfl;have tk:List.take (2*2) [a,b,a,b]=[a,b,a,b]:=rfl;have dr:List.drop (4+[a,b,a,b].length) [C.d a,C.d b,C.d a,C.d b,C.d (iD 0),C.d zF,C.d (iD 0),C.d zF]=[]:=rfl
  repeat'(first|(with_reducible first|refine ay _ _ ?_|refine aD ?_|refine aE ?_)|rw[aB]|simp only[s1,n2,m2,tk,dr,zY,Int.reduceEq,Int.reduceBEq,Int.reduceBNe,Nat.reduceSub,Nat.reduceEqDiff,Nat.reduceAdd,Nat.reduceMul,Nat.reduceLeDiff,Nat.reduceLT,Nat.reduceBEq,reduceCtorEq]|refine aC ?_|refine aA (λ hb=> ?_) (λ hb=> ?_)|(refine And.intro ?_ ?_;exact zJ)|refine And.intro (λ hg=> ?_) (λ hg=> ?_)|exact zC|fail)
  all_goals try exact absurd hb (by decide)
  exact hK _ 2 (Gh.canon [7] [] [] (by simp only[hw,l4,cw,cC,cG,cB,cE,cF,cD,cm,cn,cc,ca,cA,cJ,D.v.injEq,cH];try(repeat'(first|rfl|omega|with_reducible apply And.intro))) rfl rfl) (by decide) (by decide)
 .simp only[l4,pj]at hK⊢
  repeat'(first|(with_reducible first|refine ay _ _ ?_|refine aD ?_|refine aE ?_)|rw[aB]|simp only[zY,Int.reduceEq,Int.reduceBEq,Int.reduceBNe,Nat.reduceSub,Nat.reduceEqDiff,Nat.reduceAdd,Nat.reduceMul,Nat.reduceLeDiff,Nat.reduceLT,Nat.reduceBEq,reduceCtorEq]|refine aC ?_|refine aA (λ hb=> ?_) (λ hb=> ?_)|(refine And.intro ?_ ?_;exact zJ)|refine And.intro (λ hg=> ?_) (λ hg=> ?_)|exact zC|fail)
  all_goals try exact absurd hb (by decide)
theorem A9:ag prog 69 [.f (ai 4)] (λ r o=>r=[.one (.d .any)]/\o=[]):=by
 refine c8.any (ds:=[]) (l:=[.own 2 4 [iD 0, .v (.float .f64 4607182418800017408),iD 0, .v (.float .f64 4607182418800017408),iD 0, .v (.float .f64 4607182418800017408),iD 0, .v (.float .f64 4607182418800017408)] false, .d (iD 0), .d (iD 0)]) ?_;refine gK bm mixed (T:=Ty) (n:=11) func69 (c:=f69.body.getD .skip) rfl results69 ntmps69 call69 ?_;simp only[f69,Option.getD];have h:=Bt (iD 0) (.v (.float .f64 4607182418800017408));have m1:max (4:Int) 0=4:=rfl;have m2:min (4:Int) 15=4:=rfl
 repeat'(first|(with_reducible first|refine ay _ _ ?_|refine aD ?_|refine aE ?_)|rw[aB]|simp only[m1,m2,gD,gG,eN,fQ,zY,Int.reduceEq,Int.reduceBEq,Int.reduceBNe,Nat.reduceSub,Nat.reduceEqDiff,Nat.reduceAdd,Nat.reduceMul,Nat.reduceLeDiff,Nat.reduceLT,Nat.reduceBEq,reduceCtorEq]|((first|((try refine aQ ?_);apply aS)|(apply aR;intro _));(solve|exact(h)|(refine ag.le (h) ?_;exact zM)|fail);try case hn=>rfl)|refine aC ?_|refine aA (λ hb=> ?_) (λ hb=> ?_)|(refine And.intro ?_ ?_;exact zI)|refine And.intro (λ hg=> ?_) (λ hg=> ?_)|exact zC|fail)
def aG:bd:=⟨3,1,88000,100,12000,12000,50,0,100,200,200⟩
theorem qu:oV aG:=CB (by decide)
abbrev nine:List D:=[.any, .any, .any, .any, .any, .any, .any, .any, .any]
theorem vk (cs:List C):ag prog 73 [.f (.one (.cN cs))] (λ r o=>r=[.one (.own 1 9 nine false)]/\o=[]):=by
 refine bR bm mixed (T:=Ty) (n:=22) func73 (c:=f73.body.getD .skip) rfl results73 ntmps73 call73 ?_;simp only[f73,Option.getD]
 repeat'(first|(with_reducible first|refine ay _ _ ?_|refine aD ?_|refine aE ?_)|rw[aB]|simp only[zY,Int.reduceEq,Int.reduceBEq,Int.reduceBNe,Nat.reduceSub,Nat.reduceEqDiff,Nat.reduceAdd,Nat.reduceMul,Nat.reduceLeDiff,Nat.reduceLT,Nat.reduceBEq,reduceCtorEq]|refine aC ?_|refine aA (λ hb=> ?_) (λ hb=> ?_)|(refine And.intro ?_ ?_;exact zI)|refine And.intro (λ hg=> ?_) (λ hg=> ?_)|exact zC|fail)
abbrev jd:List D:=[bD false,bD false,bD false,bD false]
abbrev vH:List RO:=[.d (iD 3), .d (iD 1), .d (iD 88000), .d (iD 100), .d (iD 12000), .d (iD 12000), .d (iD 50), .d (iD 0), .d (iD 100), .d (iD 200), .d (iD 200),
 .own 1 3 [.any, .any, .any] false, .own 1 1 [.any] false, .d .any, .d (.pt [bw,iD 0]), .own 1 4 jd false, .d (iD 0), .own 1 3 [bw,bw,bw] false, .own 1 1 [bw] false, .own 1 9 nine false]
abbrev i7 (n:Nat):List D:=List.replicate n .any
theorem tx {n:Nat}:i7 (n+1)=i7 n++[.any]:=List.replicate_succ'
theorem nQ {n:Nat}:(i7 n).length=n:=List.length_replicate
theorem Bg:c8 prog 46 [.f (.agg (aG.enc.map C.d))] [ri 0] vH:=by
 refine gK bm mixed (T:=Ty) (n:=84) func46 (c:=f46.body.getD .skip) rfl results46 ntmps46 call46 ?_;simp only[f46,Option.getD];have hm:=nq aG;rw[qu.b]at hm;have hcl:=A9;have hnt:=Ci;have w4:IntKind.i64.wrap (aG.aU+aG.bQ)=4:=by decide
 have n4:Int.toNat 4=4:=rfl;have r3:aG.aU=3:=rfl;have r1:aG.bQ=1:=rfl;have n3:Int.toNat 3=3:=rfl;have n1:Int.toNat 1=1:=rfl;have n3':aG.aU.toNat=3:=rfl;have n1':aG.bQ.toNat=1:=rfl;have zb:dY [Value.bool false] 4=jd:=rfl;have z3:dY [Value.slice none 0 0] 3=[bw,bw,bw]:=rfl;have z1:dY [Value.slice none 0 0] 1=[bw]:=rfl
 repeat'(first|(with_reducible first|refine ay _ _ ?_|refine aD ?_|refine aE ?_)|rw[aB]|simp only[w4,n4,n3',n1',zb,z3,z1,zY,Int.reduceEq,Int.reduceBEq,Int.reduceBNe,Nat.reduceSub,Nat.reduceEqDiff,Nat.reduceAdd,Nat.reduceMul,Nat.reduceLeDiff,Nat.reduceLT,Nat.reduceBEq,reduceCtorEq]|((first|((try refine aQ ?_);apply aS)|(apply aR;intro _));(solve|exact(hm)|exact(hcl)|exact(hnt)|(refine ag.le (hm) ?_;exact zM)|(refine ag.le (hcl) ?_;exact zM)|(refine ag.le (hnt) ?_;exact zM)|fail);try case hn=>rfl)|refine aC ?_|refine aA (λ hb=> ?_) (λ hb=> ?_)|(refine And.intro ?_ ?_;exact zJ)|refine And.intro (λ hg=> ?_) (λ hg=> ?_)|exact zC|fail)
 refine gI Ty prog (τ:=Nat) (λ i=>⟨[dd, .one (.ptr ⟨1,0,1⟩ 0),dd,dd,dd, .one (.ptr ⟨33,0,1⟩ 0),dd,dd,dd,dd,dd,dd,dd,dd,dd,dd,dd,dd,dd,dd,dd,dd,dd,dd,dd,dd,dd,dd,dd,dd,dd,dd,dd,dd,dd,ai aG.aU,ai i,dd,dd,dd,dd,dd,dd,dd,dd,dd,dd,dd,dd,dd,dd,dd,dd,dd,dd,dd,dd,dd,dd,dd,dd,dd,dd,dd,dd,dd,dd,dd,dd,dd,dd,dd,dd,dd,dd,dd,dd,dd,dd,dd,dd,dd,dd,dd],[(1,{next:=2,l:=[some {e:=1,var:=true,fz:=false,sz:=0,cells:=[di aG.aU,di aG.bQ,di aG.bg,di aG.cu,di aG.base,di aG.cap,di aG.bO,di aG.wait,di aG.bF,di aG.bN,di aG.aT]},none,none,none,none,none,none,none,none,none,none,none]}),(25,⟨2,[]⟩),(28,⟨2,[]⟩),(31,⟨2,[]⟩),(33,{next:=2,l:=[some {e:=1,var:=true,fz:=false,sz:=0,cells:=[di aG.aU,di aG.bQ,di aG.bg,di aG.cu,di aG.base,di aG.cap,di aG.bO,di aG.wait,di aG.bF,di aG.bN,di aG.aT, .own ⟨33,12,1⟩ 0 i, .d bw, .d .any, .d (.pt [bw,iD 0]), .own ⟨33,16,1⟩ 0 4,di 0, .own ⟨33,18,1⟩ 0 3, .own ⟨33,19,1⟩ 0 1, .d bw]},none,none,none,none,none,none,none,none,none,none,none,some {e:=1,var:=false,fz:=false,sz:=1,cells:=(i7 i).map C.d},none,none,none,some {e:=1,var:=false,fz:=false,sz:=1,cells:=(jd).map C.d},none,some {e:=1,var:=false,fz:=false,sz:=1,cells:=([bw,bw,bw]).map C.d},some {e:=1,var:=false,fz:=false,sz:=1,cells:=([bw]).map C.d},none]}),(51,⟨2,[]⟩),(52,⟨2,[]⟩)]⟩)
  (λ i=>i≤3) (λ i=>3 - i) 0
  ((Gh.xA 33 11 1 rfl).trans (Gh.canon [1,33] [51,52] [] zK rfl rfl)) (by decide) ?_
 intro i hi0 K hK;cases hlt:decide ((i:Int)<aG.aU)
 .have hi:i=3:=by rw[r3]at hlt;simp at hlt;omega
  subst hi
  repeat'(first|(with_reducible first|refine ay _ _ ?_|refine aD ?_|refine aE ?_)|rw[aB]|simp only[hlt,zY,Int.reduceEq,Int.reduceBEq,Int.reduceBNe,Nat.reduceSub,Nat.reduceEqDiff,Nat.reduceAdd,Nat.reduceMul,Nat.reduceLeDiff,Nat.reduceLT,Nat.reduceBEq,reduceCtorEq]|refine aC ?_|refine aA (λ hb=> ?_) (λ hb=> ?_)|(refine And.intro ?_ ?_;exact zJ)|refine And.intro (λ hg=> ?_) (λ hg=> ?_)|exact zC|fail)
  refine gI Ty prog (τ:=Nat) (λ i=>⟨[dd, .one (.ptr ⟨1,0,1⟩ 0),dd,dd,dd, .one (.ptr ⟨33,0,1⟩ 0),dd,dd,dd,dd,dd,dd,dd,dd,dd,dd,dd,dd,dd,dd,dd,dd,dd,dd,dd,dd,dd,dd,dd,dd,dd,dd,dd,dd,dd,dd,dd,dd,dd,dd,dd,dd,dd,dd,dd,dd,dd,dd,dd,dd,dd,dd,dd,dd,dd,dd,dd,ai aG.bQ,ai i,dd,dd,dd,dd,dd,dd,dd,dd,dd,dd,dd,dd,dd,dd,dd,dd,dd,dd,dd,dd,dd,dd,dd,dd,dd],[(1,{next:=2,l:=[some {e:=1,var:=true,fz:=false,sz:=0,cells:=[di aG.aU,di aG.bQ,di aG.bg,di aG.cu,di aG.base,di aG.cap,di aG.bO,di aG.wait,di aG.bF,di aG.bN,di aG.aT]},none,none,none,none,none,none,none,none,none,none,none]}),(25,⟨2,[]⟩),(28,⟨2,[]⟩),(31,⟨2,[]⟩),(33,{next:=2,l:=[some {e:=1,var:=true,fz:=false,sz:=0,cells:=[di aG.aU,di aG.bQ,di aG.bg,di aG.cu,di aG.base,di aG.cap,di aG.bO,di aG.wait,di aG.bF,di aG.bN,di aG.aT, .own ⟨33,12,1⟩ 0 3, .own ⟨33,13,1⟩ 0 i, .d .any, .d (.pt [bw,iD 0]), .own ⟨33,16,1⟩ 0 4,di 0, .own ⟨33,18,1⟩ 0 3, .own ⟨33,19,1⟩ 0 1, .d bw]},none,none,none,none,none,none,none,none,none,none,none,some {e:=1,var:=false,fz:=false,sz:=1,cells:=(i7 3).map C.d},some {e:=1,var:=false,fz:=false,sz:=1,cells:=(i7 i).map C.d},none,none,some {e:=1,var:=false,fz:=false,sz:=1,cells:=(jd).map C.d},none,some {e:=1,var:=false,fz:=false,sz:=1,cells:=([bw,bw,bw]).map C.d},some {e:=1,var:=false,fz:=false,sz:=1,cells:=([bw]).map C.d},none]}),(51,⟨2,[]⟩),(52,⟨2,[]⟩),(73,⟨2,[]⟩),(74,⟨2,[]⟩)]⟩)
   (λ i=>i≤1) (λ i=>1 - i) 0
   ((Gh.xA 33 12 1 rfl).trans (Gh.canon [1,33] [73,74] [] zK rfl rfl)) (by decide) ?_
  intro i hi0 K2 hK2;cases hlt2:decide ((i:Int)<aG.bQ)
  .have hi:i=1:=by rw[r1]at hlt2;simp at hlt2;omega
   subst hi
   repeat'(first|(with_reducible first|refine ay _ _ ?_|refine aD ?_|refine aE ?_)|rw[aB]|simp only[hlt2,gD,gG,eN,fQ,zY,Int.reduceEq,Int.reduceBEq,Int.reduceBNe,Nat.reduceSub,Nat.reduceEqDiff,Nat.reduceAdd,Nat.reduceMul,Nat.reduceLeDiff,Nat.reduceLT,Nat.reduceBEq,reduceCtorEq]|((first|((try refine aQ ?_);apply aS)|(apply aR;intro _));(solve|exact(vk _)|(refine ag.le (vk _) ?_;exact zM)|fail);try case hn=>rfl)|refine aC ?_|refine aA (λ hb=> ?_) (λ hb=> ?_)|(refine And.intro ?_ ?_;exact zJ)|refine And.intro (λ hg=> ?_) (λ hg=> ?_)|exact zC|fail)
   exact⟨rfl,rfl⟩
  .have hi:i<1:=by rw[r1]at hlt2;simp at hlt2;omega
   have hrn:=AY aG i qu (by rw[r1];omega);have hw:=ij (n:=1) hi (by decide);have hle:(i+1≤2^47)=True:=eq_true (by omega);have htk:List.take i (i7 i)=i7 i:=oY (by rw[nQ];exact Nat.le_refl _)
   repeat'(first|(with_reducible first|refine ay _ _ ?_|refine aD ?_|refine aE ?_)|rw[aB]|simp only[hlt2,hle,nQ,htk,zY,Int.reduceEq,Int.reduceBEq,Int.reduceBNe,Nat.reduceSub,Nat.reduceEqDiff,Nat.reduceAdd,Nat.reduceMul,Nat.reduceLeDiff,Nat.reduceLT,Nat.reduceBEq,reduceCtorEq]|((first|((try refine aQ ?_);apply aS)|(apply aR;intro _));(solve|exact(hrn)|(refine ag.le (hrn) ?_;exact zM)|fail);try case hn=>rfl)|refine aC ?_|refine aA (λ hb=> ?_) (λ hb=> ?_)|(refine And.intro ?_ ?_;exact zJ)|refine And.intro (λ hg=> ?_) (λ hg=> ?_)|exact zC|fail)
   exact hK2 _ (i+1) (Gh.canon [1,33] [] [] (by simp only[hw,cw,cC,cG,cB,cE,cF,cD,cm,cn,cc,ca,cA,cJ,D.v.injEq,cH];try(repeat'(first|rfl|omega|with_reducible apply And.intro))) rfl (by rw[tx (n:=i),List.map_append];rfl)) (by omega) (by omega)
 .have hi:i<3:=by rw[r3]at hlt;simp at hlt;omega
  have hrn:=AL aG i qu (by rw[r3];omega);have hw:=ij (n:=3) hi (by decide);have hle:(i+1≤2^47)=True:=eq_true (by omega);have htk:List.take i (i7 i)=i7 i:=oY (by rw[nQ];exact Nat.le_refl _)
  repeat'(first|(with_reducible first|refine ay _ _ ?_|refine aD ?_|refine aE ?_)|rw[aB]|simp only[hlt,hle,nQ,htk,zY,Int.reduceEq,Int.reduceBEq,Int.reduceBNe,Nat.reduceSub,Nat.reduceEqDiff,Nat.reduceAdd,Nat.reduceMul,Nat.reduceLeDiff,Nat.reduceLT,Nat.reduceBEq,reduceCtorEq]|((first|((try refine aQ ?_);apply aS)|(apply aR;intro _));(solve|exact(hrn)|(refine ag.le (hrn) ?_;exact zM)|fail);try case hn=>rfl)|refine aC ?_|refine aA (λ hb=> ?_) (λ hb=> ?_)|(refine And.intro ?_ ?_;exact zJ)|refine And.intro (λ hg=> ?_) (λ hg=> ?_)|exact zC|fail)
  exact hK _ (i+1) (Gh.canon [1,33] [] [] (by simp only[hw,cw,cC,cG,cB,cE,cF,cD,cm,cn,cc,ca,cA,cJ,D.v.injEq,cH];try(repeat'(first|rfl|omega|with_reducible apply And.intro))) rfl (by rw[tx (n:=i),List.map_append];rfl)) (by omega) (by omega)
abbrev qF:List C:=[di 3,di 1,di 88000,di 100,di 12000,di 12000,di 50,di 0,di 100,di 200,di 200,
 .aI 3 [.any, .any, .any], .aI 1 [.any], .d .any, .d (.pt [bw,iD 0]), .aI 4 jd,di 0, .aI 3 [bw,bw,bw], .aI 1 [bw], .aI 9 nine]
theorem BS (i:Nat) (hi:i<4):ag prog 56 [.f (.one (.cN qF)), .f (ai i)] (λ r o=>r=[rb true]/\o=[]):=by
 refine bR bm mixed (T:=Ty) (n:=20) func56 (c:=f56.body.getD .skip) rfl results56 ntmps56 call56 ?_;simp only[f56,Option.getD];have t1:decide ((i:Int)≥0)=true:=by simp
 have t2:decide ((i:Int)<4)=true:=by simp;omega
 repeat'(first|(with_reducible first|refine ay _ _ ?_|refine aD ?_|refine aE ?_)|rw[aB]|simp only[t1,t2,zY,Int.reduceEq,Int.reduceBEq,Int.reduceBNe,Nat.reduceSub,Nat.reduceEqDiff,Nat.reduceAdd,Nat.reduceMul,Nat.reduceLeDiff,Nat.reduceLT,Nat.reduceBEq,reduceCtorEq]|refine aC ?_|refine aA (λ hb=> ?_) (λ hb=> ?_)|(refine And.intro ?_ ?_;exact zI)|refine And.intro (λ hg=> ?_) (λ hg=> ?_)|exact zC|fail)
 rw[show decide ((i:Int)<((4:Nat):Int))=true by simp;omega]
theorem Cn (i:Nat) (hi:i<4):ag prog 37 [.f (.one (.cN qF)), .f (ai i)] (λ r o=>r=[rb false]/\o=[]):=by
 refine bR bm mixed (T:=Ty) (n:=17) func37 (c:=f37.body.getD .skip) rfl results37 ntmps37 call37 ?_;simp only[f37,Option.getD];have h:=BS i hi;have hd:∃rest,List.drop i jd=bD false::rest:=by rcases(show i=0∨i=1∨i=2∨i=3 by omega)with rfl|rfl|rfl|rfl<;>exact⟨_,rfl⟩
 obtain⟨rest,hd⟩:=hd
 repeat'(first|(with_reducible first|refine ay _ _ ?_|refine aD ?_|refine aE ?_)|rw[aB]|simp only[hd,zY,Int.reduceEq,Int.reduceBEq,Int.reduceBNe,Nat.reduceSub,Nat.reduceEqDiff,Nat.reduceAdd,Nat.reduceMul,Nat.reduceLeDiff,Nat.reduceLT,Nat.reduceBEq,reduceCtorEq]|((first|((try refine aQ ?_);apply aS)|(apply aR;intro _));(solve|exact(h)|(refine ag.le (h) ?_;exact zM)|fail);try case hn=>rfl)|refine aC ?_|refine aA (λ hb=> ?_) (λ hb=> ?_)|(refine And.intro ?_ ?_;exact zI)|refine And.intro (λ hg=> ?_) (λ hg=> ?_)|exact zC|fail)
theorem CK:ag prog 38 [.f (.one (.cN qF))] (λ r o=>r=[ri 0]/\o=[]):=by
 refine bR bm mixed (T:=Ty) (n:=10) func38 (c:=f38.body.getD .skip) rfl results38 ntmps38 call38 ?_;simp only[f38,Option.getD];have h:=Bq
 repeat'(first|(with_reducible first|refine ay _ _ ?_|refine aD ?_|refine aE ?_)|rw[aB]|simp only[zY,Int.reduceEq,Int.reduceBEq,Int.reduceBNe,Nat.reduceSub,Nat.reduceEqDiff,Nat.reduceAdd,Nat.reduceMul,Nat.reduceLeDiff,Nat.reduceLT,Nat.reduceBEq,reduceCtorEq]|((first|((try refine aQ ?_);apply aS)|(apply aR;intro _));(solve|exact(h)|(refine ag.le (h) ?_;exact zM)|fail);try case hn=>rfl)|refine aC ?_|refine aA (λ hb=> ?_) (λ hb=> ?_)|(refine And.intro ?_ ?_;exact zI)|refine And.intro (λ hg=> ?_) (λ hg=> ?_)|exact zC|fail)
theorem DP:c8 prog 36 [.f (.agg (aG.enc.map C.d)), .f (al 0 [])] [ri 0] vH:=by
 refine gK bm mixed (T:=Ty) (n:=29) func36 (c:=f36.body.getD .skip) rfl results36 ntmps36 call36 ?_;simp only[f36,Option.getD];have hw:=Bg;have g0:((0:Int) !=0)=false:=rfl
 repeat'(first|(with_reducible first|refine ay _ _ ?_|refine aD ?_|refine aE ?_)|rw[aB]|simp only[g0,zY,Int.reduceEq,Int.reduceBEq,Int.reduceBNe,Nat.reduceSub,Nat.reduceEqDiff,Nat.reduceAdd,Nat.reduceMul,Nat.reduceLeDiff,Nat.reduceLT,Nat.reduceBEq,reduceCtorEq]|refine nP (hw) ?_|(refine nP (c8.le (hw) ?_) ?_;focus(simp[gQ,iQ,jb,j7]<;>fail))|refine aC ?_|refine aA (λ hb=> ?_) (λ hb=> ?_)|(refine And.intro ?_ ?_;exact zJ)|refine And.intro (λ hg=> ?_) (λ hg=> ?_)|exact zC|fail)
 refine gI Ty prog (τ:=Unit) (λ _=>⟨[dd,dd,dd,dd,dd,dd, .one (.ptr ⟨12,0,1⟩ 0),dd,dd,dd,dd,dd,dd,dd,dd,dd,dd,dd,al 0 [],ai 0,ai 0,dd,dd,dd,dd,dd,dd,dd,dd],[(2,⟨2,[]⟩),(12,{next:=2,l:=[some {e:=1,var:=true,fz:=false,sz:=0,cells:=[di 3,di 1,di 88000,di 100,di 12000,di 12000,di 50,di 0,di 100,di 200,di 200, .own ⟨12,12,1⟩ 0 3, .own ⟨12,13,1⟩ 0 1, .d .any, .d (.pt [bw,iD 0]), .own ⟨12,16,1⟩ 0 4,di 0, .own ⟨12,18,1⟩ 0 3, .own ⟨12,19,1⟩ 0 1, .own ⟨12,20,1⟩ 0 9]},none,none,none,none,none,none,none,none,none,none,none,some {e:=1,var:=false,fz:=false,sz:=1,cells:=([.any, .any, .any]).map C.d},some {e:=1,var:=false,fz:=false,sz:=1,cells:=([.any]).map C.d},none,none,some {e:=1,var:=false,fz:=false,sz:=1,cells:=(jd).map C.d},none,some {e:=1,var:=false,fz:=false,sz:=1,cells:=([bw,bw,bw]).map C.d},some {e:=1,var:=false,fz:=false,sz:=1,cells:=([bw]).map C.d},some {e:=1,var:=false,fz:=false,sz:=1,cells:=(nine).map C.d}]}),(9,⟨2,[]⟩)]⟩) (λ _=>True) (λ _=>0) ()
  (Gh.canon [12] [9] [] zK rfl rfl) trivial ?_
 intro _ _ K hK
 repeat'(first|(with_reducible first|refine ay _ _ ?_|refine aD ?_|refine aE ?_)|rw[aB]|simp only[gD,gG,eN,fQ,zY,Int.reduceEq,Int.reduceBEq,Int.reduceBNe,Nat.reduceSub,Nat.reduceEqDiff,Nat.reduceAdd,Nat.reduceMul,Nat.reduceLeDiff,Nat.reduceLT,Nat.reduceBEq,reduceCtorEq]|refine aC ?_|refine aA (λ hb=> ?_) (λ hb=> ?_)|(refine And.intro ?_ ?_;exact zJ)|refine And.intro (λ hg=> ?_) (λ hg=> ?_)|exact zC|fail)
 all_goals try exact absurd hb (by decide)
 all_goals rfl
def bB:Fair:=⟨96,96,100⟩
abbrev zH:List D:=[bD true,bD true,bD true,bD true]
abbrev ph:List D:=[iD 0,iD 0,iD 0,iD 0]
abbrev oy:List C:=[di 3,di 1,di 88000,di 100,di 12000,di 12000,di 50,di 0,di 100,di 200,di 200,di 96,di 96,di 100,di 0,di 0, .d .any, .aI 4 zH, .aI 4 ph,di 0,di 0]
theorem Bd:ag prog 41 [.f (.one (.cN oy))] (λ r o=>r=[rb true]/\o=[]):=by
 refine bR bm mixed (T:=Ty) (n:=54) func41 (c:=f41.body.getD .skip) rfl results41 ntmps41 call41 ?_;simp only[f41,Option.getD];have helt:∀(Z:List Nat) (r:Rs) (xs ys:List AV),dC Z r (AV.one (.cN oy)::xs) (AV.one (.cN oy)::ys)=dC Z r xs ys:=λ Z r xs ys=>uV rfl rfl
 repeat'(first|(with_reducible first|refine ay _ _ ?_|refine aD ?_|refine aE ?_)|rw[aB]|simp only[zY,Int.reduceEq,Int.reduceBEq,Int.reduceBNe,Nat.reduceSub,Nat.reduceEqDiff,Nat.reduceAdd,Nat.reduceMul,Nat.reduceLeDiff,Nat.reduceLT,Nat.reduceBEq,reduceCtorEq]|refine aC ?_|refine aA (λ hb=> ?_) (λ hb=> ?_)|(refine And.intro ?_ ?_;exact zI)|refine And.intro (λ hg=> ?_) (λ hg=> ?_)|exact zC|fail)
 refine gI Ty prog (τ:=Nat) (λ i=>⟨[.one (.cN oy),dd,dd,dd,dd,dd,dd,dd,al 4 zH,ai 4,ai i,dd,dd,dd,dd,dd,dd,dd,dd,dd,dd,dd,dd,dd,dd,dd,dd,dd,dd,dd,dd,dd,dd,dd,dd,dd,dd,dd,dd,dd,dd,dd,dd,dd,dd,dd,dd,dd,dd,dd,dd,dd,dd,dd],[]⟩) (λ i=>i≤4) (λ i=>4 - i) 0
  (Gh.canon [] [] [] (by simp only[helt,cw,cC,cG,cB,cE,cF,cD,cm,cn,cc,ca,cA,cJ,D.v.injEq,cH];try(repeat'(first|rfl|omega|with_reducible apply And.intro))) rfl rfl) (by decide) ?_
 intro i hi0 K hK;cases hlt:decide ((i:Int)<4)
 .repeat'(first|(with_reducible first|refine ay _ _ ?_|refine aD ?_|refine aE ?_)|rw[aB]|simp only[hlt,zY,Int.reduceEq,Int.reduceBEq,Int.reduceBNe,Nat.reduceSub,Nat.reduceEqDiff,Nat.reduceAdd,Nat.reduceMul,Nat.reduceLeDiff,Nat.reduceLT,Nat.reduceBEq,reduceCtorEq]|refine aC ?_|refine aA (λ hb=> ?_) (λ hb=> ?_)|(refine And.intro ?_ ?_;exact zI)|refine And.intro (λ hg=> ?_) (λ hg=> ?_)|exact zC|fail)
  rw[show decide (IntKind.i64.wrap (0 - 0)<IntKind.i64.wrap (2*96))=true by decide]
 .have hi:i<4:=by simp at hlt;omega
  have hw:=ij (n:=4) hi (by decide);obtain⟨j,hj⟩:∃j,i+1=j:=⟨_,rfl⟩;rw[hj]at hw;rcases(show i=0∨i=1∨i=2∨i=3 by omega)with rfl|rfl|rfl|rfl
  all_goals
   repeat'(first|(with_reducible first|refine ay _ _ ?_|refine aD ?_|refine aE ?_)|rw[aB]|simp only[hlt,zY,Int.reduceEq,Int.reduceBEq,Int.reduceBNe,Nat.reduceSub,Nat.reduceEqDiff,Nat.reduceAdd,Nat.reduceMul,Nat.reduceLeDiff,Nat.reduceLT,Nat.reduceBEq,reduceCtorEq]|refine aC ?_|refine aA (λ hb=> ?_) (λ hb=> ?_)|(refine And.intro ?_ ?_;exact zJ)|refine And.intro (λ hg=> ?_) (λ hg=> ?_)|exact zC|fail)
   all_goals try exact absurd hb (by decide)
   have hk:=λ g=>hK g j
   subst hj;exact hk _ (Gh.canon [] [] [] (by simp only[hw,helt,cw,cC,cG,cB,cE,cF,cD,cm,cn,cc,ca,cA,cJ,D.v.injEq,cH];try(repeat'(first|rfl|omega|with_reducible apply And.intro))) rfl rfl) (by decide) (by decide)
def kS:Nat->List D
 |0=>[bD false,bD false,bD false,bD false]
 |1=>[bD true,bD false,bD false,bD false]
 |2=>[bD true,bD true,bD false,bD false]
 |3=>[bD true,bD true,bD true,bD false]
 |_=>[bD true,bD true,bD true,bD true]
theorem Cg:ag prog 12 [.f (.agg (aG.enc.map C.d)), .f (al 0 []), .f (ai 0), .f (.agg bB.l)] (λ r o=>r=[rb true]/\o=[]):=by
 refine bR bm mixed (T:=Ty) (n:=126) func12 (c:=f12.body.getD .skip) rfl results12 ntmps12 call12 ?_;simp only[f12,Option.getD];have hm:=jL aG bB;rw[show bU aG bB=true by decide]at hm;have hp:=DP;have t1:decide ((0:Int)<0)=false:=rfl;have t2:decide ((0:Int)>0)=false:=rfl;have t3:decide (aG.bQ>6)=false:=by decide
 have w4:IntKind.i64.wrap (aG.aU+aG.bQ)=4:=by decide
 have n4:Int.toNat 4=4:=rfl;have zb:dY [Value.bool false] 4=jd:=rfl;have zi:dY [Value.int .i64 0] 4=ph:=rfl;have w0:IntKind.i64.wrap (0 - 0)=0:=by decide
 repeat'(first|(with_reducible first|refine Dw 6 ?_|refine CV 6 ?_|refine C2 6 ?_)|(with_reducible first|refine ay _ _ ?_|refine aD ?_|refine aE ?_)|rw[aB]|simp only[t1,t2,t3,w4,n4,zb,zi,w0,zY,Int.reduceEq,Int.reduceBEq,Int.reduceBNe,Nat.reduceSub,Nat.reduceEqDiff,Nat.reduceAdd,Nat.reduceMul,Nat.reduceLeDiff,Nat.reduceLT,Nat.reduceBEq,reduceCtorEq]|((first|((try refine aQ ?_);apply aS)|(apply aR;intro _));(solve|exact(hm)|(refine ag.le (hm) ?_;exact zM)|fail);try case hn=>rfl)|refine nP (hp) ?_|(refine nP (c8.le (hp) ?_) ?_;focus(simp[gQ,iQ,jb,j7]<;>fail))|refine aC ?_|refine aA (λ hb=> ?_) (λ hb=> ?_)|(refine And.intro ?_ ?_;exact zJ)|refine And.intro (λ hg=> ?_) (λ hg=> ?_)|exact zC|fail)
 all_goals try exact absurd hb (by decide)
 refine Du (DC (Gh.E6 64 16) ?_);simp only[zY,oJ,Nat.reduceSub,Nat.reduceEqDiff,Nat.reduceAdd,Nat.reduceMul,Nat.reduceLeDiff,Nat.reduceLT,Nat.reduceBEq,reduceCtorEq]
 repeat'(first|(with_reducible first|refine ay _ _ ?_|refine aD ?_|refine aE ?_)|rw[aB]|simp only[zY,Int.reduceEq,Int.reduceBEq,Int.reduceBNe,Nat.reduceSub,Nat.reduceEqDiff,Nat.reduceAdd,Nat.reduceMul,Nat.reduceLeDiff,Nat.reduceLT,Nat.reduceBEq,reduceCtorEq]|refine aC ?_|refine aA (λ hb=> ?_) (λ hb=> ?_)|(refine And.intro ?_ ?_;exact zJ)|refine And.intro (λ hg=> ?_) (λ hg=> ?_)|exact zC|fail)
 refine gI Ty prog (τ:=Nat) (λ i=>⟨[dd,al 0 [],ai 0,dd, .one (.ptr ⟨4,0,1⟩ 0),dd,dd,dd,dd, .one (.ptr ⟨42,0,1⟩ 0),dd,dd, .one (.ptr ⟨64,0,1⟩ 0),ai ((min i 3:Nat):Int),dd,dd,dd,dd,dd,dd,dd,dd,dd,dd,dd,dd,dd,dd,dd,dd,dd,dd,dd,dd,dd,dd,dd,dd,dd,dd,dd,dd,dd,dd,dd,dd,dd,dd,dd,dd,dd,dd,dd,dd,dd,dd,dd,dd,dd,dd,dd,dd,dd,dd,dd,ai 4,ai i,dd,dd,dd,dd,dd,dd,dd,dd,dd,dd,dd,dd,dd,dd,dd,dd,dd,dd,dd,dd,dd,dd,dd,dd,dd,dd,dd,dd,dd,dd,dd,dd,dd,dd,dd,dd,dd,dd,dd,dd,dd,dd,dd,dd,dd,dd,dd,dd,dd,dd,dd,dd,dd,dd,dd,dd,dd,dd,dd],[(4,{next:=2,l:=[some {e:=1,var:=true,fz:=false,sz:=0,cells:=[di aG.aU,di aG.bQ,di aG.bg,di aG.cu,di aG.base,di aG.cap,di aG.bO,di aG.wait,di aG.bF,di aG.bN,di aG.aT]},none,none,none,none,none,none,none,none,none,none,none]}),(7,⟨2,[]⟩),(42,{next:=2,l:=[some {e:=1,var:=true,fz:=false,sz:=0,cells:=[di 3,di 1,di 88000,di 100,di 12000,di 12000,di 50,di 0,di 100,di 200,di 200, .own ⟨42,12,1⟩ 0 3, .own ⟨42,13,1⟩ 0 1, .d .any, .d (.pt [bw,iD 0]), .own ⟨42,16,1⟩ 0 4,di 0, .own ⟨42,18,1⟩ 0 3, .own ⟨42,19,1⟩ 0 1, .own ⟨42,20,1⟩ 0 9]},none,none,none,none,none,none,none,none,none,none,none,some {e:=1,var:=false,fz:=false,sz:=1,cells:=([.any, .any, .any]).map C.d},some {e:=1,var:=false,fz:=false,sz:=1,cells:=([.any]).map C.d},none,none,some {e:=1,var:=false,fz:=false,sz:=1,cells:=(jd).map C.d},none,some {e:=1,var:=false,fz:=false,sz:=1,cells:=([bw,bw,bw]).map C.d},some {e:=1,var:=false,fz:=false,sz:=1,cells:=([bw]).map C.d},some {e:=1,var:=false,fz:=false,sz:=1,cells:=(nine).map C.d}]}),(59,⟨2,[]⟩),(61,⟨2,[]⟩),(64,{next:=2,l:=[some {e:=1,var:=true,fz:=false,sz:=0,cells:=[di aG.aU,di aG.bQ,di aG.bg,di aG.cu,di aG.base,di aG.cap,di aG.bO,di aG.wait,di aG.bF,di aG.bN,di aG.aT,di bB.d,di bB.k,di bB.p,di 0,di 0, .d .any, .own ⟨64,18,1⟩ 0 4, .own ⟨64,19,1⟩ 0 4,di 0,di 0]},none,none,none,none,none,none,none,none,none,none,none,none,none,none,none,none,none,some {e:=1,var:=false,fz:=false,sz:=1,cells:=(kS i).map C.d},some {e:=1,var:=false,fz:=false,sz:=1,cells:=(ph).map C.d},none,none]})]⟩)
  (λ i=>i≤4) (λ i=>4 - i) 0
  (Gh.canon [4,42,64] [] [] zK rfl rfl) (by decide) ?_
 intro i hi0 K hK;cases hlt:decide ((i:Int)<4)
 .have hi:i=4:=by simp at hlt;omega
  subst hi;have hlo:=CK;have hqu:=pC aG.aU (by decide);have q1:decide (((min 4 3:Nat):Int)<aG.aU / 2+1)=false:=by decide
  repeat'(first|(with_reducible first|refine ay _ _ ?_|refine aD ?_|refine aE ?_)|rw[aB]|simp only[hlt,q1,zY,Int.reduceEq,Int.reduceBEq,Int.reduceBNe,Nat.reduceSub,Nat.reduceEqDiff,Nat.reduceAdd,Nat.reduceMul,Nat.reduceLeDiff,Nat.reduceLT,Nat.reduceBEq,reduceCtorEq]|((first|((try refine aQ ?_);apply aS)|(apply aR;intro _));(solve|exact(hlo)|exact(hqu)|(refine ag.le (hlo) ?_;exact zM)|(refine ag.le (hqu) ?_;exact zM)|fail);try case hn=>rfl)|refine aC ?_|refine aA (λ hb=> ?_) (λ hb=> ?_)|(refine And.intro ?_ ?_;exact zJ)|refine And.intro (λ hg=> ?_) (λ hg=> ?_)|exact zC|fail)
  all_goals try exact absurd hb (by decide)
  refine gI Ty prog (τ:=Unit) (λ _=>⟨[dd,dd,dd,dd,dd,dd,dd,dd,dd, .one (.ptr ⟨42,0,1⟩ 0),dd,dd, .one (.ptr ⟨64,0,1⟩ 0),dd,dd,ai 0,dd,dd,dd,dd,dd,dd,dd,dd,dd,dd,dd,dd,dd,dd,dd,dd,dd,dd,dd,dd,dd,dd,dd,dd,dd,dd,dd,dd,dd,dd,dd,dd,dd,dd,dd,dd,dd,dd,dd,dd,dd,dd,dd,dd,dd,dd,dd,dd,dd,dd,dd,dd,dd,dd,dd,dd,dd,dd,dd,dd,dd,dd,dd,dd,dd,dd,dd,dd,dd,dd,dd,dd,dd,dd,dd,dd,dd,dd,dd,dd,dd,dd,dd,dd,dd,dd,dd,dd,al 0 [],ai 0,ai 0,dd,dd,dd,dd,dd,dd,dd,dd,dd,dd,dd,dd,dd,dd,dd,dd,dd,dd,dd],[(4,⟨2,[]⟩),(7,⟨2,[]⟩),(42,{next:=2,l:=[some {e:=1,var:=true,fz:=false,sz:=0,cells:=[di 3,di 1,di 88000,di 100,di 12000,di 12000,di 50,di 0,di 100,di 200,di 200, .own ⟨42,12,1⟩ 0 3, .own ⟨42,13,1⟩ 0 1, .d .any, .d (.pt [bw,iD 0]), .own ⟨42,16,1⟩ 0 4,di 0, .own ⟨42,18,1⟩ 0 3, .own ⟨42,19,1⟩ 0 1, .own ⟨42,20,1⟩ 0 9]},none,none,none,none,none,none,none,none,none,none,none,some {e:=1,var:=false,fz:=false,sz:=1,cells:=([.any, .any, .any]).map C.d},some {e:=1,var:=false,fz:=false,sz:=1,cells:=([.any]).map C.d},none,none,some {e:=1,var:=false,fz:=false,sz:=1,cells:=(jd).map C.d},none,some {e:=1,var:=false,fz:=false,sz:=1,cells:=([bw,bw,bw]).map C.d},some {e:=1,var:=false,fz:=false,sz:=1,cells:=([bw]).map C.d},some {e:=1,var:=false,fz:=false,sz:=1,cells:=(nine).map C.d}]}),(59,⟨2,[]⟩),(61,⟨2,[]⟩),(64,{next:=2,l:=[some {e:=1,var:=true,fz:=false,sz:=0,cells:=[di aG.aU,di aG.bQ,di aG.bg,di aG.cu,di aG.base,di aG.cap,di aG.bO,di aG.wait,di aG.bF,di aG.bN,di aG.aT,di bB.d,di bB.k,di bB.p,di 0,di 0, .d .any, .own ⟨64,18,1⟩ 0 4, .own ⟨64,19,1⟩ 0 4,di 0,di 0]},none,none,none,none,none,none,none,none,none,none,none,none,none,none,none,none,none,some {e:=1,var:=false,fz:=false,sz:=1,cells:=(kS 4).map C.d},some {e:=1,var:=false,fz:=false,sz:=1,cells:=(ph).map C.d},none,none]}),(17,⟨2,[]⟩)]⟩)
   (λ _=>True) (λ _=>0) () (Gh.canon [42,64] [17] [] zK rfl rfl) trivial ?_
  intro _ _ K2 hK2;have hend:=Bd
  repeat'(first|(with_reducible first|refine ay _ _ ?_|refine aD ?_|refine aE ?_)|rw[aB]|simp only[kS,zY,Int.reduceEq,Int.reduceBEq,Int.reduceBNe,Nat.reduceSub,Nat.reduceEqDiff,Nat.reduceAdd,Nat.reduceMul,Nat.reduceLeDiff,Nat.reduceLT,Nat.reduceBEq,reduceCtorEq]|((first|((try refine aQ ?_);apply aS)|(apply aR;intro _));(solve|exact(hend)|exact(hlo)|(refine ag.le (hend) ?_;exact zM)|(refine ag.le (hlo) ?_;exact zM)|fail);try case hn=>rfl)|refine aC ?_|refine aA (λ hb=> ?_) (λ hb=> ?_)|(refine And.intro ?_ ?_;exact zJ)|refine And.intro (λ hg=> ?_) (λ hg=> ?_)|exact zC|fail)
  all_goals try exact absurd hb (by decide)
 .have hi:i<4:=by simp at hlt;omega
  have hw:=ij (n:=4) hi (by decide);have hha:=Cn i hi;rcases(show i=0∨i=1∨i=2∨i=3 by omega)with rfl|rfl|rfl|rfl
  .have hc:IntKind.i64.wrap (((min 0 3:Nat):Int)+1)=((1:Nat):Int):=by decide
   repeat'(first|(with_reducible first|refine ay _ _ ?_|refine aD ?_|refine aE ?_)|rw[aB]|simp only[hlt,kS,zY,Int.reduceEq,Int.reduceBEq,Int.reduceBNe,Nat.reduceSub,Nat.reduceEqDiff,Nat.reduceAdd,Nat.reduceMul,Nat.reduceLeDiff,Nat.reduceLT,Nat.reduceBEq,reduceCtorEq]|((first|((try refine aQ ?_);apply aS)|(apply aR;intro _));(solve|exact(hha)|(refine ag.le (hha) ?_;exact zM)|fail);try case hn=>rfl)|refine aC ?_|refine aA (λ hb=> ?_) (λ hb=> ?_)|(refine And.intro ?_ ?_;exact zJ)|refine And.intro (λ hg=> ?_) (λ hg=> ?_)|exact zC|fail)
   all_goals try exact absurd hb (by decide)
   exact hK _ 1 (Gh.canon [4,42,64] [] [] (by simp only[hw,hc,cw,cC,cG,cB,cE,cF,cD,cm,cn,cc,ca,cA,cJ,D.v.injEq,cH];try(repeat'(first|rfl|omega|with_reducible apply And.intro))) rfl rfl) (by decide) (by decide)
  .have hc:IntKind.i64.wrap (((min 1 3:Nat):Int)+1)=((2:Nat):Int):=by decide
   repeat'(first|(with_reducible first|refine ay _ _ ?_|refine aD ?_|refine aE ?_)|rw[aB]|simp only[hlt,kS,zY,Int.reduceEq,Int.reduceBEq,Int.reduceBNe,Nat.reduceSub,Nat.reduceEqDiff,Nat.reduceAdd,Nat.reduceMul,Nat.reduceLeDiff,Nat.reduceLT,Nat.reduceBEq,reduceCtorEq]|((first|((try refine aQ ?_);apply aS)|(apply aR;intro _));(solve|exact(hha)|(refine ag.le (hha) ?_;exact zM)|fail);try case hn=>rfl)|refine aC ?_|refine aA (λ hb=> ?_) (λ hb=> ?_)|(refine And.intro ?_ ?_;exact zJ)|refine And.intro (λ hg=> ?_) (λ hg=> ?_)|exact zC|fail)
   all_goals try exact absurd hb (by decide)
   exact hK _ 2 (Gh.canon [4,42,64] [] [] (by simp only[hw,hc,cw,cC,cG,cB,cE,cF,cD,cm,cn,cc,ca,cA,cJ,D.v.injEq,cH];try(repeat'(first|rfl|omega|with_reducible apply And.intro))) rfl rfl) (by decide) (by decide)
  .have hc:IntKind.i64.wrap (((min 2 3:Nat):Int)+1)=((3:Nat):Int):=by decide
   repeat'(first|(with_reducible first|refine ay _ _ ?_|refine aD ?_|refine aE ?_)|rw[aB]|simp only[hlt,kS,zY,Int.reduceEq,Int.reduceBEq,Int.reduceBNe,Nat.reduceSub,Nat.reduceEqDiff,Nat.reduceAdd,Nat.reduceMul,Nat.reduceLeDiff,Nat.reduceLT,Nat.reduceBEq,reduceCtorEq]|((first|((try refine aQ ?_);apply aS)|(apply aR;intro _));(solve|exact(hha)|(refine ag.le (hha) ?_;exact zM)|fail);try case hn=>rfl)|refine aC ?_|refine aA (λ hb=> ?_) (λ hb=> ?_)|(refine And.intro ?_ ?_;exact zJ)|refine And.intro (λ hg=> ?_) (λ hg=> ?_)|exact zC|fail)
   all_goals try exact absurd hb (by decide)
   exact hK _ 3 (Gh.canon [4,42,64] [] [] (by simp only[hw,hc,cw,cC,cG,cB,cE,cF,cD,cm,cn,cc,ca,cA,cJ,D.v.injEq,cH];try(repeat'(first|rfl|omega|with_reducible apply And.intro))) rfl rfl) (by decide) (by decide)
  .have hc:IntKind.i64.wrap (((min 3 3:Nat):Int)+1)=((4:Nat):Int):=by decide
   repeat'(first|(with_reducible first|refine ay _ _ ?_|refine aD ?_|refine aE ?_)|rw[aB]|simp only[hlt,kS,zY,Int.reduceEq,Int.reduceBEq,Int.reduceBNe,Nat.reduceSub,Nat.reduceEqDiff,Nat.reduceAdd,Nat.reduceMul,Nat.reduceLeDiff,Nat.reduceLT,Nat.reduceBEq,reduceCtorEq]|((first|((try refine aQ ?_);apply aS)|(apply aR;intro _));(solve|exact(hha)|(refine ag.le (hha) ?_;exact zM)|fail);try case hn=>rfl)|refine aC ?_|refine aA (λ hb=> ?_) (λ hb=> ?_)|(refine And.intro ?_ ?_;exact zJ)|refine And.intro (λ hg=> ?_) (λ hg=> ?_)|exact zC|fail)
   all_goals try exact absurd hb (by decide)
   exact hK _ 4 (Gh.canon [4,42,64] [] [] (by simp only[hw,hc,cw,cC,cG,cB,cE,cF,cD,cm,cn,cc,ca,cA,cJ,D.v.injEq,cH];try(repeat'(first|rfl|omega|with_reducible apply And.intro))) rfl rfl) (by decide) (by decide)
theorem AM:ag prog 14 [.f (al 0 [])] (λ r o=>r=[.agg (aG.enc.map RO.d), .agg (bB.enc.map RO.d)]/\o=[]):=by
 refine bR bm mixed (T:=Ty) (n:=126) func14 (c:=f14.body.getD .skip) rfl results14 ntmps14 call14 ?_;simp only[f14,Option.getD]
 repeat'(first|(with_reducible first|refine ay _ _ ?_|refine aD ?_|refine aE ?_)|rw[aB]|simp only[zY,Int.reduceEq,Int.reduceBEq,Int.reduceBNe,Nat.reduceSub,Nat.reduceEqDiff,Nat.reduceAdd,Nat.reduceMul,Nat.reduceLeDiff,Nat.reduceLT,Nat.reduceBEq,reduceCtorEq]|refine aC ?_|refine aA (λ hb=> ?_) (λ hb=> ?_)|(refine And.intro ?_ ?_;exact zJ)|refine And.intro (λ hg=> ?_) (λ hg=> ?_)|exact zC|fail)
 refine gI Ty prog (τ:=Unit) (λ _=>⟨[al 0 [],dd, .one (.ptr ⟨2,0,1⟩ 0), .one (.ptr ⟨3,0,1⟩ 0), .one (.ptr ⟨4,0,1⟩ 0),ai 0,dd,dd,dd,dd,dd,dd,dd,dd,dd,dd,dd,dd,dd,dd,dd,dd,dd,dd,dd,dd,dd,dd,dd,dd,dd,dd,dd,dd,dd,dd,dd,dd,dd,dd,dd,dd,dd,dd,dd,dd,dd,dd,dd,dd,dd,dd,dd,dd,dd,dd,dd,dd,dd,dd,dd,dd,dd,dd,dd,dd,dd,dd,dd,dd,dd,dd,dd,dd,dd,dd,dd,dd,dd,dd,dd,dd,dd,dd,dd,dd,dd,dd,dd,dd,dd,dd,dd,dd,dd,dd,dd,dd,dd,dd,dd,dd,dd,dd,dd,dd,dd,dd,dd,dd,dd,dd,dd,dd,dd,dd,dd,dd,dd,dd,dd,dd,dd,dd,dd,dd],[(2,{next:=2,l:=[some {e:=1,var:=true,fz:=false,sz:=0,cells:=[di 0,di 0,di 0,di 0,di 0,di 0,di 0,di 0,di 0,di 0,di 0]},none,none,none,none,none,none,none,none,none,none,none]}),(3,{next:=2,l:=[some {e:=1,var:=true,fz:=false,sz:=0,cells:=[di 0,di 0,di 0]},none,none,none]}),(4,{next:=2,l:=[some {e:=1,var:=true,fz:=false,sz:=0,cells:=[di 0,di 0,di 0,di 0,di 0,di 0,di 0,di 0]},none,none,none,none,none,none,none,none]})]⟩) (λ _=>True) (λ _=>0) ()
  (Gh.canon [2,3,4] [] [] zK rfl rfl) trivial ?_
 intro _ _ K hK;have q1:(decide ((0:Int)<((0:Nat):Int))&&decide ((0:Int)<8))=false:=by decide
 have n4:(0:Int).tmod 4=0:=by decide
 have n3:(0:Int).tmod 3=0:=by decide
 have n120:(0:Int).tmod 120=0:=by decide
 have c1:IntKind.i64.wrap (1+0)=1:=by decide
 have c2:IntKind.i64.wrap (50+0)=50:=by decide
 have c3:IntKind.i64.wrap (100+0)=100:=by decide
 have c4:IntKind.i64.wrap (200+0)=200:=by decide
 have c5:IntKind.i64.wrap (2*0)=0:=by decide
 have h96:¬(96:Int)=0:=by decide
 have d1:IntKind.i64.wrap (Int.tdiv 96 96)=1:=by decide
 have d2:IntKind.i64.wrap (1+1)=2:=by decide
 have d3:IntKind.i64.wrap (12*2)=24:=by decide
 have d4:IntKind.i64.wrap (24+30)=54:=by decide
 have d5:IntKind.i64.wrap (100*54)=5400:=by decide
 have d6:IntKind.i64.wrap (8*50)=400:=by decide
 have d7:IntKind.i64.wrap (5400+400)=5800:=by decide
 have d8:IntKind.i64.wrap (2*100)=200:=by decide
 have d9:IntKind.i64.wrap (5800+200)=6000:=by decide
 have e1:IntKind.i64.wrap (6000+0)=6000:=by decide
 have e2:IntKind.i64.wrap (2*6000)=12000:=by decide
 have e3:IntKind.i64.wrap (12000+0)=12000:=by decide
 have e4:IntKind.u64.wrap 0=0:=by decide
 have n0:¬((0:Int)<0):=by decide
 have e5:Int.fdiv 12000 (2^min 0 IntKind.i64.bits)=12000:=by decide
 repeat'(first|(with_reducible first|refine ay _ _ ?_|refine aD ?_|refine aE ?_)|rw[aB]|simp only[q1,n4,n3,n120,c1,c2,c3,c4,c5,aj h96,d1,d2,d3,d4,d5,d6,d7,d8,d9,e1,e2,e3,e4,aj n0,e5,Int.reduceToNat,lL,jX,zY,Int.reduceEq,Int.reduceBEq,Int.reduceBNe,Nat.reduceSub,Nat.reduceEqDiff,Nat.reduceAdd,Nat.reduceMul,Nat.reduceLeDiff,Nat.reduceLT,Nat.reduceBEq,reduceCtorEq]|refine aC ?_|refine aA (λ hb=> ?_) (λ hb=> ?_)|(refine And.intro ?_ ?_;exact zJ)|refine And.intro (λ hg=> ?_) (λ hg=> ?_)|exact zC|fail)
 all_goals try exact absurd hb (by decide)
 refine gI Ty prog (τ:=Unit) (λ _=>⟨[dd,dd, .one (.ptr ⟨2,0,1⟩ 0), .one (.ptr ⟨3,0,1⟩ 0), .one (.ptr ⟨4,0,1⟩ 0),dd, .one (.ptr ⟨6,0,1⟩ 0), .one (.ptr ⟨7,0,1⟩ 0),ai 12000,ai 0,ai 12000,dd,dd,dd,dd,dd,dd,dd,dd,dd,dd,dd,dd,dd,dd,dd,dd,dd,dd,dd,dd,dd,dd,dd,dd,dd,dd,dd,dd,dd,dd,dd,dd,dd,dd,dd,dd,dd,dd,dd,dd,dd,dd,dd,dd,dd,dd,dd,dd,dd,dd,dd,dd,dd,dd,dd,dd,dd,dd,dd,dd,dd,dd,dd,dd,dd,dd,dd,dd,dd,dd,dd,dd,dd,dd,dd,dd,dd,dd,dd,dd,dd,dd,dd,dd,dd,dd,dd,dd,dd,dd,dd,dd,dd,dd,dd,dd,dd,dd,dd,dd,dd,dd,dd,dd,dd,dd,dd,dd,dd,dd,dd,dd,dd,dd,dd],[(2,{next:=2,l:=[some {e:=1,var:=true,fz:=false,sz:=0,cells:=[di 0,di 0,di 0,di 0,di 0,di 0,di 0,di 0,di 0,di 0,di 0]},none,none,none,none,none,none,none,none,none,none,none]}),(3,{next:=2,l:=[some {e:=1,var:=true,fz:=false,sz:=0,cells:=[di 0,di 0,di 0]},none,none,none]}),(4,{next:=2,l:=[some {e:=1,var:=true,fz:=false,sz:=0,cells:=[di 0,di 0,di 0,di 0,di 0,di 0,di 0,di 0]},none,none,none,none,none,none,none,none]}),(6,{next:=2,l:=[some {e:=1,var:=true,fz:=false,sz:=0,cells:=[di 96,di 96,di 100]},none,none,none]}),(30,⟨2,[]⟩),(7,{next:=2,l:=[some {e:=1,var:=true,fz:=false,sz:=0,cells:=[di 3,di 1,di 0,di 100,di 12000,di 12000,di 50,di 0,di 100,di 200,di 200]},none,none,none,none,none,none,none,none,none,none,none]})]⟩) (λ _=>True) (λ _=>0) ()
  (Gh.canon [2,3,4,6,7] [] [] zK rfl rfl) trivial ?_
 intro _ _ K2 hK2;have g1:IntKind.i64.wrap (0+3)=3:=by decide
 have g2:IntKind.i64.wrap (3+4)=7:=by decide
 have g3:IntKind.i64.wrap (7*12000)=84000:=by decide
 have g4:IntKind.i64.wrap (3+1)=4:=by decide
 have g5:IntKind.i64.wrap (200*4)=800:=by decide
 have g6:IntKind.i64.wrap (200+800)=1000:=by decide
 have g7:IntKind.i64.wrap (4*1000)=4000:=by decide
 have g8:IntKind.i64.wrap (84000+4000)=88000:=by decide
 have g9:IntKind.i64.wrap (88000+0)=88000:=by decide
 have q2:decide ((12000:Int)<12000)=false:=by decide
 repeat'(first|(with_reducible first|refine ay _ _ ?_|refine aD ?_|refine aE ?_)|rw[aB]|simp only[q2,g1,g2,g3,g4,g5,g6,g7,g8,g9,Int.reduceToNat,lL,jX,zY,Int.reduceEq,Int.reduceBEq,Int.reduceBNe,Nat.reduceSub,Nat.reduceEqDiff,Nat.reduceAdd,Nat.reduceMul,Nat.reduceLeDiff,Nat.reduceLT,Nat.reduceBEq,reduceCtorEq]|refine aC ?_|refine aA (λ hb=> ?_) (λ hb=> ?_)|(refine And.intro ?_ ?_;exact zJ)|refine And.intro (λ hg=> ?_) (λ hg=> ?_)|exact zC|fail)
 all_goals try exact absurd hb (by decide)
 rfl
theorem sB:ag prog 9 [] (λ r o=>r=[rb true]/\o=[]):=by
 refine bR bm mixed (T:=Ty) (n:=36) func9 (c:=f9.body.getD .skip) rfl results9 ntmps9 call9 ?_;simp only[f9,Option.getD];have h1:=AM;have h2:=oq ⟨1,1,1⟩;rw[show ep ⟨1,1,1⟩=true by decide]at h2;have h3:=oq ⟨0,0,0⟩;rw[show ep ⟨0,0,0⟩=false by decide]at h3;have h4:=Cg;have h5:=kn aG bB;rw[show gv aG bB=true by decide]at h5;have h6:=ki ⟨0,0,0,0,0,0,0,0,0,0,0⟩ bB;rw[show eM ⟨0,0,0,0,0,0,0,0,0,0,0⟩ bB=0 by decide]at h6;have h7:=km aG bB;rw[show dn aG bB=12000 by decide]at h7
 repeat'(first|(with_reducible first|refine ay _ _ ?_|refine aD ?_|refine aE ?_)|rw[aB]|simp only[zY,Int.reduceEq,Int.reduceBEq,Int.reduceBNe,Nat.reduceSub,Nat.reduceEqDiff,Nat.reduceAdd,Nat.reduceMul,Nat.reduceLeDiff,Nat.reduceLT,Nat.reduceBEq,reduceCtorEq]|((first|((try refine aQ ?_);apply aS)|(apply aR;intro _));(solve|exact(h1)|exact(h2)|exact(h3)|exact(h4)|exact(h5)|exact(h6)|exact(h7)|(refine ag.le (h1) ?_;exact zM)|(refine ag.le (h2) ?_;exact zM)|(refine ag.le (h3) ?_;exact zM)|(refine ag.le (h4) ?_;exact zM)|(refine ag.le (h5) ?_;exact zM)|(refine ag.le (h6) ?_;exact zM)|(refine ag.le (h7) ?_;exact zM)|fail);try case hn=>rfl)|refine aC ?_|refine aA (λ hb=> ?_) (λ hb=> ?_)|(refine And.intro ?_ ?_;exact zJ)|refine And.intro (λ hg=> ?_) (λ hg=> ?_)|exact zC|fail)
 rfl
theorem AG (c:bd) (ns:List Int) (hl:ns.length<2^60) (hn:∀n∈ns,fH n) (b:Bool) (f:Fair) (n:Int):
  ag prog 6 [.f (.agg (c.enc.map C.d)), .f (al ns.length (fB ns)), .f (ab b), .f (.agg f.l), .f (ai n)] (λ r o=>r=[rb true]/\o=[]):=by
 refine bR bm mixed (T:=Ty) (n:=87) func6 (c:=f6.body.getD .skip) rfl results6 ntmps6 call6 ?_;simp only[f6,Option.getD];have haw:=sB;have m1:=oq f;have m2:=jJ f;cases b
 .have n1:=km c f;have n2:=n7 c f;have l1:=nR c f;have l2:=pM c f;have s1:=ki c f;have s2:=nB c f;have v1:=lp c f;have v2:=nG c f;have b1:=ml c f n;have b2:=tE c f n;have g1:=pR c f;have g2:=sy c f;have t1:=kn c f;have t2:=uP c f
  repeat'(first|(with_reducible first|refine ay _ _ ?_|refine aD ?_|refine aE ?_)|rw[aB]|simp only[beq_self_eq_true,zY,Int.reduceEq,Int.reduceBEq,Int.reduceBNe,Nat.reduceSub,Nat.reduceEqDiff,Nat.reduceAdd,Nat.reduceMul,Nat.reduceLeDiff,Nat.reduceLT,Nat.reduceBEq,reduceCtorEq]|((first|((try refine aQ ?_);apply aS)|(apply aR;intro _));(solve|exact(m1)|exact(m2)|exact(n1)|exact(n2)|exact(l1)|exact(l2)|exact(s1)|exact(s2)|exact(v1)|exact(v2)|exact(b1)|exact(b2)|exact(g1)|exact(g2)|exact(t1)|exact(t2)|exact(haw)|(refine ag.le (m1) ?_;exact zM)|(refine ag.le (m2) ?_;exact zM)|(refine ag.le (n1) ?_;exact zM)|(refine ag.le (n2) ?_;exact zM)|(refine ag.le (l1) ?_;exact zM)|(refine ag.le (l2) ?_;exact zM)|(refine ag.le (s1) ?_;exact zM)|(refine ag.le (s2) ?_;exact zM)|(refine ag.le (v1) ?_;exact zM)|(refine ag.le (v2) ?_;exact zM)|(refine ag.le (b1) ?_;exact zM)|(refine ag.le (b2) ?_;exact zM)|(refine ag.le (g1) ?_;exact zM)|(refine ag.le (g2) ?_;exact zM)|(refine ag.le (t1) ?_;exact zM)|(refine ag.le (t2) ?_;exact zM)|(refine ag.le (haw) ?_;exact zM)|fail);try case hn=>rfl)|refine aC ?_|refine aA (λ hb=> ?_) (λ hb=> ?_)|(refine And.intro ?_ ?_;exact zJ)|refine And.intro (λ hg=> ?_) (λ hg=> ?_)|exact zC|fail)
 .have hc:=Ds ns hl hn;generalize qL ns=c' at hc;have n1:=km c' f;have n2:=n7 c' f;have l1:=nR c' f;have l2:=pM c' f;have s1:=ki c' f;have s2:=nB c' f;have v1:=lp c' f;have v2:=nG c' f;have b1:=ml c' f n;have b2:=tE c' f n;have g1:=pR c' f;have g2:=sy c' f;have t1:=kn c' f;have t2:=uP c' f
  repeat'(first|(with_reducible first|refine ay _ _ ?_|refine aD ?_|refine aE ?_)|rw[aB]|simp only[beq_self_eq_true,zY,Int.reduceEq,Int.reduceBEq,Int.reduceBNe,Nat.reduceSub,Nat.reduceEqDiff,Nat.reduceAdd,Nat.reduceMul,Nat.reduceLeDiff,Nat.reduceLT,Nat.reduceBEq,reduceCtorEq]|((first|((try refine aQ ?_);apply aS)|(apply aR;intro _));(solve|exact(hc)|exact(m1)|exact(m2)|exact(n1)|exact(n2)|exact(l1)|exact(l2)|exact(s1)|exact(s2)|exact(v1)|exact(v2)|exact(b1)|exact(b2)|exact(g1)|exact(g2)|exact(t1)|exact(t2)|exact(haw)|(refine ag.le (hc) ?_;exact zM)|(refine ag.le (m1) ?_;exact zM)|(refine ag.le (m2) ?_;exact zM)|(refine ag.le (n1) ?_;exact zM)|(refine ag.le (n2) ?_;exact zM)|(refine ag.le (l1) ?_;exact zM)|(refine ag.le (l2) ?_;exact zM)|(refine ag.le (s1) ?_;exact zM)|(refine ag.le (s2) ?_;exact zM)|(refine ag.le (v1) ?_;exact zM)|(refine ag.le (v2) ?_;exact zM)|(refine ag.le (b1) ?_;exact zM)|(refine ag.le (b2) ?_;exact zM)|(refine ag.le (g1) ?_;exact zM)|(refine ag.le (g2) ?_;exact zM)|(refine ag.le (t1) ?_;exact zM)|(refine ag.le (t2) ?_;exact zM)|(refine ag.le (haw) ?_;exact zM)|fail);try case hn=>rfl)|refine aC ?_|refine aA (λ hb=> ?_) (λ hb=> ?_)|(refine And.intro ?_ ?_;exact zJ)|refine And.intro (λ hg=> ?_) (λ hg=> ?_)|exact zC|fail)
theorem Eo {n:Int} (h:(Lit.int .i64 n).wf=true):i64 n:=by
 have h2:(decide (IntKind.i64.min≤n)&&decide (n≤IntKind.i64.max))=true:=h;have e1:IntKind.i64.min= -9223372036854775808:=by decide
 have e2:IntKind.i64.max=9223372036854775807:=by decide
 rw[e1,e2]at h2;simp only[cg,dQ]at h2;unfold i64;omega
theorem EP {n:Int} (h:(Lit.int .u8 n).wf=true):fH n:=by
 have h2:(decide (IntKind.u8.min≤n)&&decide (n≤IntKind.u8.max))=true:=h;have e1:IntKind.u8.min=0:=by decide
 have e2:IntKind.u8.max=255:=by decide
 rw[e1,e2]at h2;simp only[cg,dQ]at h2;unfold fH;omega
theorem vu {α:Type} {enc:α->List D} {ok:α->Prop} {s:Sh} (h:∀ds,cL s ds->∃x,ds=enc x/\ok x):∀xs:List (List D),(∀x∈xs,cL s x)->∃l:List α,l.length=xs.length/\xs.flatten=l.flatMap enc/\∀x∈l,ok x
 |[],_=>⟨[],rfl,rfl,λ x hx=>by cases hx⟩
 |x::xs,hx=>by
  obtain⟨a,ha1,ha2⟩:=h x (hx x (by simp));obtain⟨l,h1,h2,h3⟩:=vu h xs λ y hy=>hx y (by simp[hy])
  refine⟨a::l,by simp[h1], ?_,λ y hy=> ?_⟩
  .rw[fl,dA,h2,ha1]
  .rcases dw.1 hy with rfl|hy
   .exact ha2
   .exact h3 y hy
theorem Dr:reachBytes<2^60:=by decide
theorem vF (ds:List D) (h:cL (.int .u8) ds):∃x:Int,ds=[uD x]/\fH x:=by simp only[cL]at h;obtain⟨n,rfl,hn⟩:=h;exact⟨n,rfl,EP hn⟩
theorem DB (ds:List D) (h:cL .bool ds):∃x:Bool,ds=[bD x]:=by simp only[cL]at h;exact h
theorem En (ds:List D) (h:cL (.int .i64) ds):∃x:Int,ds=[iD x]/\i64 x:=by simp only[cL]at h;obtain⟨n,rfl,hn⟩:=h;exact⟨n,rfl,Eo hn⟩
theorem A3 (l:List Int):(l.flatMap λ n=>[uD n])=fB l:=by
 induction l with
 |nil=>rfl
 |cons a l ih=>simp[dA,ih]
theorem wR (ds:List D) (h:cL (.slice 1 (.int .u8)) ds):∃l:List Int,ds=[.sl l.length (fB l)]/\l.length<2^60/\∀x∈l,fH x:=by rw[cL]at h;obtain⟨xs,rfl,hx1,hx2⟩:=h;obtain⟨l,l1,l2,l3⟩:=vu vF xs hx2;have:=Dr;rw[A3]at l2;exact⟨l,by rw[←l1,l2],by omega,l3⟩
abbrev ow:Sh:= .struct [.int .i64, .int .i64, .int .i64, .int .i64, .int .i64, .int .i64, .int .i64, .int .i64, .int .i64, .int .i64, .int .i64]
theorem DL (ds:List D) (h:cL ow ds):∃x:bd,ds=x.enc:=by simp only[cL,iO]at h;obtain⟨_,_,rfl,⟨a,rfl,_⟩,_,_,rfl,⟨b,rfl,_⟩,_,_,rfl,⟨c,rfl,_⟩,_,_,rfl,⟨d,rfl,_⟩,_,_,rfl,⟨e,rfl,_⟩,_,_,rfl,⟨f,rfl,_⟩,_,_,rfl,⟨g,rfl,_⟩,_,_,rfl,⟨j,rfl,_⟩,_,_,rfl,⟨k,rfl,_⟩,_,_,rfl,⟨l,rfl,_⟩,_,_,rfl,⟨m,rfl,_⟩,rfl⟩:=h;exact⟨⟨a,b,c,d,e,f,g,j,k,l,m⟩,rfl⟩
abbrev ox:Sh:= .struct [.int .i64, .int .i64, .int .i64]
theorem D5 (ds:List D) (h:cL ox ds):∃x:Fair,ds=x.enc:=by simp only[cL,iO]at h;obtain⟨_,_,rfl,⟨a,rfl,_⟩,_,_,rfl,⟨b,rfl,_⟩,_,_,rfl,⟨c,rfl,_⟩,rfl⟩:=h;exact⟨⟨a,b,c⟩,rfl⟩
def qJ (n:Int):Prop:=0≤n/\n<65536
theorem EL {n:Int} (h:(Lit.int .u16 n).wf=true):qJ n:=by
 have h2:(decide (IntKind.u16.min≤n)&&decide (n≤IntKind.u16.max))=true:=h;have e1:IntKind.u16.min=0:=by decide
 have e2:IntKind.u16.max=65535:=by decide
 rw[e1,e2]at h2;simp only[cg,dQ]at h2;unfold qJ;omega
theorem Dx (ds:List D) (h:cL (.int .u16) ds):∃x:Int,ds=[.v (.int .u16 x)]/\(0≤x/\x≤65535):=by simp only[cL]at h;obtain⟨n,rfl,hn⟩:=h;exact⟨n,rfl,by have:=EL hn;unfold qJ at this;omega⟩
structure dU (c:bd) (N:Int) (r:Nat):Prop where
 re:c.aU=1∨c.aU=3
 cl:1≤c.bQ/\c.bQ≤3
 cu:c.cu=100
 bO:50≤c.bO/\c.bO≤305
 bF:100≤c.bF/\c.bF≤355
 wait:0≤c.wait/\c.wait≤119
 bN:200≤c.bN/\c.bN≤455
 aT:200≤c.aT/\c.aT≤710
 n:N=2*(5400+8*c.bO+2*c.bF+2*c.wait)
 base:1≤c.base/\c.base≤N
 cap:N≤c.cap/\c.cap≤N+255
 rr:dG c.base c.cap N 21 0=r/\r≤4
 bg:((r:Int)+c.aU+4)*N+4*(c.aT+c.bN*(c.aU+1))≤c.bg/\c.bg≤400000
theorem oj {d t:Int} (h:0≤t/\t≤10000000):jQ ⟨d,96,100⟩ t=(3*t / 100+4)*192:=by unfold jQ;simp(disch:=omega) only[W,wrap64,Int.tdiv_eq_ediv_of_nonneg];omega
section
variable {c:bd} {N:Int} {r:Nat} (h:dU c N r)
include h
theorem dU.may {d:Int} (hd:96≤d/\d≤65631):bU c ⟨d,96,100⟩=true:=by
 obtain⟨h1,h2,h3,h4,h5,h6,h7,h8,h9,h10,h11,h12,h13⟩:=h;have hl:1≤c.bg:=by rcases h1 with e|e<;>rw[e]at h13<;>(have:(r:Int)≤4:=by omega)<;>(have:0≤((r:Int)+c.aU+4)*N:=Int.mul_nonneg (by omega) (by omega))<;>rw[e]at this<;>omega
 simp only[bU,cR,iB,dk,iH,ep,dh,dP,List.all_nil,cg,jl,dQ,gx,cc];refine⟨⟨⟨⟨?_, ?_⟩, ?_⟩, ?_⟩, ?_⟩
 all_goals (repeat' apply And.intro)
 all_goals omega
theorem dU.bW {d:Int} (hd:96≤d/\d≤65631):dn c ⟨d,96,100⟩=2*(100*(12*(d / 96+1)+30)+8*c.bO+2*c.bF+2*c.wait):=by rw[dn,ao (h.may hd)];obtain⟨h1,h2,h3,h4,h5,h6,h7,h8,h9,h10,h11,h12,h13⟩:=h;simp(disch:=omega) only[W,wrap64,Int.tdiv_eq_ediv_of_nonneg]
theorem dU.mQ:dn c ⟨96,96,100⟩=N:=by rw[h.bW (by omega),h.n];omega
theorem dU.least:dX c ⟨96,96,100⟩=(r+c.aU+4)*N+4*(c.aT+c.bN*(c.aU+1)):=by
 rw[dX,ao (h.may (by omega)),mB,h.mQ,ao h.cap.1,h.rr.1];obtain⟨h1,h2,h3,h4,h5,h6,h7,h8,h9,h10,h11,⟨_,h12⟩,h13⟩:=h;have h12:r=0∨r=1∨r=2∨r=3∨r=4:=by omega
 rcases h1 with e|e<;>rw[e]<;>rcases h12 with e|e|e|e|e<;>rw[e]<;>simp(disch:=omega) only[W,wrap64]
theorem dU.settle {d:Int} (hd:96≤d/\d≤65631):eM c ⟨d,96,100⟩=(24+c.aU)*((3*c.cap / 100+4)*192+20*(d+96))+100*(d+96):=by rw[eM,ao (h.may hd)];obtain⟨h1,h2,h3,h4,h5,h6,h7,h8,h9,h10,h11,h12,h13⟩:=h;rw[oj (by omega)];rcases h1 with e|e<;>rw[e]<;>simp(disch:=omega) only[W,wrap64]
theorem dU.serve {d:Int} (hd:96≤d/\d≤65631):gq c ⟨d,96,100⟩=(3*(c.bN*(c.aU+2)+c.bO+c.wait+c.bF) / 100+4)*192+40*(d+96):=by rw[gq,ao (h.may hd)];obtain⟨h1,h2,h3,h4,h5,h6,h7,h8,h9,h10,h11,h12,h13⟩:=h;rcases h1 with e|e<;>rw[e]<;>simp(disch:=omega) only[W,wrap64,oj]
theorem dU.bound {d:Int} (hd:96≤d/\d≤65631) {m:Int} (hm:0≤m/\m≤65535):fU c ⟨d,96,100⟩ m=eM c ⟨d,96,100⟩+m+(3*(2*c.bg+c.aT) / 100+4)*192+17*gq c ⟨d,96,100⟩:=by
 rw[fU,ao (h.may hd),h.settle hd,h.serve hd,show mu m=m by unfold mu;rw[aj];simp;omega];have hl:0≤c.bg:=by have:=h.may hd;simp only[bU,cR,dk,dh,dP,cg,dQ]at this;omega
 obtain⟨h1,h2,h3,h4,h5,h6,h7,h8,h9,h10,h11,h12,h13⟩:=h;rcases h1 with e|e<;>rw[e]<;>simp(disch:=omega) only[W,wrap64,oj]
theorem dU.forget {d:Int} (hd:96≤d/\d≤65631):eM c ⟨d,96,100⟩<jM c ⟨d,96,100⟩:=by
 rw[jM,ao (h.may hd),h.settle hd,h.serve hd];have hl:0≤c.bg:=by have:=h.may hd;simp only[bU,cR,dk,dh,dP,cg,dQ]at this;omega
 obtain⟨h1,h2,h3,h4,h5,h6,h7,h8,h9,h10,h11,h12,h13⟩:=h;rcases h1 with e|e<;>rw[e]<;>simp(disch:=omega) only[W,wrap64,oj]<;>omega
theorem dU.fits:gv c ⟨96,96,100⟩=true:=by unfold gv;rw[h.may (by omega),h.mQ,h.least];have h1:=h.cap;have h2:=h.bg;simp;omega
end
variable {c:bd} {N:Int} {r:Nat}
theorem dU.more (h:dU c N r) (hl:c.bg≤300000) {m:Int} (hm:0≤m/\m≤65535):dU ⟨c.aU,c.bQ,c.bg+m,c.cu,c.base,c.cap,c.bO,c.wait,c.bF,c.bN,c.aT⟩ N r:=by obtain⟨h1,h2,h3,h4,h5,h6,h7,h8,h9,h10,h11,h12,h13⟩:=h;exact⟨h1,h2,h3,h4,h5,h6,h7,h8,h9,h10,h11,h12,⟨by simp only;omega,by simp only;omega⟩⟩
theorem dU.ER (h:dU c N r) (hl:c.bg≤300000) {m:Int} (hm:0≤m/\m≤65535):fU c ⟨96,96,100⟩ 0≤fU ⟨c.aU,c.bQ,c.bg+m,c.cu,c.base,c.cap,c.bO,c.wait,c.bF,c.bN,c.aT⟩ ⟨96,96,100⟩ 0:=by have h2:=h.more hl hm;rw[h.bound (by omega) (by omega),h2.bound (by omega) (by omega),h.settle (by omega),h.serve (by omega),h2.settle (by omega),h2.serve (by omega)];simp only;omega
theorem dU.short (h:dU c N r):gv ⟨c.aU,c.bQ,dX c ⟨96,96,100⟩ - 1,c.cu,c.base,c.cap,c.bO,c.wait,c.bF,c.bN,c.aT⟩ ⟨96,96,100⟩=false:=by
 generalize hd:(⟨c.aU,c.bQ,dX c ⟨96,96,100⟩ - 1,c.cu,c.base,c.cap,c.bO,c.wait,c.bF,c.bN,c.aT⟩:bd)=d;unfold gv;cases hm:bU d ⟨96,96,100⟩
 .simp
 .have e1:dn d ⟨96,96,100⟩=dn c ⟨96,96,100⟩:=by unfold dn;rw[ao hm,ao (h.may (by omega)),←hd]
  have e2:dX d ⟨96,96,100⟩=dX c ⟨96,96,100⟩:=by unfold dX mB;rw[ao hm,ao (h.may (by omega)),e1,←hd]
  rw[e2,←hd];simp;omega
theorem dU.low (h:dU c N r):gv ⟨c.aU,c.bQ,c.bg,c.cu,min c.base (N - 1),N - 1,c.bO,c.wait,c.bF,c.bN,c.aT⟩ ⟨96,96,100⟩=false:=by
 generalize hd:(⟨c.aU,c.bQ,c.bg,c.cu,min c.base (N - 1),N - 1,c.bO,c.wait,c.bF,c.bN,c.aT⟩:bd)=d;unfold gv;cases hm:bU d ⟨96,96,100⟩
 .simp
 .have e1:dn d ⟨96,96,100⟩=dn c ⟨96,96,100⟩:=by unfold dn;rw[ao hm,ao (h.may (by omega)),←hd]
  rw[e1,h.mQ,←hd,show decide (N - 1≥N)=false by simp;omega];simp
structure ES (c:bd) (m:Int):Prop where
 bW:dn c ⟨96,96,100⟩≤dn c ⟨96+m,96,100⟩
 settle:eM c ⟨96,96,100⟩≤eM c ⟨96+m,96,100⟩
 serve:gq c ⟨96,96,100⟩≤gq c ⟨96+m,96,100⟩
 forget:eM c ⟨96,96,100⟩<jM c ⟨96,96,100⟩
 bound:fU c ⟨96,96,100⟩ m=W (fU c ⟨96,96,100⟩ 0+m)
theorem dU.EZ (h:dU c N r) {m:Int} (hm:0≤m/\m≤65535):ES c m:=by
 refine⟨?_, ?_, ?_,h.forget (by omega), ?_⟩
 .rw[h.bW (by omega),h.bW (by omega)];omega
 .rw[h.settle (by omega),h.settle (by omega)];rcases h.re with e|e<;>rw[e]<;>omega
 .rw[h.serve (by omega),h.serve (by omega)];rcases h.re with e|e<;>rw[e]<;>omega
 .rw[h.bound (by omega) hm,h.bound (by omega) (by omega),h.settle (by omega),h.serve (by omega)];obtain⟨h1,h2,h3,h4,h5,h6,h7,h8,h9,h10,h11,h12,h13⟩:=h;simp only[W];rw[wrap64]
  .omega
  .rcases h1 with e|e<;>rw[e]at h13⊢<;>(have:0≤((r:Int)+c.aU+4)*N:=Int.mul_nonneg (by omega) (by omega))<;>rw[e]at this<;>omega
  .rcases h1 with e|e<;>rw[e]<;>omega
end Go.Proofs.YtjdbaocjeeficaaGreat
