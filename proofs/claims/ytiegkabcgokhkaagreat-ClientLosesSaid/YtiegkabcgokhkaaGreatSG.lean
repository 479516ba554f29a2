import Derived.Test.YtiegkabcgokhkaaGreatSF
import Derived.Test.YtiegkabcgokhkaaGreatK8
namespace Go.Proofs.YtiegkabcgokhkaaGreat
open Go.Pk
set_option maxRecDepth 100000
set_option linter.unusedSimpArgs false
set_option linter.unusedVariables false
theorem zik {n:Int} (h:0≤n) (k:Int):n.tmod k=n % k:=Int.tmod_eq_emod_of_nonneg h
def names4:List ByteArray:=[⟨#[97]⟩,⟨#[98]⟩,⟨#[99]⟩,⟨#[100]⟩,⟨#[107,101,121,45,49]⟩,⟨#[116,104,101,45,108,97,115,116,45,111,110,101]⟩]
def namedP (n:Int):ByteArray:=(names4[(n % 6).toNat]?).getD .empty
theorem six (n:Int):n % 6=0∨n % 6=1∨n % 6=2∨n % 6=3∨n % 6=4∨n % 6=5:=by omega
theorem zkn (n:Int) (hn:byteI n):CallOK Tryz.prog 16 [.f (au n)] (fun r o=>r=[.one (.d (sD (namedP n)))]∧o=[]):=by
 refine zal zat mixed (T:=Ty) (n:=9) Tryz.func16 (c:=Tryz.f16.body.getD .skip) rfl Tryz.results16 Tryz.ntmps16 Tryz.call16 ?_
 simp only[Tryz.f16,Option.getD]
 unfold byteI at hn
 have hw:IntKind.i64.wrap n=n:=wrap64 (by omega) (by omega)
 have ht:=zik hn.1 6
 unfold namedP
 rcases six n with h|h|h|h|h|h
 all_goals
  rw[h]at ht⊢
  repeat'(first|(with_reducible first|refine zaa _ _ ?_|refine zad ?_|refine zae ?_)|rw[zaf]|simp only[hw,ht,Int.reduceToNat,List.drop_succ_cons,List.drop_zero,zY,Int.reduceEq,Int.reduceBEq,Int.reduceBNe,Nat.reduceSub,Nat.reduceEqDiff,Nat.reduceAdd,Nat.reduceMul,Nat.reduceLeDiff,Nat.reduceLT,Nat.reduceBEq,reduceCtorEq]|refine zab ?_|refine zac (fun hb=> ?_) (fun hb=> ?_)|(refine And.intro ?_ ?_;exact zI)|refine And.intro (fun hg=> ?_) (fun hg=> ?_)|exact zC|fail)
  rfl
theorem zeQ (n:Int):nameP (namedP n)=true:=by
 unfold namedP
 rcases six n with h|h|h|h|h|h<;>rw[h]<;>kernel_rfl
theorem zko {s:ByteArray} (h:nameP s=true):s.size≤12:=by
 unfold nameP at h
 simp only[Bool.and_eq_true,decide_eq_true_eq]at h
 omega
def kd3 (k:Int):Int:=3+k % 3
theorem zmX {k:Int} (hk:byteI k):∃rest,List.drop (k % 3).toNat [C.d (iD 3),C.d (iD 4),C.d (iD 5)]=C.d (iD (kd3 k))::rest:=by
 unfold kd3
 rcases(show k % 3=0∨k % 3=1∨k % 3=2 by omega)with h|h|h<;>rw[h]<;>exact⟨_,rfl⟩
def askN (k n:Int):Cm:=⟨kd3 k,0,namedP n⟩
theorem zmY (k n:Int):askOk (kd3 k) (namedP n)=true:=by
 have:(kd3 k==3||kd3 k==4||kd3 k==5)=true:=by
  unfold kd3
  simp only[Bool.or_eq_true,beq_iff_eq];omega
 unfold askOk
 rw[this];exact zeQ n
structure AskN (a:Cm):Prop where
 k:a.kind=3∨a.kind=4∨a.kind=5
 n:nameP a.name=true
 s:a.session=0
theorem znO (k n:Int):AskN (askN k n):=⟨by show kd3 k=3∨kd3 k=4∨kd3 k=5;unfold kd3;omega,zeQ n,rfl⟩
def rp6:Reply:=⟨0,6,0,[]⟩
def rp9:Reply:=⟨9,0,0,[]⟩
structure Lost (K:Cl) (acc:List Cm):Prop where
 s:K.session=0
 t:K.till=0
 h:K.has=[]
 b:K.busy=false
 c:K.c=conf0
 i:K.id=0
 q:K.seq=3
 l:K.asks.length≤4
 d:dwA K.asks=dwA acc
theorem zmf {a:Cm} (h:AskN a) (n:Int) (hn:1≤n∧n≤7):mayP a.kind n a.name=true:=by
 have h1:=h.n
 rcases h.k with e|e|e<;>rw[e]<;>unfold mayP<;>rw[h1]<;>
  (rcases(show n=1∨n=2∨n=3∨n=4∨n=5∨n=6∨n=7 by omega)with rfl|rfl|rfl|rfl|rfl|rfl|rfl<;>rfl)
theorem zmZ {l:List Cm} {a:Cm} (h:a∈dwA l):a∈l:=(List.dropWhile_sublist _).subset h
set_option maxHeartbeats 4000000 in
theorem zb4 (K3:Cl) (acc:List Cm) (lo:Nat) (hl:acc.length≤4) (hlo:lo≤acc.length) (hN:∀a∈acc,AskN a) (hK:Lost K3 acc) (hd:dwA acc=acc.drop lo) (c:Code) (hc:codeAt 17 (Tryz.f7.body.getD .skip)=some c):
  awp Ty Tryz.prog c ⟨[dd,dd,dd,dd,dd, .one (.ptr ⟨16,0,1⟩ 0), .one (.own ⟨6,1,1⟩ lo (acc.length - lo)),dd,dd,dd,dd,dd,dd,dd,dd,dd,dd,dd,dd,dd,dd,dd,dd,dd,dd,dd,dd,dd,dd,dd,dd,dd,dd,dd,dd,dd,dd,dd,dd,dd,dd,dd,dd,dd,dd,dd,dd,dd,dd,dd,dd,dd,dd,dd,dd,dd,dd,dd,dd,dd,dd,dd,dd,dd,dd,dd,dd,dd,dd,dd,dd,dd,dd,dd,dd,dd,dd,dd,dd,dd,dd,dd,dd,dd,dd,dd,dd,dd,dd,dd,dd,dd,dd,dd,dd,dd,dd,dd,dd,dd,dd,dd,dd,dd,dd,dd,dd,dd,dd,dd,dd,dd,dd,dd,dd,dd,dd,dd,dd,dd,dd,dd,dd,dd,dd,dd,dd,dd,dd,dd,dd,dd,dd,dd,dd,dd,dd,dd,dd,dd,dd,dd,dd,dd,dd,dd,dd,dd,dd,dd,dd,dd,dd,dd,dd,dd,dd,dd,dd,dd,dd,dd,dd],[(15,⟨2,[]⟩),homeC 16 K3,(6,{next:=2,l:=[none,some {e:=1,var:=false,fz:=false,sz:=3,cells:=(cmsE acc).map C.d}]}),(8,⟨2,[]⟩),(41,⟨2,[]⟩),(64,⟨2,[]⟩),(65,⟨2,[]⟩),(67,⟨2,[]⟩)]⟩ (EndQ Ty [.tmp 4] [] (fun r o=>r=[rb true]∧o=[])):=by
 simp only[Tryz.f7,Option.getD,codeAt,Nat.reduceBEq,if_true,if_false,Bool.false_eq_true,Option.none_or,Option.some_or,Option.some.injEq]at hc
 subst hc
 have hst:=zin K3 10 (by decide) hK.s hK.l hK.b (by rw[hK.q];decide) (by rw[hK.i];decide)
 have hlen:(dwA acc).length=acc.length - lo:=by rw[hd,List.length_drop]
 cases hD:dwA acc with
 |nil=>
  rw[hK.d,hD,if_neg (by simp),if_neg (by simp)]at hst
  obtain⟨K4,hK4⟩:∃K,K=({K3 with asks:=[]}:Cl):=⟨_,rfl⟩
  rw[←hK4]at hst
  have hou:=zly K4 (by rw[hK4];exact hK.b)
  rw[hD]at hlen
  have z0:(((acc.length - lo:Nat):Int)==0)=true:=by rw[←hlen];rfl
  have z1:(((0:Nat):Int)==0)=true:=rfl
  repeat'(first|(with_reducible first|refine zaa _ _ ?_|refine zad ?_|refine zae ?_)|rw[zaf]|simp only[zY,Int.reduceEq,Int.reduceBEq,Int.reduceBNe,Nat.reduceSub,Nat.reduceEqDiff,Nat.reduceAdd,Nat.reduceMul,Nat.reduceLeDiff,Nat.reduceLT,Nat.reduceBEq,reduceCtorEq]|refine zab ?_|refine zac (fun hb=> ?_) (fun hb=> ?_)|(refine And.intro ?_ ?_;exact zI)|refine And.intro (fun hg=> ?_) (fun hg=> ?_)|exact zC|fail)
  refine zaG (mv:= ?mv1) (lent:= ?le1) (x:= ?x1) (ass:= ?ass1) ?ha1 (hst) ?hr1 rfl ?hs1 ?hb1 ?hc1
  case ha1=>(try simp only[zY,Int.reduceEq,Int.reduceBEq,Int.reduceBNe,Nat.reduceSub,Nat.reduceEqDiff,Nat.reduceAdd,Nat.reduceMul,Nat.reduceLeDiff,Nat.reduceLT,Nat.reduceBEq,reduceCtorEq]);exact rfl
  case hr1=>simp[rosA,roA]
  case hs1=>simp[argsLe,aLe,csLe,cLe]
  case hb1=>(try simp only[zB,scM,Nat.reduceSub,Nat.reduceEqDiff,Nat.reduceAdd,Nat.reduceMul,Nat.reduceLeDiff,Nat.reduceLT,Nat.reduceBEq,reduceCtorEq]);repeat'(first|rfl|trivial|omega|with_reducible refine And.intro ?_ ?_)
  show aops _ _ _ _ _ _ _ _
  repeat'(first|(with_reducible first|refine zaa _ _ ?_|refine zad ?_|refine zae ?_)|rw[zaf]|simp only[z0,z1,zaz,zY,Int.reduceEq,Int.reduceBEq,Int.reduceBNe,Nat.reduceSub,Nat.reduceEqDiff,Nat.reduceAdd,Nat.reduceMul,Nat.reduceLeDiff,Nat.reduceLT,Nat.reduceBEq,reduceCtorEq]|((first|((try refine zah ?_);apply zak)|(apply zai;intro _));(solve|exact(hou)|exact(zcW)|(refine CallOK.le (hou) ?_;exact zM)|(refine CallOK.le (zcW) ?_;exact zM)|fail);try case hn=>rfl)|refine zab ?_|refine zac (fun hb=> ?_) (fun hb=> ?_)|(refine And.intro ?_ ?_;exact zI)|refine And.intro (fun hg=> ?_) (fun hg=> ?_)|exact zC|fail)
 |cons b l=>
  have hbN:AskN b:=hN b (zmZ (by rw[hD];simp))
  rw[hK.d,hD,if_pos (by simp),if_pos (by simp)]at hst
  obtain⟨K4,hK4⟩:∃K,K=goQ {K3 with asks:=b::l} 10 1 0 .empty:=⟨_,rfl⟩
  rw[←hK4]at hst
  have a1:K4.busy=true∧K4.out.kind=1∧K4.out.session=0∧K4.out.name= .empty∧K4.out.seq=4:=by
   rw[hK4]
   refine⟨rfl,rfl,rfl,rfl, ?_⟩
   show K3.seq+1=4
   rw[hK.q];rfl
  have a2:K4.c=conf0∧K4.id=0∧K4.seq=4∧K4.asks=b::l:=by
   rw[hK4]
   refine⟨hK.c,hK.i, ?_,rfl⟩
   show K3.seq+1=4
   rw[hK.q];rfl
  have a3:K4.first=10:=by rw[hK4];rfl
  have hbl:(b::l).length≤4:=by rw[←hD];have:=zm9 (l:=acc);omega
  have hou:=zio K4 a1.1
  obtain⟨b4,eb4⟩:∃b,b=packAI ⟨0,4,rp6⟩:=⟨_,rfl⟩
  have hb4:CallOK Tryz.prog 18 [.f (ai 0), .f (ai 4), .f (.agg [di 0,di 6,di 0, .d (.sl 0 [])])] (fun x o=>x=[.one (.d (.sl b4.length (bytesE b4)))]∧o=[]):=by
   rw[eb4];exact zdG ⟨0,4,rp6⟩ (by kernel_rfl)
  have ht4:=zeq K4 ⟨0,4,rp6⟩ b4 (by kernel_rfl) eb4 a1.1 (by rw[a2.2.2.2];exact hbl) (by rw[a2.1];exact zcd) (by rw[a3];decide) (fun h=>by rw[a1.2.1]at h;cases h) a2.2.1.symm a1.2.2.2.2.symm
  simp only at ht4
  obtain⟨K5,hK5⟩:∃K,K=takeQ K4 rp6:=⟨_,rfl⟩
  rw[←hK5]at ht4
  have a4:K5.session=6∧K5.busy=false∧K5.seq=4∧K5.id=0∧K5.asks=b::l:=by
   rw[hK5]
   unfold takeQ
   rw[a1.2.1]
   exact⟨rfl,rfl,a2.2.2.1,a2.2.1,a2.2.2.2⟩
  have hs5:=zgh K5 11 b l (by decide) (by rw[a4.1];rfl) a4.2.2.2.2 (by rw[a4.2.2.2.2];exact hbl) a4.2.1 (by rw[a4.2.2.1];decide) (by rw[a4.2.2.2.1];decide) (by rw[a4.1];exact zmf hbN 6 (by decide))
  rw[a4.1]at hs5
  obtain⟨K6,hK6⟩:∃K,K=goQ K5 11 b.kind 6 b.name:=⟨_,rfl⟩
  rw[←hK6]at hs5
  have a5:K6.busy=true∧K6.out.kind=b.kind∧K6.out.session=6∧K6.out.name=b.name:=by rw[hK6];exact⟨rfl,rfl,rfl,rfl⟩
  have hou6:=zio K6 a5.1
  have hlolt:lo<acc.length:=by rw[hD]at hlen;simp at hlen;omega
  have hat:(cmsE acc).drop (lo*3)=b.enc++cmsE l:=by
   rw[zkq hlolt]
   have:acc.drop lo=b::l:=by rw[←hd,hD]
   rw[List.drop_eq_getElem_cons hlolt]at this
   injection this with e1 e2
   rw[e1,e2]
  have hat2:(cmsE acc).drop (lo*3+2)=sD b.name::cmsE l:=by rw[←List.drop_drop,hat];rfl
  have z0:(((acc.length - lo:Nat):Int)==0)=false:=by simp;omega
  have z1:(K4.out.kind==1)=true:=by rw[a1.2.1];rfl
  have z2:(K4.out.session==0)=true:=by rw[a1.2.2.1];rfl
  have z3:(K4.out.name.toList==ByteArray.empty.toList)=true:=by rw[a1.2.2.2.1];simp
  have z4:(K4.out.seq !=4)=false:=by rw[a1.2.2.2.2];rfl
  have z5:(K6.out.kind==b.kind)=true:=by rw[a5.2.1];simp
  have z6:(K6.out.session==6)=true:=by rw[a5.2.2.1];rfl
  have z7:(K6.out.name.toList==b.name.toList)=true:=by rw[a5.2.2.2];simp
  repeat'(first|(with_reducible first|refine zaa _ _ ?_|refine zad ?_|refine zae ?_)|rw[zaf]|simp only[zY,Int.reduceEq,Int.reduceBEq,Int.reduceBNe,Nat.reduceSub,Nat.reduceEqDiff,Nat.reduceAdd,Nat.reduceMul,Nat.reduceLeDiff,Nat.reduceLT,Nat.reduceBEq,reduceCtorEq]|refine zab ?_|refine zac (fun hb=> ?_) (fun hb=> ?_)|(refine And.intro ?_ ?_;exact zI)|refine And.intro (fun hg=> ?_) (fun hg=> ?_)|exact zC|fail)
  refine zaG (mv:= ?mv2) (lent:= ?le2) (x:= ?x2) (ass:= ?ass2) ?ha2 (hst) ?hr2 rfl ?hs2 ?hb2 ?hc2
  case ha2=>(try simp only[zY,Int.reduceEq,Int.reduceBEq,Int.reduceBNe,Nat.reduceSub,Nat.reduceEqDiff,Nat.reduceAdd,Nat.reduceMul,Nat.reduceLeDiff,Nat.reduceLT,Nat.reduceBEq,reduceCtorEq]);exact rfl
  case hr2=>simp[rosA,roA]
  case hs2=>simp[argsLe,aLe,csLe,cLe]
  case hb2=>(try simp only[zB,scM,Nat.reduceSub,Nat.reduceEqDiff,Nat.reduceAdd,Nat.reduceMul,Nat.reduceLeDiff,Nat.reduceLT,Nat.reduceBEq,reduceCtorEq]);repeat'(first|rfl|trivial|omega|with_reducible refine And.intro ?_ ?_)
  show aops _ _ _ _ _ _ _ _
  repeat'(first|(with_reducible first|refine zaa _ _ ?_|refine zad ?_|refine zae ?_)|rw[zaf]|simp only[z0,z1,z2,z3,z4,zaz,zY,Int.reduceEq,Int.reduceBEq,Int.reduceBNe,Nat.reduceSub,Nat.reduceEqDiff,Nat.reduceAdd,Nat.reduceMul,Nat.reduceLeDiff,Nat.reduceLT,Nat.reduceBEq,reduceCtorEq]|((first|((try refine zah ?_);apply zak)|(apply zai;intro _));(solve|exact(hou)|exact(hb4)|(refine CallOK.le (hou) ?_;exact zM)|(refine CallOK.le (hb4) ?_;exact zM)|fail);try case hn=>rfl)|refine zab ?_|refine zac (fun hb=> ?_) (fun hb=> ?_)|(refine And.intro ?_ ?_;exact zI)|refine And.intro (fun hg=> ?_) (fun hg=> ?_)|exact zC|fail)
  refine zaG (mv:= ?mv3) (lent:= ?le3) (x:= ?x3) (ass:= ?ass3) ?ha3 (ht4) ?hr3 rfl ?hs3 ?hb3 ?hc3
  case ha3=>(try simp only[zY,Int.reduceEq,Int.reduceBEq,Int.reduceBNe,Nat.reduceSub,Nat.reduceEqDiff,Nat.reduceAdd,Nat.reduceMul,Nat.reduceLeDiff,Nat.reduceLT,Nat.reduceBEq,reduceCtorEq]);exact rfl
  case hr3=>simp[rosA,roA]
  case hs3=>simp[argsLe,aLe,csLe,cLe]
  case hb3=>(try simp only[zB,scM,Nat.reduceSub,Nat.reduceEqDiff,Nat.reduceAdd,Nat.reduceMul,Nat.reduceLeDiff,Nat.reduceLT,Nat.reduceBEq,reduceCtorEq]);repeat'(first|rfl|trivial|omega|with_reducible refine And.intro ?_ ?_)
  show aops _ _ _ _ _ _ _ _
  repeat'(first|(with_reducible first|refine zaa _ _ ?_|refine zad ?_|refine zae ?_)|rw[zaf]|simp only[zY,Int.reduceEq,Int.reduceBEq,Int.reduceBNe,Nat.reduceSub,Nat.reduceEqDiff,Nat.reduceAdd,Nat.reduceMul,Nat.reduceLeDiff,Nat.reduceLT,Nat.reduceBEq,reduceCtorEq]|refine zab ?_|refine zac (fun hb=> ?_) (fun hb=> ?_)|(refine And.intro ?_ ?_;exact zI)|refine And.intro (fun hg=> ?_) (fun hg=> ?_)|exact zC|fail)
  refine zaG (mv:= ?mv4) (lent:= ?le4) (x:= ?x4) (ass:= ?ass4) ?ha4 (hs5) ?hr4 rfl ?hs4 ?hb4 ?hc4
  case ha4=>(try simp only[zY,Int.reduceEq,Int.reduceBEq,Int.reduceBNe,Nat.reduceSub,Nat.reduceEqDiff,Nat.reduceAdd,Nat.reduceMul,Nat.reduceLeDiff,Nat.reduceLT,Nat.reduceBEq,reduceCtorEq]);exact rfl
  case hr4=>simp[rosA,roA]
  case hs4=>simp[argsLe,aLe,csLe,cLe]
  case hb4=>(try simp only[zB,scM,Nat.reduceSub,Nat.reduceEqDiff,Nat.reduceAdd,Nat.reduceMul,Nat.reduceLeDiff,Nat.reduceLT,Nat.reduceBEq,reduceCtorEq]);repeat'(first|rfl|trivial|omega|with_reducible refine And.intro ?_ ?_)
  show aops _ _ _ _ _ _ _ _
  repeat'(first|(with_reducible first|refine zaa _ _ ?_|refine zad ?_|refine zae ?_)|rw[zaf]|simp only[z5,z6,z7,←List.map_drop,hat,hat2,List.map_cons,zaz,zbN,List.cons_append,List.nil_append,zY,Int.reduceEq,Int.reduceBEq,Int.reduceBNe,Nat.reduceSub,Nat.reduceEqDiff,Nat.reduceAdd,Nat.reduceMul,Nat.reduceLeDiff,Nat.reduceLT,Nat.reduceBEq,reduceCtorEq]|((first|((try refine zah ?_);apply zak)|(apply zai;intro _));(solve|exact(hou6)|exact(zcW)|(refine CallOK.le (hou6) ?_;exact zM)|(refine CallOK.le (zcW) ?_;exact zM)|fail);try case hn=>rfl)|refine zab ?_|refine zac (fun hb=> ?_) (fun hb=> ?_)|(refine And.intro ?_ ?_;exact zI)|refine And.intro (fun hg=> ?_) (fun hg=> ?_)|exact zC|fail)
theorem znZ (K1:Cl) (acc:List Cm) (hs:K1.session=4) (ha:K1.asks=acc) (hl:acc.length≤4) (hN:∀a∈acc,AskN a) (hb:K1.busy=false) (hc:K1.c=conf0) (hi:K1.id=0) (hq:K1.seq=2) (hla:K1.last=0) (hse:K1.sent=true):
  ∃k s,(k=2∨k=3∨k=4∨k=5)∧(k=5→∃a l,acc=a::l∧a.kind=5)∧(k≠5→k≠2→∃a l,acc=a::l)∧
   CallOK Tryz.prog 13 [.obj K1.ro, .f (ai 9)] (fun r o=>r=[.one (.own 2 1 (sendsC (goQ K1 9 k 4 s)) false)]∧o=[(goQ K1 9 k 4 s).ro]):=by
 cases acc with
 |nil=>
  refine⟨2, .empty, .inl rfl,fun h=>absurd h (by decide),fun _ h=>absurd rfl h, ?_⟩
  have hst:=zlx K1 9 (by decide) (by rw[hs];rfl) ha hb (by rw[hq];decide) (by rw[hi];decide) (by rw[hla];decide) (by rw[hs];kernel_rfl)
  have hkb:keepB K1 9=true:=by unfold keepB;rw[hse,hla,hc];rfl
  rw[if_pos hkb,if_pos hkb,hs]at hst
  exact hst
 |cons a l=>
  have haN:=hN a (by simp)
  refine⟨a.kind,a.name, .inr haN.k,fun h=>⟨a,l,rfl,h⟩,fun _ _=>⟨a,l,rfl⟩, ?_⟩
  have hst:=zgh K1 9 a l (by decide) (by rw[hs];rfl) ha (by rw[ha];exact hl) hb (by rw[hq];decide) (by rw[hi];decide) (by rw[hs];exact zmf haN 4 (by decide))
  rw[hs]at hst
  exact hst
set_option maxHeartbeats 4000000 in
theorem zee (K1:Cl) (acc:List Cm) (hs:K1.session=4) (ha:K1.asks=acc) (hl:acc.length≤4) (hN:∀a∈acc,AskN a) (hb:K1.busy=false) (hc0:K1.c=conf0) (hi:K1.id=0) (hq:K1.seq=2) (hla:K1.last=0) (hse:K1.sent=true)
  (c:Code) (hc:codeAt 12 (Tryz.f7.body.getD .skip)=some c):
  awp Ty Tryz.prog c ⟨[dd,dd,dd,dd,dd, .one (.ptr ⟨16,0,1⟩ 0), .one (.own ⟨6,1,1⟩ 0 acc.length),dd,dd,dd,dd,dd,dd,dd,dd,dd,dd,dd,dd,dd,dd,dd,dd,dd,dd,dd,dd,dd,dd,dd,dd,dd,dd,dd,dd,dd,dd,dd,dd,dd,dd,dd,dd,dd,dd,dd,dd,dd,dd,dd,dd,dd,dd,dd,dd,dd,dd,dd,dd,dd,dd,dd,dd,dd,dd,dd,dd,dd,dd,dd,dd,dd,dd,dd,dd,dd,dd,dd,dd,dd,dd,dd,dd,dd,dd,dd,dd,dd,dd,dd,dd,dd,dd,dd,dd,dd,dd,dd,dd,dd,dd,dd,dd,dd,dd,dd,dd,dd,dd,dd,dd,dd,dd,dd,dd,dd,dd,dd,dd,dd,dd,dd,dd,dd,dd,dd,dd,dd,dd,dd,dd,dd,dd,dd,dd,dd,dd,dd,dd,dd,dd,dd,dd,dd,dd,dd,dd,dd,dd,dd,dd,dd,dd,dd,dd,dd,dd,dd,dd,dd,dd,dd,dd],[(15,⟨2,[]⟩),homeC 16 K1,(6,{next:=2,l:=[none,some {e:=1,var:=false,fz:=false,sz:=3,cells:=(cmsE acc).map C.d}]}),(8,⟨2,[]⟩),(41,⟨2,[]⟩),(64,⟨2,[]⟩),(65,⟨2,[]⟩)]⟩ (EndQ Ty [.tmp 4] [] (fun r o=>r=[rb true]∧o=[])):=by
 simp only[Tryz.f7,Option.getD,codeAt,Nat.reduceBEq,if_true,if_false,Bool.false_eq_true,Option.none_or,Option.some_or,Option.some.injEq]at hc
 subst hc
 obtain⟨k,s,hk,hk5,hk3,hst⟩:=znZ K1 acc hs ha hl hN hb hc0 hi hq hla hse
 obtain⟨K2,hK2⟩:∃K,K=goQ K1 9 k 4 s:=⟨_,rfl⟩
 rw[←hK2]at hst
 have a1:K2.busy=true∧K2.out.kind=k∧K2.out.seq=3:=by
  rw[hK2]
  refine⟨rfl,rfl, ?_⟩
  show K1.seq+1=3
  rw[hq];rfl
 have a2:K2.c=conf0∧K2.id=0∧K2.seq=3∧K2.asks=acc∧K2.first=9:=by
  rw[hK2]
  refine⟨hc0,hi, ?_,ha,rfl⟩
  show K1.seq+1=3
  rw[hq];rfl
 obtain⟨b3,eb3⟩:∃b,b=packAI ⟨0,3,rp9⟩:=⟨_,rfl⟩
 have hb3:CallOK Tryz.prog 18 [.f (ai 0), .f (ai 3), .f (.agg [di 9,di 0,di 0, .d (.sl 0 [])])] (fun x o=>x=[.one (.d (.sl b3.length (bytesE b3)))]∧o=[]):=by
  rw[eb3];exact zdG ⟨0,3,rp9⟩ (by kernel_rfl)
 have ht3:=zeq K2 ⟨0,3,rp9⟩ b3 (by kernel_rfl) eb3 a1.1 (by rw[a2.2.2.2.1];exact hl) (by rw[a2.1];exact zcd) (by rw[a2.2.2.2.2];decide) (fun h1 h2=>by
  rw[a2.2.2.2.1]
  rw[a1.2.1]at h2
  by_cases h5:k=5
  ·obtain⟨a,l,e,_⟩:=hk5 h5;rw[e];simp
  ·obtain⟨a,l,e⟩:=hk3 h5 (by simpa using h2);rw[e];simp) a2.2.1.symm a1.2.2.symm
 simp only at ht3
 obtain⟨K3,hK3⟩:∃K,K=takeQ K2 rp9:=⟨_,rfl⟩
 rw[←hK3]at ht3
 have hL:Lost K3 acc:=by
  rw[hK3]
  unfold takeQ
  rw[a1.2.1,if_neg (by simp;omega),if_pos (by rfl)]
  by_cases h5:k=5
  ·obtain⟨a,l,e,e5⟩:=hk5 h5
   rw[if_pos (by simp[h5])]
   refine⟨rfl,rfl,rfl,rfl,a2.1,a2.2.1,a2.2.2.1, ?_, ?_⟩
   ·show K2.asks.tail.length≤4
    rw[a2.2.2.2.1,List.length_tail];omega
   ·show dwA K2.asks.tail=dwA acc
    rw[a2.2.2.2.1,e,List.tail_cons,zgg (by simp[isEnd,e5])]
  ·rw[if_neg (by simp;omega)]
   exact⟨rfl,rfl,rfl,rfl,a2.1,a2.2.1,a2.2.2.1,by show K2.asks.length≤4;rw[a2.2.2.2.1];exact hl,by show dwA K2.asks=dwA acc;rw[a2.2.2.2.1]⟩
 have hses:=ziR K3
 rw[hL.s]at hses
 have hun:=zkt K3
 rw[hL.t]at hun
 have hhd:=zm7 K3 9 (by decide) (by have:=hL.l;omega) (by rw[hL.h];decide)
 rw[show heldQ K3 9=[] from by unfold heldQ;rw[hL.t,if_pos (by decide)]]at hhd
 have z0:((0:Int) !=0)=false:=rfl
 have z1:(((0:Nat):Int) !=0)=false:=rfl
 repeat'(first|(with_reducible first|refine zaa _ _ ?_|refine zad ?_|refine zae ?_)|rw[zaf]|simp only[zY,Int.reduceEq,Int.reduceBEq,Int.reduceBNe,Nat.reduceSub,Nat.reduceEqDiff,Nat.reduceAdd,Nat.reduceMul,Nat.reduceLeDiff,Nat.reduceLT,Nat.reduceBEq,reduceCtorEq]|refine zab ?_|refine zac (fun hb=> ?_) (fun hb=> ?_)|(refine And.intro ?_ ?_;exact zI)|refine And.intro (fun hg=> ?_) (fun hg=> ?_)|exact zC|fail)
 refine zaG (mv:= ?mv5) (lent:= ?le5) (x:= ?x5) (ass:= ?ass5) ?ha5 (hst) ?hr5 rfl ?hs5 ?hb5 ?hc5
 case ha5=>(try simp only[zY,Int.reduceEq,Int.reduceBEq,Int.reduceBNe,Nat.reduceSub,Nat.reduceEqDiff,Nat.reduceAdd,Nat.reduceMul,Nat.reduceLeDiff,Nat.reduceLT,Nat.reduceBEq,reduceCtorEq]);exact rfl
 case hr5=>simp[rosA,roA]
 case hs5=>simp[argsLe,aLe,csLe,cLe]
 case hb5=>(try simp only[zB,scM,Nat.reduceSub,Nat.reduceEqDiff,Nat.reduceAdd,Nat.reduceMul,Nat.reduceLeDiff,Nat.reduceLT,Nat.reduceBEq,reduceCtorEq]);repeat'(first|rfl|trivial|omega|with_reducible refine And.intro ?_ ?_)
 show aops _ _ _ _ _ _ _ _
 repeat'(first|(with_reducible first|refine zaa _ _ ?_|refine zad ?_|refine zae ?_)|rw[zaf]|simp only[zY,Int.reduceEq,Int.reduceBEq,Int.reduceBNe,Nat.reduceSub,Nat.reduceEqDiff,Nat.reduceAdd,Nat.reduceMul,Nat.reduceLeDiff,Nat.reduceLT,Nat.reduceBEq,reduceCtorEq]|((first|((try refine zah ?_);apply zak)|(apply zai;intro _));(solve|exact(hb3)|(refine CallOK.le (hb3) ?_;exact zM)|fail);try case hn=>rfl)|refine zab ?_|refine zac (fun hb=> ?_) (fun hb=> ?_)|(refine And.intro ?_ ?_;exact zI)|refine And.intro (fun hg=> ?_) (fun hg=> ?_)|exact zC|fail)
 refine zaG (mv:= ?mv6) (lent:= ?le6) (x:= ?x6) (ass:= ?ass6) ?ha6 (ht3) ?hr6 rfl ?hs6 ?hb6 ?hc6
 case ha6=>(try simp only[zY,Int.reduceEq,Int.reduceBEq,Int.reduceBNe,Nat.reduceSub,Nat.reduceEqDiff,Nat.reduceAdd,Nat.reduceMul,Nat.reduceLeDiff,Nat.reduceLT,Nat.reduceBEq,reduceCtorEq]);exact rfl
 case hr6=>simp[rosA,roA]
 case hs6=>simp[argsLe,aLe,csLe,cLe]
 case hb6=>(try simp only[zB,scM,Nat.reduceSub,Nat.reduceEqDiff,Nat.reduceAdd,Nat.reduceMul,Nat.reduceLeDiff,Nat.reduceLT,Nat.reduceBEq,reduceCtorEq]);repeat'(first|rfl|trivial|omega|with_reducible refine And.intro ?_ ?_)
 show aops _ _ _ _ _ _ _ _
 repeat'(first|(with_reducible first|refine zaa _ _ ?_|refine zad ?_|refine zae ?_)|rw[zaf]|simp only[z0,z1,zaz,zY,Int.reduceEq,Int.reduceBEq,Int.reduceBNe,Nat.reduceSub,Nat.reduceEqDiff,Nat.reduceAdd,Nat.reduceMul,Nat.reduceLeDiff,Nat.reduceLT,Nat.reduceBEq,reduceCtorEq]|((first|((try refine zah ?_);apply zak)|(apply zai;intro _));(solve|exact(hses)|exact(hhd)|exact(hun)|(refine CallOK.le (hses) ?_;exact zM)|(refine CallOK.le (hhd) ?_;exact zM)|(refine CallOK.le (hun) ?_;exact zM)|fail);try case hn=>rfl)|refine zab ?_|refine zac (fun hb=> ?_) (fun hb=> ?_)|(refine And.intro ?_ ?_;exact zI)|refine And.intro (fun hg=> ?_) (fun hg=> ?_)|exact zC|fail)
 clear hst ht3 hb3 hses hun hhd
 refine zaW Ty Tryz.prog (τ:=Nat) (fun lo=>⟨[dd,dd,dd,dd,dd, .one (.ptr ⟨16,0,1⟩ 0), .one (.own ⟨6,1,1⟩ lo (acc.length - lo)),dd,dd,dd,dd,dd,dd,dd,dd,dd,dd,dd,dd,dd,dd,dd,dd,dd,dd,dd,dd,dd,dd,dd,dd,dd,dd,dd,dd,dd,dd,dd,dd,dd,dd,dd,dd,dd,dd,dd,dd,dd,dd,dd,dd,dd,dd,dd,dd,dd,dd,dd,dd,dd,dd,dd,dd,dd,dd,dd,dd,dd,dd,dd,dd,dd,dd,dd,dd,dd,dd,dd,dd,dd,dd,dd,dd,dd,dd,dd,dd,dd,dd,dd,dd,dd,dd,dd,dd,dd,dd,dd,dd,dd,dd,dd,dd,dd,dd,dd,dd,dd,dd,dd,dd,dd,dd,dd,dd,dd,dd,dd,dd,dd,dd,dd,dd,dd,dd,dd,dd,dd,dd,dd,dd,dd,dd,dd,dd,dd,dd,dd,dd,dd,dd,dd,dd,dd,dd,dd,dd,dd,dd,dd,dd,dd,dd,dd,dd,dd,dd,dd,dd,dd,dd,dd,dd],[(15,⟨2,[]⟩),homeC 16 K3,(6,{next:=2,l:=[none,some {e:=1,var:=false,fz:=false,sz:=3,cells:=(cmsE acc).map C.d}]}),(8,⟨2,[]⟩),(41,⟨2,[]⟩),(64,⟨2,[]⟩),(65,⟨2,[]⟩),(67,⟨2,[]⟩)]⟩)
  (fun lo=>lo≤acc.length∧dwA (acc.drop lo)=dwA acc) (fun lo=>acc.length - lo) 0
  (Gh.canon [16,6] [] [] (by simp only[Nat.sub_zero,zaq,zaE,zar,zaw,zax,zay,List.set_cons_zero,List.set_cons_succ,and_true,true_and,Int.natCast_zero,Int.cast_ofNat_Int,D.v.injEq,Value.int.injEq];try(repeat'(first|rfl|omega|with_reducible apply And.intro))) rfl rfl) ⟨Nat.zero_le _,rfl⟩ ?_
 intro lo ⟨hlo,hdl⟩ Kx hK
 simp only at hlo hdl hK⊢
 cases hD:acc.drop lo with
 |nil=>
  have hz:acc.length - lo=0:=by have:=congrArg List.length hD;rw[List.length_drop]at this;exact this
  have h1:decide (((acc.length - lo:Nat):Int)>0)=false:=by rw[hz];rfl
  have hdd:dwA acc=acc.drop lo:=by rw[←hdl,hD];rfl
  have hat:(cmsE acc).drop (lo*3)=[]:=List.drop_of_length_le (by rw[zbN];omega)
  repeat'(first|(with_reducible first|refine zc3 17 ?_|refine zb8 17 ?_|refine zb9 17 ?_)|(with_reducible first|refine zaa _ _ ?_|refine zad ?_|refine zae ?_)|rw[zaf]|simp only[h1,←List.map_drop,hat,List.map_nil,zY,Int.reduceEq,Int.reduceBEq,Int.reduceBNe,Nat.reduceSub,Nat.reduceEqDiff,Nat.reduceAdd,Nat.reduceMul,Nat.reduceLeDiff,Nat.reduceLT,Nat.reduceBEq,reduceCtorEq]|refine zab ?_|refine zac (fun hb=> ?_) (fun hb=> ?_)|(refine And.intro ?_ ?_;exact zI)|refine And.intro (fun hg=> ?_) (fun hg=> ?_)|exact zC|fail)
  refine zfP ?_ (zb4 K3 acc lo hl hlo hN hL hdd _ (by kernel_rfl))
  exact Gh.canon [16,6] [] [] zK rfl rfl
 |cons b l=>
  have hlt:lo<acc.length:=by have:=congrArg List.length hD;rw[List.length_drop]at this;simp at this;omega
  have hbN:AskN b:=hN b (List.mem_of_mem_drop (by rw[hD];simp))
  have hat:(cmsE acc).drop (lo*3)=b.enc++cmsE l:=by
   rw[zkq hlt]
   rw[List.drop_eq_getElem_cons hlt]at hD
   injection hD with e1 e2
   rw[e1,e2]
  have h1:decide (((acc.length - lo:Nat):Int)>0)=true:=by simp;omega
  cases h5:(b.kind==5)
  ·have hne:isEnd b=false:=by
    have:=hbN.k
    unfold isEnd
    rw[h5,Bool.false_or]
    simp;omega
   have hdd:dwA acc=acc.drop lo:=by rw[←hdl,hD,zmh hne]
   repeat'(first|(with_reducible first|refine zc3 17 ?_|refine zb8 17 ?_|refine zb9 17 ?_)|(with_reducible first|refine zaa _ _ ?_|refine zad ?_|refine zae ?_)|rw[zaf]|simp only[h1,←List.map_drop,hat,h5,List.map_cons,zbN,List.cons_append,List.nil_append,zY,Int.reduceEq,Int.reduceBEq,Int.reduceBNe,Nat.reduceSub,Nat.reduceEqDiff,Nat.reduceAdd,Nat.reduceMul,Nat.reduceLeDiff,Nat.reduceLT,Nat.reduceBEq,reduceCtorEq]|refine zab ?_|refine zac (fun hb=> ?_) (fun hb=> ?_)|(refine And.intro ?_ ?_;exact zI)|refine And.intro (fun hg=> ?_) (fun hg=> ?_)|exact zC|fail)
   refine zfP ?_ (zb4 K3 acc lo hl hlo hN hL hdd _ (by kernel_rfl))
   exact Gh.canon [16,6] [] [] zK rfl rfl
  ·have hen:isEnd b=true:=by unfold isEnd;rw[h5];rfl
   have e1:acc.length - lo - 1=acc.length - (lo+1):=by omega
   have e2:acc.drop (lo+1)=l:=by
    rw[List.drop_eq_getElem_cons hlt]at hD
    injection hD
   repeat'(first|(with_reducible first|refine zaa _ _ ?_|refine zad ?_|refine zae ?_)|rw[zaf]|simp only[h1,←List.map_drop,hat,h5,List.map_cons,zbN,List.cons_append,List.nil_append,zY,Int.reduceEq,Int.reduceBEq,Int.reduceBNe,Nat.reduceSub,Nat.reduceEqDiff,Nat.reduceAdd,Nat.reduceMul,Nat.reduceLeDiff,Nat.reduceLT,Nat.reduceBEq,reduceCtorEq]|refine zab ?_|refine zac (fun hb=> ?_) (fun hb=> ?_)|(refine And.intro ?_ ?_;exact zI)|refine And.intro (fun hg=> ?_) (fun hg=> ?_)|exact zC|fail)
   exact hK _ (lo+1) (Gh.canon [16,6] [] [] (by simp only[e1,zaq,zaE,zar,zaw,zax,zay,List.set_cons_zero,List.set_cons_succ,and_true,true_and,Int.natCast_zero,Int.cast_ofNat_Int,D.v.injEq,Value.int.injEq];try(repeat'(first|rfl|omega|with_reducible apply And.intro))) rfl rfl) ⟨hlt,by rw[←hdl,hD,zgg hen];exact congrArg dwA e2⟩ (by omega)
set_option maxHeartbeats 4000000 in
theorem zeW (ks ns:List Int) (hk:ks.length<2^60) (hkb:∀x∈ks,byteI x) (hn:ns.length<2^60) (hnb:∀x∈ns,byteI x):
  CallOK Tryz.prog 7 [.f (al ks.length (bytesE ks)), .f (al ns.length (bytesE ns))] (fun r o=>r=[rb true]∧o=[]):=by
 refine zal zat mixed (T:=Ty) (n:=163) Tryz.func7 (c:=Tryz.f7.body.getD .skip) rfl Tryz.results7 Tryz.ntmps7 Tryz.call7 ?_
 simp only[Tryz.f7,Option.getD]
 have hop:=ziO [⟨nmA,3⟩] (by kernel_rfl)
 obtain⟨K0,hK0⟩:∃K,K=kOp [⟨nmA,3⟩]:=⟨_,rfl⟩
 rw[←hK0]at hop
 repeat'(first|(with_reducible first|refine zaa _ _ ?_|refine zad ?_|refine zae ?_)|rw[zaf]|simp only[zY,Int.reduceEq,Int.reduceBEq,Int.reduceBNe,Nat.reduceSub,Nat.reduceEqDiff,Nat.reduceAdd,Nat.reduceMul,Nat.reduceLeDiff,Nat.reduceLT,Nat.reduceBEq,reduceCtorEq]|refine zab ?_|refine zac (fun hb=> ?_) (fun hb=> ?_)|(refine And.intro ?_ ?_;exact zI)|refine And.intro (fun hg=> ?_) (fun hg=> ?_)|exact zC|fail)
 refine zjd 15 (h:=⟨15,1,0⟩) (lo:=0) (n:=1) (k:=1) (ds:=[sD nmA,iD 3]) (nf:=24) (ars:=[.f (asl 1 [sD nmA,iD 3])]) rfl rfl (Gh.sealV 15 rfl (by simp only[zY,Nat.reduceSub,Nat.reduceEqDiff,Nat.reduceAdd,Nat.reduceMul,Nat.reduceLeDiff,Nat.reduceLT,Nat.reduceBEq,reduceCtorEq];rfl)) ?_ ?_ ?_ hop ?_
 ·simp only[zB,Nat.reduceSub,Nat.reduceEqDiff,Nat.reduceAdd,Nat.reduceMul,Nat.reduceLeDiff,Nat.reduceLT,Nat.reduceBEq,reduceCtorEq]
 ·simp only[zB,Nat.reduceSub,Nat.reduceEqDiff,Nat.reduceAdd,Nat.reduceMul,Nat.reduceLeDiff,Nat.reduceLT,Nat.reduceBEq,reduceCtorEq]
 ·simp only[zB,Nat.reduceSub,Nat.reduceEqDiff,Nat.reduceAdd,Nat.reduceMul,Nat.reduceLeDiff,Nat.reduceLT,Nat.reduceBEq,reduceCtorEq]
 ·have f1:K0.session=4∧K0.till=49∧K0.busy=false∧K0.c=conf0∧K0.id=0∧K0.seq=2∧K0.last=0∧K0.sent=true∧K0.asks=[]:=by rw[hK0];exact⟨rfl,rfl,rfl,rfl,rfl,rfl,rfl,rfl,rfl⟩
  cases hle:decide ((ns.length:Int)<(ks.length:Int))
  ·repeat'(first|(with_reducible first|refine zaa _ _ ?_|refine zad ?_|refine zae ?_)|rw[zaf]|simp only[hle,zY,Int.reduceEq,Int.reduceBEq,Int.reduceBNe,Nat.reduceSub,Nat.reduceEqDiff,Nat.reduceAdd,Nat.reduceMul,Nat.reduceLeDiff,Nat.reduceLT,Nat.reduceBEq,reduceCtorEq]|refine zab ?_|refine zac (fun hb=> ?_) (fun hb=> ?_)|(refine And.intro ?_ ?_;exact zI)|refine And.intro (fun hg=> ?_) (fun hg=> ?_)|exact zC|fail)
   refine zaW Ty Tryz.prog (τ:=Nat×List Cm) (fun t=>⟨[al ks.length (bytesE ks),al ns.length (bytesE ns),dd,dd,dd, .one (.ptr ⟨16,0,1⟩ 0), .one (.own ⟨6,1,1⟩ 0 t.2.length),ai t.1,dd,dd,dd,dd,dd,dd,dd,dd,dd,dd,dd,dd,dd,dd,dd,dd,dd,dd,dd,dd,dd,dd,dd,dd,dd,dd,dd,dd,dd,dd,dd,dd,dd,dd,dd,dd,dd,dd,dd,dd,dd,dd,dd,dd,dd,dd,dd,dd,dd,dd,dd,dd,dd,dd,dd,dd,dd,dd,dd,dd,dd,dd,dd,dd,dd,dd,dd,dd,dd,dd,dd,dd,dd,dd,dd,dd,dd,dd,dd,dd,dd,dd,dd,dd,dd,dd,dd,dd,dd,dd,dd,dd,dd,dd,dd,dd,dd,dd,dd,dd,dd,dd,dd,dd,dd,dd,dd,dd,dd,dd,dd,dd,dd,dd,dd,dd,dd,dd,dd,dd,dd,dd,dd,dd,dd,dd,dd,dd,dd,dd,dd,dd,dd,dd,dd,dd,dd,dd,dd,dd,dd,dd,dd,dd,dd,dd,dd,dd,dd,dd,dd,dd,dd,dd,dd],[(15,⟨2,[]⟩),homeC 16 ({K0 with asks:=t.2}:Cl),(6,{next:=2,l:=[none,some {e:=1,var:=false,fz:=false,sz:=3,cells:=(cmsE t.2).map C.d}]}),(8,⟨2,[]⟩),(41,⟨2,[]⟩),(64,⟨2,[]⟩),(65,⟨2,[]⟩)]⟩)
    (fun t=>t.1≤ks.length∧t.1≤4∧t.2.length=t.1∧∀a∈t.2,AskN a) (fun t=>ks.length - t.1) (0,[])
    ((Gh.nil (i:=6) (s:=6) (sz:=3) rfl).trans (Gh.canon [16,6] [8,41,64,65] [] (by simp only[f1.2.2.2.2.2.2.2.2,zaq,zaE,zar,zaw,zax,zay,List.set_cons_zero,List.set_cons_succ,and_true,true_and,Int.natCast_zero,Int.cast_ofNat_Int,D.v.injEq,Value.int.injEq];try(repeat'(first|rfl|omega|with_reducible apply And.intro))) rfl (by rw[f1.2.2.2.2.2.2.2.2];rfl))) ⟨Nat.zero_le _,Nat.zero_le _,rfl,by simp⟩ ?_
   intro⟨i,acc⟩ ⟨hi0,hi4,hal,haN⟩ Kx hK
   simp only at hi0 hi4 hal haN hK⊢
   have tail:∀c,codeAt 12 (Tryz.f7.body.getD .skip)=some c→_:=zee ({K0 with asks:=acc}:Cl) acc f1.1 rfl (by omega) haN f1.2.2.1 f1.2.2.2.1 f1.2.2.2.2.1 f1.2.2.2.2.2.1 f1.2.2.2.2.2.2.1 f1.2.2.2.2.2.2.2.1
   cases hlt:decide ((i:Int)<(ks.length:Int))
   ·repeat'(first|(with_reducible first|refine zc3 12 ?_|refine zb8 12 ?_|refine zb9 12 ?_)|(with_reducible first|refine zaa _ _ ?_|refine zad ?_|refine zae ?_)|rw[zaf]|simp only[hlt,zY,Int.reduceEq,Int.reduceBEq,Int.reduceBNe,Nat.reduceSub,Nat.reduceEqDiff,Nat.reduceAdd,Nat.reduceMul,Nat.reduceLeDiff,Nat.reduceLT,Nat.reduceBEq,reduceCtorEq]|refine zab ?_|refine zac (fun hb=> ?_) (fun hb=> ?_)|(refine And.intro ?_ ?_;exact zI)|refine And.intro (fun hg=> ?_) (fun hg=> ?_)|exact zC|fail)
    refine zfP ?_ (tail _ (by kernel_rfl))
    exact Gh.canon [16,6] [] [] zK rfl rfl
   ·have hi:i<ks.length:=by simpa using hlt
    have hin:i<ns.length:=by simp at hle;omega
    cases h4:decide ((i:Int)<4)
    ·repeat'(first|(with_reducible first|refine zc3 12 ?_|refine zb8 12 ?_|refine zb9 12 ?_)|(with_reducible first|refine zaa _ _ ?_|refine zad ?_|refine zae ?_)|rw[zaf]|simp only[hlt,h4,zY,Int.reduceEq,Int.reduceBEq,Int.reduceBNe,Nat.reduceSub,Nat.reduceEqDiff,Nat.reduceAdd,Nat.reduceMul,Nat.reduceLeDiff,Nat.reduceLT,Nat.reduceBEq,reduceCtorEq]|refine zab ?_|refine zac (fun hb=> ?_) (fun hb=> ?_)|(refine And.intro ?_ ?_;exact zI)|refine And.intro (fun hg=> ?_) (fun hg=> ?_)|exact zC|fail)
     refine zfP ?_ (tail _ (by kernel_rfl))
     exact Gh.canon [16,6] [] [] zK rfl rfl
    ·have hi4':i<4:=by simp at h4;omega
     have hat:=zb3 hi
     have hbt:=zb3 hin
     have hkv:=zci hi hkb
     have hnv:=zci hin hnb
     obtain⟨kk,hkk⟩:∃k,k=ks.getD i 0:=⟨_,rfl⟩
     obtain⟨nn,hnn⟩:∃k,k=ns.getD i 0:=⟨_,rfl⟩
     rw[←hkk]at hat hkv
     rw[←hnn]at hbt hnv
     have hw:=za3 hi (by omega)
     have hnm:=zkn nn hnv
     obtain⟨rest,hd⟩:=zmX hkv
     unfold byteI at hkv
     have w1:kk.tmod 3=kk % 3:=zik hkv.1 3
     have w2:IntKind.u8.wrap (kk % 3)=kk % 3:=zdc (by omega) (by omega)
     have hak:=zku ({K0 with asks:=acc}:Cl) (kd3 kk) (namedP nn) (by have:=zko (zeQ nn);omega) (by simp only;omega)
     rw[zkp (zmY kk nn) (by simp only;omega)]at hak
     simp only at hak
     have z0:((0:Int) !=0)=false:=rfl
     have hle5:(acc.length+1≤2^47)=True:=eq_true (by omega)
     repeat'(first|(with_reducible first|refine zaa _ _ ?_|refine zad ?_|refine zae ?_)|rw[zaf]|simp only[hlt,h4,hat,hbt,zaA,w1,w2,hd,zY,Int.reduceEq,Int.reduceBEq,Int.reduceBNe,Nat.reduceSub,Nat.reduceEqDiff,Nat.reduceAdd,Nat.reduceMul,Nat.reduceLeDiff,Nat.reduceLT,Nat.reduceBEq,reduceCtorEq]|((first|((try refine zah ?_);apply zak)|(apply zai;intro _));(solve|exact(hnm)|(refine CallOK.le (hnm) ?_;exact zM)|fail);try case hn=>rfl)|refine zab ?_|refine zac (fun hb=> ?_) (fun hb=> ?_)|(refine And.intro ?_ ?_;exact zI)|refine And.intro (fun hg=> ?_) (fun hg=> ?_)|exact zC|fail)
     refine zaG (mv:= ?mv7) (lent:= ?le7) (x:= ?x7) (ass:= ?ass7) ?ha7 (hak) ?hr7 rfl ?hs7 ?hb7 ?hc7
     case ha7=>(try simp only[zY,Int.reduceEq,Int.reduceBEq,Int.reduceBNe,zaz,Nat.reduceSub,Nat.reduceEqDiff,Nat.reduceAdd,Nat.reduceMul,Nat.reduceLeDiff,Nat.reduceLT,Nat.reduceBEq,reduceCtorEq]);exact rfl
     case hr7=>simp[rosA,roA,zaz]
     case hs7=>simp[argsLe,aLe,csLe,cLe,zaz]
     case hb7=>(try simp only[zB,scM,zaz,Nat.reduceSub,Nat.reduceEqDiff,Nat.reduceAdd,Nat.reduceMul,Nat.reduceLeDiff,Nat.reduceLT,Nat.reduceBEq,reduceCtorEq]);repeat'(first|rfl|trivial|omega|with_reducible refine And.intro ?_ ?_)
     show aops _ _ _ _ _ _ _ _
     repeat'(first|(with_reducible first|refine zaa _ _ ?_|refine zad ?_|refine zae ?_)|rw[zaf]|simp only[z0,hle5,zaz,zY,Int.reduceEq,Int.reduceBEq,Int.reduceBNe,Nat.reduceSub,Nat.reduceEqDiff,Nat.reduceAdd,Nat.reduceMul,Nat.reduceLeDiff,Nat.reduceLT,Nat.reduceBEq,reduceCtorEq]|refine zab ?_|refine zac (fun hb=> ?_) (fun hb=> ?_)|(refine And.intro ?_ ?_;exact zI)|refine And.intro (fun hg=> ?_) (fun hg=> ?_)|exact zC|fail)
     refine hK _ (i+1,acc++[askN kk nn]) (Gh.canon [16,6] [] [] (by simp only[hw,List.length_append,List.length_singleton,askN,zaq,zaE,zar,zaw,zax,zay,List.set_cons_zero,List.set_cons_succ,and_true,true_and,Int.natCast_zero,Int.cast_ofNat_Int,D.v.injEq,Value.int.injEq];try(repeat'(first|rfl|omega|with_reducible apply And.intro))) rfl (by simp only[homeC,List.length_append,List.length_singleton,zbo];rfl)) ⟨hi,by simp only;omega,by simp only[List.length_append,List.length_singleton];omega,fun a ha=> ?_⟩ (by simp only;omega)
     rcases List.mem_append.1 ha with ha|ha
     ·exact haN a ha
     ·rw[List.mem_singleton.1 ha];exact znO kk nn
  ·repeat'(first|(with_reducible first|refine zaa _ _ ?_|refine zad ?_|refine zae ?_)|rw[zaf]|simp only[hle,zY,Int.reduceEq,Int.reduceBEq,Int.reduceBNe,Nat.reduceSub,Nat.reduceEqDiff,Nat.reduceAdd,Nat.reduceMul,Nat.reduceLeDiff,Nat.reduceLT,Nat.reduceBEq,reduceCtorEq]|((first|((try refine zah ?_);apply zak)|(apply zai;intro _));(solve|exact(zcW)|(refine CallOK.le (zcW) ?_;exact zM)|fail);try case hn=>rfl)|refine zab ?_|refine zac (fun hb=> ?_) (fun hb=> ?_)|(refine And.intro ?_ ?_;exact zI)|refine And.intro (fun hg=> ?_) (fun hg=> ?_)|exact zC|fail)
end Go.Proofs.YtiegkabcgokhkaaGreat
