import Derived.Test.YtiegkabcgokhkaaGreatSB
namespace Go.Proofs.YtiegkabcgokhkaaGreat
open Go.Pk
set_option maxRecDepth 100000
set_option linter.unusedSimpArgs false
set_option linter.unusedVariables false
def spanP (lease rho:Int):Int:=lease*(1000 - rho) / (1000+rho)
def LeaseOk (c:Conf):Prop:=(1≤c.lease∧c.lease≤1000000)∧(0≤c.rho∧c.rho≤200)
theorem zfB {lease rho:Int} (h1:1≤lease∧lease≤1000000) (h2:0≤rho∧rho≤200):0≤spanP lease rho∧spanP lease rho≤1000000000∧0≤lease*(1000 - rho)∧lease*(1000 - rho)≤1000000000:=by
 have h3:0≤lease*(1000 - rho):=Int.mul_nonneg (by omega) (by omega)
 have h4:lease*(1000 - rho)≤1000000*1000:=Int.mul_le_mul (by omega) (by omega) (by omega) (by omega)
 have h5:spanP lease rho≤lease*(1000 - rho):=Int.ediv_le_self _ h3
 have h6:0≤spanP lease rho:=Int.ediv_nonneg h3 (by omega)
 exact⟨h6,by omega,h3,by omega⟩
theorem zkr (lease rho:Int) (h1:1≤lease∧lease≤1000000) (h2:0≤rho∧rho≤200):CallOK Tryz.prog 21 [.f (ai lease), .f (ai rho)] (fun r o=>r=[ri (spanP lease rho)]∧o=[]):=by
 refine zal zat mixed (T:=Ty) (n:=26) Tryz.func21 (c:=Tryz.f21.body.getD .skip) rfl Tryz.results21 Tryz.ntmps21 Tryz.call21 ?_
 simp only[Tryz.f21,Option.getD]
 obtain⟨b1,b2,b3,b4⟩:=zfB h1 h2
 have e1:decide (lease<1)=false:=by simp;omega
 have e2:decide (lease>1000000)=false:=by simp;omega
 have e3:decide (rho<0)=false:=by simp;omega
 have e4:decide (rho>200)=false:=by simp;omega
 have w1:IntKind.i64.wrap (1000 - rho)=1000 - rho:=wrap64 (by omega) (by omega)
 have w2:IntKind.i64.wrap (lease*(1000 - rho))=lease*(1000 - rho):=wrap64 (by omega) (by omega)
 have w3:IntKind.i64.wrap (1000+rho)=1000+rho:=wrap64 (by omega) (by omega)
 have w4:(lease*(1000 - rho)).tdiv (1000+rho)=spanP lease rho:=Int.tdiv_eq_ediv_of_nonneg b3
 have w5:IntKind.i64.wrap (spanP lease rho)=spanP lease rho:=wrap64 (by omega) (by omega)
 have hne:(1000+rho)≠0:=by omega
 repeat'(first|(with_reducible first|refine zaa _ _ ?_|refine zad ?_|refine zae ?_)|rw[zaf]|simp only[e1,e2,e3,e4,w1,w2,w3,if_neg hne,w4,w5,zY,Int.reduceEq,Int.reduceBEq,Int.reduceBNe,Nat.reduceSub,Nat.reduceEqDiff,Nat.reduceAdd,Nat.reduceMul,Nat.reduceLeDiff,Nat.reduceLT,Nat.reduceBEq,reduceCtorEq]|refine zab ?_|refine zac (fun hb=> ?_) (fun hb=> ?_)|(refine And.intro ?_ ?_;exact zI)|refine And.intro (fun hg=> ?_) (fun hg=> ?_)|exact zC|fail)
theorem zim (n lease rho:Int) (h0:0≤n∧n≤2305843009213693952) (h1:1≤lease∧lease≤1000000) (h2:0≤rho∧rho≤200):
  CallOK Tryz.prog 47 [.f (ai n), .f (ai lease), .f (ai rho)] (fun r o=>r=[ri (n+spanP lease rho)]∧o=[]):=by
 refine zal zat mixed (T:=Ty) (n:=18) Tryz.func47 (c:=Tryz.f47.body.getD .skip) rfl Tryz.results47 Tryz.ntmps47 Tryz.call47 ?_
 simp only[Tryz.f47,Option.getD]
 obtain⟨b1,b2,b3,b4⟩:=zfB h1 h2
 have e1:decide (n<0)=false:=by simp;omega
 have e2:decide (n>2305843009213693952)=false:=by simp;omega
 have w1:IntKind.i64.wrap (n+spanP lease rho)=n+spanP lease rho:=wrap64 (by omega) (by omega)
 repeat'(first|(with_reducible first|refine zaa _ _ ?_|refine zad ?_|refine zae ?_)|rw[zaf]|simp only[e1,e2,w1,zY,Int.reduceEq,Int.reduceBEq,Int.reduceBNe,Nat.reduceSub,Nat.reduceEqDiff,Nat.reduceAdd,Nat.reduceMul,Nat.reduceLeDiff,Nat.reduceLT,Nat.reduceBEq,reduceCtorEq]|((first|((try refine zah ?_);apply zak)|(apply zai;intro _));(solve|exact(zkr lease rho h1 h2)|(refine CallOK.le (zkr lease rho h1 h2) ?_;exact zM)|fail);try case hn=>rfl)|refine zab ?_|refine zac (fun hb=> ?_) (fun hb=> ?_)|(refine And.intro ?_ ?_;exact zI)|refine And.intro (fun hg=> ?_) (fun hg=> ?_)|exact zC|fail)
def sureQ (K:Cl):Int:=K.first+spanP K.c.lease K.c.rho
def openedQ (K:Cl) (r:Reply):Cl:=
 if(r.code==0)=true then {K with session:=r.session,has:=r.held,till:=sureQ K}else if(r.code==7)=true then {K with session:=r.session,has:=r.held,till:=0}else K
def nothingQ (K:Cl):Cl:={K with session:=0,has:=[],till:=0}
theorem zfC (K:Cl) (hL:K.asks.length<2^30):CallOK Tryz.prog 45 [.obj K.ro] (fun r o=>r=[]∧o=[(nothingQ K).ro]):=by
 refine CallOK.leR ?_
 refine zal zat mixed (T:=Ty) (n:=11) Tryz.func45 (c:=Tryz.f45.body.getD .skip) rfl Tryz.results45 Tryz.ntmps45 Tryz.call45 ?_
 simp only[Tryz.f45,Option.getD]
 repeat'(first|(with_reducible first|refine zaa _ _ ?_|refine zad ?_|refine zae ?_)|rw[zaf]|simp only[zY,Int.reduceEq,Int.reduceBEq,Int.reduceBNe,Nat.reduceSub,Nat.reduceEqDiff,Nat.reduceAdd,Nat.reduceMul,Nat.reduceLeDiff,Nat.reduceLT,Nat.reduceBEq,reduceCtorEq]|refine zab ?_|refine zac (fun hb=> ?_) (fun hb=> ?_)|(refine And.intro ?_ ?_;exact zI)|refine And.intro (fun hg=> ?_) (fun hg=> ?_)|exact zC|fail)
 refine⟨trivial, ?_⟩
 simp[objsB,rosB,roB,nothingQ]
theorem zks (K:Cl) (r:Reply) (hl:LeaseOk K.c) (hf:0≤K.first∧K.first≤2305843009213693952):CallOK Tryz.prog 44 [.obj K.ro, .f (.agg (replyD r))] (fun x o=>x=[]∧o=[(openedQ K r).ro]):=by
 refine CallOK.leR ?_
 refine zal zat mixed (T:=Ty) (n:=51) Tryz.func44 (c:=Tryz.f44.body.getD .skip) rfl Tryz.results44 Tryz.ntmps44 Tryz.call44 ?_
 simp only[Tryz.f44,Option.getD]
 unfold openedQ
 have hu:=zim K.first K.c.lease K.c.rho hf hl.1 hl.2
 cases h0:(r.code==0)
 ·cases h7:(r.code==7)
  ·repeat'(first|(with_reducible first|refine zaa _ _ ?_|refine zad ?_|refine zae ?_)|rw[zaf]|simp only[h0,h7,zY,Int.reduceEq,Int.reduceBEq,Int.reduceBNe,Nat.reduceSub,Nat.reduceEqDiff,Nat.reduceAdd,Nat.reduceMul,Nat.reduceLeDiff,Nat.reduceLT,Nat.reduceBEq,reduceCtorEq]|refine zab ?_|refine zac (fun hb=> ?_) (fun hb=> ?_)|(refine And.intro ?_ ?_;exact zI)|refine And.intro (fun hg=> ?_) (fun hg=> ?_)|exact zC|fail)
   exact⟨trivial,zas⟩
  ·repeat'(first|(with_reducible first|refine zaa _ _ ?_|refine zad ?_|refine zae ?_)|rw[zaf]|simp only[h0,h7,zY,Int.reduceEq,Int.reduceBEq,Int.reduceBNe,Nat.reduceSub,Nat.reduceEqDiff,Nat.reduceAdd,Nat.reduceMul,Nat.reduceLeDiff,Nat.reduceLT,Nat.reduceBEq,reduceCtorEq]|refine zab ?_|refine zac (fun hb=> ?_) (fun hb=> ?_)|(refine And.intro ?_ ?_;exact zI)|refine And.intro (fun hg=> ?_) (fun hg=> ?_)|exact zC|fail)
   exact⟨trivial,zas⟩
 ·repeat'(first|(with_reducible first|refine zaa _ _ ?_|refine zad ?_|refine zae ?_)|rw[zaf]|simp only[h0,zY,Int.reduceEq,Int.reduceBEq,Int.reduceBNe,Nat.reduceSub,Nat.reduceEqDiff,Nat.reduceAdd,Nat.reduceMul,Nat.reduceLeDiff,Nat.reduceLT,Nat.reduceBEq,reduceCtorEq]|((first|((try refine zah ?_);apply zak)|(apply zai;intro _));(solve|exact(hu)|(refine CallOK.le (hu) ?_;exact zM)|fail);try case hn=>rfl)|refine zab ?_|refine zac (fun hb=> ?_) (fun hb=> ?_)|(refine And.intro ?_ ?_;exact zI)|refine And.intro (fun hg=> ?_) (fun hg=> ?_)|exact zC|fail)
  exact⟨trivial,zas⟩
def takeQ (K:Cl) (r:Reply):Cl:=
 if(K.out.kind==1)=true then openedQ {K with busy:=false} r else
 if(r.code==9)=true then(if(K.out.kind==5||K.out.kind==6)=true then {nothingQ {K with busy:=false}with asks:=K.asks.tail}else nothingQ {K with busy:=false})else
 if(K.out.kind==2)=true then {K with busy:=false,has:=r.held,till:=max K.till (sureQ K)}else
 if(K.out.kind==6)=true then nothingQ {K with busy:=false,asks:=K.asks.tail}else {K with busy:=false,asks:=K.asks.tail,has:=r.held,till:=max K.till (sureQ K)}
theorem ziR (K:Cl):CallOK Tryz.prog 20 [.f K.at] (fun r o=>r=[ri K.session]∧o=[]):=by
 refine zal zat mixed (T:=Ty) (n:=9) Tryz.func20 (c:=Tryz.f20.body.getD .skip) rfl Tryz.results20 Tryz.ntmps20 Tryz.call20 ?_
 simp only[Tryz.f20,Option.getD]
 repeat'(first|(with_reducible first|refine zaa _ _ ?_|refine zad ?_|refine zae ?_)|rw[zaf]|simp only[zY,Int.reduceEq,Int.reduceBEq,Int.reduceBNe,Nat.reduceSub,Nat.reduceEqDiff,Nat.reduceAdd,Nat.reduceMul,Nat.reduceLeDiff,Nat.reduceLT,Nat.reduceBEq,reduceCtorEq]|refine zab ?_|refine zac (fun hb=> ?_) (fun hb=> ?_)|(refine And.intro ?_ ?_;exact zI)|refine And.intro (fun hg=> ?_) (fun hg=> ?_)|exact zC|fail)
theorem zkt (K:Cl):CallOK Tryz.prog 33 [.f K.at] (fun r o=>r=[ri K.till]∧o=[]):=by
 refine zal zat mixed (T:=Ty) (n:=9) Tryz.func33 (c:=Tryz.f33.body.getD .skip) rfl Tryz.results33 Tryz.ntmps33 Tryz.call33 ?_
 simp only[Tryz.f33,Option.getD]
 repeat'(first|(with_reducible first|refine zaa _ _ ?_|refine zad ?_|refine zae ?_)|rw[zaf]|simp only[zY,Int.reduceEq,Int.reduceBEq,Int.reduceBNe,Nat.reduceSub,Nat.reduceEqDiff,Nat.reduceAdd,Nat.reduceMul,Nat.reduceLeDiff,Nat.reduceLT,Nat.reduceBEq,reduceCtorEq]|refine zab ?_|refine zac (fun hb=> ?_) (fun hb=> ?_)|(refine And.intro ?_ ?_;exact zI)|refine And.intro (fun hg=> ?_) (fun hg=> ?_)|exact zC|fail)
set_option maxHeartbeats 2000000 in
theorem zeq (K:Cl) (m:Memo) (bs:List Int) (hm:answerB m=true) (hb:bs=packAI m) (hbu:K.busy=true) (hL:K.asks.length≤4) (hl:LeaseOk K.c) (hf:0≤K.first∧K.first≤2305843009213693952)
  (hk:(K.out.kind==1)=false→(K.out.kind==2)=false→K.asks≠[]) (hc:m.client=K.id) (hs:m.seq=K.out.seq):
  CallOK Tryz.prog 17 [.obj K.ro, .f (asl bs.length (bytesE bs))] (fun r o=>r=[rb true]∧o=[(takeQ K m.reply).ro]):=by
 refine CallOK.leR ?_
 refine zal zat mixed (T:=Ty) (n:=127) Tryz.func17 (c:=Tryz.f17.body.getD .skip) rfl Tryz.results17 Tryz.ntmps17 Tryz.call17 ?_
 simp only[Tryz.f17,Option.getD]
 have hg:=znd bs m hm hb
 have e1:(m.client !=K.id)=false:=by rw[hc];simp
 have e2:(m.seq !=K.out.seq)=false:=by rw[hs];simp
 have hu:=zim K.first K.c.lease K.c.rho hf hl.1 hl.2
 have hop:=zks {K with busy:=false} m.reply hl hf
 have hno:=zfC {K with busy:=false} (by simp only;omega)
 have hen:=zhu K.out.kind
 unfold takeQ
 cases k1:(K.out.kind==1)
 ·cases c9:(m.reply.code==9)
  ·cases k2:(K.out.kind==2)
   ·have k2':(K.out.kind !=2)=true:=by rw[bne,k2];rfl
    obtain⟨a,l,ha⟩:∃a l,K.asks=a::l:=by
     cases hq:K.asks with
     |nil=>exact absurd hq (hk k1 k2)
     |cons a l=>exact⟨a,l,rfl⟩
    have hlen:K.asks.length=l.length+1:=by rw[ha];rfl
    have hat:cmsE K.asks=iD a.kind::iD a.session::sD a.name::cmsE l:=by rw[ha];rfl
    have htl:K.asks.tail=l:=by rw[ha];rfl
    rw[htl]
    have hno2:=zfC {K with busy:=false,asks:=l,has:=m.reply.held,till:=max K.till (sureQ K)} (by simp only;omega)
    cases k6:(K.out.kind==6)
    ·repeat'(first|(with_reducible first|refine zc3 10 ?_|refine zb8 10 ?_|refine zb9 10 ?_)|(with_reducible first|refine zaa _ _ ?_|refine zad ?_|refine zae ?_)|rw[zaf]|simp only[hbu,e1,e2,k1,c9,k2',hlen,hat,Nat.add_sub_cancel,zY,Int.reduceEq,Int.reduceBEq,Int.reduceBNe,Nat.reduceSub,Nat.reduceEqDiff,Nat.reduceAdd,Nat.reduceMul,Nat.reduceLeDiff,Nat.reduceLT,Nat.reduceBEq,reduceCtorEq]|((first|((try refine zah ?_);apply zak)|(apply zai;intro _));(solve|exact(hg)|(refine CallOK.le (hg) ?_;exact zM)|fail);try case hn=>rfl)|refine zab ?_|refine zac (fun hb=> ?_) (fun hb=> ?_)|(refine And.intro ?_ ?_;exact zI)|refine And.intro (fun hg=> ?_) (fun hg=> ?_)|exact zC|fail)
     refine zhh (zhg (Gh.shiftF 0 15 1 l.length ⟨rfl,rfl,rfl⟩) ?_)
     simp only[zB,shiftFR,Nat.one_mul,List.drop_succ_cons,List.drop_zero,Nat.reduceSub,Nat.reduceEqDiff,Nat.reduceAdd,Nat.reduceMul,Nat.reduceLeDiff,Nat.reduceLT,Nat.reduceBEq,reduceCtorEq]
     repeat'(first|(with_reducible first|refine zaa _ _ ?_|refine zad ?_|refine zae ?_)|rw[zaf]|simp only[k6,zY,Int.reduceEq,Int.reduceBEq,Int.reduceBNe,Nat.reduceSub,Nat.reduceEqDiff,Nat.reduceAdd,Nat.reduceMul,Nat.reduceLeDiff,Nat.reduceLT,Nat.reduceBEq,reduceCtorEq]|((first|((try refine zah ?_);apply zak)|(apply zai;intro _));(solve|exact(hu)|(refine CallOK.le (hu) ?_;exact zM)|fail);try case hn=>rfl)|refine zab ?_|refine zac (fun hb=> ?_) (fun hb=> ?_)|(refine And.intro ?_ ?_;exact zI)|refine And.intro (fun hg=> ?_) (fun hg=> ?_)|exact zC|fail)
     exact⟨zan,zas⟩
    ·repeat'(first|(with_reducible first|refine zc3 10 ?_|refine zb8 10 ?_|refine zb9 10 ?_)|(with_reducible first|refine zaa _ _ ?_|refine zad ?_|refine zae ?_)|rw[zaf]|simp only[hbu,e1,e2,k1,c9,k2',hlen,hat,Nat.add_sub_cancel,zY,Int.reduceEq,Int.reduceBEq,Int.reduceBNe,Nat.reduceSub,Nat.reduceEqDiff,Nat.reduceAdd,Nat.reduceMul,Nat.reduceLeDiff,Nat.reduceLT,Nat.reduceBEq,reduceCtorEq]|((first|((try refine zah ?_);apply zak)|(apply zai;intro _));(solve|exact(hg)|(refine CallOK.le (hg) ?_;exact zM)|fail);try case hn=>rfl)|refine zab ?_|refine zac (fun hb=> ?_) (fun hb=> ?_)|(refine And.intro ?_ ?_;exact zI)|refine And.intro (fun hg=> ?_) (fun hg=> ?_)|exact zC|fail)
     refine zhh (zhg (Gh.shiftF 0 15 1 l.length ⟨rfl,rfl,rfl⟩) ?_)
     simp only[zB,shiftFR,Nat.one_mul,List.drop_succ_cons,List.drop_zero,Nat.reduceSub,Nat.reduceEqDiff,Nat.reduceAdd,Nat.reduceMul,Nat.reduceLeDiff,Nat.reduceLT,Nat.reduceBEq,reduceCtorEq]
     repeat'(first|(with_reducible first|refine zaa _ _ ?_|refine zad ?_|refine zae ?_)|rw[zaf]|simp only[k6,zY,Int.reduceEq,Int.reduceBEq,Int.reduceBNe,Nat.reduceSub,Nat.reduceEqDiff,Nat.reduceAdd,Nat.reduceMul,Nat.reduceLeDiff,Nat.reduceLT,Nat.reduceBEq,reduceCtorEq]|((first|((try refine zah ?_);apply zak)|(apply zai;intro _));(solve|exact(hu)|(refine CallOK.le (hu) ?_;exact zM)|fail);try case hn=>rfl)|refine zab ?_|refine zac (fun hb=> ?_) (fun hb=> ?_)|(refine And.intro ?_ ?_;exact zI)|refine And.intro (fun hg=> ?_) (fun hg=> ?_)|exact zC|fail)
     refine zbl (mv:= ?mv1) (lent:= ?le1) 0 ?ha1 (hno2) ?hb1 ?hc1
     case ha1=>(try simp only[zB,zaC,zaz,sureQ,Nat.reduceSub,Nat.reduceEqDiff,Nat.reduceAdd,Nat.reduceMul,Nat.reduceLeDiff,Nat.reduceLT,Nat.reduceBEq,reduceCtorEq]);exact rfl
     case hb1=>(try simp only[zB,scM,zaz,sureQ,Nat.reduceSub,Nat.reduceEqDiff,Nat.reduceAdd,Nat.reduceMul,Nat.reduceLeDiff,Nat.reduceLT,Nat.reduceBEq,reduceCtorEq]);repeat'(first|rfl|trivial|omega|with_reducible refine And.intro ?_ ?_)
     show aops _ _ _ _ _ _ _ _
     repeat'(first|(with_reducible first|refine zaa _ _ ?_|refine zad ?_|refine zae ?_)|rw[zaf]|simp only[zY,Int.reduceEq,Int.reduceBEq,Int.reduceBNe,Nat.reduceSub,Nat.reduceEqDiff,Nat.reduceAdd,Nat.reduceMul,Nat.reduceLeDiff,Nat.reduceLT,Nat.reduceBEq,reduceCtorEq]|refine zab ?_|refine zac (fun hb=> ?_) (fun hb=> ?_)|(refine And.intro ?_ ?_;exact zI)|refine And.intro (fun hg=> ?_) (fun hg=> ?_)|exact zC|fail)
     refine⟨zan, ?_⟩
     simp[objsB,rosB,roB,nothingQ]
   ·have k2':(K.out.kind !=2)=false:=by rw[bne,k2];rfl
    cases k6:(K.out.kind==6)
    ·repeat'(first|(with_reducible first|refine zaa _ _ ?_|refine zad ?_|refine zae ?_)|rw[zaf]|simp only[hbu,e1,e2,k1,c9,k2',k6,zY,Int.reduceEq,Int.reduceBEq,Int.reduceBNe,Nat.reduceSub,Nat.reduceEqDiff,Nat.reduceAdd,Nat.reduceMul,Nat.reduceLeDiff,Nat.reduceLT,Nat.reduceBEq,reduceCtorEq]|((first|((try refine zah ?_);apply zak)|(apply zai;intro _));(solve|exact(hg)|exact(hu)|(refine CallOK.le (hg) ?_;exact zM)|(refine CallOK.le (hu) ?_;exact zM)|fail);try case hn=>rfl)|refine zab ?_|refine zac (fun hb=> ?_) (fun hb=> ?_)|(refine And.intro ?_ ?_;exact zI)|refine And.intro (fun hg=> ?_) (fun hg=> ?_)|exact zC|fail)
     exact⟨zan,zas⟩
    ·exfalso
     simp at k2 k6;omega
  ·repeat'(first|(with_reducible first|refine zaa _ _ ?_|refine zad ?_|refine zae ?_)|rw[zaf]|simp only[hbu,e1,e2,k1,c9,zY,Int.reduceEq,Int.reduceBEq,Int.reduceBNe,Nat.reduceSub,Nat.reduceEqDiff,Nat.reduceAdd,Nat.reduceMul,Nat.reduceLeDiff,Nat.reduceLT,Nat.reduceBEq,reduceCtorEq]|((first|((try refine zah ?_);apply zak)|(apply zai;intro _));(solve|exact(hg)|(refine CallOK.le (hg) ?_;exact zM)|fail);try case hn=>rfl)|refine zab ?_|refine zac (fun hb=> ?_) (fun hb=> ?_)|(refine And.intro ?_ ?_;exact zI)|refine And.intro (fun hg=> ?_) (fun hg=> ?_)|exact zC|fail)
   refine zbl (mv:= ?mv2) (lent:= ?le2) 0 ?ha2 (hno) ?hb2 ?hc2
   case ha2=>(try simp only[zB,zaC,zaz,Nat.reduceSub,Nat.reduceEqDiff,Nat.reduceAdd,Nat.reduceMul,Nat.reduceLeDiff,Nat.reduceLT,Nat.reduceBEq,reduceCtorEq]);exact rfl
   case hb2=>(try simp only[zB,scM,zaz,Nat.reduceSub,Nat.reduceEqDiff,Nat.reduceAdd,Nat.reduceMul,Nat.reduceLeDiff,Nat.reduceLT,Nat.reduceBEq,reduceCtorEq]);repeat'(first|rfl|trivial|omega|with_reducible refine And.intro ?_ ?_)
   show aops _ _ _ _ _ _ _ _
   cases k5:(K.out.kind==5||K.out.kind==6)
   ·rw[k5]at hen
    repeat'(first|(with_reducible first|refine zaa _ _ ?_|refine zad ?_|refine zae ?_)|rw[zaf]|simp only[zY,Int.reduceEq,Int.reduceBEq,Int.reduceBNe,Nat.reduceSub,Nat.reduceEqDiff,Nat.reduceAdd,Nat.reduceMul,Nat.reduceLeDiff,Nat.reduceLT,Nat.reduceBEq,reduceCtorEq]|((first|((try refine zah ?_);apply zak)|(apply zai;intro _));(solve|exact(hen)|(refine CallOK.le (hen) ?_;exact zM)|fail);try case hn=>rfl)|refine zab ?_|refine zac (fun hb=> ?_) (fun hb=> ?_)|(refine And.intro ?_ ?_;exact zI)|refine And.intro (fun hg=> ?_) (fun hg=> ?_)|exact zC|fail)
    exact⟨zan,zas⟩
   ·rw[k5]at hen
    have k2:(K.out.kind==2)=false:=by
     simp only[Bool.or_eq_true,beq_iff_eq]at k5
     simp only[beq_eq_false_iff_ne];omega
    obtain⟨a,l,ha⟩:∃a l,K.asks=a::l:=by
     cases hq:K.asks with
     |nil=>exact absurd hq (hk k1 k2)
     |cons a l=>exact⟨a,l,rfl⟩
    have hlen:K.asks.length=l.length+1:=by rw[ha];rfl
    have hat:cmsE K.asks=iD a.kind::iD a.session::sD a.name::cmsE l:=by rw[ha];rfl
    have htl:K.asks.tail=l:=by rw[ha];rfl
    rw[htl]
    unfold nothingQ
    repeat'(first|(with_reducible first|refine zc3 20 ?_|refine zb8 20 ?_|refine zb9 20 ?_)|(with_reducible first|refine zaa _ _ ?_|refine zad ?_|refine zae ?_)|rw[zaf]|simp only[hlen,hat,Nat.add_sub_cancel,zY,Int.reduceEq,Int.reduceBEq,Int.reduceBNe,Nat.reduceSub,Nat.reduceEqDiff,Nat.reduceAdd,Nat.reduceMul,Nat.reduceLeDiff,Nat.reduceLT,Nat.reduceBEq,reduceCtorEq]|((first|((try refine zah ?_);apply zak)|(apply zai;intro _));(solve|exact(hen)|(refine CallOK.le (hen) ?_;exact zM)|fail);try case hn=>rfl)|refine zab ?_|refine zac (fun hb=> ?_) (fun hb=> ?_)|(refine And.intro ?_ ?_;exact zI)|refine And.intro (fun hg=> ?_) (fun hg=> ?_)|exact zC|fail)
    refine zhh (zhg (Gh.shiftF 0 15 1 l.length ⟨rfl,rfl,rfl⟩) ?_)
    simp only[zB,shiftFR,Nat.one_mul,List.drop_succ_cons,List.drop_zero,Nat.reduceSub,Nat.reduceEqDiff,Nat.reduceAdd,Nat.reduceMul,Nat.reduceLeDiff,Nat.reduceLT,Nat.reduceBEq,reduceCtorEq]
    repeat'(first|(with_reducible first|refine zaa _ _ ?_|refine zad ?_|refine zae ?_)|rw[zaf]|simp only[zY,Int.reduceEq,Int.reduceBEq,Int.reduceBNe,Nat.reduceSub,Nat.reduceEqDiff,Nat.reduceAdd,Nat.reduceMul,Nat.reduceLeDiff,Nat.reduceLT,Nat.reduceBEq,reduceCtorEq]|refine zab ?_|refine zac (fun hb=> ?_) (fun hb=> ?_)|(refine And.intro ?_ ?_;exact zI)|refine And.intro (fun hg=> ?_) (fun hg=> ?_)|exact zC|fail)
    exact⟨zan,zas⟩
 ·repeat'(first|(with_reducible first|refine zaa _ _ ?_|refine zad ?_|refine zae ?_)|rw[zaf]|simp only[hbu,e1,e2,k1,zY,Int.reduceEq,Int.reduceBEq,Int.reduceBNe,Nat.reduceSub,Nat.reduceEqDiff,Nat.reduceAdd,Nat.reduceMul,Nat.reduceLeDiff,Nat.reduceLT,Nat.reduceBEq,reduceCtorEq]|((first|((try refine zah ?_);apply zak)|(apply zai;intro _));(solve|exact(hg)|(refine CallOK.le (hg) ?_;exact zM)|fail);try case hn=>rfl)|refine zab ?_|refine zac (fun hb=> ?_) (fun hb=> ?_)|(refine And.intro ?_ ?_;exact zI)|refine And.intro (fun hg=> ?_) (fun hg=> ?_)|exact zC|fail)
  refine zbl (mv:= ?mv3) (lent:= ?le3) 0 ?ha3 (hop) ?hb3 ?hc3
  case ha3=>(try simp only[zB,zaC,zaz,Nat.reduceSub,Nat.reduceEqDiff,Nat.reduceAdd,Nat.reduceMul,Nat.reduceLeDiff,Nat.reduceLT,Nat.reduceBEq,reduceCtorEq]);exact rfl
  case hb3=>(try simp only[zB,scM,zaz,Nat.reduceSub,Nat.reduceEqDiff,Nat.reduceAdd,Nat.reduceMul,Nat.reduceLeDiff,Nat.reduceLT,Nat.reduceBEq,reduceCtorEq]);repeat'(first|rfl|trivial|omega|with_reducible refine And.intro ?_ ?_)
  show aops _ _ _ _ _ _ _ _
  repeat'(first|(with_reducible first|refine zaa _ _ ?_|refine zad ?_|refine zae ?_)|rw[zaf]|simp only[zY,Int.reduceEq,Int.reduceBEq,Int.reduceBNe,Nat.reduceSub,Nat.reduceEqDiff,Nat.reduceAdd,Nat.reduceMul,Nat.reduceLeDiff,Nat.reduceLT,Nat.reduceBEq,reduceCtorEq]|refine zab ?_|refine zac (fun hb=> ?_) (fun hb=> ?_)|(refine And.intro ?_ ?_;exact zI)|refine And.intro (fun hg=> ?_) (fun hg=> ?_)|exact zC|fail)
  exact⟨zan,zas⟩
end Go.Proofs.YtiegkabcgokhkaaGreat
