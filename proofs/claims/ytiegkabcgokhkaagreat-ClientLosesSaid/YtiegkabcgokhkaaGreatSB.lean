import Derived.Test.YtiegkabcgokhkaaGreatSA
namespace Go.Proofs.YtiegkabcgokhkaaGreat
open Go.Pk
set_option maxRecDepth 100000
set_option linter.unusedSimpArgs false
set_option linter.unusedVariables false
def isEnd (a:Cm):Bool:=a.kind==5||a.kind==6
def dwA (l:List Cm):List Cm:=l.dropWhile isEnd
theorem zm8:dwA []=[]:=rfl
theorem zgg {a:Cm} {l:List Cm} (h:isEnd a=true):dwA (a::l)=dwA l:=by unfold dwA;rw[List.dropWhile_cons,if_pos h]
theorem zmh {a:Cm} {l:List Cm} (h:isEnd a=false):dwA (a::l)=a::l:=by unfold dwA;rw[List.dropWhile_cons,if_neg (by rw[h];simp)]
theorem zm9 {l:List Cm}:(dwA l).length≤l.length:=(List.dropWhile_sublist _).length_le
abbrev objC (K:Cl) (l:List Cm) (e nx:Nat):Nat×RS:=(0,{next:=nx,l:=[some {e:=0,var:=true,fz:=false,bor:=true,sz:=0,cells:=[di K.c.replicas,di K.c.clients,di K.c.lease,di K.c.rho,di K.c.base,di K.c.cap,di K.c.beat,di K.c.wait,di K.c.sweep,di K.c.retry,di K.c.keep,
 di K.id,di K.session, .d (.sl K.has.length (grantsE K.has)),di K.till, .own ⟨0,16,e⟩ 0 l.length,db K.busy,
 di K.out.client,di K.out.seq,di K.out.kind,di K.out.session,dS K.out.name,di K.first,db K.sent,di K.last,di K.seq,di K.turn]},none,none,none,none,none,none,none,none,none,none,none,none,none,none,none,
 some {e:=e,var:=false,fz:=false,bor:=true,sz:=3,cells:=(cmsE l).map C.d},none,none,none,none,none,none,none,none,none,none,none]})
set_option maxHeartbeats 1000000 in
theorem zlu (K:Cl) (now:Int) (hs:K.session=0) (hL:K.asks.length≤4):
  CallOK Tryz.prog 38 [.obj K.ro, .f (ai now)] (fun r o=>r=[.agg [.d (iD 1), .d (iD 0), .d (sD .empty)],rb (decide (((dwA K.asks).length:Int)>0))]∧o=[({K with asks:=dwA K.asks}:Cl).ro]):=by
 refine CallOK.leR ?_
 refine zal zat mixed (T:=Ty) (n:=85) Tryz.func38 (c:=Tryz.f38.body.getD .skip) rfl Tryz.results38 Tryz.ntmps38 Tryz.call38 ?_
 simp only[Tryz.f38,Option.getD]
 have h2:(K.session==0)=true:=by rw[hs];rfl
 repeat'(first|(with_reducible first|refine zaa _ _ ?_|refine zad ?_|refine zae ?_)|rw[zaf]|simp only[h2,zY,Int.reduceEq,Int.reduceBEq,Int.reduceBNe,Nat.reduceSub,Nat.reduceEqDiff,Nat.reduceAdd,Nat.reduceMul,Nat.reduceLeDiff,Nat.reduceLT,Nat.reduceBEq,reduceCtorEq]|refine zab ?_|refine zac (fun hb=> ?_) (fun hb=> ?_)|(refine And.intro ?_ ?_;exact zI)|refine And.intro (fun hg=> ?_) (fun hg=> ?_)|exact zC|fail)
 refine zaV (τ:=List Cm×Nat×Nat) (fun t=>⟨[.one (.ptr ⟨0,0,0⟩ 0),dd,dd,dd, .one (.ptr ⟨4,0,1⟩ 0),dd,dd,dd,dd,dd,dd,dd,dd,dd,dd,dd,dd,dd,dd,dd,dd,dd,dd,dd,dd,dd,dd,dd,dd,dd,dd,dd,dd,dd,dd,dd,dd,dd,dd,dd,dd,dd,dd,dd,dd,dd,dd,dd,dd,dd,dd,dd,dd,dd,dd,dd,dd,dd,dd,dd,dd,dd,dd,dd,dd,dd,dd,dd,dd,dd,dd,dd,dd,dd,dd,dd,dd,dd,dd,dd,dd,dd,dd,dd,dd],[objC K t.1 t.2.1 t.2.2,(4,{next:=2,l:=[some {e:=1,var:=true,fz:=false,sz:=0,cells:=[di 0,di 0,dS .empty]},none,none,none]})]⟩)
  (fun t=>t.1.length≤4) (fun t=>dwA t.1) (fun t=>t.1.length) (K.asks,0,1)
  (Gh.canon [0,4] [] [0] zK rfl rfl) hL ?_
 intro⟨l,e,nx⟩ hL0 hF Kx hK
 simp only at hL0 hF hK⊢
 cases l with
 |nil=>
  rw[zm8]at hF
  have h1:decide (((0:Nat):Int)>0)=false:=rfl
  rw[←hF]
  repeat'(first|(with_reducible first|refine zaa _ _ ?_|refine zad ?_|refine zae ?_)|rw[zaf]|simp only[h1,List.length_nil,zY,Int.reduceEq,Int.reduceBEq,Int.reduceBNe,Nat.reduceSub,Nat.reduceEqDiff,Nat.reduceAdd,Nat.reduceMul,Nat.reduceLeDiff,Nat.reduceLT,Nat.reduceBEq,reduceCtorEq]|refine zab ?_|refine zac (fun hb=> ?_) (fun hb=> ?_)|(refine And.intro ?_ ?_;exact zI)|refine And.intro (fun hg=> ?_) (fun hg=> ?_)|exact zC|fail)
  refine⟨zan, ?_⟩
  simp[objsB,rosB,roB]
 |cons a l=>
  have hen:=zhu a.kind
  have h1:decide (((l.length+1:Nat):Int)>0)=true:=by simp
  have hat:cmsE (a::l)=iD a.kind::iD a.session::sD a.name::cmsE l:=rfl
  have hl3:((cmsE l).length+1+1+1=(a::l).length*3)=True:=eq_true (by rw[zbN,List.length_cons];omega)
  cases he:isEnd a
  ·rw[zmh he]at hF
   unfold isEnd at he
   rw[he]at hen
   rw[←hF]
   repeat'(first|(with_reducible first|refine zaa _ _ ?_|refine zad ?_|refine zae ?_)|rw[zaf]|simp only[h1,List.drop_zero,hat,hl3,zY,Int.reduceEq,Int.reduceBEq,Int.reduceBNe,Nat.reduceSub,Nat.reduceEqDiff,Nat.reduceAdd,Nat.reduceMul,Nat.reduceLeDiff,Nat.reduceLT,Nat.reduceBEq,reduceCtorEq]|((first|((try refine zah ?_);apply zak)|(apply zai;intro _));(solve|exact(hen)|(refine CallOK.le (hen) ?_;exact zM)|fail);try case hn=>rfl)|refine zab ?_|refine zac (fun hb=> ?_) (fun hb=> ?_)|(refine And.intro ?_ ?_;exact zI)|refine And.intro (fun hg=> ?_) (fun hg=> ?_)|exact zC|fail)
   refine⟨⟨zdi,by simp[rfB,roB,h1],trivial⟩, ?_⟩
   simp[objsB,rosB,roB]
  ·unfold isEnd at he
   rw[he]at hen
   rw[zgg (show isEnd a=true from he)]at hF
   repeat'(first|(with_reducible first|refine zaa _ _ ?_|refine zad ?_|refine zae ?_)|rw[zaf]|simp only[h1,List.drop_zero,hat,hl3,Nat.add_sub_cancel,zY,Int.reduceEq,Int.reduceBEq,Int.reduceBNe,Nat.reduceSub,Nat.reduceEqDiff,Nat.reduceAdd,Nat.reduceMul,Nat.reduceLeDiff,Nat.reduceLT,Nat.reduceBEq,reduceCtorEq]|((first|((try refine zah ?_);apply zak)|(apply zai;intro _));(solve|exact(hen)|(refine CallOK.le (hen) ?_;exact zM)|fail);try case hn=>rfl)|refine zab ?_|refine zac (fun hb=> ?_) (fun hb=> ?_)|(refine And.intro ?_ ?_;exact zI)|refine And.intro (fun hg=> ?_) (fun hg=> ?_)|exact zC|fail)
   refine hK _ (l,nx,nx+1) ((Gh.shiftF 0 15 1 l.length ?_).trans (Gh.canon [0,4] [] [0] zK rfl rfl)) ?_ ?_ ?_
   ·exact⟨rfl,rfl,rfl⟩
   ·simp only[List.length_cons]at hL0⊢;omega
   ·exact(zgg (show isEnd a=true from he)).symm
   ·simp only[List.length_cons];omega
theorem zlv (K:Cl) (now:Int) (a:Cm) (l:List Cm) (hs:(K.session==0)=false) (ha:K.asks=a::l) (hL:K.asks.length≤4):
  CallOK Tryz.prog 38 [.f K.at, .f (ai now)] (fun r o=>r=[.agg [.d (iD a.kind), .d (iD K.session), .d (sD a.name)],rb true]∧o=[]):=by
 refine zal zat mixed (T:=Ty) (n:=85) Tryz.func38 (c:=Tryz.f38.body.getD .skip) rfl Tryz.results38 Tryz.ntmps38 Tryz.call38 ?_
 simp only[Tryz.f38,Option.getD]
 have h1:decide ((K.asks.length:Int)>0)=true:=by rw[ha];simp
 have hat:cmsE K.asks=iD a.kind::iD a.session::sD a.name::cmsE l:=by rw[ha];rfl
 have hl3:((cmsE l).length+1+1+1=K.asks.length*3)=True:=eq_true (by rw[zbN,ha,List.length_cons];omega)
 repeat'(first|(with_reducible first|refine zaa _ _ ?_|refine zad ?_|refine zae ?_)|rw[zaf]|simp only[hs,h1,List.drop_zero,hat,hl3,zY,Int.reduceEq,Int.reduceBEq,Int.reduceBNe,Nat.reduceSub,Nat.reduceEqDiff,Nat.reduceAdd,Nat.reduceMul,Nat.reduceLeDiff,Nat.reduceLT,Nat.reduceBEq,reduceCtorEq]|refine zab ?_|refine zac (fun hb=> ?_) (fun hb=> ?_)|(refine And.intro ?_ ?_;exact zI)|refine And.intro (fun hg=> ?_) (fun hg=> ?_)|exact zC|fail)
def keepB (K:Cl) (now:Int):Bool:= !K.sent||decide (now - K.last≥K.c.keep)
theorem zlw (K:Cl) (now:Int) (hs:(K.session==0)=false) (ha:K.asks=[]) (h0:0≤now∧now≤2305843009213693952) (hl:0≤K.last∧K.last≤2305843009213693952):
  CallOK Tryz.prog 38 [.f K.at, .f (ai now)] (fun r o=>r=[.agg [.d (iD 2), .d (iD K.session), .d (sD .empty)],rb (keepB K now)]∧o=[]):=by
 refine zal zat mixed (T:=Ty) (n:=85) Tryz.func38 (c:=Tryz.f38.body.getD .skip) rfl Tryz.results38 Tryz.ntmps38 Tryz.call38 ?_
 simp only[Tryz.f38,Option.getD]
 have h1:decide ((K.asks.length:Int)>0)=false:=by rw[ha];simp
 have hw:IntKind.i64.wrap (now - K.last)=now - K.last:=wrap64 (by omega) (by omega)
 unfold keepB
 cases hse:K.sent
 ·repeat'(first|(with_reducible first|refine zaa _ _ ?_|refine zad ?_|refine zae ?_)|rw[zaf]|simp only[hs,h1,hse,zY,Int.reduceEq,Int.reduceBEq,Int.reduceBNe,Nat.reduceSub,Nat.reduceEqDiff,Nat.reduceAdd,Nat.reduceMul,Nat.reduceLeDiff,Nat.reduceLT,Nat.reduceBEq,reduceCtorEq]|refine zab ?_|refine zac (fun hb=> ?_) (fun hb=> ?_)|(refine And.intro ?_ ?_;exact zI)|refine And.intro (fun hg=> ?_) (fun hg=> ?_)|exact zC|fail)
 ·repeat'(first|(with_reducible first|refine zaa _ _ ?_|refine zad ?_|refine zae ?_)|rw[zaf]|simp only[hs,h1,hse,hw,zY,Int.reduceEq,Int.reduceBEq,Int.reduceBNe,Nat.reduceSub,Nat.reduceEqDiff,Nat.reduceAdd,Nat.reduceMul,Nat.reduceLeDiff,Nat.reduceLT,Nat.reduceBEq,reduceCtorEq]|refine zab ?_|refine zac (fun hb=> ?_) (fun hb=> ?_)|(refine And.intro ?_ ?_;exact zI)|refine And.intro (fun hg=> ?_) (fun hg=> ?_)|exact zC|fail)
def goQ (K:Cl) (now:Int) (k n:Int) (s:ByteArray):Cl:={K with seq:=K.seq+1,busy:=true,first:=now,out:=⟨K.id,K.seq+1,k,n,s⟩,sent:=true,last:=now}
theorem zna (K:Cl) (k n:Int) (s:ByteArray) (hq:0≤K.seq∧K.seq<2^60) (hid:0≤K.id∧K.id<8) (hm:mayP k n s=true):Req.may ⟨K.id,K.seq+1,k,n,s⟩=true∧(⟨K.id,K.seq+1,k,n,s⟩:Req).ok:=by
 obtain⟨f1,f2,f3,f4,f5⟩:=zcU hm
 have hH:High=2305843009213693952:=rfl
 refine⟨?_,by simp only[i64];omega,by simp only[i64];omega,by simp only[i64];omega,by simp only[i64];omega,by simp only;omega⟩
 unfold Req.may
 simp only[hm,hH,Bool.and_true,Bool.and_eq_true,decide_eq_true_eq]
 omega
theorem zin (K:Cl) (now:Int) (h0:0≤now∧now≤2305843009213693952) (hs:K.session=0) (hL:K.asks.length≤4) (hb:K.busy=false) (hq:0≤K.seq∧K.seq<2^60) (hid:0≤K.id∧K.id<8):
  CallOK Tryz.prog 13 [.obj K.ro, .f (ai now)] (fun r o=>
   r=(if(dwA K.asks).length>0 then [.one (.own 2 1 (sendsC (goQ {K with asks:=dwA K.asks} now 1 0 .empty)) false)]else [.one (.d (.v (.slice none 0 0)))])∧
   o=[(if(dwA K.asks).length>0 then goQ {K with asks:=dwA K.asks} now 1 0 .empty else {K with asks:=dwA K.asks}).ro]):=by
 refine CallOK.leR ?_
 refine zal zat mixed (T:=Ty) (n:=82) Tryz.func13 (c:=Tryz.f13.body.getD .skip) rfl Tryz.results13 Tryz.ntmps13 Tryz.call13 ?_
 simp only[Tryz.f13,Option.getD]
 have h3:IntKind.i64.wrap (K.seq+1)=K.seq+1:=wrap64 (by omega) (by omega)
 obtain⟨hmr,hrk⟩:=zna K 1 0 .empty hq hid (by unfold mayP;simp)
 have hnx:=zlu {K with busy:=false} now hs hL
 cases hd:decide (((dwA K.asks).length:Int)>0)
 ·rw[if_neg (by simpa using hd),if_neg (by simpa using hd)]
  simp only[hd]at hnx
  repeat'(first|(with_reducible first|refine zaa _ _ ?_|refine zad ?_|refine zae ?_)|rw[zaf]|simp only[hb,zY,Int.reduceEq,Int.reduceBEq,Int.reduceBNe,Nat.reduceSub,Nat.reduceEqDiff,Nat.reduceAdd,Nat.reduceMul,Nat.reduceLeDiff,Nat.reduceLT,Nat.reduceBEq,reduceCtorEq]|((first|((try refine zah ?_);apply zak)|(apply zai;intro _));(solve|exact(zbz now h0)|(refine CallOK.le (zbz now h0) ?_;exact zM)|fail);try case hn=>rfl)|refine zab ?_|refine zac (fun hb=> ?_) (fun hb=> ?_)|(refine And.intro ?_ ?_;exact zI)|refine And.intro (fun hg=> ?_) (fun hg=> ?_)|exact zC|fail)
  refine zbl (mv:= ?mv1) (lent:= ?le1) 0 ?ha1 (hnx) ?hb1 ?hc1
  case ha1=>(try simp only[zB,zaC,Nat.reduceSub,Nat.reduceEqDiff,Nat.reduceAdd,Nat.reduceMul,Nat.reduceLeDiff,Nat.reduceLT,Nat.reduceBEq,reduceCtorEq]);exact rfl
  case hb1=>(try simp only[zB,scM,Nat.reduceSub,Nat.reduceEqDiff,Nat.reduceAdd,Nat.reduceMul,Nat.reduceLeDiff,Nat.reduceLT,Nat.reduceBEq,reduceCtorEq]);repeat'(first|rfl|trivial|omega|with_reducible refine And.intro ?_ ?_)
  show aops _ _ _ _ _ _ _ _
  repeat'(first|(with_reducible first|refine zaa _ _ ?_|refine zad ?_|refine zae ?_)|rw[zaf]|simp only[zY,Int.reduceEq,Int.reduceBEq,Int.reduceBNe,Nat.reduceSub,Nat.reduceEqDiff,Nat.reduceAdd,Nat.reduceMul,Nat.reduceLeDiff,Nat.reduceLT,Nat.reduceBEq,reduceCtorEq]|refine zab ?_|refine zac (fun hb=> ?_) (fun hb=> ?_)|(refine And.intro ?_ ?_;exact zI)|refine And.intro (fun hg=> ?_) (fun hg=> ?_)|exact zC|fail)
  refine⟨zan, ?_⟩
  simp[objsB,rosB,roB,hb]
 ·have hgt:(dwA K.asks).length>0:=by simpa using hd
  rw[if_pos hgt,if_pos hgt]
  simp only[hd]at hnx
  have hsd:=zgi {K with asks:=dwA K.asks,seq:=K.seq+1,busy:=true,first:=now,out:=⟨K.id,K.seq+1,1,0, .empty⟩} now hrk hmr
  repeat'(first|(with_reducible first|refine zaa _ _ ?_|refine zad ?_|refine zae ?_)|rw[zaf]|simp only[hb,zY,Int.reduceEq,Int.reduceBEq,Int.reduceBNe,Nat.reduceSub,Nat.reduceEqDiff,Nat.reduceAdd,Nat.reduceMul,Nat.reduceLeDiff,Nat.reduceLT,Nat.reduceBEq,reduceCtorEq]|((first|((try refine zah ?_);apply zak)|(apply zai;intro _));(solve|exact(zbz now h0)|(refine CallOK.le (zbz now h0) ?_;exact zM)|fail);try case hn=>rfl)|refine zab ?_|refine zac (fun hb=> ?_) (fun hb=> ?_)|(refine And.intro ?_ ?_;exact zI)|refine And.intro (fun hg=> ?_) (fun hg=> ?_)|exact zC|fail)
  refine zbl (mv:= ?mv2) (lent:= ?le2) 0 ?ha2 (hnx) ?hb2 ?hc2
  case ha2=>(try simp only[zB,zaC,Nat.reduceSub,Nat.reduceEqDiff,Nat.reduceAdd,Nat.reduceMul,Nat.reduceLeDiff,Nat.reduceLT,Nat.reduceBEq,reduceCtorEq]);exact rfl
  case hb2=>(try simp only[zB,scM,Nat.reduceSub,Nat.reduceEqDiff,Nat.reduceAdd,Nat.reduceMul,Nat.reduceLeDiff,Nat.reduceLT,Nat.reduceBEq,reduceCtorEq]);repeat'(first|rfl|trivial|omega|with_reducible refine And.intro ?_ ?_)
  show aops _ _ _ _ _ _ _ _
  repeat'(first|(with_reducible first|refine zaa _ _ ?_|refine zad ?_|refine zae ?_)|rw[zaf]|simp only[h3,zY,Int.reduceEq,Int.reduceBEq,Int.reduceBNe,Nat.reduceSub,Nat.reduceEqDiff,Nat.reduceAdd,Nat.reduceMul,Nat.reduceLeDiff,Nat.reduceLT,Nat.reduceBEq,reduceCtorEq]|refine zab ?_|refine zac (fun hb=> ?_) (fun hb=> ?_)|(refine And.intro ?_ ?_;exact zI)|refine And.intro (fun hg=> ?_) (fun hg=> ?_)|exact zC|fail)
  refine zbl (mv:= ?mv3) (lent:= ?le3) 0 ?ha3 (hsd) ?hb3 ?hc3
  case ha3=>(try simp only[zB,zaC,zaz,Nat.reduceSub,Nat.reduceEqDiff,Nat.reduceAdd,Nat.reduceMul,Nat.reduceLeDiff,Nat.reduceLT,Nat.reduceBEq,reduceCtorEq]);exact rfl
  case hb3=>(try simp only[zB,scM,zaz,Nat.reduceSub,Nat.reduceEqDiff,Nat.reduceAdd,Nat.reduceMul,Nat.reduceLeDiff,Nat.reduceLT,Nat.reduceBEq,reduceCtorEq]);repeat'(first|rfl|trivial|omega|with_reducible refine And.intro ?_ ?_)
  show aops _ _ _ _ _ _ _ _
  repeat'(first|(with_reducible first|refine zaa _ _ ?_|refine zad ?_|refine zae ?_)|rw[zaf]|simp only[zY,Int.reduceEq,Int.reduceBEq,Int.reduceBNe,Nat.reduceSub,Nat.reduceEqDiff,Nat.reduceAdd,Nat.reduceMul,Nat.reduceLeDiff,Nat.reduceLT,Nat.reduceBEq,reduceCtorEq]|refine zab ?_|refine zac (fun hb=> ?_) (fun hb=> ?_)|(refine And.intro ?_ ?_;exact zI)|refine And.intro (fun hg=> ?_) (fun hg=> ?_)|exact zC|fail)
  exact⟨rfl,zan,zas⟩
theorem zgh (K:Cl) (now:Int) (a:Cm) (l:List Cm) (h0:0≤now∧now≤2305843009213693952) (hs:(K.session==0)=false) (ha:K.asks=a::l) (hL:K.asks.length≤4) (hb:K.busy=false) (hq:0≤K.seq∧K.seq<2^60) (hid:0≤K.id∧K.id<8)
  (hm:mayP a.kind K.session a.name=true):
  CallOK Tryz.prog 13 [.obj K.ro, .f (ai now)] (fun r o=>r=[.one (.own 2 1 (sendsC (goQ K now a.kind K.session a.name)) false)]∧o=[(goQ K now a.kind K.session a.name).ro]):=by
 refine CallOK.leR ?_
 refine zal zat mixed (T:=Ty) (n:=82) Tryz.func13 (c:=Tryz.f13.body.getD .skip) rfl Tryz.results13 Tryz.ntmps13 Tryz.call13 ?_
 simp only[Tryz.f13,Option.getD]
 have h3:IntKind.i64.wrap (K.seq+1)=K.seq+1:=wrap64 (by omega) (by omega)
 obtain⟨hmr,hrk⟩:=zna K a.kind K.session a.name hq hid hm
 have hnx:=zlv {K with busy:=false} now a l hs ha hL
 have hsd:=zgi {K with seq:=K.seq+1,busy:=true,first:=now,out:=⟨K.id,K.seq+1,a.kind,K.session,a.name⟩} now hrk hmr
 repeat'(first|(with_reducible first|refine zaa _ _ ?_|refine zad ?_|refine zae ?_)|rw[zaf]|simp only[hb,h3,zaz,zY,Int.reduceEq,Int.reduceBEq,Int.reduceBNe,Nat.reduceSub,Nat.reduceEqDiff,Nat.reduceAdd,Nat.reduceMul,Nat.reduceLeDiff,Nat.reduceLT,Nat.reduceBEq,reduceCtorEq]|((first|((try refine zah ?_);apply zak)|(apply zai;intro _));(solve|exact(zbz now h0)|exact(hnx)|(refine CallOK.le (zbz now h0) ?_;exact zM)|(refine CallOK.le (hnx) ?_;exact zM)|fail);try case hn=>rfl)|refine zab ?_|refine zac (fun hb=> ?_) (fun hb=> ?_)|(refine And.intro ?_ ?_;exact zI)|refine And.intro (fun hg=> ?_) (fun hg=> ?_)|exact zC|fail)
 refine zbl (mv:= ?mv4) (lent:= ?le4) 0 ?ha4 (hsd) ?hb4 ?hc4
 case ha4=>(try simp only[zB,zaC,zaz,Nat.reduceSub,Nat.reduceEqDiff,Nat.reduceAdd,Nat.reduceMul,Nat.reduceLeDiff,Nat.reduceLT,Nat.reduceBEq,reduceCtorEq]);exact rfl
 case hb4=>(try simp only[zB,scM,zaz,Nat.reduceSub,Nat.reduceEqDiff,Nat.reduceAdd,Nat.reduceMul,Nat.reduceLeDiff,Nat.reduceLT,Nat.reduceBEq,reduceCtorEq]);repeat'(first|rfl|trivial|omega|with_reducible refine And.intro ?_ ?_)
 show aops _ _ _ _ _ _ _ _
 repeat'(first|(with_reducible first|refine zaa _ _ ?_|refine zad ?_|refine zae ?_)|rw[zaf]|simp only[zY,Int.reduceEq,Int.reduceBEq,Int.reduceBNe,Nat.reduceSub,Nat.reduceEqDiff,Nat.reduceAdd,Nat.reduceMul,Nat.reduceLeDiff,Nat.reduceLT,Nat.reduceBEq,reduceCtorEq]|refine zab ?_|refine zac (fun hb=> ?_) (fun hb=> ?_)|(refine And.intro ?_ ?_;exact zI)|refine And.intro (fun hg=> ?_) (fun hg=> ?_)|exact zC|fail)
 exact⟨rfl,zan,zas⟩
theorem zlx (K:Cl) (now:Int) (h0:0≤now∧now≤2305843009213693952) (hs:(K.session==0)=false) (ha:K.asks=[]) (hb:K.busy=false) (hq:0≤K.seq∧K.seq<2^60) (hid:0≤K.id∧K.id<8)
  (hl:0≤K.last∧K.last≤2305843009213693952) (hm:mayP 2 K.session .empty=true):
  CallOK Tryz.prog 13 [.obj K.ro, .f (ai now)] (fun r o=>
   r=(if keepB K now=true then [.one (.own 2 1 (sendsC (goQ K now 2 K.session .empty)) false)]else [.one (.d (.v (.slice none 0 0)))])∧o=[(if keepB K now=true then goQ K now 2 K.session .empty else K).ro]):=by
 refine CallOK.leR ?_
 refine zal zat mixed (T:=Ty) (n:=82) Tryz.func13 (c:=Tryz.f13.body.getD .skip) rfl Tryz.results13 Tryz.ntmps13 Tryz.call13 ?_
 simp only[Tryz.f13,Option.getD]
 have h3:IntKind.i64.wrap (K.seq+1)=K.seq+1:=wrap64 (by omega) (by omega)
 obtain⟨hmr,hrk⟩:=zna K 2 K.session .empty hq hid hm
 have hnx:=zlw {K with busy:=false} now hs ha h0 hl
 have hkb:keepB {K with busy:=false} now=keepB K now:=rfl
 rw[hkb]at hnx
 cases hd:keepB K now
 ·rw[if_neg (by simp),if_neg (by simp)]
  rw[hd]at hnx
  repeat'(first|(with_reducible first|refine zaa _ _ ?_|refine zad ?_|refine zae ?_)|rw[zaf]|simp only[hb,zaz,zY,Int.reduceEq,Int.reduceBEq,Int.reduceBNe,Nat.reduceSub,Nat.reduceEqDiff,Nat.reduceAdd,Nat.reduceMul,Nat.reduceLeDiff,Nat.reduceLT,Nat.reduceBEq,reduceCtorEq]|((first|((try refine zah ?_);apply zak)|(apply zai;intro _));(solve|exact(zbz now h0)|exact(hnx)|(refine CallOK.le (zbz now h0) ?_;exact zM)|(refine CallOK.le (hnx) ?_;exact zM)|fail);try case hn=>rfl)|refine zab ?_|refine zac (fun hb=> ?_) (fun hb=> ?_)|(refine And.intro ?_ ?_;exact zI)|refine And.intro (fun hg=> ?_) (fun hg=> ?_)|exact zC|fail)
  refine⟨zan, ?_⟩
  simp[objsB,rosB,roB,hb]
 ·rw[if_pos rfl,if_pos rfl]
  rw[hd]at hnx
  have hsd:=zgi {K with seq:=K.seq+1,busy:=true,first:=now,out:=⟨K.id,K.seq+1,2,K.session, .empty⟩} now hrk hmr
  repeat'(first|(with_reducible first|refine zaa _ _ ?_|refine zad ?_|refine zae ?_)|rw[zaf]|simp only[hb,h3,zaz,zY,Int.reduceEq,Int.reduceBEq,Int.reduceBNe,Nat.reduceSub,Nat.reduceEqDiff,Nat.reduceAdd,Nat.reduceMul,Nat.reduceLeDiff,Nat.reduceLT,Nat.reduceBEq,reduceCtorEq]|((first|((try refine zah ?_);apply zak)|(apply zai;intro _));(solve|exact(zbz now h0)|exact(hnx)|(refine CallOK.le (zbz now h0) ?_;exact zM)|(refine CallOK.le (hnx) ?_;exact zM)|fail);try case hn=>rfl)|refine zab ?_|refine zac (fun hb=> ?_) (fun hb=> ?_)|(refine And.intro ?_ ?_;exact zI)|refine And.intro (fun hg=> ?_) (fun hg=> ?_)|exact zC|fail)
  refine zbl (mv:= ?mv5) (lent:= ?le5) 0 ?ha5 (hsd) ?hb5 ?hc5
  case ha5=>(try simp only[zB,zaC,zaz,Nat.reduceSub,Nat.reduceEqDiff,Nat.reduceAdd,Nat.reduceMul,Nat.reduceLeDiff,Nat.reduceLT,Nat.reduceBEq,reduceCtorEq]);exact rfl
  case hb5=>(try simp only[zB,scM,zaz,Nat.reduceSub,Nat.reduceEqDiff,Nat.reduceAdd,Nat.reduceMul,Nat.reduceLeDiff,Nat.reduceLT,Nat.reduceBEq,reduceCtorEq]);repeat'(first|rfl|trivial|omega|with_reducible refine And.intro ?_ ?_)
  show aops _ _ _ _ _ _ _ _
  repeat'(first|(with_reducible first|refine zaa _ _ ?_|refine zad ?_|refine zae ?_)|rw[zaf]|simp only[zY,Int.reduceEq,Int.reduceBEq,Int.reduceBNe,Nat.reduceSub,Nat.reduceEqDiff,Nat.reduceAdd,Nat.reduceMul,Nat.reduceLeDiff,Nat.reduceLT,Nat.reduceBEq,reduceCtorEq]|refine zab ?_|refine zac (fun hb=> ?_) (fun hb=> ?_)|(refine And.intro ?_ ?_;exact zI)|refine And.intro (fun hg=> ?_) (fun hg=> ?_)|exact zC|fail)
  exact⟨rfl,zan,zas⟩
end Go.Proofs.YtiegkabcgokhkaaGreat
