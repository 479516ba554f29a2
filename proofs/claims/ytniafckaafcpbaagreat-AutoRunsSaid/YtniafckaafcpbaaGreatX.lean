import Derived.Test.YtniafckaafcpbaaGreatW
import Derived.Test.YtniafckaafcpbaaGreatS
namespace Go.Proofs.YtniafckaafcpbaaGreat
open Go.Pk
set_option maxRecDepth 100000
set_option linter.unusedSimpArgs false
set_option linter.unusedVariables false
def byteI (n:Int):Prop:=0≤n∧n<256
theorem zcr {n:Int} (h:byteI n):IntKind.i64.wrap n=n:=by have:=h;unfold byteI at this;exact wrap64 (by omega) (by omega)
theorem zbO {n:Int} (h:0≤n) (k:Int):n.tmod k=n % k:=Int.tmod_eq_emod_of_nonneg h
def names4:List ByteArray:=[⟨#[97]⟩,⟨#[98]⟩,⟨#[99]⟩,⟨#[100]⟩,⟨#[107,101,121,45,49]⟩,⟨#[116,104,101,45,108,97,115,116,45,111,110,101]⟩]
def namedP (n:Int):ByteArray:=(names4[(n % 6).toNat]?).getD .empty
theorem six (n:Int):n % 6=0∨n % 6=1∨n % 6=2∨n % 6=3∨n % 6=4∨n % 6=5:=by omega
theorem zkT (n:Int) (hn:byteI n):CallOK Tryz.prog 99 [.f (au n)] (fun r o=>r=[.one (.d (sD (namedP n)))]∧o=[]):=by
 refine zak zay mixed (T:=Ty) (n:=9) Tryz.func99 (c:=Tryz.f99.body.getD .skip) rfl Tryz.results99 Tryz.ntmps99 Tryz.call99 ?_
 simp only[Tryz.f99,Option.getD]
 have hw:=zcr hn
 have ht:=zbO hn.1 6
 unfold namedP
 rcases six n with h|h|h|h|h|h
 all_goals
  rw[h]at ht⊢
  repeat'(first|(with_reducible first|refine zaa _ _ ?_|refine zae ?_|refine zaf ?_)|rw[zad]|simp only[hw,ht,Int.reduceToNat,List.drop_succ_cons,List.drop_zero,zY,Int.reduceEq,Int.reduceBEq,Int.reduceBNe,Nat.reduceSub,Nat.reduceEqDiff,Nat.reduceAdd,Nat.reduceMul,Nat.reduceLeDiff,Nat.reduceLT,Nat.reduceBEq,reduceCtorEq]|refine zab ?_|refine zac (fun hb=> ?_) (fun hb=> ?_)|(refine And.intro ?_ ?_;exact zI)|refine And.intro (fun hg=> ?_) (fun hg=> ?_)|exact zC|fail)
  rfl
def kindP (a:Int):Int:=1+a % 6
def sessP (a b:Int):Int:=if kindP a=1 then 0 else 1+b % 7
def cmdNm (a c:Int):ByteArray:=if(kindP a==3||kindP a==4||kindP a==5)=true then namedP c else .empty
theorem znC (a b c:Int) (ha:byteI a) (hb:byteI b) (hc:byteI c):CallOK Tryz.prog 59 [.f (au a), .f (au b), .f (au c)] (fun r o=>r=[.agg [.d (iD (kindP a)), .d (iD (sessP a b)), .d (sD (cmdNm a c))]]∧o=[]):=by
 refine zak zay mixed (T:=Ty) (n:=30) Tryz.func59 (c:=Tryz.f59.body.getD .skip) rfl Tryz.results59 Tryz.ntmps59 Tryz.call59 ?_
 simp only[Tryz.f59,Option.getD]
 have hnm:=zkT c hc
 have hwa:=zcr ha
 have hwb:=zcr hb
 have hta:=zbO ha.1 6
 have htb:=zbO hb.1 7
 have hws:IntKind.i64.wrap (1+b % 7)=1+b % 7:=wrap64 (by omega) (by omega)
 unfold cmdNm sessP kindP
 have w1:IntKind.i64.wrap 1=1:=rfl
 have w2:IntKind.i64.wrap 2=2:=rfl
 have w3:IntKind.i64.wrap 3=3:=rfl
 have w4:IntKind.i64.wrap 4=4:=rfl
 have w5:IntKind.i64.wrap 5=5:=rfl
 have w6:IntKind.i64.wrap 6=6:=rfl
 rcases six a with h|h|h|h|h|h
 all_goals
  rw[h]at hta⊢
  repeat'(first|(with_reducible first|refine zaa _ _ ?_|refine zae ?_|refine zaf ?_)|rw[zad]|simp only[hwa,hwb,hta,htb,hws,w1,w2,w3,w4,w5,w6,Int.reduceAdd,Int.reduceEq,Int.reduceBEq,zY,Int.reduceEq,Int.reduceBEq,Int.reduceBNe,Nat.reduceSub,Nat.reduceEqDiff,Nat.reduceAdd,Nat.reduceMul,Nat.reduceLeDiff,Nat.reduceLT,Nat.reduceBEq,reduceCtorEq]|((first|((try refine zai ?_);apply zaj)|(apply zah;intro _));(solve|exact(hnm)|(refine CallOK.le (hnm) ?_;exact zM)|fail);try case hn=>rfl)|refine zab ?_|refine zac (fun hb=> ?_) (fun hb=> ?_)|(refine And.intro ?_ ?_;exact zI)|refine And.intro (fun hg=> ?_) (fun hg=> ?_)|exact zC|fail)
structure Act where
 time:Int
 client:Int
 seq:Int
 kind:Int
 session:Int
 name:Int
abbrev Act.enc (a:Act):List D:=[uD a.time,uD a.client,uD a.seq,uD a.kind,uD a.session,uD a.name]
abbrev actsE (l:List Act):List D:=l.flatMap Act.enc
def actOk (a:Act):Prop:=byteI a.time∧byteI a.client∧byteI a.seq∧byteI a.kind∧byteI a.session∧byteI a.name
theorem znD {l:List Act} {i:Nat} (hi:i<l.length):(actsE l).drop (i*6)=l[i].enc++(actsE (l.drop (i+1))):=zb8 _ 6 l i hi fun _=>rfl
theorem zmd {l:List Act}:(actsE l).length=l.length*6:=zbD _ 6 (fun _=>rfl) l
def reqN (c q k s n:Int):Req:=⟨c % 8,1+q,kindP k,sessP k s,cmdNm k n⟩
theorem znE (c q k s n:Int) (h1:byteI c) (h2:byteI q) (h3:byteI k) (h4:byteI s) (h5:byteI n):CallOK Tryz.prog 31 [.f (au c), .f (au q), .f (au k), .f (au s), .f (au n)] (fun r o=>r=[.agg ((reqN c q k s n).enc.map RO.d)]∧o=[]):=by
 refine zak zay mixed (T:=Ty) (n:=22) Tryz.func31 (c:=Tryz.f31.body.getD .skip) rfl Tryz.results31 Tryz.ntmps31 Tryz.call31 ?_
 simp only[Tryz.f31,Option.getD]
 have hcm:=znC k s n h3 h4 h5
 have hwc:=zcr h1
 have hwq:=zcr h2
 have htc:=zbO h1.1 8
 have hq1:IntKind.i64.wrap (1+q)=1+q:=by unfold byteI at h2;exact wrap64 (by omega) (by omega)
 repeat'(first|(with_reducible first|refine zaa _ _ ?_|refine zae ?_|refine zaf ?_)|rw[zad]|simp only[hwc,hwq,htc,hq1,zY,Int.reduceEq,Int.reduceBEq,Int.reduceBNe,Nat.reduceSub,Nat.reduceEqDiff,Nat.reduceAdd,Nat.reduceMul,Nat.reduceLeDiff,Nat.reduceLT,Nat.reduceBEq,reduceCtorEq]|((first|((try refine zai ?_);apply zaj)|(apply zah;intro _));(solve|exact(hcm)|(refine CallOK.le (hcm) ?_;exact zM)|fail);try case hn=>rfl)|refine zab ?_|refine zac (fun hb=> ?_) (fun hb=> ?_)|(refine And.intro ?_ ?_;exact zI)|refine And.intro (fun hg=> ?_) (fun hg=> ?_)|exact zC|fail)
 rfl
theorem zgk (l:List Memo) (hl:l.length<2^62) (c:Int):CallOK Tryz.prog 27 [.f (al l.length (memosE l)), .f (ai c)]
  (fun r o=>r=[.agg (((findM l c).getD noMemo).enc.map RO.d),rb (findM l c).isSome]∧o=[]):=by
 refine CallOK.nil ?_
 refine zak zay mixed (T:=Ty) (n:=25) Tryz.func27 (c:=Tryz.f27.body.getD .skip) rfl Tryz.results27 Tryz.ntmps27 Tryz.call27 ?_
 simp only[Tryz.f27,Option.getD]
 repeat'(first|(with_reducible first|refine zaa _ _ ?_|refine zae ?_|refine zaf ?_)|rw[zad]|simp only[zY,Int.reduceEq,Int.reduceBEq,Int.reduceBNe,Nat.reduceSub,Nat.reduceEqDiff,Nat.reduceAdd,Nat.reduceMul,Nat.reduceLeDiff,Nat.reduceLT,Nat.reduceBEq,reduceCtorEq]|refine zab ?_|refine zac (fun hb=> ?_) (fun hb=> ?_)|(refine And.intro ?_ ?_;exact zI)|refine And.intro (fun hg=> ?_) (fun hg=> ?_)|exact zC|fail)
 refine zav (τ:=Nat) (fun i=>⟨[al l.length (memosE l),ai c,dd,dd, .one (.ptr ⟨4,0,1⟩ 0),dd,ai i,dd,dd,dd,dd,dd,dd,dd,dd,dd,dd,dd,dd,dd,dd,dd,dd,dd,dd],[(4,{next:=2,l:=[some {e:=1,var:=true,fz:=false,sz:=0,cells:=[di 0,di 0,di 0,di 0,di 0, .d (.v (.slice none 0 0))]},none,none,none,none,none,none]})]⟩)
  (fun i=>i≤l.length) (fun i=>findM (l.drop i) c) (fun i=>l.length - i) 0
  (Gh.canon [4] [] [] zK rfl rfl) (Nat.zero_le _) ?_
 intro i hi0 hF K hK
 rw[List.drop_zero]at hF
 repeat(first|with_reducible refine zaa _ _ ?_|with_reducible refine And.imp_right (zaa _ _) ?_|with_reducible refine And.imp_right (And.imp_right (zaa _ _)) ?_|with_reducible refine And.imp_right (And.imp_right (And.imp_right (zaa _ _))) ?_|rw[zad]|simp only[zB,Nat.reduceSub,Nat.reduceEqDiff,Nat.reduceAdd,Nat.reduceMul,Nat.reduceLeDiff,Nat.reduceLT,Nat.reduceBEq,reduceCtorEq])
 refine zac (fun hlt=> ?_) (fun hge=> ?_)
 ·have hi:i<l.length:=by simpa using hlt
  have hat:=zbj hi
  have hw:=zau hi hl
  have hq:findM (l.drop i) c=if(l[i].client==c)=true then some l[i]else findM (l.drop (i+1)) c:=by
   unfold findM
   rw[List.drop_eq_getElem_cons hi,List.find?_cons]
   cases l[i].client==c<;>rfl
  rw[hq]at hF
  repeat'(first|(with_reducible first|refine zaa _ _ ?_|refine zae ?_|refine zaf ?_)|rw[zad]|simp only[hat,List.cons_append,List.nil_append,zaE,zY,Int.reduceEq,Int.reduceBEq,Int.reduceBNe,Nat.reduceSub,Nat.reduceEqDiff,Nat.reduceAdd,Nat.reduceMul,Nat.reduceLeDiff,Nat.reduceLT,Nat.reduceBEq,reduceCtorEq]|refine zab ?_|refine zac (fun hb=> ?_) (fun hb=> ?_)|(refine And.intro ?_ ?_;exact zI)|refine And.intro (fun hg=> ?_) (fun hg=> ?_)|exact zC|fail)
  ·rw[if_pos hb]at hF
   rw[←hF]
   simp[rfsLe,rfLe,rosLe,roLe]
  ·rw[if_neg (by rw[hb];simp)]at hq
   exact hK _ (i+1) (Gh.canon [4] [] [] (by simp only[hw,zan,zaA,zao,zar,zas,zat,List.set_cons_zero,List.set_cons_succ,and_true,true_and,Int.natCast_zero,Int.cast_ofNat_Int,D.v.injEq,Value.int.injEq];try(repeat'(first|rfl|omega|with_reducible apply And.intro))) rfl rfl) hi hq.symm (by omega)
 ·have hi:i=l.length:=by
   have:¬(i:Int)<l.length:=by simpa using hge
   omega
  rw[hi,List.drop_length]at hF
  have hF:none=findM l c:=hF
  rw[←hF]
  repeat'(first|(with_reducible first|refine zaa _ _ ?_|refine zae ?_|refine zaf ?_)|rw[zad]|simp only[zY,Int.reduceEq,Int.reduceBEq,Int.reduceBNe,Nat.reduceSub,Nat.reduceEqDiff,Nat.reduceAdd,Nat.reduceMul,Nat.reduceLeDiff,Nat.reduceLT,Nat.reduceBEq,reduceCtorEq]|refine zab ?_|refine zac (fun hb=> ?_) (fun hb=> ?_)|(refine And.intro ?_ ?_;exact zI)|refine And.intro (fun hg=> ?_) (fun hg=> ?_)|exact zC|fail)
  simp[rfsLe,rfLe,rosLe,roLe,noMemo]
def reqA (s:St) (a:Act):Req:=
 let r:=reqN a.client (a.seq % 6) a.kind a.session a.name
 let b1:=(findS s.sess r.client).isSome&&decide (a.session % 8>0)&&(r.kind !=1)
 let b2:= !(findS s.sess r.client).isSome&&decide (a.session % 4>0)
 ⟨r.client,if decide (a.seq % 5>0)=true then(if(findM s.memos r.client).isSome=true then((findM s.memos r.client).getD noMemo).seq+1 else 1)else r.seq,
  if b2=true then 1 else r.kind,if b2=true then 0 else if b1=true then((findS s.sess r.client).getD noSess).num else r.session,if b2=true then .empty else r.name⟩
set_option maxHeartbeats 4000000 in
theorem zjt (s:St) (h:Small s) (hr:RightS s) (a:Act) (ha:actOk a):CallOK Tryz.prog 15 [.f (.agg s.lent), .f (.agg (a.enc.map C.d))] (fun r o=>r=[.agg ((reqA s a).enc.map RO.d)]∧o=[]):=by
 refine zak zay mixed (T:=Ty) (n:=76) Tryz.func15 (c:=Tryz.f15.body.getD .skip) rfl Tryz.results15 Tryz.ntmps15 Tryz.call15 ?_
 simp only[Tryz.f15,Option.getD]
 obtain⟨_,h1,h2,h3,h4,h5⟩:=ha
 have hrq:=znE a.client (a.seq % 6) a.kind a.session a.name h1 (by unfold byteI;omega) h3 h4 h5
 generalize hN:reqN a.client (a.seq % 6) a.kind a.session a.name=r at*
 have hla:=zgk s.memos (by have:=h.memos;omega) r.client
 have hfi:=zcc s.sess (by have:=h.sess;omega) r.client
 have ht6:=zbO h2.1 6
 have ht5:=zbO h2.1 5
 have ht8:=zbO h4.1 8
 have ht4:=zbO h4.1 4
 have hwm:IntKind.i64.wrap (((findM s.memos r.client).getD noMemo).seq+1)=((findM s.memos r.client).getD noMemo).seq+1:=by
  have hb:0≤((findM s.memos r.client).getD noMemo).seq∧((findM s.memos r.client).getD noMemo).seq≤High:=by
   cases hf:findM s.memos r.client with
   |none=>decide
   |some m=>
    have:=(zbP (hr.mok m (List.mem_of_find?_eq_some hf))).2.1
    simp only[Option.getD_some];omega
  have hH:High=2305843009213693952:=rfl
  exact wrap64 (by omega) (by omega)
 have hR:reqA s a=⟨r.client,if decide (a.seq % 5>0)=true then(if(findM s.memos r.client).isSome=true then((findM s.memos r.client).getD noMemo).seq+1 else 1)else r.seq,
  if(!(findS s.sess r.client).isSome&&decide (a.session % 4>0))=true then 1 else r.kind,if(!(findS s.sess r.client).isSome&&decide (a.session % 4>0))=true then 0 else if((findS s.sess r.client).isSome&&decide (a.session % 8>0)&&(r.kind !=1))=true then((findS s.sess r.client).getD noSess).num else r.session,
  if(!(findS s.sess r.client).isSome&&decide (a.session % 4>0))=true then .empty else r.name⟩:=by unfold reqA;rw[hN]
 generalize reqA s a=R at hR⊢
 repeat'(first|(with_reducible first|refine zaa _ _ ?_|refine zae ?_|refine zaf ?_)|rw[zad]|simp only[ht6,ht5,ht8,ht4,hwm,zY,Int.reduceEq,Int.reduceBEq,Int.reduceBNe,Nat.reduceSub,Nat.reduceEqDiff,Nat.reduceAdd,Nat.reduceMul,Nat.reduceLeDiff,Nat.reduceLT,Nat.reduceBEq,reduceCtorEq]|((first|((try refine zai ?_);apply zaj)|(apply zah;intro _));(solve|exact(hrq)|exact(hla)|exact(hfi)|(refine CallOK.le (hrq) ?_;exact zM)|(refine CallOK.le (hla) ?_;exact zM)|(refine CallOK.le (hfi) ?_;exact zM)|fail);try case hn=>rfl)|refine zab ?_|refine zac (fun hb=> ?_) (fun hb=> ?_)|(refine And.intro ?_ ?_;exact zI)|refine And.intro (fun hg=> ?_) (fun hg=> ?_)|exact zC|fail)
 all_goals clear hrq hla hfi ht6 ht5 ht8 ht4 hwm hN h hr h1 h2 h3 h4 h5
 all_goals subst hR
 all_goals simp only[*,if_true,Bool.false_eq_true,if_false]
end Go.Proofs.YtniafckaafcpbaaGreat
