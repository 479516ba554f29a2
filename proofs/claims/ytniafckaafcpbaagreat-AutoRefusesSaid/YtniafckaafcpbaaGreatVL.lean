import Derived.Test.YtniafckaafcpbaaGreatVJ
namespace Go.Proofs.YtniafckaafcpbaaGreat
open Go.Pk
set_option maxRecDepth 100000
set_option linter.unusedSimpArgs false
set_option linter.unusedVariables false
theorem zmq {l:List Memo} {a m:Memo} (h:m∈keepP l a):m∈l∨m=a:=by
 unfold keepP at h
 split at h
 ·exact .inl h
 ·split at h
  ·exact List.mem_or_eq_of_mem_set h
  ·rcases List.mem_append.1 h with h|h
   ·exact .inl (List.mem_of_mem_take h)
   ·rcases List.mem_cons.1 h with h|h
    ·exact .inr h
    ·exact .inl (List.mem_of_mem_drop h)
def SqB (s:St) (i:Nat):Prop:=∀m∈s.memos,m.seq≤6+i
theorem zmr {s:St} {i:Nat} (h:SqB s i) {q:Req} (hq:q.seq≤6+i+1) (hsm:Small s):SqB (applyP s q).1 (i+1):=by
 intro m hm
 have hin:∀m∈s.memos,m.seq≤6+((i+1:Nat):Int):=fun m hm=>by have:=h m hm;omega
 unfold applyP at hm
 split at hm
 ·exact hin m hm
 ·split at hm
  ·exact hin m hm
  ·split at hm
   ·exact hin m hm
   ·rcases zmq hm with h1|h1
    ·rw[zd2 hsm q]at h1
     exact hin m h1
    ·rw[h1];simp only;omega
theorem znZ {s:St} {i:Nat} (h:SqB s i) (a:Act):(reqA s a).seq≤6+i+1:=by
 unfold reqA
 simp only
 split
 ·split
  ·rename_i hs
   obtain⟨m,hm⟩:=Option.isSome_iff_exists.1 hs
   rw[hm]
   have:=h m (List.mem_of_find?_eq_some hm)
   simp only[Option.getD_some];omega
  ·omega
 ·unfold reqN;simp only;omega
theorem zlh:∀{l:List Act} {s:St} {i:Nat},Mk s i→SqB s i→i+l.length≤1000→SqB (madeP l s) (i+l.length)
 |[],_,_,_,h,_=>h
 |a::l,s,i,hk,h,hi=>by
  simp only[List.length_cons]at hi⊢
  have hH:High=2305843009213693952:=rfl
  obtain⟨h1,h2,h3⟩:=hk
  obtain⟨r1,r2,r3,r4,r5⟩:=zbR h1 (s.time+a.time % 16) 60 (by omega)
  have h0:SqB (advanceP s (s.time+a.time % 16) 60) i:=h
  have:=zlh (l:=l) (zio ⟨h1,h2,h3⟩ (by omega) a) (zmr h0 (znZ h0 a) (zaZ r1)) (by omega)
  rwa[show i+1+l.length=i+(l.length+1) by omega]at this
theorem zms (acts:List Act):SqB (madeS acts) 60:=by
 have h:=zlh (l:=acts.take 60) (s:=st0) (i:=0) ⟨zb8,by decide,by decide⟩ (fun m hm=>by cases hm) (by simp;omega)
 have hl:(acts.take 60).length≤60:=by simp;omega
 intro m hm
 have:=h m hm
 omega
theorem zli (n:Int):nameP (namedP n)=true:=by
 unfold namedP
 rcases six n with h|h|h|h|h|h<;>rw[h]<;>decide
theorem zf0 {s:St} {q:Req} (hm:Req.may q=true) (hq:((findM s.memos q.client).getD noMemo).seq<q.seq):
  applyP s q=({(doneP s q).1 with memos:=keepP (doneP s q).1.memos ⟨q.client,q.seq,(doneP s q).2⟩},(doneP s q).2,true):=by
 have hf:freshP s.memos q.client q.seq=1:=by
  unfold freshP
  cases h:findM s.memos q.client with
  |none=>rfl
  |some m=>rw[h]at hq;simp only[Option.getD_some]at hq⊢;rw[if_pos hq]
 unfold applyP
 rw[if_neg (by rw[hm];simp),if_neg (by rw[hf];decide),if_neg (by rw[hf];decide)]
theorem zlj {s:St} {q:Req} (hk:(q.kind==1)=false) (h:((findS s.sess q.client).getD noSess).num<q.session):doneP s q=(s,⟨9,0,0,[]⟩):=by
 unfold doneP
 rw[if_neg (by rw[hk];simp)]
 cases hf:findS s.sess q.client with
 |none=>rfl
 |some x=>
  rw[hf]at h
  simp only[Option.getD_some]at h⊢
  rw[if_pos (by simp;omega)]
theorem zlk {s:St} {q:Req} (hk:(q.kind==1)=true):doneP s q=openedP s q.client:=by
 unfold doneP
 rw[if_pos hk]
theorem zim {s:St} {c:Int} {x:Sess} (h:findS s.sess c=some x):openedP s c=(s,⟨7,x.num,0,heldP s.locks c⟩):=by
 unfold openedP;rw[h]
theorem zin {s:St} (hr:RightS s) {c:Int} (hc:isClient c=true) (hN:s.num+1≤High) (h:findS s.sess c=none) (h5:s.sess.length≥5):openedP s c=(s,⟨5,0,0,[]⟩):=by
 unfold openedP
 rw[h]
 simp only
 rw[zev hr hc hN h,if_pos h5,if_pos (by simp)]
theorem zjL {s:St} (hr:RightS s) {c:Int} (hc:isClient c=true) (hN:s.num+1≤High) (h:findS s.sess c=none) (h5:¬s.sess.length≥5):
  openedP s c=({s with sess:=s.sess.take (posS s.sess c)++⟨c,s.num+1,s.time⟩::s.sess.drop (posS s.sess c),num:=s.num+1},⟨0,s.num+1,0,heldP s.locks c⟩):=by
 unfold openedP
 rw[h]
 simp only
 rw[zev hr hc hN h,if_neg h5,if_neg (by simp)]
theorem zn0 {l:List Sess} {x:Sess} {i:Nat}:(l.take i++x::l.drop i).length=l.length+1:=by
 simp only[List.length_append,List.length_cons,List.length_take,List.length_drop];omega
set_option maxHeartbeats 8000000 in
theorem zfn (acts:List Act) (hl:acts.length<2^60) (ha:∀a∈acts,actOk a) (c n k:Int) (hc:byteI c) (hn:byteI n) (hk:byteI k):
  CallOK Tryz.prog 7 [.f (al acts.length (actsE acts)), .f (au c), .f (au n), .f (au k)] (fun r o=>r=[rb true]∧o=[]):=by
 refine zak zay mixed (T:=Ty) (n:=233) Tryz.func7 (c:=Tryz.f7.body.getD .skip) rfl Tryz.results7 Tryz.ntmps7 Tryz.call7 ?_
 simp only[Tryz.f7,Option.getD]
 have haw:=zmv
 have hH:High=2305843009213693952:=rfl
 have hmk:=zmu acts
 have hmq:=zms acts
 have hmd:=zn2 acts hl ha
 generalize madeS acts=s at*
 obtain⟨hr,hN,hT⟩:=hmk
 have hsm:=zaZ hr
 have hcl:isClient (c % 8)=true:=zbt.2 (by omega)
 have hwc:=zbz hc
 have hwn:=zbz hn
 have hwk:=zbz hk
 have htc:=zbA hc.1 8
 have htk:=zbA hk.1 5
 have hfs:=zcf s.sess (by have:=hsm.sess;omega) (c % 8)
 have hls:=zet s.memos (by have:=hsm.memos;omega) (c % 8)
 have hrq:=zkW c 0 (1+k % 5) n n hc (by unfold byteI;omega) (by unfold byteI at*;omega) hn hn
 have hq0:0≤((findM s.memos (c % 8)).getD noMemo).seq∧((findM s.memos (c % 8)).getD noMemo).seq≤66:=by
  cases hf:findM s.memos (c % 8)with
  |none=>decide
  |some m=>
   have:=(zbB (hr.mok m (List.mem_of_find?_eq_some hf))).2.1
   have:=hmq m (List.mem_of_find?_eq_some hf)
   simp only[Option.getD_some];omega
 have hx0:0≤((findS s.sess (c % 8)).getD noSess).num∧((findS s.sess (c % 8)).getD noSess).num≤60:=by
  cases hf:findS s.sess (c % 8)with
  |none=>decide
  |some m=>
   have:=(zbm.1 (hr.sok m (List.mem_of_find?_eq_some hf)).1).2.1
   have:=(hr.sok m (List.mem_of_find?_eq_some hf)).2
   simp only[Option.getD_some];omega
 generalize hM:(findM s.memos (c % 8)).getD noMemo=M at*
 generalize hX:(findS s.sess (c % 8)).getD noSess=X at*
 have hq1:IntKind.i64.wrap (M.seq+1)=M.seq+1:=wrap64 (by omega) (by omega)
 have hx1:IntKind.i64.wrap (X.num+1)=X.num+1:=wrap64 (by omega) (by omega)
 have hx2:IntKind.i64.wrap (X.num+1+n)=X.num+1+n:=by unfold byteI at hn;exact wrap64 (by omega) (by omega)
 have hn1:IntKind.i64.wrap (s.num+1)=s.num+1:=wrap64 (by have:=hr.num;omega) (by omega)
 have hk1:IntKind.i64.wrap (7+k)=7+k:=by unfold byteI at hk;exact wrap64 (by omega) (by omega)
 have hk2:IntKind.u8.wrap (k % 5)=k % 5:=by unfold IntKind.wrap;simp[IntKind.signed,IntKind.bits];omega
 have hk3:IntKind.u8.wrap (1+k % 5)=1+k % 5:=by unfold IntKind.wrap;simp[IntKind.signed,IntKind.bits];omega
 have h00:(((0:Nat):Int) !=0)=false:=rfl
 -- what may not be
 have hm1:Req.may ⟨c % 8,M.seq+1,7+k,0, .empty⟩=false:=by
  unfold Req.may mayP
  rw[if_pos (by unfold byteI at hk;simp;omega)]
  simp
 have hU1:applyP s ⟨c % 8,M.seq+1,7+k,0, .empty⟩=(s,⟨1,0,0,[]⟩,false):=by
  unfold applyP;rw[if_pos (by rw[hm1];rfl)]
 have ho1:(⟨c % 8,M.seq+1,7+k,0, .empty⟩:Req).ok:=by
  unfold byteI at hk
  refine⟨⟨by simp only;omega,by simp only;omega⟩,⟨by simp only;omega,by simp only;omega⟩,⟨by simp only;omega,by simp only;omega⟩,⟨by simp only;omega,by simp only;omega⟩,by simp only;decide⟩
 have hap1:=zeu s hsm hr _ ho1 (fun h=>by rw[hm1]at h;cases h)
 rw[hU1]at hap1
 -- a session that there is not
 have hkk:2≤kindP (1+k % 5)∧kindP (1+k % 5)≤6:=by unfold kindP;omega
 have hm2:Req.may ⟨c % 8,M.seq+1,kindP (1+k % 5),X.num+1+n,cmdNm (1+k % 5) n⟩=true:=by
  unfold byteI at hn
  unfold Req.may mayP
  simp only
  rw[if_neg (by simp;omega),if_neg,if_neg (by simp;omega)]
  ·simp;omega
  ·unfold cmdNm
   cases h:(kindP (1+k % 5)==3||kindP (1+k % 5)==4||kindP (1+k % 5)==5)
   ·simp
   ·rw[if_pos rfl,zli];simp
 have hU2:applyP s ⟨c % 8,M.seq+1,kindP (1+k % 5),X.num+1+n,cmdNm (1+k % 5) n⟩=({s with memos:=keepP s.memos ⟨c % 8,M.seq+1,⟨9,0,0,[]⟩⟩},⟨9,0,0,[]⟩,true):=by
  rw[zf0 hm2 (by simp only;rw[hM];omega),zlj (by simp;omega) (by simp only;rw[hX];unfold byteI at hn;omega)]
 have ho2:(⟨c % 8,M.seq+1,kindP (1+k % 5),X.num+1+n,cmdNm (1+k % 5) n⟩:Req).ok:=by
  unfold byteI at hn
  refine⟨⟨by simp only;omega,by simp only;omega⟩,⟨by simp only;omega,by simp only;omega⟩,⟨by simp only;omega,by simp only;omega⟩,⟨by simp only;omega,by simp only;omega⟩, ?_⟩
  simp only
  unfold cmdNm
  split
  ·have:=zf1 n;omega
  ·decide
 have hap2:=zeu s hsm hr _ ho2 (fun h=>zdd hr h (by omega) (by omega))
 rw[hU2]at hap2
 -- Open
 have hm3:Req.may ⟨c % 8,M.seq+1,1,0, .empty⟩=true:=by
  unfold Req.may mayP
  simp;omega
 have ho3:(⟨c % 8,M.seq+1,1,0, .empty⟩:Req).ok:=
  ⟨⟨by simp only;omega,by simp only;omega⟩,⟨by simp only;omega,by simp only;omega⟩,⟨by simp only;omega,by simp only;omega⟩,⟨by simp only;omega,by simp only;omega⟩,by simp only;decide⟩
 have hap3:=zeu s hsm hr _ ho3 (fun h=>zdd hr h (by omega) (by omega))
 rw[zf0 hm3 (by simp only;rw[hM];omega),zlk (q:=⟨c % 8,M.seq+1,1,0, .empty⟩) rfl]at hap3
 simp only at hap3
 have hsame:=zmt s hsm
 have hhd:=zi8 s.locks hsm.locks (c % 8)
 have hgl:(heldP s.locks (c % 8)).length<2^30:=by
  have:=List.length_filter_le (fun k:Lk=>k.holder==c % 8) s.locks
  have:=hsm.locks
  unfold heldP;rw[List.length_map];omega
 have hsg:=zfd _ hgl
 unfold reqN at hrq
 cases hf:findS s.sess (c % 8)with
 |some x=>
  rw[hf]at hX hfs
  rw[zim hf]at hap3
  simp only[Option.getD_some,Option.isSome_some]at hX hfs
  subst hX
  repeat'(first|(with_reducible first|refine zaa _ _ ?_|refine zae ?_|refine zaf ?_)|rw[zad]|simp only[hwc,hwn,hwk,htc,htk,hq1,hx1,hx2,hn1,hk1,hk2,hk3,h00,beq_self_eq_true,zY,Int.reduceEq,Int.reduceBEq,Int.reduceBNe,Nat.reduceSub,Nat.reduceEqDiff,Nat.reduceAdd,Nat.reduceMul,Nat.reduceLeDiff,Nat.reduceLT,Nat.reduceBEq,reduceCtorEq]|((first|((try refine zai ?_);apply zaj)|(apply zah;intro _));(solve|exact(hmd)|exact(hfs)|exact(hls)|exact(hap1)|exact(hap2)|exact(hap3)|exact(hrq)|exact(hsame)|exact(hhd)|exact(hsg)|exact(haw)|(refine CallOK.le (hmd) ?_;exact zM)|(refine CallOK.le (hfs) ?_;exact zM)|(refine CallOK.le (hls) ?_;exact zM)|(refine CallOK.le (hap1) ?_;exact zM)|(refine CallOK.le (hap2) ?_;exact zM)|(refine CallOK.le (hap3) ?_;exact zM)|(refine CallOK.le (hrq) ?_;exact zM)|(refine CallOK.le (hsame) ?_;exact zM)|(refine CallOK.le (hhd) ?_;exact zM)|(refine CallOK.le (hsg) ?_;exact zM)|(refine CallOK.le (haw) ?_;exact zM)|fail);try case hn=>rfl)|refine zab ?_|refine zac (fun hb=> ?_) (fun hb=> ?_)|(refine And.intro ?_ ?_;exact zI)|refine And.intro (fun hg=> ?_) (fun hg=> ?_)|exact zC|fail)
 |none=>
  rw[hf]at hX hfs
  simp only[Option.getD_none,Option.isSome_none]at hX hfs
  by_cases h5:s.sess.length≥5
  ·have h6:((s.sess.length:Int)==5)=true:=by have:=hr.sl;simp;omega
   rw[zin hr hcl (by omega) hf h5]at hap3
   repeat'(first|(with_reducible first|refine zaa _ _ ?_|refine zae ?_|refine zaf ?_)|rw[zad]|simp only[hwc,hwn,hwk,htc,htk,hq1,hx1,hx2,hn1,hk1,hk2,hk3,h00,h6,beq_self_eq_true,zY,Int.reduceEq,Int.reduceBEq,Int.reduceBNe,Nat.reduceSub,Nat.reduceEqDiff,Nat.reduceAdd,Nat.reduceMul,Nat.reduceLeDiff,Nat.reduceLT,Nat.reduceBEq,reduceCtorEq]|((first|((try refine zai ?_);apply zaj)|(apply zah;intro _));(solve|exact(hmd)|exact(hfs)|exact(hls)|exact(hap1)|exact(hap2)|exact(hap3)|exact(hrq)|exact(hsame)|exact(hhd)|exact(hsg)|exact(haw)|(refine CallOK.le (hmd) ?_;exact zM)|(refine CallOK.le (hfs) ?_;exact zM)|(refine CallOK.le (hls) ?_;exact zM)|(refine CallOK.le (hap1) ?_;exact zM)|(refine CallOK.le (hap2) ?_;exact zM)|(refine CallOK.le (hap3) ?_;exact zM)|(refine CallOK.le (hrq) ?_;exact zM)|(refine CallOK.le (hsame) ?_;exact zM)|(refine CallOK.le (hhd) ?_;exact zM)|(refine CallOK.le (hsg) ?_;exact zM)|(refine CallOK.le (haw) ?_;exact zM)|fail);try case hn=>rfl)|refine zab ?_|refine zac (fun hb=> ?_) (fun hb=> ?_)|(refine And.intro ?_ ?_;exact zI)|refine And.intro (fun hg=> ?_) (fun hg=> ?_)|exact zC|fail)
  ·rw[zjL hr hcl (by omega) hf h5]at hap3
   have h6:((s.sess.length:Int)==5)=false:=by simp;omega
   have hw7:IntKind.i64.wrap ((s.sess.length:Int)+1)=(s.sess.length:Int)+1:=wrap64 (by omega) (by omega)
   repeat'(first|(with_reducible first|refine zaa _ _ ?_|refine zae ?_|refine zaf ?_)|rw[zad]|simp only[hwc,hwn,hwk,htc,htk,hq1,hx1,hx2,hn1,hk1,hk2,hk3,h00,h6,beq_self_eq_true,zn0,Int.natCast_add,Int.natCast_one,hw7,zY,Int.reduceEq,Int.reduceBEq,Int.reduceBNe,Nat.reduceSub,Nat.reduceEqDiff,Nat.reduceAdd,Nat.reduceMul,Nat.reduceLeDiff,Nat.reduceLT,Nat.reduceBEq,reduceCtorEq]|((first|((try refine zai ?_);apply zaj)|(apply zah;intro _));(solve|exact(hmd)|exact(hfs)|exact(hls)|exact(hap1)|exact(hap2)|exact(hap3)|exact(hrq)|exact(hsame)|exact(hhd)|exact(hsg)|exact(haw)|(refine CallOK.le (hmd) ?_;exact zM)|(refine CallOK.le (hfs) ?_;exact zM)|(refine CallOK.le (hls) ?_;exact zM)|(refine CallOK.le (hap1) ?_;exact zM)|(refine CallOK.le (hap2) ?_;exact zM)|(refine CallOK.le (hap3) ?_;exact zM)|(refine CallOK.le (hrq) ?_;exact zM)|(refine CallOK.le (hsame) ?_;exact zM)|(refine CallOK.le (hhd) ?_;exact zM)|(refine CallOK.le (hsg) ?_;exact zM)|(refine CallOK.le (haw) ?_;exact zM)|fail);try case hn=>rfl)|refine zab ?_|refine zac (fun hb=> ?_) (fun hb=> ?_)|(refine And.intro ?_ ?_;exact zI)|refine And.intro (fun hg=> ?_) (fun hg=> ?_)|exact zC|fail)
end Go.Proofs.YtniafckaafcpbaaGreat
