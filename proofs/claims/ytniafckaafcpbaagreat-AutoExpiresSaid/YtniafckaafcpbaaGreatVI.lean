import Derived.Test.YtniafckaafcpbaaGreatVH
import Derived.Test.YtniafckaafcpbaaGreatY
namespace Go.Proofs.YtniafckaafcpbaaGreat
open Go.Pk
set_option maxRecDepth 100000
set_option linter.unusedSimpArgs false
set_option linter.unusedVariables false
theorem zjP (n:Int):(namedP n).size≤12:=by
 unfold namedP
 rcases six n with h|h|h|h|h|h<;>rw[h]<;>decide
theorem zn8 {s:St} (hr:RightS s) {a:Act} (ha:actOk a):(reqA s a).ok:=by
 obtain⟨_,h1,h2,h3,h4,h5⟩:=ha
 unfold byteI at*
 have hH:High=2305843009213693952:=rfl
 have hsq:∀c,0≤((findM s.memos c).getD noMemo).seq∧((findM s.memos c).getD noMemo).seq≤High:=fun c=>by
  cases hf:findM s.memos c with
  |none=>decide
  |some m=>
   have:=(zbE (hr.mok m (List.mem_of_find?_eq_some hf))).2.1
   simp only[Option.getD_some];omega
 have hnm:∀c,0≤((findS s.sess c).getD noSess).num∧((findS s.sess c).getD noSess).num≤High:=fun c=>by
  cases hf:findS s.sess c with
  |none=>decide
  |some m=>
   have:=(zbn.1 (hr.sok m (List.mem_of_find?_eq_some hf)).1).2.1
   simp only[Option.getD_some];omega
 have hk:1≤kindP a.kind∧kindP a.kind≤6:=by unfold kindP;omega
 have hs:0≤sessP a.kind a.session∧sessP a.kind a.session≤7:=by unfold sessP;split<;>omega
 have hn:(cmdNm a.kind a.name).size≤12:=by
  unfold cmdNm
  split
  ·exact zjP _
  ·decide
 unfold reqA Req.ok i64 reqN
 simp only
 have:=hsq (a.client % 8)
 have:=hnm (a.client % 8)
 refine⟨by omega, ?_, ?_, ?_, ?_⟩
 ·split
  ·split<;>omega
  ·omega
 ·split<;>omega
 ·split
  ·omega
  ·split<;>omega
 ·split
  ·decide
  ·omega
def stepP (s:St) (a:Act):St:=(applyP (advanceP s (s.time+a.time % 16) 60) (reqA (advanceP s (s.time+a.time % 16) 60) a)).1
def madeP:List Act→St→St
 |[],s=>s
 |a::r,s=>madeP r (stepP s a)
structure Mk (s:St) (i:Nat):Prop where
 rt:RightS s
 num:s.num≤i
 tok:s.token≤8*i
theorem zgK {s:St} {i:Nat} (h:Mk s i) (hi:i≤1000) (a:Act):Mk (stepP s a) (i+1):=by
 have hH:High=2305843009213693952:=rfl
 obtain⟨h1,h2,h3⟩:=h
 obtain⟨r1,r2,r3,r4,r5⟩:=zbg h1 (s.time+a.time % 16) 60 (by omega)
 unfold stepP
 obtain⟨d1,d2,d3,d4,d5⟩:=zcB r1 (reqA (advanceP s (s.time+a.time % 16) 60) a) (by omega) (by omega)
 exact⟨d1,by omega,by omega⟩
theorem zlq:∀{l:List Act} {s:St} {i:Nat},Mk s i→i+l.length≤1000→Mk (madeP l s) (i+l.length)
 |[],_,_,h,_=>h
 |a::l,s,i,h,hi=>by
  simp only[List.length_cons]at hi⊢
  have:=zlq (l:=l) (zgK h (by omega) a) (by omega)
  rwa[show i+1+l.length=i+(l.length+1) by omega]at this
abbrev madeS (acts:List Act):St:=madeP (acts.take 60) st0
theorem zmz (acts:List Act):Mk (madeS acts) 60:=by
 have h:=zlq (l:=acts.take 60) (s:=st0) (i:=0) ⟨zbQ,by decide,by decide⟩ (by simp;omega)
 have hl:(acts.take 60).length≤60:=by simp;omega
 exact⟨h.rt,by have:=h.num;show(madeP (acts.take 60) st0).num≤_;omega,by have:=h.tok;show(madeP (acts.take 60) st0).token≤_;omega⟩
set_option maxHeartbeats 4000000 in
theorem zn9 (acts:List Act) (hl:acts.length<2^60) (ha:∀a∈acts,actOk a):CallOK Tryz.prog 23 [.f (al acts.length (actsE acts))] (fun r o=>r=[stRF (madeS acts)]∧o=[]):=by
 refine CallOK.nil ?_
 refine zak zay mixed (T:=Ty) (n:=44) Tryz.func23 (c:=Tryz.f23.body.getD .skip) rfl Tryz.results23 Tryz.ntmps23 Tryz.call23 ?_
 simp only[Tryz.f23,Option.getD]
 repeat'(first|(with_reducible first|refine zaa _ _ ?_|refine zae ?_|refine zaf ?_)|rw[zad]|simp only[zY,Int.reduceEq,Int.reduceBEq,Int.reduceBNe,Nat.reduceSub,Nat.reduceEqDiff,Nat.reduceAdd,Nat.reduceMul,Nat.reduceLeDiff,Nat.reduceLT,Nat.reduceBEq,reduceCtorEq]|refine zab ?_|refine zac (fun hb=> ?_) (fun hb=> ?_)|(refine And.intro ?_ ?_;exact zI)|refine And.intro (fun hg=> ?_) (fun hg=> ?_)|exact zC|fail)
 refine zbV (Gh.sealF 3 3 (.d (.v (.slice none 0 0))) ?_) ?_
 ·simp only[sealFOK,zY,Nat.reduceSub,Nat.reduceEqDiff,Nat.reduceAdd,Nat.reduceMul,Nat.reduceLeDiff,Nat.reduceLT,Nat.reduceBEq,reduceCtorEq]
 simp only[sealFR,zY,Nat.reduceSub,Nat.reduceEqDiff,Nat.reduceAdd,Nat.reduceMul,Nat.reduceLeDiff,Nat.reduceLT,Nat.reduceBEq,reduceCtorEq]
 refine zbV (Gh.sealF 3 4 (.d (.v (.slice none 0 0))) ?_) ?_
 ·simp only[sealFOK,zY,Nat.reduceSub,Nat.reduceEqDiff,Nat.reduceAdd,Nat.reduceMul,Nat.reduceLeDiff,Nat.reduceLT,Nat.reduceBEq,reduceCtorEq]
 simp only[sealFR,zY,Nat.reduceSub,Nat.reduceEqDiff,Nat.reduceAdd,Nat.reduceMul,Nat.reduceLeDiff,Nat.reduceLT,Nat.reduceBEq,reduceCtorEq]
 refine zbV (Gh.sealF 3 5 (.d (.v (.slice none 0 0))) ?_) ?_
 ·simp only[sealFOK,zY,Nat.reduceSub,Nat.reduceEqDiff,Nat.reduceAdd,Nat.reduceMul,Nat.reduceLeDiff,Nat.reduceLT,Nat.reduceBEq,reduceCtorEq]
 simp only[sealFR,zY,Nat.reduceSub,Nat.reduceEqDiff,Nat.reduceAdd,Nat.reduceMul,Nat.reduceLeDiff,Nat.reduceLT,Nat.reduceBEq,reduceCtorEq]
 refine zav (τ:=Nat×St) (fun q=>⟨[al acts.length (actsE acts),dd, .one (.ptr ⟨2,0,1⟩ 0), .one (.ptr ⟨3,0,1⟩ 0),ai q.1,dd,dd,dd,dd,dd,dd,dd,dd,dd,dd,dd,dd,dd,dd,dd,dd,dd,dd,dd,dd,dd,dd,dd,dd,dd,dd,dd,dd,dd,dd,dd,dd,dd,dd,dd,dd,dd,dd,dd],[(2,{next:=2,l:=[some {e:=1,var:=true,fz:=false,sz:=0,cells:=[di 0,di 0,di 0, .d (.v (.slice none 0 0)), .d (.v (.slice none 0 0)), .d (.v (.slice none 0 0))]},none,none,none,none,none,none]}),(3,{next:=2,l:=[some {e:=1,var:=true,fz:=false,sz:=0,cells:=[di q.2.time,di q.2.num,di q.2.token, .d (.sl q.2.sess.length (sessE q.2.sess)), .d (.sl q.2.locks.length (locksE q.2.locks)), .d (.sl q.2.memos.length (memosE q.2.memos))]},none,none,none,none,none,none]}),(5,⟨2,[]⟩),(6,⟨2,[]⟩),(29,⟨2,[]⟩),(38,⟨2,[]⟩)]⟩)
  (fun q=>q.1≤acts.length∧q.1≤60∧Mk q.2 q.1) (fun q=>madeP ((acts.take 60).drop q.1) q.2) (fun q=>acts.length - q.1) (0,st0)
  (Gh.canon [2,3] [5,6,29,38] [] zK rfl rfl) ⟨Nat.zero_le _,by decide,zbQ,by decide,by decide⟩ ?_
 intro⟨i,s⟩ ⟨j1,j2,j3⟩ hF K hK
 simp only[List.drop_zero]at j1 j2 j3 hF hK⊢
 have hH:High=2305843009213693952:=rfl
 repeat(first|with_reducible refine zaa _ _ ?_|with_reducible refine And.imp_right (zaa _ _) ?_|with_reducible refine And.imp_right (And.imp_right (zaa _ _)) ?_|with_reducible refine And.imp_right (And.imp_right (And.imp_right (zaa _ _))) ?_|rw[zad]|simp only[zB,Nat.reduceSub,Nat.reduceEqDiff,Nat.reduceAdd,Nat.reduceMul,Nat.reduceLeDiff,Nat.reduceLT,Nat.reduceBEq,reduceCtorEq])
 refine zac (fun hlt=> ?_) (fun hge=> ?_)
 ·have hlt2:i<acts.length∧i<60:=by simp at hlt;omega
  have hi:=hlt2.1
  have hat:=znR hi
  have hw:=zau hi (by omega)
  have hao:=ha _ (List.getElem_mem hi)
  have hwt:=zbC hao.1
  have htm:=zbD hao.1.1 16
  have hrt:=j3.rt.time
  have hnu:=j3.num
  have htk:=j3.tok
  have hwa:IntKind.i64.wrap (s.time+acts[i].time % 16)=s.time+acts[i].time % 16:=wrap64 (by omega) (by omega)
  have had:=zit s (zaM j3.rt) j3.rt (s.time+acts[i].time % 16) 60
  obtain⟨r1,r2,r3,r4,r5⟩:=zbg j3.rt (s.time+acts[i].time % 16) 60 (by omega)
  have hmk:=zgK j3 (by omega) acts[i]
  have hds:(acts.take 60).drop i=acts[i]::(acts.take 60).drop (i+1):=by
   rw[List.drop_eq_getElem_cons (by simp;omega),List.getElem_take]
  have hst:stepP s acts[i]=(applyP (advanceP s (s.time+acts[i].time % 16) 60) (reqA (advanceP s (s.time+acts[i].time % 16) 60) acts[i])).1:=rfl
  generalize advanceP s (s.time+acts[i].time % 16) 60=t at*
  have hrq:=zjy t (zaM r1) r1 acts[i] hao
  have hro:=zn8 r1 hao
  generalize reqA t acts[i]=q at*
  have hap:=zlr t (zaM r1) r1 q hro (fun hm=>ze2 r1 hm (by omega) (by omega)) (fun hm=>zd5 r1 hm (by omega) (by omega))
  generalize applyP t q=U at*
  repeat'(first|(with_reducible first|refine zaa _ _ ?_|refine zae ?_|refine zaf ?_)|rw[zad]|simp only[hat,hwt,htm,hwa,List.cons_append,List.nil_append,zmo,zY,Int.reduceEq,Int.reduceBEq,Int.reduceBNe,Nat.reduceSub,Nat.reduceEqDiff,Nat.reduceAdd,Nat.reduceMul,Nat.reduceLeDiff,Nat.reduceLT,Nat.reduceBEq,reduceCtorEq]|((first|((try refine zai ?_);apply zaj)|(apply zah;intro _));(solve|exact(had)|exact(hrq)|exact(hap)|(refine CallOK.le (had) ?_;exact zM)|(refine CallOK.le (hrq) ?_;exact zM)|(refine CallOK.le (hap) ?_;exact zM)|fail);try case hn=>rfl)|refine zab ?_|refine zac (fun hb=> ?_) (fun hb=> ?_)|(refine And.intro ?_ ?_;exact zI)|refine And.intro (fun hg=> ?_) (fun hg=> ?_)|exact zC|fail)
  refine hK _ (i+1,U.1) (Gh.canon [2,3] [] [] (by simp only[hw,zan,zaz,zao,zar,zas,zat,List.set_cons_zero,List.set_cons_succ,and_true,true_and,Int.natCast_zero,Int.cast_ofNat_Int,D.v.injEq,Value.int.injEq];try(repeat'(first|rfl|omega|with_reducible apply And.intro))) rfl rfl) ⟨hi,by simp only;omega,by rw[←hst];exact hmk⟩ ?_ (by simp only;omega)
  simp only
  rw[hds,madeP,hst]
 ·have hd:(acts.take 60).drop i=[]:=List.drop_eq_nil_of_le (by simp at hge⊢;omega)
  rw[hd,madeP]at hF
  rw[show madeS acts=s from hF.symm]
  repeat'(first|(with_reducible first|refine zaa _ _ ?_|refine zae ?_|refine zaf ?_)|rw[zad]|simp only[zY,Int.reduceEq,Int.reduceBEq,Int.reduceBNe,Nat.reduceSub,Nat.reduceEqDiff,Nat.reduceAdd,Nat.reduceMul,Nat.reduceLeDiff,Nat.reduceLT,Nat.reduceBEq,reduceCtorEq]|refine zab ?_|refine zac (fun hb=> ?_) (fun hb=> ?_)|(refine And.intro ?_ ?_;exact zI)|refine And.intro (fun hg=> ?_) (fun hg=> ?_)|exact zC|fail)
  simp[rfsLe,rfLe,rosLe,roLe]
end Go.Proofs.YtniafckaafcpbaaGreat
