import Derived.Test.YtngleemijkaeoaaGreatK9
import Derived.JoinedOf
import Derived.Handed
import Derived.ProofKit
import Derived.Test.YtngleemijkaeoaaGreatEK
namespace Go.Proofs.YtngleemijkaeoaaGreat
open Go.Pk
set_option maxRecDepth 100000
set_option linter.unusedSimpArgs false
set_option linter.unusedVariables false
def zoX (l:List Memo):Prop:=∀m∈l,m.reply.held.length<2^30
theorem zlZ:∀{rs:List Req} {s:St} {l:List Memo},RightS s→s.num+rs.length≤zaT→s.token+4*rs.length≤zaT→zoX l→zoX (zfn s rs l).2
 |[],_,_,_,_,_,h=>h
 |r::rs,s,l,h,h1,h2,hl=>by
  rw[List.length_cons]at h1 h2
  obtain⟨d1,d2,d3,d4,d5⟩:=zdw h r (by omega) (by omega)
  rw[zo6]
  refine zlZ d1 (by omega) (by omega) fun m hm=> ?_
  rcases List.mem_append.1 hm with hm|hm
  ·exact hl m hm
  ·unfold ztT at hm
   split at hm
   ·cases hm
   ·simp only[List.mem_singleton]at hm
    subst hm
    exact zmU h (zbJ h) (by omega) (by omega)
theorem zl0 {x:XS} (hr:RightS x.st) (hN:x.st.num+3≤zaT) (hT:x.st.token+16≤zaT) (b:Batch):RightS (doP x b).1.st∧(doP x b).2.1.length≤3∧zoX (doP x b).2.1∧((doP x b).1.done=x.done∨(doP x b).1.done=x.done+1)∧
  (((doP x b).1.view=x.view∧(doP x b).1.slot=x.slot)∨(0≤(doP x b).1.view∧(doP x b).1.view≤zaT∧(doP x b).1.slot=x.done+1)):=by
 unfold doP
 split
 ·exact⟨hr,by simp,fun m hm=>(by cases hm), .inl rfl, .inl ⟨rfl,rfl⟩⟩
 ·rename_i hm
  split
  ·exact⟨hr,by simp,fun m hm=>(by cases hm), .inr rfl, .inl ⟨rfl,rfl⟩⟩
  ·rename_i hv
   have hm:Batch.may b=true:=by simpa using hm
   have hv:zfI x b=true:=by simpa using hv
   obtain⟨g1,g2,g3,g4,g5,g6,g7⟩:=zey hm (zex hv).1
   obtain⟨e1,e2,e3,e4,e5⟩:=ziM hr hN hT g5
   obtain⟨r1,r2,r3,r4,r5⟩:=zcJ hr b.time x.lease (by omega)
   exact⟨e1,Nat.le_trans e5 g5,zlZ r1 (by omega) (by omega) (fun m hm=>by cases hm), .inr rfl, .inr ⟨g1.1,g1.2,rfl⟩⟩
theorem ziF {s:St} (hr:RightS s):∀{al0:List Act} {l:List Req},(∀a∈al0,zkr a)→l.length≤3→(∀r∈l,r.ok)→(zfR s al0 l).length≤3∧∀r∈zfR s al0 l,r.ok
 |[],l,_,h1,h2=>⟨h1,h2⟩
 |a::al0,l,ha,h1,h2=>by
  rw[zfR]
  split
  ·rename_i hlt
   have hlt:l.length<3:=by simp at hlt;omega
   split
   ·exact ziF hr (fun x hx=>ha x (by simp[hx])) h1 h2
   ·refine ziF hr (fun x hx=>ha x (by simp[hx])) (by simp only[List.length_append,List.length_singleton];omega) fun r hx=> ?_
    rcases List.mem_append.1 hx with hx|hx
    ·exact h2 r hx
    ·simp only[List.mem_singleton]at hx
     subst hx
     exact zrs hr (ha a (by simp))
  ·exact⟨h1,h2⟩
theorem zoY {x:XS} (hr:RightS x.st) (hv:0≤x.view∧x.view≤zaT) (hs:0≤x.slot∧x.slot<2^60) {r:Row} (h:rowOk r):(zfH x r).ok:=by
 have hH:zaT=2305843009213693952:=rfl
 obtain⟨r1,r2,r3,r4,r5⟩:=h
 unfold zfH
 split
 ·exact⟨by unfold i64;simp,by unfold i64;simp,by unfold i64;simp,by unfold i64;simp,by simp,by simp⟩
 ·have ht:=hr.time
  obtain⟨f1,f2⟩:=ziF hr (l:=[]) r5 (by simp) (by simp)
  have hsl:0≤(if(r.kind % 8==6)=true then x.slot+1 else x.slot)∧(if(r.kind % 8==6)=true then x.slot+1 else x.slot)≤2^60:=by split<;>omega
  exact⟨by unfold i64;simp only;omega,by unfold i64;simp only;omega,by unfold i64;simp only;omega,by unfold i64;simp only;omega,by simp only;omega,f2⟩
structure XR (x:XS) (i:Nat):Prop where
 rt:RightS x.st
 nm:x.st.num+1000≤zaT
 tk:x.st.token+1000≤zaT
 dn:0≤x.done∧x.done≤i
 vw:0≤x.view∧x.view≤zaT
 sl:0≤x.slot∧x.slot≤i
theorem ztt {x:XS} {i:Nat} (h:XR x i) (hi:i≤100):XCan x:=by
 obtain⟨m1,m2,m3,m4,m5,m6⟩:=h
 exact⟨m1,zbJ m1,by omega,by omega,by omega,by omega,by omega⟩
theorem zqw {s:St} (h:zkc s=true):s.num+1000≤zaT∧s.token+1000≤zaT:=by
 have hH:zaT=2305843009213693952:=rfl
 unfold zkc at h
 simp only[Bool.and_eq_true,decide_eq_true_eq]at h
 omega
theorem ztS {x:XS} {i:Nat} (h:XR x i) (b:Batch) (he:zkc (doP x b).1.st=true):XR (doP x b).1 (i+1):=by
 obtain⟨m1,m2,m3,m4,m5,m6⟩:=h
 obtain⟨d1,d2,d3,d4,d5⟩:=zl0 m1 (by omega) (by omega) b
 obtain⟨e1,e2⟩:=zqw he
 refine⟨d1,e1,e2,by omega, ?_, ?_⟩
 ·rcases d5 with⟨q1,q2⟩|⟨q1,q2,q3⟩<;>omega
 ·rcases d5 with⟨q1,q2⟩|⟨q1,q2,q3⟩<;>omega
theorem zwe (lease:Int):XR (zpj lease) 0:=by
 have hH:zaT=2305843009213693952:=rfl
 refine⟨zeR, ?_, ?_, ?_, ?_, ?_⟩
 all_goals simp only[zpj,st0];omega
set_option maxHeartbeats 8000000 in
theorem zkZ (lease:Int) (hle:i64 lease) (rows:List Row) (hl:rows.length<2^60) (hrw:∀r∈rows,rowOk r) (raw:Batch) (hraw:raw.ok):
  CallOK Tryz.prog 4 [.f (ai lease), .f (al rows.length (zl7 rows)), .f (.agg (raw.enc.map C.d))] (fun r o=>r=[rb true]∧o=[]):=by
 refine zac zar mixed (T:=Ty) (n:=119) Tryz.func4 (c:=Tryz.f4.body.getD .skip) rfl Tryz.results4 Tryz.ntmps4 Tryz.call4 ?_
 simp only[Tryz.f4,Option.getD]
 have haw:=zm1
 have hgr:=zpe raw hraw.2.2.2.2.1
 cases hc:(decide ((rows.length:Int)>30)||zkh raw)
 case true=>repeat'(first|refine zq hc ?_|exact zd hc|refine zc (haw) ?_|refine zg (haw) ?_|refine zc (hgr) ?_|refine zg (hgr) ?_|(refine zaa ?_ ?_<;>intro hb)|(refine And.intro ?_ ?_;exact zI)|(refine And.intro ?_ ?_<;>intro hg)|exact zC|fail)
 have h30:rows.length≤30:=by rw[Bool.or_eq_false_iff]at hc;have:=hc.1;simp at this;omega
 cases hn:(decide (lease<1)||decide (lease>1000000))
 case true=>
  have n1:=zl5 lease hn
  have n2:=zqC lease hn
  repeat'(first|refine zq hc ?_|exact zd hc|refine zc (haw) ?_|refine zg (haw) ?_|refine zc (hgr) ?_|refine zg (hgr) ?_|refine zc (n1) ?_|refine zg (n1) ?_|refine zc (n2) ?_|refine zg (n2) ?_|(refine zaa ?_ ?_<;>intro hb)|(refine And.intro ?_ ?_;exact zI)|(refine And.intro ?_ ?_<;>intro hg)|exact zC|fail)
 have n1:=zo9 lease hn
 have n2:=zsy lease hn
 repeat'(first|(with_reducible first|refine zab _ _ ?_|refine zaP ?_|refine zaQ ?_)|rw[zak]|simp only[hc,zY,Int.reduceEq,Int.reduceBEq,Int.reduceBNe,Nat.reduceSub,Nat.reduceEqDiff,Nat.reduceAdd,Nat.reduceMul,Nat.reduceLeDiff,Nat.reduceLT,Nat.reduceBEq,reduceCtorEq]|((first|((try refine zaz ?_);apply zaD)|(apply zaB;intro _));(solve|exact(haw)|exact(hgr)|(refine CallOK.le (haw) ?_;exact zM)|(refine CallOK.le (hgr) ?_;exact zM)|fail);try case hn=>rfl)|refine zdd (n1) ?_|(refine zdd (CallP.le (n1) ?_) ?_;focus(simp[zcf,aLe,zlp,cLe]<;>fail))|refine zdd (n2) ?_|(refine zdd (CallP.le (n2) ?_) ?_;focus(simp[zcf,aLe,zlp,cLe]<;>fail))|refine zam ?_|refine zaa (fun hb=> ?_) (fun hb=> ?_)|(refine And.intro ?_ ?_;exact zI)|refine And.intro (fun hg=> ?_) (fun hg=> ?_)|exact zC|fail)
 refine zao (τ:=Nat×XS) (fun t=>⟨[dd,al rows.length (zl7 rows),dd,dd,dd, .one (.ptr ⟨5,0,1⟩ 0),dd, .one (.ptr ⟨24,0,1⟩ 0), .one (.ptr ⟨26,0,1⟩ 0),ai t.1,dd,dd,dd,dd,dd,dd,dd,dd,dd,dd,dd,dd,dd,dd,dd,dd,dd,dd,dd,dd,dd,dd,dd,dd,dd,dd,dd,dd,dd,dd,dd,dd,dd,dd,dd,dd,dd,dd,dd,dd,dd,dd,dd,dd,dd,dd,dd,dd,dd,dd,dd,dd,dd,dd,dd,dd,dd,dd,dd,dd,dd,dd,dd,dd,dd,dd,dd,dd,dd,dd,dd,dd,dd,dd,dd,dd,dd,dd,dd,dd,dd,dd,dd,dd,dd,dd,dd,dd,dd,dd,dd,dd,dd,dd,dd,dd,dd,dd,dd,dd,dd,dd,dd,dd,dd,dd,dd,dd,dd],[(5,{next:=2,l:=[some {e:=1,var:=true,fz:=false,sz:=0,cells:=[db raw.fill,di raw.view,di raw.tip.view,di raw.tip.slot,di raw.time, .d (.sl raw.reqs.length (zbO raw.reqs))]},none,none,none,none,none,none]}),xO 24 t.2,xO 26 t.2,(10,⟨2,[]⟩),(11,⟨2,[]⟩),(13,⟨2,[]⟩),(57,⟨2,[]⟩),(63,⟨2,[]⟩)]⟩)
  (fun t=>t.1≤rows.length∧XR t.2 t.1) (fun _=>()) (fun t=>rows.length - t.1) (0,zpj lease)
  (Gh.canon [5,24,26] [10,11,13,57,63] [] zK rfl rfl) ⟨Nat.zero_le _,zwe lease⟩ ?_
 intro⟨i,x⟩ ⟨j1,j3⟩ _ K hK
 simp only at j1 j3 hK⊢
 have hcn:=ztt j3 (by omega)
 by_cases hi:i<rows.length
 ·have hb1:decide ((i:Int)<rows.length)=true:=by simp;omega
  have hat:=zrr hi
  have hw:=zan hi (by omega)
  have hro:=hrw _ (List.getElem_mem hi)
  have hbl:=zpd x hcn.sm hcn.rt hcn.vw hcn.sl rows[i] hro
  have hbo:=zoY hcn.rt hcn.vw hcn.sl hro
  generalize rows[i]=q at*
  generalize zfH x q=b0 at*
  obtain⟨b,hb⟩:∃b,b=if(q.kind==255)=true then raw else b0:=⟨_,rfl⟩
  have hbk:b.ok:=by rw[hb];split<;>assumption
  have d1:=zpb x b hbk hcn.rt hcn.nm hcn.tk hcn.dn
  have d2:=zty x b hbk hcn.rt hcn.nm hcn.tk hcn.dn
  obtain⟨e1,e2,e3,e4,e5⟩:=zl0 hcn.rt hcn.nm hcn.tk b
  have hxr:=ztS j3 b
  generalize doP x b=y at*
  have sa:=zm4 y.2.1 y.2.1 (by omega) (by omega) e3 e3
  rw[zk0]at sa
  have hsm:=zbJ e1
  have s1:=zqD y.1 hsm
  have s2:=zqE y.1
  have s3:=zk1 y.1.sn y.1.sn hsm hsm
  rw[zqz]at s3
  have s4:=zl6 y.1
  have s5:=zpa y.1
  have s6:=zkf y.1 hsm
  have s7:=zl4 y.1.st y.1.st hsm hsm
  rw[zl3]at s7
  have s8:=zoZ y.1.st hsm
  have htail:∀kk:Bool,(q.kind==255)=kk→b=if kk=true then raw else b0:=fun kk e=>by rw[hb,e]
  cases he:zkc y.1.st
  ·rw[he]at s8
   cases hk:(q.kind==255)
   ·have hbb:b=b0:=htail _ hk
    subst hbb
    repeat'(first|refine zq (I hb1 (I hk (I hat (I @zc8 zca)))) ?_|exact zd (I hb1 (I hk (I hat (I @zc8 zca))))|refine zc (hbl) ?_|refine zg (hbl) ?_|(refine zaa ?_ ?_<;>intro hb)|(refine And.intro ?_ ?_;exact zI)|(refine And.intro ?_ ?_<;>intro hg)|exact zC|fail)
    refine zj (d1) ?_
    repeat'(first|refine zq0 ?_|exact zd0|(refine zaa ?_ ?_<;>intro hb)|(refine And.intro ?_ ?_;exact zI)|(refine And.intro ?_ ?_<;>intro hg)|exact zC|fail)
    refine zj (d2) ?_
    repeat'(first|refine zq @zaU ?_|exact zd @zaU|refine zc (sa) ?_|refine zg (sa) ?_|refine zc (s1) ?_|refine zg (s1) ?_|refine zc (s2) ?_|refine zg (s2) ?_|refine zc (s3) ?_|refine zg (s3) ?_|refine zc (s4) ?_|refine zg (s4) ?_|refine zc (s5) ?_|refine zg (s5) ?_|refine zc (s6) ?_|refine zg (s6) ?_|refine zc (s7) ?_|refine zg (s7) ?_|refine zc (s8) ?_|refine zg (s8) ?_|refine zc (haw) ?_|refine zg (haw) ?_|(refine zaa ?_ ?_<;>intro hb)|(refine And.intro ?_ ?_;exact zI)|(refine And.intro ?_ ?_<;>intro hg)|exact zC|fail)
   ·have hbb:b=raw:=htail _ hk
    subst hbb
    repeat'(first|refine zq (I hb1 (I hk (I hat (I @zc8 zca)))) ?_|exact zd (I hb1 (I hk (I hat (I @zc8 zca))))|refine zc (hbl) ?_|refine zg (hbl) ?_|(refine zaa ?_ ?_<;>intro hb)|(refine And.intro ?_ ?_;exact zI)|(refine And.intro ?_ ?_<;>intro hg)|exact zC|fail)
    refine zj (d1) ?_
    repeat'(first|refine zq0 ?_|exact zd0|(refine zaa ?_ ?_<;>intro hb)|(refine And.intro ?_ ?_;exact zI)|(refine And.intro ?_ ?_<;>intro hg)|exact zC|fail)
    refine zj (d2) ?_
    repeat'(first|refine zq @zaU ?_|exact zd @zaU|refine zc (sa) ?_|refine zg (sa) ?_|refine zc (s1) ?_|refine zg (s1) ?_|refine zc (s2) ?_|refine zg (s2) ?_|refine zc (s3) ?_|refine zg (s3) ?_|refine zc (s4) ?_|refine zg (s4) ?_|refine zc (s5) ?_|refine zg (s5) ?_|refine zc (s6) ?_|refine zg (s6) ?_|refine zc (s7) ?_|refine zg (s7) ?_|refine zc (s8) ?_|refine zg (s8) ?_|refine zc (haw) ?_|refine zg (haw) ?_|(refine zaa ?_ ?_<;>intro hb)|(refine And.intro ?_ ?_;exact zI)|(refine And.intro ?_ ?_<;>intro hg)|exact zC|fail)
  ·rw[he]at s8
   cases hk:(q.kind==255)
   ·have hbb:b=b0:=htail _ hk
    subst hbb
    repeat'(first|refine zq (I hb1 (I hk (I hat (I @zc8 zca)))) ?_|exact zd (I hb1 (I hk (I hat (I @zc8 zca))))|refine zc (hbl) ?_|refine zg (hbl) ?_|(refine zaa ?_ ?_<;>intro hb)|(refine And.intro ?_ ?_;exact zI)|(refine And.intro ?_ ?_<;>intro hg)|exact zC|fail)
    refine zj (d1) ?_
    repeat'(first|refine zq0 ?_|exact zd0|(refine zaa ?_ ?_<;>intro hb)|(refine And.intro ?_ ?_;exact zI)|(refine And.intro ?_ ?_<;>intro hg)|exact zC|fail)
    refine zj (d2) ?_
    repeat'(first|refine zq @zaU ?_|exact zd @zaU|refine zc (sa) ?_|refine zg (sa) ?_|refine zc (s1) ?_|refine zg (s1) ?_|refine zc (s2) ?_|refine zg (s2) ?_|refine zc (s3) ?_|refine zg (s3) ?_|refine zc (s4) ?_|refine zg (s4) ?_|refine zc (s5) ?_|refine zg (s5) ?_|refine zc (s6) ?_|refine zg (s6) ?_|refine zc (s7) ?_|refine zg (s7) ?_|refine zc (s8) ?_|refine zg (s8) ?_|refine zc (haw) ?_|refine zg (haw) ?_|(refine zaa ?_ ?_<;>intro hb)|(refine And.intro ?_ ?_;exact zI)|(refine And.intro ?_ ?_<;>intro hg)|exact zC|fail)
    refine hK _ (i+1,y.1) (Gh.canon [5,24,26] [] [] (zk hw) rfl rfl) ⟨hi,hxr he⟩ trivial (by simp only;omega)
   ·have hbb:b=raw:=htail _ hk
    subst hbb
    repeat'(first|refine zq (I hb1 (I hk (I hat (I @zc8 zca)))) ?_|exact zd (I hb1 (I hk (I hat (I @zc8 zca))))|refine zc (hbl) ?_|refine zg (hbl) ?_|(refine zaa ?_ ?_<;>intro hb)|(refine And.intro ?_ ?_;exact zI)|(refine And.intro ?_ ?_<;>intro hg)|exact zC|fail)
    refine zj (d1) ?_
    repeat'(first|refine zq0 ?_|exact zd0|(refine zaa ?_ ?_<;>intro hb)|(refine And.intro ?_ ?_;exact zI)|(refine And.intro ?_ ?_<;>intro hg)|exact zC|fail)
    refine zj (d2) ?_
    repeat'(first|refine zq @zaU ?_|exact zd @zaU|refine zc (sa) ?_|refine zg (sa) ?_|refine zc (s1) ?_|refine zg (s1) ?_|refine zc (s2) ?_|refine zg (s2) ?_|refine zc (s3) ?_|refine zg (s3) ?_|refine zc (s4) ?_|refine zg (s4) ?_|refine zc (s5) ?_|refine zg (s5) ?_|refine zc (s6) ?_|refine zg (s6) ?_|refine zc (s7) ?_|refine zg (s7) ?_|refine zc (s8) ?_|refine zg (s8) ?_|refine zc (haw) ?_|refine zg (haw) ?_|(refine zaa ?_ ?_<;>intro hb)|(refine And.intro ?_ ?_;exact zI)|(refine And.intro ?_ ?_<;>intro hg)|exact zC|fail)
    refine hK _ (i+1,y.1) (Gh.canon [5,24,26] [] [] (zk hw) rfl rfl) ⟨hi,hxr he⟩ trivial (by simp only;omega)
 ·have hb1:decide ((i:Int)<rows.length)=false:=by simp;omega
  repeat'(first|refine zq hb1 ?_|exact zd hb1|refine zc (haw) ?_|refine zg (haw) ?_|(refine zaa ?_ ?_<;>intro hb)|(refine And.intro ?_ ?_;exact zI)|(refine And.intro ?_ ?_<;>intro hg)|exact zC|fail)
abbrev zvZ (l:List Int):List D:=l.map uD
def zrn (v:Int) (k:Nat):Int:=IntKind.u8.wrap (v.fdiv (2^(8*(7 - k))))
def zwq (v:Int):List Int:=(List.range 8).map (zrn v)
abbrev zwr (v:Int) (i:Nat):List D:=(List.range 8).map fun k=>uD (if k<i then zrn v k else 0)
abbrev ztR (s:ByteArray):List D:=s.data.toList.map fun b=>uD b.toNat
def zwd (s:ByteArray):List D:=uD s.size::ztR s
def zws (ls:List (List D)) (i:Nat):List D:=if i=0 then zc4 [.int .u8 0] ls.flatten.length else(ls.take i).flatten
abbrev zwt (ls:List (List D)):List D:=ls.map fun l=> .sl l.length l
theorem zfk {n:Int} (h:(Lit.int .i64 n).wf=true):i64 n:=by
 have h2:(decide (IntKind.i64.min≤n)&&decide (n≤IntKind.i64.max))=true:=h
 have e1:IntKind.i64.min= -9223372036854775808:=by decide
 have e2:IntKind.i64.max=9223372036854775807:=by decide
 rw[e1,e2]at h2
 simp only[Bool.and_eq_true,decide_eq_true_eq]at h2
 unfold i64
 omega
theorem ztQ {n:Int} (h:(Lit.int .u8 n).wf=true):zcA n:=by
 have h2:(decide (IntKind.u8.min≤n)&&decide (n≤IntKind.u8.max))=true:=h
 have e1:IntKind.u8.min=0:=by decide
 have e2:IntKind.u8.max=255:=by decide
 rw[e1,e2]at h2
 simp only[Bool.and_eq_true,decide_eq_true_eq]at h2
 unfold zcA
 omega
theorem ziE {α:Type} {enc:α→List D} {ok:α→Prop} {s:Sh} (h:∀ds,ShD s ds→∃x,ds=enc x∧ok x):∀xs:List (List D),(∀x∈xs,ShD s x)→∃l:List α,l.length=xs.length∧xs.flatten=l.flatMap enc∧∀x∈l,ok x
 |[],_=>⟨[],rfl,rfl,fun x hx=>by cases hx⟩
 |x::xs,hx=>by
  obtain⟨a,ha1,ha2⟩:=h x (hx x (by simp))
  obtain⟨l,h1,h2,h3⟩:=ziE h xs fun y hy=>hx y (by simp[hy])
  refine⟨a::l,by simp[h1], ?_,fun y hy=> ?_⟩
  ·rw[List.flatten_cons,List.flatMap_cons,h2,ha1]
  ·rcases List.mem_cons.1 hy with rfl|hy
   ·exact ha2
   ·exact h3 y hy
theorem zoW:reachBytes<2^60:=by decide
theorem byte_of (ds:List D) (h:ShD (.int .u8) ds):∃x:Int,ds=[uD x]∧zcA x:=by
 simp only[ShD]at h
 obtain⟨n,rfl,hn⟩:=h
 exact⟨n,rfl,ztQ hn⟩
theorem ztr (ds:List D) (h:ShD (.int .i64) ds):∃x:Int,ds=[iD x]∧i64 x:=by
 simp only[ShD]at h
 obtain⟨n,rfl,hn⟩:=h
 exact⟨n,rfl,zfk hn⟩
abbrev zsv:Sh:= .struct [.int .u8, .int .u8, .int .u8, .int .u8, .int .u8, .int .u8]
theorem zts (ds:List D) (h:ShD zsv ds):∃a:Act,ds=a.enc∧zkr a:=by
 rw[ShD]at h
 simp only[ShDs]at h
 obtain⟨_,_,rfl,h1,_,_,rfl,h2,_,_,rfl,h3,_,_,rfl,h4,_,_,rfl,h5,_,_,rfl,h6,rfl⟩:=h
 obtain⟨a,rfl,ha⟩:=byte_of _ h1
 obtain⟨b,rfl,hb⟩:=byte_of _ h2
 obtain⟨c,rfl,hc⟩:=byte_of _ h3
 obtain⟨d,rfl,hd⟩:=byte_of _ h4
 obtain⟨e,rfl,he⟩:=byte_of _ h5
 obtain⟨f,rfl,hf⟩:=byte_of _ h6
 exact⟨⟨a,b,c,d,e,f⟩,rfl,ha,hb,hc,hd,he,hf⟩
theorem zsw (ds:List D) (h:ShD (.slice 6 zsv) ds):∃l:List Act,ds=[.sl l.length (zkq l)]∧l.length<2^60∧∀x∈l,zkr x:=by
 rw[ShD]at h
 obtain⟨xs,rfl,hx1,hx2⟩:=h
 obtain⟨l,l1,l2,l3⟩:=ziE zts xs hx2
 have:=zoW
 exact⟨l,by rw[←l1,l2],by omega,l3⟩
def zwc (n:Int):Prop:=0≤n∧n<65536
abbrev wD (n:Int):D:= .v (.int .u16 n)
abbrev aw (n:Int):AV:= .one (.d (wD n))
abbrev zm5:Sh:= .struct [.int .u8, .int .u8, .int .u8, .slice 6 zsv]
theorem row_of (ds:List D) (h:ShD zm5 ds):∃r:Row,ds=r.enc∧rowOk r:=by
 rw[ShD]at h
 simp only[ShDs]at h
 obtain⟨_,_,rfl,h1,_,_,rfl,h2,_,_,rfl,h3,_,_,rfl,h4,rfl⟩:=h
 obtain⟨a,rfl,ha⟩:=byte_of _ h1
 obtain⟨b,rfl,hb⟩:=byte_of _ h2
 obtain⟨c,rfl,hc⟩:=byte_of _ h3
 obtain⟨l,rfl,hl,hl2⟩:=zsw _ h4
 exact⟨⟨a,b,c,l⟩,rfl,ha,hb,hc,hl,hl2⟩
theorem zrq (ds:List D) (h:ShD (.slice 32 zm5) ds):∃l:List Row,ds=[.sl l.length (zl7 l)]∧l.length<2^60∧∀x∈l,rowOk x:=by
 rw[ShD]at h
 obtain⟨xs,rfl,hx1,hx2⟩:=h
 obtain⟨l,l1,l2,l3⟩:=ziE row_of xs hx2
 have:=zoW
 exact⟨l,by rw[←l1,l2],by omega,l3⟩
abbrev zsG:Sh:= .struct [.int .i64, .int .i64, .struct [.int .i64, .int .i64, .str]]
abbrev zhP:Sh:= .struct [.bool, .int .i64, .struct [.int .i64, .int .i64], .int .i64, .slice 48 zsG]
theorem zsH (ds:List D) (h:ShD zsG ds):∃r:Req,ds=r.enc∧r.ok:=by
 simp only[ShD,ShDs]at h
 obtain⟨_,_,rfl,⟨c,rfl,hc⟩,_,_,rfl,⟨q,rfl,hq⟩,_,_,rfl,⟨_,_,rfl,⟨k,rfl,hk⟩,_,_,rfl,⟨n,rfl,hn⟩,_,_,rfl,⟨s,rfl,hs⟩,rfl⟩,rfl⟩:=h
 exact⟨⟨c,q,k,n,s⟩,rfl,zfk hc,zfk hq,zfk hk,zfk hn,Nat.lt_of_le_of_lt hs (by decide)⟩
theorem zpk (ds:List D) (h:ShD zhP ds):∃b:Batch,ds=b.enc∧b.ok:=by
 simp only[ShD,ShDs]at h
 obtain⟨_,_,rfl,h1,_,_,rfl,h2,_,_,rfl,h3,_,_,rfl,h4,_,_,rfl,h5,rfl⟩:=h
 obtain⟨f,rfl⟩:=h1
 obtain⟨v,rfl,hv⟩:=h2
 obtain⟨_,_,rfl,⟨tv,rfl,htv⟩,_,_,rfl,⟨ts,rfl,hts⟩,rfl⟩:=h3
 obtain⟨t,rfl,ht⟩:=h4
 obtain⟨xs,rfl,hx1,hx2⟩:=h5
 obtain⟨l,l1,l2,l3⟩:=ziE zsH xs hx2
 have hlt:l.length<2^42:=by
  have:reachBytes<48*2^42:=by decide
  omega
 refine⟨⟨f,v,⟨tv,ts⟩,t,l⟩, ?_,zfk hv,zfk htv,zfk hts,zfk ht,hlt,l3⟩
 rw[←l1,l2]
 rfl
end Go.Proofs.YtngleemijkaeoaaGreat
