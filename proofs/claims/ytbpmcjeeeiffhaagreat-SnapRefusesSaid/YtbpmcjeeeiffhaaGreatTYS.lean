import Derived.Test.YtbpmcjeeeiffhaaGreatK8
import Derived.JoinedOf
import Derived.Handed
import Derived.ProofKit
import Derived.Test.YtbpmcjeeeiffhaaGreatMX
namespace Go.Proofs.YtbpmcjeeeiffhaaGreat
open Go.Pk
set_option maxRecDepth 100000
set_option linter.unusedSimpArgs false
set_option linter.unusedVariables false
theorem zd7 {n:Int} (h:byteI n):within n=true:=by
 unfold byteI at h
 rw[zbL]
 simp;omega
theorem zoQ (acts:List Act) {d v s:Int} (hd:byteI d) (hv:byteI v) (hs:byteI s):maySnapB ⟨d,v,s,madeS acts⟩=true:=by
 simp only[maySnapB,zd7 hd,zd7 hv,zd7 hs,zcj.2 (zkw acts).rt,Bool.and_self]
def zz:ByteArray:=⟨#[122,122]⟩
theorem zri:zz.size=2:=rfl
set_option maxHeartbeats 8000000 in
theorem zgs (acts:List Act) (hl:acts.length<2^60) (ha:∀a∈acts,actOk a) (how n:Int) (hh:byteI how) (hn:byteI n):
  CallOK Tryz.prog 3 [.f (al acts.length (actsE acts)), .f (au how), .f (au n)] (fun r o=>r=[rb true]∧o=[]):=by
 refine zae zat mixed (T:=Ty) (n:=95) Tryz.func3 (c:=Tryz.f3.body.getD .skip) rfl Tryz.results3 Tryz.ntmps3 Tryz.call3 ?_
 simp only[Tryz.f3,Option.getD]
 have hmd:=znz acts hl ha n n n hn hn hn
 have hmk:=zkw acts
 have hmm:=zoQ acts hn hn hn
 generalize madeS acts=s at*
 have hrt:=hmk.rt
 have hsm:=zbI hrt
 have hmay:=ze1 ⟨n,n,n,s⟩ hsm
 rw[hmm]at hmay
 have hcp:=zeH s.locks hsm.locks (fun k hk=>(hsm.line k hk).1)
 have haw:=zlw
 have hwn:=zbD hn
 have hbn:=hn
 unfold byteI at hbn
 have hno:∀x:Sn,Small x.st→maySnapB x=false→CallOK Tryz.prog 10 [.f (.agg x.lent)] (fun r o=>r=[.one (.d (.v nilV)),ri 1]∧o=[])∧CallOK Tryz.prog 11 [.f (.agg x.lent)] (fun r o=>r=[rb false]∧o=[]):=fun x h1 h2=>by
  have:=ze1 x h1
  rw[h2]at this
  exact⟨zlB x h1 h2,this⟩
 have hnum:0≤s.num∧s.num≤60:=⟨hrt.num.1,hmk.num⟩
 have hll:=hrt.ll
 have hls:=hrt.sl
 have h6:=zb4 hh.1 6
 have c6:how % 6=0∨how % 6=1∨how % 6=2∨how % 6=3∨how % 6=4∨how % 6=5:=by omega
 rcases c6 with c|c|c|c|c|c
 ·rw[c]at h6
  obtain⟨X,hX⟩:∃X,X=s.locks++[⟨zz,8,s.token,[]⟩]:=⟨_,rfl⟩
  have hE:locksE s.locks++[sD ⟨#[122,122]⟩,iD 8,iD s.token, .sl 0 []]=locksE X:=by rw[hX,zcU];rfl
  have hXl:X.length=s.locks.length+1:=by rw[hX,List.length_append];rfl
  have hT:(locksE X).take ((s.locks.length+1)*4)=locksE X:=by rw[←hXl,zan]
  have hx:rightB {s with locks:=X}=false:=by
   cases hb:rightB {s with locks:=X}
   ·rfl
   ·have:=(zcj.1 hb).lok ⟨zz,8,s.token,[]⟩ (by rw[hX];simp)
    have:=(zbB.1 this.1).2.1.2
    simp only at this
    omega
  obtain⟨k1,k2⟩:=hno ⟨n,n,n,{s with locks:=X}⟩ ⟨hsm.sess,by simp only[hXl];omega,hsm.memos,fun k hk=>by
   rw[show({s with locks:=X}:St).locks=X from rfl,hX]at hk
   rcases List.mem_append.1 hk with hk|hk
   ·exact hsm.line k hk
   ·simp at hk;subst hk;exact⟨by simp only[List.length_nil];omega,by simp only[zri];omega⟩,hsm.held⟩ (by simp[maySnapB,hx])
  simp only[Sn.lent,St.lent,hXl]at k1 k2
  repeat'(first|refine zq (I h6 (I hwn (I hE (I hT (I @zaO (I @zan (I @zaJ @zaf))))))) ?_|exact zd (I h6 (I hwn (I hE (I hT (I @zaO (I @zan (I @zaJ @zaf)))))))|refine zc (hmd) ?_|refine zg (hmd) ?_|refine zc (hcp) ?_|refine zg (hcp) ?_|refine zc (k1) ?_|refine zg (k1) ?_|refine zc (hmay) ?_|refine zg (hmay) ?_|refine zc (k2) ?_|refine zg (k2) ?_|refine zc (haw) ?_|refine zg (haw) ?_|refine zaa ?_|refine zab (fun hb=> ?_) (fun hb=> ?_)|(refine And.intro ?_ ?_;exact zI)|refine And.intro (fun hg=> ?_) (fun hg=> ?_)|exact zC|fail)
 ·rw[c]at h6
  have w0:within (-1)=false:=by decide
  obtain⟨k1,k2⟩:=hno ⟨n,n,n,{s with num:= -1}⟩ ⟨hsm.sess,hsm.locks,hsm.memos,hsm.line,hsm.held⟩ (by simp[maySnapB,rightB,w0])
  repeat'(first|refine zq (I h6 (I hwn (I @zaO (I @zan (I @zaJ @zaf))))) ?_|exact zd (I h6 (I hwn (I @zaO (I @zan (I @zaJ @zaf)))))|refine zc (hmd) ?_|refine zg (hmd) ?_|refine zc (hcp) ?_|refine zg (hcp) ?_|refine zc (k1) ?_|refine zg (k1) ?_|refine zc (hmay) ?_|refine zg (hmay) ?_|refine zc (k2) ?_|refine zg (k2) ?_|refine zc (haw) ?_|refine zg (haw) ?_|refine zaa ?_|refine zab (fun hb=> ?_) (fun hb=> ?_)|(refine And.intro ?_ ?_;exact zI)|refine And.intro (fun hg=> ?_) (fun hg=> ?_)|exact zC|fail)
 ·rw[c]at h6
  have w1:IntKind.i64.wrap (2305843009213693953+n)=2305843009213693953+n:=wrap64 (by omega) (by omega)
  have w0:within (2305843009213693953+n)=false:=by rw[zbL];simp;omega
  obtain⟨k1,k2⟩:=hno ⟨n,n,n,{s with time:=2305843009213693953+n}⟩ ⟨hsm.sess,hsm.locks,hsm.memos,hsm.line,hsm.held⟩ (by simp[maySnapB,rightB,w0])
  repeat'(first|refine zq (I h6 (I hwn (I w1 (I @zaO (I @zan (I @zaJ @zaf)))))) ?_|exact zd (I h6 (I hwn (I w1 (I @zaO (I @zan (I @zaJ @zaf))))))|refine zc (hmd) ?_|refine zg (hmd) ?_|refine zc (hcp) ?_|refine zg (hcp) ?_|refine zc (k1) ?_|refine zg (k1) ?_|refine zc (hmay) ?_|refine zg (hmay) ?_|refine zc (k2) ?_|refine zg (k2) ?_|refine zc (haw) ?_|refine zg (haw) ?_|refine zaa ?_|refine zab (fun hb=> ?_) (fun hb=> ?_)|(refine And.intro ?_ ?_;exact zI)|refine And.intro (fun hg=> ?_) (fun hg=> ?_)|exact zC|fail)
 ·rw[c]at h6
  have w1:IntKind.i64.wrap (-1 - n)= -1 - n:=wrap64 (by omega) (by omega)
  have w0:within (-1 - n)=false:=by rw[zbL];simp;omega
  obtain⟨k1,k2⟩:=hno ⟨-1 - n,n,n,s⟩ hsm (by simp[maySnapB,w0])
  repeat'(first|refine zq (I h6 (I hwn (I w1 (I @zaO (I @zan (I @zaJ @zaf)))))) ?_|exact zd (I h6 (I hwn (I w1 (I @zaO (I @zan (I @zaJ @zaf))))))|refine zc (hmd) ?_|refine zg (hmd) ?_|refine zc (hcp) ?_|refine zg (hcp) ?_|refine zc (k1) ?_|refine zg (k1) ?_|refine zc (hmay) ?_|refine zg (hmay) ?_|refine zc (k2) ?_|refine zg (k2) ?_|refine zc (haw) ?_|refine zg (haw) ?_|refine zaa ?_|refine zab (fun hb=> ?_) (fun hb=> ?_)|(refine And.intro ?_ ?_;exact zI)|refine And.intro (fun hg=> ?_) (fun hg=> ?_)|exact zC|fail)
 ·rw[c]at h6
  have w1:IntKind.i64.wrap (s.num+1)=s.num+1:=wrap64 (by omega) (by omega)
  obtain⟨X,hX⟩:∃X,X=⟨0,s.num+1,0⟩::s.sess:=⟨_,rfl⟩
  have hE:[iD 0,iD (s.num+1),iD 0]++sessE s.sess=sessE X:=by rw[hX];rfl
  have hXl:X.length=s.sess.length+1:=by rw[hX,List.length_cons]
  have hXm:1+s.sess.length=s.sess.length+1:=Nat.add_comm _ _
  have hT:(sessE X).take ((s.sess.length+1)*3)=sessE X:=by rw[←hXl,zaO]
  have hx:rightB {s with sess:=X}=false:=by
   cases hb:rightB {s with sess:=X}
   ·rfl
   ·have:=((zcj.1 hb).sok ⟨0,s.num+1,0⟩ (by rw[hX];simp)).2
    simp only at this
    omega
  obtain⟨k1,k2⟩:=hno ⟨n,n,n,{s with sess:=X}⟩ ⟨by simp only[hXl];omega,hsm.locks,hsm.memos,hsm.line,hsm.held⟩ (by simp[maySnapB,hx])
  simp only[Sn.lent,St.lent,hXl]at k1 k2
  repeat'(first|refine zq (I h6 (I hwn (I w1 (I hE (I hXm (I hT (I @zaO (I @zav (I @zan (I @zaJ @zaf)))))))))) ?_|exact zd (I h6 (I hwn (I w1 (I hE (I hXm (I hT (I @zaO (I @zav (I @zan (I @zaJ @zaf))))))))))|refine zc (hmd) ?_|refine zg (hmd) ?_|refine zc (hcp) ?_|refine zg (hcp) ?_|refine zc (k1) ?_|refine zg (k1) ?_|refine zc (hmay) ?_|refine zg (hmay) ?_|refine zc (k2) ?_|refine zg (k2) ?_|refine zc (haw) ?_|refine zg (haw) ?_|refine zaa ?_|refine zab (fun hb=> ?_) (fun hb=> ?_)|(refine And.intro ?_ ?_;exact zI)|refine And.intro (fun hg=> ?_) (fun hg=> ?_)|exact zC|fail)
  trace_state
 ·rw[c]at h6
  have w0:within (-1)=false:=by decide
  obtain⟨k1,k2⟩:=hno ⟨n,n, -1,s⟩ hsm (by simp[maySnapB,w0])
  repeat'(first|refine zq (I h6 (I hwn (I @zaO (I @zan (I @zaJ @zaf))))) ?_|exact zd (I h6 (I hwn (I @zaO (I @zan (I @zaJ @zaf)))))|refine zc (hmd) ?_|refine zg (hmd) ?_|refine zc (hcp) ?_|refine zg (hcp) ?_|refine zc (k1) ?_|refine zg (k1) ?_|refine zc (hmay) ?_|refine zg (hmay) ?_|refine zc (k2) ?_|refine zg (k2) ?_|refine zc (haw) ?_|refine zg (haw) ?_|refine zaa ?_|refine zab (fun hb=> ?_) (fun hb=> ?_)|(refine And.intro ?_ ?_;exact zI)|refine And.intro (fun hg=> ?_) (fun hg=> ?_)|exact zC|fail)
end Go.Proofs.YtbpmcjeeeiffhaaGreat
namespace Go.Proofs.YtbpmcjeeeiffhaaGreat
open Go.Pk
set_option linter.unusedSimpArgs false
set_option linter.unusedVariables false
theorem zrb {n:Int} (h:(Lit.int .u8 n).wf=true):byteI n:=by
 have h2:(decide (IntKind.u8.min≤n)&&decide (n≤IntKind.u8.max))=true:=h
 have e1:IntKind.u8.min=0:=by decide
 have e2:IntKind.u8.max=255:=by decide
 rw[e1,e2]at h2
 simp only[Bool.and_eq_true,decide_eq_true_eq]at h2
 unfold byteI
 omega
theorem zlQ {α:Type} {enc:α→List D} {ok:α→Prop} {s:Sh} (h:∀ds,ShD s ds→∃x,ds=enc x∧ok x):∀xs:List (List D),(∀x∈xs,ShD s x)→∃l:List α,l.length=xs.length∧xs.flatten=l.flatMap enc∧∀x∈l,ok x
 |[],_=>⟨[],rfl,rfl,fun x hx=>by cases hx⟩
 |x::xs,hx=>by
  obtain⟨a,ha1,ha2⟩:=h x (hx x (by simp))
  obtain⟨l,h1,h2,h3⟩:=zlQ h xs fun y hy=>hx y (by simp[hy])
  refine⟨a::l,by simp[h1], ?_,fun y hy=> ?_⟩
  ·rw[List.flatten_cons,List.flatMap_cons,h2,ha1]
  ·rcases List.mem_cons.1 hy with rfl|hy
   ·exact ha2
   ·exact h3 y hy
theorem zpG:reachBytes<2^60:=by decide
theorem byte_of (ds:List D) (h:ShD (.int .u8) ds):∃x:Int,ds=[uD x]∧byteI x:=by
 simp only[ShD]at h
 obtain⟨n,rfl,hn⟩:=h
 exact⟨n,rfl,zrb hn⟩
abbrev shAct:Sh:= .struct [.int .u8, .int .u8, .int .u8, .int .u8, .int .u8, .int .u8]
theorem zqB (ds:List D) (h:ShD shAct ds):∃a:Act,ds=a.enc∧actOk a:=by
 rw[ShD]at h
 simp only[ShDs]at h
 obtain⟨_,_,rfl,h1,_,_,rfl,h2,_,_,rfl,h3,_,_,rfl,h4,_,_,rfl,h5,_,_,rfl,h6,rfl⟩:=h
 obtain⟨a,rfl,ha⟩:=byte_of _ h1
 obtain⟨b,rfl,hb⟩:=byte_of _ h2
 obtain⟨c,rfl,hc⟩:=byte_of _ h3
 obtain⟨d,rfl,hd⟩:=byte_of _ h4
 obtain⟨e,rfl,he⟩:=byte_of _ h5
 obtain⟨f,rfl,hf⟩:=byte_of _ h6
 exact⟨⟨a,b,c,d,e,f⟩,rfl,ha,hb,hc,hd,he,hf⟩
theorem zpH (ds:List D) (h:ShD (.slice 6 shAct) ds):∃l:List Act,ds=[.sl l.length (actsE l)]∧l.length<2^60∧∀x∈l,actOk x:=by
 rw[ShD]at h
 obtain⟨xs,rfl,hx1,hx2⟩:=h
 obtain⟨l,l1,l2,l3⟩:=zlQ zqB xs hx2
 have:=zpG
 exact⟨l,by rw[←l1,l2],by omega,l3⟩
def wordI (n:Int):Prop:=0≤n∧n<65536
abbrev wD (n:Int):D:= .v (.int .u16 n)
abbrev aw (n:Int):AV:= .one (.d (wD n))
end Go.Proofs.YtbpmcjeeeiffhaaGreat
