import Derived.Test.YtliimajkpggbhaaGreatK9
import Derived.JoinedOf
import Derived.Handed
import Derived.ProofKit
import Derived.Test.YtliimajkpggbhaaGreatPS
namespace Go.Proofs.YtliimajkpggbhaaGreat
open Go.Pk Tryz
set_option maxRecDepth 100000
set_option linter.unusedSimpArgs false
set_option linter.unusedVariables false
structure Inp where
 kind:Int
 ns:List Int
 acts:List Act
 told:NTold
structure Inp.ok (x:Inp):Prop where
 kind:zav x.kind
 nl:x.ns.length<2^60
 nb:∀y∈x.ns,zav y
 al:x.acts.length<2^60
 ab:∀a∈x.acts,zpF a
 told:x.told.ok
abbrev Inp.n (x:Inp) (k:Nat):Int:=x.ns.getD k 0
def zaE (x:Inp):Pkt:=
 if x.kind % 9=0 then {pk0 1 with req:=zo6 (x.n 0) (x.n 1) (x.n 2) (x.n 3) (x.n 4)}
 else if x.kind % 9=1 then {pk0 2 with ans:=zx3 (x.n 0) (x.n 1) x.ns}
 else if x.kind % 9=2 then {pk0 3 with ballot:=x.n 0 % 16}
 else if x.kind % 9=3 then {pk0 4 with ballot:=x.n 0 % 16,prom:=zeH (x.n 1 % 5) x.told}
 else if x.kind % 9=4 then {pk0 5 with ballot:=x.n 0 % 16,slot:=1+x.n 1 % 9,bat:=zbG x.ns}
 else if x.kind % 9=5 then {pk0 6 with ballot:=x.n 0 % 16,slot:=1+x.n 1 % 9,bat:=zbG x.ns}
 else if x.kind % 9=6 then {pk0 7 with ballot:=x.n 0 % 16,done:=x.n 1 % 16}
 else if x.kind % 9=7 then {pk0 8 with done:=x.n 0 % 16}
 else {pk0 9 with snap:=⟨x.n 0 % 16,x.n 1 % 8,x.n 2 % 16,zkZ x.acts⟩}
theorem zgJ {k:Int} (h:zav k):k % 9=0∨k % 9=1∨k % 9=2∨k % 9=3∨k % 9=4∨k % 9=5∨k % 9=6∨k % 9=7∨k % 9=8:=by omega
abbrev NTold.lent (t:NTold):List C:=[.d (uD t.done), .d (uD t.view), .d (uD t.slot), .d (uD t.time), .lent t.votes.length (zfz t.votes)]
set_option maxHeartbeats 8000000 in
theorem znj (x:Inp) (h:x.ok):CallOK prog 18 [.f (au x.kind), .f (al x.ns.length (zad x.ns)), .f (al x.acts.length (zkh x.acts)), .f (.agg x.told.lent)] (fun r o=>r=[.agg ((zaE x).enc.map RO.d)]∧o=[]):=by
 refine CallOK.nil ?_
 refine zh func18 results18 ntmps18 call18 ?_
 simp only[f18,Option.getD]
 obtain⟨kind,ns,acts,told⟩:=x
 obtain⟨hk,hnl,hnb,hal,hab,ht⟩:=h
 simp only at hk hnl hnb hal hab ht
 have hg:∀k,zav (ns.getD k 0):=zb9 hnb
 have hu:∀k,u8 (ns.getD k 0):=fun k=>zbD (hg k)
 have h0:=zvY ns hnl
 have mk:=ziX (m:=9) hk (by decide)
 have wk:IntKind.i64.wrap kind=kind:=wrap64 (by have:=hk.1;omega) (by have:=hk.2;omega)
 have w0:∀k,IntKind.i64.wrap (ns.getD k 0)=ns.getD k 0:=fun k=>wrap64 (by have:=(hg k).1;omega) (by have:=(hg k).2;omega)
 have m16:∀k,(ns.getD k 0).tmod 16=ns.getD k 0 % 16:=fun k=>ziX (hg k) (by decide)
 have m5:=ziX (m:=5) (hg 1) (by decide)
 have m9:=ziX (m:=9) (hg 1) (by decide)
 have m8':=ziX (m:=8) (hg 1) (by decide)
 have w9:IntKind.i64.wrap (1+ns.getD 1 0 % 9)=1+ns.getD 1 0 % 9:=wrap64 (by omega) (by omega)
 rcases zgJ hk with e|e|e|e|e|e|e|e|e
 ·have kk:IntKind.i64.wrap (1+0)=1:=wrap64 (by omega) (by omega)
  have hc:=zpZ _ _ _ _ _ (hu 0) (hu 1) (hu 2) (hu 3) (hu 4)
  rw[show zaE ⟨kind,ns,acts,told⟩={pk0 1 with req:=zo6 (ns.getD 0 0) (ns.getD 1 0) (ns.getD 2 0) (ns.getD 3 0) (ns.getD 4 0)} from by unfold zaE;simp only[e,Int.reduceEq,if_true,if_false]]
  repeat'(first|exact zC|refine zq (I mk (I wk (I w0 (I m16 (I e kk))))) ?_|refine zx (h0) ?_|refine zx (hc) ?_|(apply zaa<;>intro hb)|(apply I;exact zI)|(apply I<;>intro hg))
  simp[zaN,zcC,zaQ,zaA,st0, -List.length_flatMap,zas,zaP,zaO,zax,zah,zaC]
 ·have kk:IntKind.i64.wrap (1+1)=2:=wrap64 (by omega) (by omega)
  have hc:=zAp _ _ ns (hg 0) (hg 1) hnl hnb
  rw[show zaE ⟨kind,ns,acts,told⟩={pk0 2 with ans:=zx3 (ns.getD 0 0) (ns.getD 1 0) ns} from by unfold zaE;simp only[e,Int.reduceEq,if_true,if_false]]
  repeat'(first|exact zC|refine zq (I mk (I wk (I w0 (I m16 (I e kk))))) ?_|refine zx (h0) ?_|refine zx (hc) ?_|(apply zaa<;>intro hb)|(apply I;exact zI)|(apply I<;>intro hg))
  simp[zaN,zcC,zaQ,zaA,st0, -List.length_flatMap,zas,zaP,zaO,zax,zah,zaC]
 ·have kk:IntKind.i64.wrap (1+2)=3:=wrap64 (by omega) (by omega)
  rw[show zaE ⟨kind,ns,acts,told⟩={pk0 3 with ballot:=ns.getD 0 0 % 16} from by unfold zaE;simp only[e,Int.reduceEq,if_true,if_false]]
  repeat'(first|exact zC|refine zq (I mk (I wk (I w0 (I m16 (I e kk))))) ?_|refine zx (h0) ?_|(apply zaa<;>intro hb)|(apply I;exact zI)|(apply I<;>intro hg))
  simp[zaN,zcC,zaQ,zaA,st0, -List.length_flatMap,zas,zaP,zaO,zax,zah,zaC]
 ·have kk:IntKind.i64.wrap (1+3)=4:=wrap64 (by omega) (by omega)
  have hc:=zp1 (ns.getD 1 0 % 5) told (by omega) ht
  rw[show zaE ⟨kind,ns,acts,told⟩={pk0 4 with ballot:=ns.getD 0 0 % 16,prom:=zeH (ns.getD 1 0 % 5) told} from by unfold zaE;simp only[e,Int.reduceEq,if_true,if_false]]
  repeat'(first|exact zC|refine zq (I mk (I wk (I w0 (I m16 (I e (I kk m5)))))) ?_|refine zx (h0) ?_|refine zx (hc) ?_|(apply zaa<;>intro hb)|(apply I;exact zI)|(apply I<;>intro hg))
  simp[zaN,zcC,zaQ,zaA,st0, -List.length_flatMap,zas,zaP,zaO,zax,zah,zaC]
 ·have kk:IntKind.i64.wrap (1+4)=5:=wrap64 (by omega) (by omega)
  have hc:=zkG ns hnl (fun y hy=>zbD (hnb y hy))
  rw[show zaE ⟨kind,ns,acts,told⟩={pk0 5 with ballot:=ns.getD 0 0 % 16,slot:=1+ns.getD 1 0 % 9,bat:=zbG ns} from by unfold zaE;simp only[e,Int.reduceEq,if_true,if_false]]
  repeat'(first|exact zC|refine zq (I mk (I wk (I w0 (I m16 (I e (I kk (I m9 w9))))))) ?_|refine zx (h0) ?_|refine zx (hc) ?_|(apply zaa<;>intro hb)|(apply I;exact zI)|(apply I<;>intro hg))
  simp[zaN,zcC,zaQ,zaA,st0, -List.length_flatMap,zas,zaP,zaO,zax,zah,zaC]
 ·have kk:IntKind.i64.wrap (1+5)=6:=wrap64 (by omega) (by omega)
  have hc:=zkG ns hnl (fun y hy=>zbD (hnb y hy))
  rw[show zaE ⟨kind,ns,acts,told⟩={pk0 6 with ballot:=ns.getD 0 0 % 16,slot:=1+ns.getD 1 0 % 9,bat:=zbG ns} from by unfold zaE;simp only[e,Int.reduceEq,if_true,if_false]]
  repeat'(first|exact zC|refine zq (I mk (I wk (I w0 (I m16 (I e (I kk (I m9 w9))))))) ?_|refine zx (h0) ?_|refine zx (hc) ?_|(apply zaa<;>intro hb)|(apply I;exact zI)|(apply I<;>intro hg))
  simp[zaN,zcC,zaQ,zaA,st0, -List.length_flatMap,zas,zaP,zaO,zax,zah,zaC]
 ·have kk:IntKind.i64.wrap (1+6)=7:=wrap64 (by omega) (by omega)
  rw[show zaE ⟨kind,ns,acts,told⟩={pk0 7 with ballot:=ns.getD 0 0 % 16,done:=ns.getD 1 0 % 16} from by unfold zaE;simp only[e,Int.reduceEq,if_true,if_false]]
  repeat'(first|exact zC|refine zq (I mk (I wk (I w0 (I m16 (I e kk))))) ?_|refine zx (h0) ?_|(apply zaa<;>intro hb)|(apply I;exact zI)|(apply I<;>intro hg))
  simp[zaN,zcC,zaQ,zaA,st0, -List.length_flatMap,zas,zaP,zaO,zax,zah,zaC]
 ·have kk:IntKind.i64.wrap (1+7)=8:=wrap64 (by omega) (by omega)
  rw[show zaE ⟨kind,ns,acts,told⟩={pk0 8 with done:=ns.getD 0 0 % 16} from by unfold zaE;simp only[e,Int.reduceEq,if_true,if_false]]
  repeat'(first|exact zC|refine zq (I mk (I wk (I w0 (I m16 (I e kk))))) ?_|refine zx (h0) ?_|(apply zaa<;>intro hb)|(apply I;exact zI)|(apply I<;>intro hg))
  simp[zaN,zcC,zaQ,zaA,st0, -List.length_flatMap,zas,zaP,zaO,zax,zah,zaC]
 ·have kk:IntKind.i64.wrap (1+8)=9:=wrap64 (by omega) (by omega)
  have hg0:=hg 0
  have hg1:=hg 1
  have hg2:=hg 2
  unfold zav at hg0 hg1 hg2
  have t2:Int.toNat 2=2:=rfl
  have hc:=zvz acts hal hab (ns.getD 0 0 % 16) (ns.getD 1 0 % 8) (ns.getD 2 0 % 16) ⟨by omega,by omega⟩ ⟨by omega,by omega⟩ ⟨by omega,by omega⟩
  rw[show zaE ⟨kind,ns,acts,told⟩={pk0 9 with snap:=⟨ns.getD 0 0 % 16,ns.getD 1 0 % 8,ns.getD 2 0 % 16,zkZ acts⟩} from by unfold zaE;simp only[e,Int.reduceEq,if_true,if_false]]
  repeat'(first|exact zC|refine zq (I mk (I wk (I w0 (I m16 (I e (I kk (I m8' t2))))))) ?_|refine zx (h0) ?_|refine zx (hc) ?_|(apply zaa<;>intro hb)|(apply I;exact zI)|(apply I<;>intro hg))
  simp[zaN,zcC,zaQ,zaA,st0, -List.length_flatMap,zas,zaP,zaO,zax,zah,zaC]
theorem zvO (k:Int):zcR (pk0 k)=true:=by kernel_rfl
theorem zfB {p:Pkt} {k:Int} (h1:okP p=true) (h2:zAe p=pk0 k):ziV p=true:=by rw[ziV,h1,h2,zvO];rfl
theorem zvP {v a:Int} (h:a≤v) (h2:v≤2305843009213693952):inW v a=true:=by simp[inW];omega
theorem zni {n m:Int} (h:zav n) (hm:0<m) (h2:m≤256):zav (n % m):=by
 unfold zav
 have:=Int.emod_nonneg n (show m≠0 by omega)
 have:=Int.emod_lt_of_pos n hm
 omega
theorem zc0 (x:Inp) (h:x.ok):ziV (zaE x)=true:=by
 obtain⟨kind,ns,acts,told⟩:=x
 obtain⟨hk,hnl,hnb,hal,hab,ht⟩:=h
 simp only at hk hnl hnb hal hab ht
 have hg:∀k,zav (ns.getD k 0):=zb9 hnb
 have hb1:Batch.may (zbG ns)=true:=zl4 fun y hy=>zbD (hnb y hy)
 have i0:inW (ns.getD 0 0 % 16) 0=true:=zvP (by omega) (by omega)
 have i1:inW (ns.getD 1 0 % 16) 0=true:=zvP (by omega) (by omega)
 have i2:inW (1+ns.getD 1 0 % 9) 1=true:=zvP (by omega) (by omega)
 rcases zgJ hk with e|e|e|e|e|e|e|e|e
 ·rw[show zaE ⟨kind,ns,acts,told⟩={pk0 1 with req:=zo6 (ns.getD 0 0) (ns.getD 1 0) (ns.getD 2 0) (ns.getD 3 0) (ns.getD 4 0)} from by unfold zaE;simp only[e,Int.reduceEq,if_true,if_false]]
  exact zfB (k:=1) (show Req.may _=true from zrn (zbD (hg 1))) rfl
 ·rw[show zaE ⟨kind,ns,acts,told⟩={pk0 2 with ans:=zx3 (ns.getD 0 0) (ns.getD 1 0) ns} from by unfold zaE;simp only[e,Int.reduceEq,if_true,if_false]]
  exact zfB (k:=2) (show answerB _=true from zrv (hg 0) (hg 1) hnb) rfl
 ·rw[show zaE ⟨kind,ns,acts,told⟩={pk0 3 with ballot:=ns.getD 0 0 % 16} from by unfold zaE;simp only[e,Int.reduceEq,if_true,if_false]]
  exact zfB (k:=3) (i0) rfl
 ·rw[show zaE ⟨kind,ns,acts,told⟩={pk0 4 with ballot:=ns.getD 0 0 % 16,prom:=zeH (ns.getD 1 0 % 5) told} from by unfold zaE;simp only[e,Int.reduceEq,if_true,if_false]]
  exact zfB (k:=4) (show(inW _ 0&&Prom.may _)=true by rw[i0,zoX (by omega) ht];rfl) rfl
 ·rw[show zaE ⟨kind,ns,acts,told⟩={pk0 5 with ballot:=ns.getD 0 0 % 16,slot:=1+ns.getD 1 0 % 9,bat:=zbG ns} from by unfold zaE;simp only[e,Int.reduceEq,if_true,if_false]]
  exact zfB (k:=5) (show(inW _ 0&&inW _ 1&&Batch.may _)=true by rw[i0,i2,hb1];rfl) rfl
 ·rw[show zaE ⟨kind,ns,acts,told⟩={pk0 6 with ballot:=ns.getD 0 0 % 16,slot:=1+ns.getD 1 0 % 9,bat:=zbG ns} from by unfold zaE;simp only[e,Int.reduceEq,if_true,if_false]]
  exact zfB (k:=6) (show(inW _ 0&&inW _ 1&&Batch.may _)=true by rw[i0,i2,hb1];rfl) rfl
 ·rw[show zaE ⟨kind,ns,acts,told⟩={pk0 7 with ballot:=ns.getD 0 0 % 16,done:=ns.getD 1 0 % 16} from by unfold zaE;simp only[e,Int.reduceEq,if_true,if_false]]
  exact zfB (k:=7) (show(inW _ 0&&inW _ 0)=true by rw[i0,i1];rfl) rfl
 ·rw[show zaE ⟨kind,ns,acts,told⟩={pk0 8 with done:=ns.getD 0 0 % 16} from by unfold zaE;simp only[e,Int.reduceEq,if_true,if_false]]
  exact zfB (k:=8) (i0) rfl
 ·rw[show zaE ⟨kind,ns,acts,told⟩={pk0 9 with snap:=⟨ns.getD 0 0 % 16,ns.getD 1 0 % 8,ns.getD 2 0 % 16,zkZ acts⟩} from by unfold zaE;simp only[e,Int.reduceEq,if_true,if_false]]
  exact zfB (k:=9) (show zbt _=true by simp only[zbt,zhk (zni (m:=16) (hg 0) (by decide) (by decide)),zhk (zni (m:=8) (hg 1) (by decide) (by decide)),zhk (zni (m:=16) (hg 2) (by decide) (by decide)),zdE.2 (zq4 acts).rt,Bool.and_self]) rfl
theorem zju (x:Inp) (h:x.ok):(zaE x).ok:=by
 obtain⟨kind,ns,acts,told⟩:=x
 obtain⟨hk,hnl,hnb,hal,hab,ht⟩:=h
 simp only at hk hnl hnb hal hab ht
 have hg:∀k,zav (ns.getD k 0):=zb9 hnb
 have hu:∀k,u8 (ns.getD k 0):=fun k=>zbD (hg k)
 have hb1:=zoW fun y hy=>zbD (hnb y hy)
 have hbl:(zbG ns).reqs.length<2^30:=by have:=hb1.2;omega
 have q0:i64 (ns.getD 0 0 % 16):=zdz (by omega)
 have q1:i64 (ns.getD 1 0 % 16):=zdz (by omega)
 have q2:i64 (1+ns.getD 1 0 % 9):=zdz (by omega)
 rcases zgJ hk with e|e|e|e|e|e|e|e|e
 ·rw[show zaE ⟨kind,ns,acts,told⟩={pk0 1 with req:=zo6 (ns.getD 0 0) (ns.getD 1 0) (ns.getD 2 0) (ns.getD 3 0) (ns.getD 4 0)} from by unfold zaE;simp only[e,Int.reduceEq,if_true,if_false]]
  have h0:=zgO (k:=1) (by unfold i64;omega)
  exact {h0 with req:=zvE (hu 1)}
 ·rw[show zaE ⟨kind,ns,acts,told⟩={pk0 2 with ans:=zx3 (ns.getD 0 0) (ns.getD 1 0) ns} from by unfold zaE;simp only[e,Int.reduceEq,if_true,if_false]]
  have h0:=zgO (k:=2) (by unfold i64;omega)
  exact {h0 with ans:=zka (zrv (hg 0) (hg 1) hnb)}
 ·rw[show zaE ⟨kind,ns,acts,told⟩={pk0 3 with ballot:=ns.getD 0 0 % 16} from by unfold zaE;simp only[e,Int.reduceEq,if_true,if_false]]
  have h0:=zgO (k:=3) (by unfold i64;omega)
  exact {h0 with b:=q0}
 ·rw[show zaE ⟨kind,ns,acts,told⟩={pk0 4 with ballot:=ns.getD 0 0 % 16,prom:=zeH (ns.getD 1 0 % 5) told} from by unfold zaE;simp only[e,Int.reduceEq,if_true,if_false]]
  have h0:=zgO (k:=4) (by unfold i64;omega)
  have hm:=zl5 (zoX (i:=ns.getD 1 0 % 5) (by omega) ht)
  have pl3:(zeH (ns.getD 1 0 % 5) told).votes.length<2^30:=by have:=hm.len;omega
  have vl3:∀v∈(zeH (ns.getD 1 0 % 5) told).votes,v.batch.reqs.length<2^30:=fun v hv=>by have:=(zeC (hm.votes v hv).2.2.2.2).1;omega
  exact {h0 with b:=q0,prom:=zxM (by omega) ht,pl:=pl3,vl:=vl3}
 ·rw[show zaE ⟨kind,ns,acts,told⟩={pk0 5 with ballot:=ns.getD 0 0 % 16,slot:=1+ns.getD 1 0 % 9,bat:=zbG ns} from by unfold zaE;simp only[e,Int.reduceEq,if_true,if_false]]
  have h0:=zgO (k:=5) (by unfold i64;omega)
  exact {h0 with b:=q0,s:=q2,bat:=hb1.1,bl:=hbl}
 ·rw[show zaE ⟨kind,ns,acts,told⟩={pk0 6 with ballot:=ns.getD 0 0 % 16,slot:=1+ns.getD 1 0 % 9,bat:=zbG ns} from by unfold zaE;simp only[e,Int.reduceEq,if_true,if_false]]
  have h0:=zgO (k:=6) (by unfold i64;omega)
  exact {h0 with b:=q0,s:=q2,bat:=hb1.1,bl:=hbl}
 ·rw[show zaE ⟨kind,ns,acts,told⟩={pk0 7 with ballot:=ns.getD 0 0 % 16,done:=ns.getD 1 0 % 16} from by unfold zaE;simp only[e,Int.reduceEq,if_true,if_false]]
  have h0:=zgO (k:=7) (by unfold i64;omega)
  exact {h0 with b:=q0,d:=q1}
 ·rw[show zaE ⟨kind,ns,acts,told⟩={pk0 8 with done:=ns.getD 0 0 % 16} from by unfold zaE;simp only[e,Int.reduceEq,if_true,if_false]]
  have h0:=zgO (k:=8) (by unfold i64;omega)
  exact {h0 with d:=q0}
 ·rw[show zaE ⟨kind,ns,acts,told⟩={pk0 9 with snap:=⟨ns.getD 0 0 % 16,ns.getD 1 0 % 8,ns.getD 2 0 % 16,zkZ acts⟩} from by unfold zaE;simp only[e,Int.reduceEq,if_true,if_false]]
  have h0:=zgO (k:=9) (by unfold i64;omega)
  exact {h0 with snap:=zcr (zq4 acts).rt}
structure MayK (p:Pkt):Prop where
 kind:1≤p.kind∧p.kind≤9
 ballot:0≤p.ballot∧p.ballot≤2305843009213693952
 slot:0≤p.slot∧p.slot≤2305843009213693952
 done:0≤p.done∧p.done≤2305843009213693952
 req:znb p.req ⟨0,0,0,0, .empty⟩=true∨Req.may p.req=true
 ans:p.ans.seq=0∨answerB p.ans=true
 time:p.prom.time=0∨Prom.may p.prom=true
theorem zvQ {p:Pkt} (h:ziV p=true):MayK p:=by
 obtain⟨ho,he⟩:=zgf h
 obtain⟨kind,ballot,slot,done,req,ans,bat,prom,snap⟩:=p
 rcases kinds kind with rfl|rfl|rfl|rfl|rfl|rfl|rfl|rfl|rfl|⟨k1,k2,k3,k4,k5,k6,k7,k8,k9⟩
 ·have ho:Req.may req=true:=ho
  have he:zcR ⟨1,ballot,slot,done,⟨0,0,0,0, .empty⟩,ans,bat,prom,snap⟩=true:=he
  simp only[zcR,inW,Bool.and_eq_true,beq_iff_eq,decide_eq_true_eq]at ho he
  have b:=he.1.1.1.1.1.1.1.1.1.1.1.1.1.1.1.1.1.1
  exact⟨by simp only;omega,by simp only;omega,by simp only;omega,by simp only;omega, .inr ho, .inl (by simp_all), .inl (by simp_all)⟩
 ·have ho:answerB ans=true:=ho
  have he:zcR ⟨2,ballot,slot,done,req,⟨0,0,⟨0,0,0,[]⟩⟩,bat,prom,snap⟩=true:=he
  simp only[zcR,inW,Bool.and_eq_true,beq_iff_eq,decide_eq_true_eq]at ho he
  have b:=he.1.1.1.1.1.1.1.1.1.1.1.1.1.1.1.1.1.1
  exact⟨by simp only;omega,by simp only;omega,by simp only;omega,by simp only;omega, .inl (by simp_all), .inr ho, .inl (by simp_all)⟩
 ·have ho:inW ballot 0=true:=ho
  have he:zcR ⟨3,0,slot,done,req,ans,bat,prom,snap⟩=true:=he
  simp only[zcR,inW,Bool.and_eq_true,beq_iff_eq,decide_eq_true_eq]at ho he
  have b:=he.1.1.1.1.1.1.1.1.1.1.1.1.1.1.1.1.1.1
  exact⟨by simp only;omega,by simp only;omega,by simp only;omega,by simp only;omega, .inl (by simp_all), .inl (by simp_all), .inl (by simp_all)⟩
 ·have ho:(inW ballot 0&&Prom.may prom)=true:=ho
  have he:zcR ⟨4,0,slot,done,req,ans,bat,⟨0,0,⟨0,0⟩,0,[]⟩,snap⟩=true:=he
  simp only[zcR,inW,Bool.and_eq_true,beq_iff_eq,decide_eq_true_eq]at ho he
  have b:=he.1.1.1.1.1.1.1.1.1.1.1.1.1.1.1.1.1.1
  exact⟨by simp only;omega,by simp only;omega,by simp only;omega,by simp only;omega, .inl (by simp_all), .inl (by simp_all), .inr ho.2⟩
 ·have ho:(inW ballot 0&&inW slot 1&&Batch.may bat)=true:=ho
  have he:zcR ⟨5,0,0,done,req,ans,bat00,prom,snap⟩=true:=he
  simp only[zcR,inW,Bool.and_eq_true,beq_iff_eq,decide_eq_true_eq]at ho he
  have b:=he.1.1.1.1.1.1.1.1.1.1.1.1.1.1.1.1.1.1
  exact⟨by simp only;omega,by simp only;omega,by simp only;omega,by simp only;omega, .inl (by simp_all), .inl (by simp_all), .inl (by simp_all)⟩
 ·have ho:(inW ballot 0&&inW slot 1&&Batch.may bat)=true:=ho
  have he:zcR ⟨6,0,0,done,req,ans,bat00,prom,snap⟩=true:=he
  simp only[zcR,inW,Bool.and_eq_true,beq_iff_eq,decide_eq_true_eq]at ho he
  have b:=he.1.1.1.1.1.1.1.1.1.1.1.1.1.1.1.1.1.1
  exact⟨by simp only;omega,by simp only;omega,by simp only;omega,by simp only;omega, .inl (by simp_all), .inl (by simp_all), .inl (by simp_all)⟩
 ·have ho:(inW ballot 0&&inW done 0)=true:=ho
  have he:zcR ⟨7,0,slot,0,req,ans,bat,prom,snap⟩=true:=he
  simp only[zcR,inW,Bool.and_eq_true,beq_iff_eq,decide_eq_true_eq]at ho he
  have b:=he.1.1.1.1.1.1.1.1.1.1.1.1.1.1.1.1.1.1
  exact⟨by simp only;omega,by simp only;omega,by simp only;omega,by simp only;omega, .inl (by simp_all), .inl (by simp_all), .inl (by simp_all)⟩
 ·have ho:inW done 0=true:=ho
  have he:zcR ⟨8,ballot,slot,0,req,ans,bat,prom,snap⟩=true:=he
  simp only[zcR,inW,Bool.and_eq_true,beq_iff_eq,decide_eq_true_eq]at ho he
  have b:=he.1.1.1.1.1.1.1.1.1.1.1.1.1.1.1.1.1.1
  exact⟨by simp only;omega,by simp only;omega,by simp only;omega,by simp only;omega, .inl (by simp_all), .inl (by simp_all), .inl (by simp_all)⟩
 ·have ho:zbt snap=true:=ho
  have he:zcR ⟨9,ballot,slot,done,req,ans,bat,prom,⟨0,0,0,zAB⟩⟩=true:=he
  simp only[zcR,inW,Bool.and_eq_true,beq_iff_eq,decide_eq_true_eq]at ho he
  have b:=he.1.1.1.1.1.1.1.1.1.1.1.1.1.1.1.1.1.1
  exact⟨by simp only;omega,by simp only;omega,by simp only;omega,by simp only;omega, .inl (by simp_all), .inl (by simp_all), .inl (by simp_all)⟩
 ·simp only[beq_eq_false_iff_ne,ne_eq]at k1 k2 k3 k4 k5 k6 k7 k8 k9
  unfold okP at ho
  simp only[k1,k2,k3,k4,k5,k6,k7,k8,k9,if_false]at ho
  cases ho
theorem zkN {p:Pkt} (h:MayK p→False):ziV p=false:=by
 cases hp:ziV p
 ·rfl
 ·exact(h (zvQ hp)).elim
set_option maxHeartbeats 8000000 in
theorem zkO (kind:Int) (ns:List Int) (acts:List Act) (told:NTold) (how n:Int) (h:(Inp.mk kind ns acts told).ok) (hh:zav how) (hn:zav n):
  CallOK prog 7 [.f (au kind), .f (al ns.length (zad ns)), .f (al acts.length (zkh acts)), .f (.agg told.lent), .f (au how), .f (au n)] (fun r o=>r=[rb true]∧o=[]):=by
 refine zh func7 results7 ntmps7 call7 ?_
 simp only[f7,Option.getD]
 have h1:=znj _ h
 have hm:=zc0 _ h
 have ho:=zju _ h
 simp only at h1
 obtain⟨P,hP⟩:∃P,P=zaE ⟨kind,ns,acts,told⟩:=⟨_,rfl⟩
 rw[←hP]at h1 hm ho
 have h2:=zcy P ho
 rw[hm]at h2
 have mh:=ziX (m:=7) hh (by decide)
 have haw:=zid
 unfold zav at hn hh
 have wn:IntKind.i64.wrap n=n:=wrap64 (by omega) (by omega)
 clear hP
 rcases(show how % 7=0∨how % 7=1∨how % 7=2∨how % 7=3∨how % 7=4∨how % 7=5∨how % 7=6 by omega)with e|e|e|e|e|e|e
 ·have w1:IntKind.i64.wrap (10+n)=10+n:=wrap64 (by omega) (by omega)
  have hok:Pkt.ok {P with kind:=10+n}:={ho with k:=by unfold i64;simp only;omega}
  have hno:ziV {P with kind:=10+n}=false:=zkN fun f=>by have:=f.kind;simp only at this;omega
  have h3:=zdT _ hok hno
  have h4:=zcy _ hok
  rw[hno]at h4
  exact zW (I mh (I e (I wn w1))) (I (h1) (I (h2) (I (h3) (I (h4) (haw)))))
 ·have w1:IntKind.i64.wrap (-1 - n)= -1 - n:=wrap64 (by omega) (by omega)
  have hok:Pkt.ok {P with ballot:= -1 - n}:={ho with b:=by unfold i64;simp only;omega}
  have hno:ziV {P with ballot:= -1 - n}=false:=zkN fun f=>by have:=f.ballot;simp only at this;omega
  have h3:=zdT _ hok hno
  have h4:=zcy _ hok
  rw[hno]at h4
  exact zW (I mh (I e (I wn w1))) (I (h1) (I (h2) (I (h3) (I (h4) (haw)))))
 ·have w1:IntKind.i64.wrap (2305843009213693953+n)=2305843009213693953+n:=wrap64 (by omega) (by omega)
  have hok:Pkt.ok {P with done:=2305843009213693953+n}:={ho with d:=by unfold i64;simp only;omega}
  have hno:ziV {P with done:=2305843009213693953+n}=false:=zkN fun f=>by have:=f.done;simp only at this;omega
  have h3:=zdT _ hok hno
  have h4:=zcy _ hok
  rw[hno]at h4
  exact zW (I mh (I e (I wn w1))) (I (h1) (I (h2) (I (h3) (I (h4) (haw)))))
 ·have w1:IntKind.i64.wrap (-1 - n)= -1 - n:=wrap64 (by omega) (by omega)
  have hok:Pkt.ok {P with slot:= -1 - n}:={ho with s:=by unfold i64;simp only;omega}
  have hno:ziV {P with slot:= -1 - n}=false:=zkN fun f=>by have:=f.slot;simp only at this;omega
  have h3:=zdT _ hok hno
  have h4:=zcy _ hok
  rw[hno]at h4
  exact zW (I mh (I e (I wn w1))) (I (h1) (I (h2) (I (h3) (I (h4) (haw)))))
 ·have w1:=wn
  have hok:Pkt.ok {P with req:=⟨9,1,0,0, .empty⟩}:={ho with req:=⟨(show i64 9 by unfold i64;omega),(show i64 1 by unfold i64;omega),zdy,zdy,(by show(ByteArray.empty).size<2^62;decide)⟩}
  have hno:ziV {P with req:=⟨9,1,0,0, .empty⟩}=false:=zkN fun f=>f.req.elim (fun q=>Bool.noConfusion (q.symm.trans (show znb ⟨9,1,0,0, .empty⟩ ⟨0,0,0,0, .empty⟩=false from by kernel_rfl))) (fun q=>Bool.noConfusion (q.symm.trans (show Req.may ⟨9,1,0,0, .empty⟩=false from by kernel_rfl)))
  have h3:=zdT _ hok hno
  have h4:=zcy _ hok
  rw[hno]at h4
  exact zW (I mh (I e (I wn w1))) (I (h1) (I (h2) (I (h3) (I (h4) (haw)))))
 ·have w1:=wn
  have hok:Pkt.ok {P with prom:={P.prom with time:= -1}}:={ho with prom:=⟨ho.prom.1,ho.prom.2.1,ho.prom.2.2.1,ho.prom.2.2.2.1,by unfold i64;simp only;omega,ho.prom.2.2.2.2.2⟩}
  have hno:ziV {P with prom:={P.prom with time:= -1}}=false:=zkN fun f=>f.time.elim (fun q=>by simp only at q;omega) (fun q=>by have:=(zl5 q).time;simp only at this;omega)
  have h3:=zdT _ hok hno
  have h4:=zcy _ hok
  rw[hno]at h4
  exact zW (I mh (I e (I wn w1))) (I (h1) (I (h2) (I (h3) (I (h4) (haw)))))
 ·have w1:=wn
  have hok:Pkt.ok {P with ans:={P.ans with seq:= -1}}:={ho with ans:=ho.ans}
  have hno:ziV {P with ans:={P.ans with seq:= -1}}=false:=zkN fun f=>f.ans.elim (fun q=>by simp only at q;omega) (fun q=>by have:=(zb0 q).2.1;simp only at this;omega)
  have h3:=zdT _ hok hno
  have h4:=zcy _ hok
  rw[hno]at h4
  exact zW (I mh (I e (I wn w1))) (I (h1) (I (h2) (I (h3) (I (h4) (haw)))))
theorem zCh {n:Int} (h:(Lit.int .u8 n).wf=true):zav n:=by
 have h2:(decide (IntKind.u8.min≤n)&&decide (n≤IntKind.u8.max))=true:=h
 have e1:IntKind.u8.min=0:=by decide
 have e2:IntKind.u8.max=255:=by decide
 rw[e1,e2]at h2
 simp only[Bool.and_eq_true,decide_eq_true_eq]at h2
 unfold zav
 omega
theorem zne {α:Type} {enc:α→List D} {ok:α→Prop} {s:Sh} (h:∀ds,ShD s ds→∃x,ds=enc x∧ok x):∀xs:List (List D),(∀x∈xs,ShD s x)→∃l:List α,l.length=xs.length∧xs.flatten=l.flatMap enc∧∀x∈l,ok x
 |[],_=>⟨[],rfl,rfl,fun x hx=>by cases hx⟩
 |x::xs,hx=>by
  obtain⟨a,ha1,ha2⟩:=h x (hx x (by simp))
  obtain⟨l,h1,h2,h3⟩:=zne h xs fun y hy=>hx y (by simp[hy])
  refine⟨a::l,by simp[h1], ?_,fun y hy=> ?_⟩
  ·rw[List.flatten_cons,List.flatMap_cons,h2,ha1]
  ·rcases List.mem_cons.1 hy with rfl|hy
   ·exact ha2
   ·exact h3 y hy
theorem zp2:reachBytes<2^60:=by decide
theorem byte_of (ds:List D) (h:ShD (.int .u8) ds):∃x:Int,ds=[uD x]∧zav x:=by
 simp only[ShD]at h
 obtain⟨n,rfl,hn⟩:=h
 exact⟨n,rfl,zCh hn⟩
abbrev zkI:Sh:= .struct [.int .u8, .int .u8, .int .u8, .int .u8, .int .u8, .int .u8]
theorem zBA (ds:List D) (h:ShD zkI ds):∃a:Act,ds=a.enc∧zpF a:=by
 rw[ShD]at h
 simp only[ShDs]at h
 obtain⟨_,_,rfl,h1,_,_,rfl,h2,_,_,rfl,h3,_,_,rfl,h4,_,_,rfl,h5,_,_,rfl,h6,rfl⟩:=h
 obtain⟨a,rfl,ha⟩:=byte_of _ h1
 obtain⟨b,rfl,hb⟩:=byte_of _ h2
 obtain⟨c,rfl,hc⟩:=byte_of _ h3
 obtain⟨d,rfl,hd⟩:=byte_of _ h4
 obtain⟨e,rfl,he⟩:=byte_of _ h5
 obtain⟨f,rfl,hf⟩:=byte_of _ h6
 exact⟨⟨a,b,c,d,e,f⟩,rfl,ha,hb,hc,hd,he,hf⟩
theorem zp3 (ds:List D) (h:ShD (.slice 6 zkI) ds):∃l:List Act,ds=[.sl l.length (zkh l)]∧l.length<2^60∧∀x∈l,zpF x:=by
 rw[ShD]at h
 obtain⟨xs,rfl,hx1,hx2⟩:=h
 obtain⟨l,l1,l2,l3⟩:=zne zBA xs hx2
 have:=zp2
 exact⟨l,by rw[←l1,l2],by omega,l3⟩
theorem zp4 (l:List Int):(l.flatMap fun n=>[uD n])=zad l:=by
 induction l with
 |nil=>rfl
 |cons a l ih=>simp[List.flatMap_cons,ih]
theorem zvH (ds:List D) (h:ShD (.slice 1 (.int .u8)) ds):∃l:List Int,ds=[.sl l.length (zad l)]∧l.length<2^60∧∀x∈l,zav x:=by
 rw[ShD]at h
 obtain⟨xs,rfl,hx1,hx2⟩:=h
 obtain⟨l,l1,l2,l3⟩:=zne byte_of xs hx2
 have:=zp2
 rw[zp4]at l2
 exact⟨l,by rw[←l1,l2],by omega,l3⟩
def zsE (n:Int):Prop:=0≤n∧n<65536
abbrev wD (n:Int):D:= .v (.int .u16 n)
abbrev aw (n:Int):AV:= .one (.d (wD n))
theorem zBB {n:Int} (h:(Lit.int .u16 n).wf=true):zsE n:=by
 have h2:(decide (IntKind.u16.min≤n)&&decide (n≤IntKind.u16.max))=true:=h
 have e1:IntKind.u16.min=0:=by decide
 have e2:IntKind.u16.max=65535:=by decide
 rw[e1,e2]at h2
 simp only[Bool.and_eq_true,decide_eq_true_eq]at h2
 unfold zsE
 omega
theorem zAj (ds:List D) (h:ShD (.int .u16) ds):∃x:Int,ds=[wD x]∧zsE x:=by
 simp only[ShD]at h
 obtain⟨n,rfl,hn⟩:=h
 exact⟨n,rfl,zBB hn⟩
abbrev zsK:Sh:= .struct [.int .u8, .int .u8, .slice 1 (.int .u8)]
abbrev zeT:Sh:= .struct [.int .u8, .int .u8, .int .u8, .int .u8, .slice 32 zsK]
theorem zvX (ds:List D) (h:ShD zsK ds):∃v:NVote,ds=v.enc∧v.ok:=by
 rw[ShD]at h
 simp only[ShDs]at h
 obtain⟨_,_,rfl,h1,_,_,rfl,h2,_,_,rfl,h3,rfl⟩:=h
 obtain⟨a,rfl,ha⟩:=byte_of _ h1
 obtain⟨b,rfl,hb⟩:=byte_of _ h2
 obtain⟨l,rfl,l1,l2⟩:=zvH _ h3
 exact⟨⟨a,b,l⟩,rfl,zbD ha,zbD hb,l1,fun x hx=>zbD (l2 x hx)⟩
theorem zl9 (ds:List D) (h:ShD zeT ds):∃v:NTold,ds=v.enc∧v.ok:=by
 rw[ShD]at h
 simp only[ShDs]at h
 obtain⟨_,_,rfl,h1,_,_,rfl,h2,_,_,rfl,h3,_,_,rfl,h4,_,_,rfl,h5,rfl⟩:=h
 obtain⟨a,rfl,ha⟩:=byte_of _ h1
 obtain⟨b,rfl,hb⟩:=byte_of _ h2
 obtain⟨c,rfl,hc⟩:=byte_of _ h3
 obtain⟨d,rfl,hd⟩:=byte_of _ h4
 rw[ShD]at h5
 obtain⟨xs,rfl,hx1,hx2⟩:=h5
 obtain⟨l,l1,l2,l3⟩:=zne zvX xs hx2
 have:=zp2
 refine⟨⟨a,b,c,d,l⟩, ?_,zbD ha,zbD hb,zbD hc,zbD hd,by simp only;omega,l3⟩
 rw[←l1,l2]
 rfl
theorem zru {r:Reply} (h:zbR r=true):∀x∈zcx r,zav x:=by
 obtain⟨f1,f2,f3,f4,f5⟩:=zdd h
 have hg:=zdo h
 intro x hx
 simp only[zcx,List.mem_append,List.mem_cons,List.not_mem_nil,or_false]at hx
 rcases hx with rfl|hx|(rfl|rfl)|hx
 ·unfold zav;omega
 ·exact zd5 _ x hx
 ·unfold zav;omega
 ·unfold zav;omega
 ·obtain⟨g,hgm,hx⟩:=List.mem_flatMap.1 hx
  have:=hg g hgm
  rcases List.mem_append.1 hx with hx|hx
  ·exact zpA _ (by omega) x hx
  ·exact zd5 _ x hx
theorem zvN {m:Memo} (h:answerB m=true):∀x∈zbd m,zav x:=by
 obtain⟨f1,f2,f3⟩:=zb0 h
 intro x hx
 simp only[zbd,List.mem_append,List.mem_cons,List.not_mem_nil,or_false]at hx
 rcases hx with rfl|hx|hx
 ·unfold zav;omega
 ·exact zd5 _ x hx
 ·exact zru f3 x hx
theorem zxZ {s:St} (h:RightS s):∀x∈zd4 s,zav x:=by
 have h1:=h.sl
 have h2:=h.ll
 have h3:=zhQ h
 intro x hx
 simp only[zd4,sb3,sb2,sb1,zkY,List.take_length,List.mem_append,List.mem_cons,List.not_mem_nil,or_false]at hx
 rcases hx with(((((hx|hx|hx|rfl)|hx)|rfl)|hx)|rfl)|hx
 ·exact zd5 _ x hx
 ·exact zd5 _ x hx
 ·exact zd5 _ x hx
 ·unfold zav;omega
 ·obtain⟨g,hg,hx⟩:=List.mem_flatMap.1 hx
  obtain⟨f1,_,_⟩:=zcA.1 (h.sok g hg).1
  simp only[isClient,Bool.and_eq_true,decide_eq_true_eq]at f1
  simp only[zi1,List.mem_cons,List.mem_append]at hx
  rcases hx with rfl|hx|hx
  ·unfold zav;omega
  ·exact zd5 _ x hx
  ·exact zd5 _ x hx
 ·unfold zav;omega
 ·obtain⟨k,hk,hx⟩:=List.mem_flatMap.1 hx
  obtain⟨q0,q1,q2,q3,q4,q5⟩:=zgC h hk
  simp only[zio,lk0,List.mem_append,List.mem_cons,List.not_mem_nil,or_false]at hx
  rcases hx with(hx|rfl|hx|rfl)|hx
  ·exact zpA _ (by omega) x hx
  ·unfold zav;omega
  ·exact zd5 _ x hx
  ·unfold zav;omega
  ·have:=q5 x hx;unfold zav;omega
 ·unfold zav;omega
 ·obtain⟨m,hm,hx⟩:=List.mem_flatMap.1 hx
  exact zvN (h.mok m hm) x hx
section
variable {bs:List Int}
theorem zdV {p:Nat} {v:Int} {rest:List Int} (h:bs.drop p=zbz v++rest) (hv:0≤v∧v<4611686018427387904):zaW bs p= .ok (v,((p+8:Nat):Int))∧bs.drop (p+8)=rest:=⟨zek h hv,by have:=zaG h;rwa[zaY]at this⟩
theorem byte_at {p:Nat} {x:Int} {rest:List Int} (h:bs.drop p=[x]++rest):zaU bs p= .ok (x,((p+1:Nat):Int))∧bs.drop (p+1)=rest:=⟨zhn h,zaG h⟩
theorem zBD {p:Nat} {k n:Int} {s:ByteArray} {rest:List Int} (h:bs.drop p=zoO k n s++rest) (hm:zk1 k n s=true):znm bs p= .ok ((k,n,s),((p+(zoO k n s).length:Nat):Int)):=by
 obtain⟨f1,f2,f3,f4,f5⟩:=zdF hm
 obtain⟨e1,h1⟩:=byte_at (x:=k) (rest:=zbz n++(zdZ s++rest)) (by rw[h];simp[zoO])
 obtain⟨e2,h2⟩:=zdV h1 (by omega)
 have e3:=zqb h2 f5
 rw[znm,e1];simp only
 rw[e2];simp only
 rw[e3];simp only
 rw[if_pos hm,zm8]
 refine congrArg Except.ok (Prod.ext rfl ?_)
 simp only
 omega
theorem zyR {p:Nat} {r:Req} {rest:List Int} (h:bs.drop p=ziA r++rest) (hm:Req.may r=true):ziz bs p= .ok (r,((p+(ziA r).length:Nat):Int)):=by
 obtain⟨f1,f2,f3,_⟩:=zeD hm
 obtain⟨e1,h1⟩:=byte_at (x:=r.client) (rest:=zbz r.seq++(zoO r.kind r.session r.name++rest)) (by rw[h];simp[ziA])
 obtain⟨e2,h2⟩:=zdV h1 (by omega)
 have e3:=zBD h2 f3
 rw[ziz,e1];simp only
 rw[e2];simp only
 rw[e3];simp only
 rw[if_pos (show Req.may ⟨r.client,r.seq,r.kind,r.session,r.name⟩=true from hm)]
 refine congrArg Except.ok (Prod.ext rfl ?_)
 simp[ziA,zaY]
 omega
theorem zvM {p:Nat} {b:Batch} {rest:List Int} (h:bs.drop p=zeR b++rest) (hm:Batch.may b=true):zgH bs p= .ok (b,((p+(zeR b).length:Nat):Int)):=by
 cases hf:b.fill
 ·obtain⟨h3,hr⟩:=zeC hm
  have hn:=zkA hm
  rw[zeR,if_neg (by rw[hf];simp)]at h⊢
  obtain⟨e1,h1⟩:=byte_at (x:=0) (rest:=(zfG b).flatMap zbz++([(b.reqs.length:Int)]++(b.reqs.flatMap ziA++rest))) (by rw[h];simp[bp1,bp0,zaL])
  have e2:=zeJ (f:=zaW bs) (enc:=zbz) (l:=zfG b) (acc:=[]) (fun x hx p rest hd=>by rw[zek hd (by have:=hn x hx;omega),zaY]) h1
  have h2:=zaG h1
  have e3:=zfJ (most:=3) h2 (by omega)
  have h3:=zaG h2
  have e4:=zeJ (f:=ziz bs) (enc:=ziA) (l:=b.reqs) (acc:=[]) (fun x hx p rest hd=>zyR hd (hr x hx)) h3
  simp only[List.length_cons,List.length_nil,Nat.reduceAdd]at e2
  rw[zgH,e1];simp only
  rw[if_neg (by decide),if_neg (by decide),e2];simp only
  rw[e3];simp only
  rw[Int.toNat_natCast,show((p+1+((zfG b).flatMap zbz).length+1:Nat):Int)=((p+1+((zfG b).flatMap zbz).length+[(b.reqs.length:Int)].length:Nat):Int) from rfl,e4]
  simp only[List.nil_append]
  rw[show(⟨false,(zfG b).getD 0 0,⟨(zfG b).getD 1 0,(zfG b).getD 2 0⟩,(zfG b).getD 3 0,b.reqs⟩:Batch)=b from by rw[←hf];rfl,if_pos hm]
  have l8:((zfG b).flatMap zbz).length=32:=zbA (l:=zfG b)
  have l9:(bp1 b b.reqs.length).length=34+(b.reqs.flatMap ziA).length:=by
   rw[bp1,List.length_append,List.length_append,zm7 b (Nat.le_refl _),List.take_length];simp
  refine congrArg Except.ok (Prod.ext rfl ?_)
  rw[l8,l9]
  simp only[List.length_singleton]
  omega
 ·have hb:b=⟨true,0,⟨0,0⟩,0,[]⟩:=by
   unfold Batch.may at hm
   rw[if_pos hf]at hm
   simp only[Bool.and_eq_true,beq_iff_eq]at hm
   obtain⟨fill,view,⟨tv,ts⟩,time,reqs⟩:=b
   simp only at hf hm
   obtain⟨⟨⟨h1,h2⟩,h3,h4⟩,h5⟩:=hm
   have:reqs=[]:=List.length_eq_zero_iff.1 (by omega)
   subst hf h1 h2 h3 h4 this
   rfl
  rw[zeR,if_pos hf]at h⊢
  rw[zgH,(byte_at h).1];simp only
  rw[if_neg (by decide),if_pos trivial,hb]
  rfl
theorem zAm {p:Nat} {v:Vote} {rest:List Int} (h:bs.drop p=zi3 v++rest) (hn:∀x∈[v.slot,v.ballot],0≤x∧x<4611686018427387904) (hm:Batch.may v.batch=true):zgL bs p= .ok (v,((p+(zi3 v).length:Nat):Int)):=by
 obtain⟨e1,h1⟩:=zdV (v:=v.slot) (rest:=zbz v.ballot++(zeR v.batch++rest)) (by rw[h];simp[zi3,zaL]) (hn _ (by simp))
 obtain⟨e2,h2⟩:=zdV h1 (hn _ (by simp))
 have e3:=zvM h2 hm
 rw[zgL,e1];simp only
 rw[e2];simp only
 rw[e3]
 refine congrArg Except.ok (Prod.ext rfl ?_)
 simp[zi3,zbA]
 omega
theorem zAn {p:Nat} {x:Prom} {rest:List Int} (h:bs.drop p=zeG x++rest) (m:MayP x):zgM bs p= .ok (x,((p+(zeG x).length:Nat):Int)):=by
 have hn:=zoS m
 obtain⟨e1,h1⟩:=byte_at (x:=x.src) (rest:=zbz x.done++(zbz x.tip.view++(zbz x.tip.slot++(zbz x.time++([(x.votes.length:Int)]++(x.votes.flatMap zi3++rest)))))) (by rw[h];simp[zeG,pr1,pr0,zaL])
 obtain⟨e2,h2⟩:=zdV h1 (hn _ (by simp))
 obtain⟨e3,h3⟩:=zdV h2 (hn _ (by simp))
 obtain⟨e4,h4⟩:=zdV h3 (hn _ (by simp))
 obtain⟨e5,h5⟩:=zdV h4 (hn _ (by simp))
 obtain⟨e6,h6⟩:=byte_at h5
 have e7:=zeJ (f:=zgL bs) (enc:=zi3) (l:=x.votes) (acc:=[]) (fun v hv p rest hd=>zAm hd (zkE m hv).1 (zkE m hv).2) h6
 rw[zgM,e1];simp only
 rw[e2];simp only
 rw[e3];simp only
 rw[e4];simp only
 rw[e5];simp only
 rw[e6];simp only
 rw[Int.toNat_natCast,e7]
 refine congrArg Except.ok (Prod.ext rfl ?_)
 simp only[zeG,pr1,List.length_append,zvs,List.take_length]
 omega
end
theorem zAo {bs:List Int} {p:Nat} {x:Inp} {rest:List Int} (h:x.ok) (hd:bs.drop p=zk2 (zaE x)++rest):znp bs (zaE x).kind p= .ok (zaE x,((p+(zk2 (zaE x)).length:Nat):Int)):=by
 have hm:=zc0 x h
 have ho:=(zgf hm).1
 clear hm
 obtain⟨kind,ns,acts,told⟩:=x
 obtain⟨hk,hnl,hnb,hal,hab,ht⟩:=h
 simp only at hk hnl hnb hal hab ht
 have b0:0≤ns.getD 0 0 % 16∧ns.getD 0 0 % 16<4611686018427387904:=by omega
 have b1:0≤ns.getD 1 0 % 16∧ns.getD 1 0 % 16<4611686018427387904:=by omega
 have b2:0≤1+ns.getD 1 0 % 9∧1+ns.getD 1 0 % 9<4611686018427387904:=by omega
 rcases zgJ hk with e|e|e|e|e|e|e|e|e
 ·rw[show zaE ⟨kind,ns,acts,told⟩={pk0 1 with req:=zo6 (ns.getD 0 0) (ns.getD 1 0) (ns.getD 2 0) (ns.getD 3 0) (ns.getD 4 0)} from by unfold zaE;simp only[e,Int.reduceEq,if_true,if_false]]at hd ho⊢
  have hd:bs.drop p=(ziA (zo6 (ns.getD 0 0) (ns.getD 1 0) (ns.getD 2 0) (ns.getD 3 0) (ns.getD 4 0)))++rest:=hd
  have r:=zyR hd ho
  show zal (ziz bs p) _=_
  rw[r]
  rfl
 ·rw[show zaE ⟨kind,ns,acts,told⟩={pk0 2 with ans:=zx3 (ns.getD 0 0) (ns.getD 1 0) ns} from by unfold zaE;simp only[e,Int.reduceEq,if_true,if_false]]at hd ho⊢
  have hd:bs.drop p=(zbd (zx3 (ns.getD 0 0) (ns.getD 1 0) ns))++rest:=hd
  have r:=zqc hd ho
  show zal (zeV bs p) _=_
  rw[r]
  rfl
 ·rw[show zaE ⟨kind,ns,acts,told⟩={pk0 3 with ballot:=ns.getD 0 0 % 16} from by unfold zaE;simp only[e,Int.reduceEq,if_true,if_false]]at hd ho⊢
  have hd:bs.drop p=(zaL [ns.getD 0 0 % 16])++rest:=hd
  have r:=(zdV (v:=ns.getD 0 0 % 16) (rest:=rest) (by rw[hd];simp[zaL]) b0).1
  show zal (zaW bs p) _=_
  rw[r]
  rfl
 ·rw[show zaE ⟨kind,ns,acts,told⟩={pk0 4 with ballot:=ns.getD 0 0 % 16,prom:=zeH (ns.getD 1 0 % 5) told} from by unfold zaE;simp only[e,Int.reduceEq,if_true,if_false]]at hd ho⊢
  have hd:bs.drop p=(zaL [ns.getD 0 0 % 16]++zeG (zeH (ns.getD 1 0 % 5) told))++rest:=hd
  have ho:(inW _ 0&&Prom.may _)=true:=ho
  rw[Bool.and_eq_true]at ho
  obtain⟨r,h1⟩:=zdV (v:=ns.getD 0 0 % 16) (rest:=zeG (zeH (ns.getD 1 0 % 5) told)++rest) (by rw[hd];simp[zaL]) b0
  have r2:=zAn h1 (zl5 ho.2)
  show zal (zaW bs p) (fun x=>zal (zgM bs x.2) _)=_
  rw[r]
  show zal (zgM bs ((p+8:Nat):Int)) _=_
  rw[r2]
  refine congrArg Except.ok (Prod.ext rfl ?_)
  show _=((p+(zaL [ns.getD 0 0 % 16]++zeG (zeH (ns.getD 1 0 % 5) told)).length:Nat):Int)
  rw[List.length_append,zbA]
  simp only[List.length_singleton]
  omega
 ·rw[show zaE ⟨kind,ns,acts,told⟩={pk0 5 with ballot:=ns.getD 0 0 % 16,slot:=1+ns.getD 1 0 % 9,bat:=zbG ns} from by unfold zaE;simp only[e,Int.reduceEq,if_true,if_false]]at hd ho⊢
  have hd:bs.drop p=(zaL [ns.getD 0 0 % 16,1+ns.getD 1 0 % 9]++zeR (zbG ns))++rest:=hd
  have ho:(inW _ 0&&inW _ 1&&Batch.may _)=true:=ho
  rw[Bool.and_eq_true]at ho
  obtain⟨r,h1⟩:=zdV (v:=ns.getD 0 0 % 16) (rest:=zbz (1+ns.getD 1 0 % 9)++(zeR (zbG ns)++rest)) (by rw[hd];simp[zaL]) b0
  obtain⟨r2,h2⟩:=zdV h1 b2
  have r3:=zvM h2 ho.2
  show zal (zaW bs p) (fun x=>zal (zaW bs x.2) fun y=>zal (zgH bs y.2) _)=_
  rw[r]
  show zal (zaW bs ((p+8:Nat):Int)) (fun y=>zal (zgH bs y.2) _)=_
  rw[r2]
  show zal (zgH bs ((p+8+8:Nat):Int)) _=_
  rw[r3]
  refine congrArg Except.ok (Prod.ext rfl ?_)
  show _=((p+(zaL [ns.getD 0 0 % 16,1+ns.getD 1 0 % 9]++zeR (zbG ns)).length:Nat):Int)
  rw[List.length_append,zbA]
  simp only[List.length_cons,List.length_nil]
  omega
 ·rw[show zaE ⟨kind,ns,acts,told⟩={pk0 6 with ballot:=ns.getD 0 0 % 16,slot:=1+ns.getD 1 0 % 9,bat:=zbG ns} from by unfold zaE;simp only[e,Int.reduceEq,if_true,if_false]]at hd ho⊢
  have hd:bs.drop p=(zaL [ns.getD 0 0 % 16,1+ns.getD 1 0 % 9]++zeR (zbG ns))++rest:=hd
  have ho:(inW _ 0&&inW _ 1&&Batch.may _)=true:=ho
  rw[Bool.and_eq_true]at ho
  obtain⟨r,h1⟩:=zdV (v:=ns.getD 0 0 % 16) (rest:=zbz (1+ns.getD 1 0 % 9)++(zeR (zbG ns)++rest)) (by rw[hd];simp[zaL]) b0
  obtain⟨r2,h2⟩:=zdV h1 b2
  have r3:=zvM h2 ho.2
  show zal (zaW bs p) (fun x=>zal (zaW bs x.2) fun y=>zal (zgH bs y.2) _)=_
  rw[r]
  show zal (zaW bs ((p+8:Nat):Int)) (fun y=>zal (zgH bs y.2) _)=_
  rw[r2]
  show zal (zgH bs ((p+8+8:Nat):Int)) _=_
  rw[r3]
  refine congrArg Except.ok (Prod.ext rfl ?_)
  show _=((p+(zaL [ns.getD 0 0 % 16,1+ns.getD 1 0 % 9]++zeR (zbG ns)).length:Nat):Int)
  rw[List.length_append,zbA]
  simp only[List.length_cons,List.length_nil]
  omega
 ·rw[show zaE ⟨kind,ns,acts,told⟩={pk0 7 with ballot:=ns.getD 0 0 % 16,done:=ns.getD 1 0 % 16} from by unfold zaE;simp only[e,Int.reduceEq,if_true,if_false]]at hd ho⊢
  have hd:bs.drop p=(zaL [ns.getD 0 0 % 16,ns.getD 1 0 % 16])++rest:=hd
  obtain⟨r,h1⟩:=zdV (v:=ns.getD 0 0 % 16) (rest:=zbz (ns.getD 1 0 % 16)++rest) (by rw[hd];simp[zaL]) b0
  obtain⟨r2,h2⟩:=zdV h1 b1
  show zal (zaW bs p) (fun x=>zal (zaW bs x.2) _)=_
  rw[r]
  show zal (zaW bs ((p+8:Nat):Int)) _=_
  rw[r2]
  rfl
 ·rw[show zaE ⟨kind,ns,acts,told⟩={pk0 8 with done:=ns.getD 0 0 % 16} from by unfold zaE;simp only[e,Int.reduceEq,if_true,if_false]]at hd ho⊢
  have hd:bs.drop p=(zaL [ns.getD 0 0 % 16])++rest:=hd
  have r:=(zdV (v:=ns.getD 0 0 % 16) (rest:=rest) (by rw[hd];simp[zaL]) b0).1
  show zal (zaW bs p) _=_
  rw[r]
  rfl
 ·rw[show zaE ⟨kind,ns,acts,told⟩={pk0 9 with snap:=⟨ns.getD 0 0 % 16,ns.getD 1 0 % 8,ns.getD 2 0 % 16,zkZ acts⟩} from by unfold zaE;simp only[e,Int.reduceEq,if_true,if_false]]at hd ho⊢
  have hd:bs.drop p=(snI ⟨ns.getD 0 0 % 16,ns.getD 1 0 % 8,ns.getD 2 0 % 16,zkZ acts⟩)++rest:=hd
  have r:=zwa hd ho
  show zal (zgZ bs p) _=_
  rw[r]
  rfl
section
variable {bs:List Int} {m:Nat} (hm:m≤bs.length) (hb:BsOk bs)
include hm hb
theorem zvI {p:Int}:Cut m p (ziz bs p) (ziz (bs.take m) p):=by
 have hc:∀p,Cut m p (znm bs p) (znm (bs.take m) p):=fun p=>by
  have e:∀l,znm l p=zal (zaU l p) fun k=>zal (zaW l k.2) fun n=>zal (zd7 l n.2) fun s=>if zk1 k.1 n.1 s.1=true then .ok ((k.1,n.1,s.1),s.2)else .error 4:=fun l=>by kernel_rfl
  rw[e,e]
  exact zam (zcH hm) fun k _=>zam (zbk hm) fun n _=>zam (zmb hm hb) fun s _=>ziH
 have e:∀l,ziz l p=zal (zaU l p) fun k=>zal (zaW l k.2) fun n=>zal (znm l n.2) fun c=>if Req.may ⟨k.1,n.1,c.1.1,c.1.2.1,c.1.2.2⟩=true then .ok (⟨k.1,n.1,c.1.1,c.1.2.1,c.1.2.2⟩,c.2)else .error 4:=fun l=>by kernel_rfl
 rw[e,e]
 exact zam (zcH hm) fun k _=>zam (zbk hm) fun n _=>zam (hc _) fun c _=>ziH
theorem zp5 {p:Int}:Cut m p (zgH bs p) (zgH (bs.take m) p):=by
 have e:∀l,zgH l p=zal (zaU l p) fun k=>if k.1>1 then .error 4 else if k.1=1 then .ok (⟨true,0,⟨0,0⟩,0,[]⟩,k.2)else zal (zaT (zaW l) 4 k.2 []) fun l1=>zal (za9 l l1.2 3) fun n=>zal (zaT (ziz l) n.1.toNat n.2 []) fun rs=>
  if Batch.may ⟨false,l1.1.getD 0 0,⟨l1.1.getD 1 0,l1.1.getD 2 0⟩,l1.1.getD 3 0,rs.1⟩=true then .ok (⟨false,l1.1.getD 0 0,⟨l1.1.getD 1 0,l1.1.getD 2 0⟩,l1.1.getD 3 0,rs.1⟩,rs.2)else .error 4:=fun l=>by kernel_rfl
 rw[e,e]
 refine zam (zcH hm) fun k _=> ?_
 split
 ·intro y hy;cases hy
 split
 ·exact zcS
 ·exact zam (zeI fun q=>zbk hm) fun l1 _=>zam (zeY hm) fun n _=>zam (zeI fun q=>zvI hm hb) fun rs _=>ziH
theorem zxW {p:Int}:Cut m p (zgM bs p) (zgM (bs.take m) p):=by
 have hv:∀p,Cut m p (zgL bs p) (zgL (bs.take m) p):=fun p=>by
  have e:∀l,zgL l p=zal (zaW l p) fun s=>zal (zaW l s.2) fun b=>zal (zgH l b.2) fun x=> .ok (⟨s.1,b.1,x.1⟩,x.2):=fun l=>by kernel_rfl
  rw[e,e]
  exact zam (zbk hm) fun s _=>zam (zbk hm) fun b _=>zam (zp5 hm hb) fun x _=>zcS
 have e:∀l,zgM l p=zal (zaU l p) fun f=>zal (zaW l f.2) fun d=>zal (zaW l d.2) fun v=>zal (zaW l v.2) fun s=>zal (zaW l s.2) fun t=>zal (zaU l t.2) fun n=>zal (zaT (zgL l) n.1.toNat n.2 []) fun x=> .ok (⟨f.1,d.1,⟨v.1,s.1⟩,t.1,x.1⟩,x.2):=fun l=>by kernel_rfl
 rw[e,e]
 exact zam (zcH hm) fun f _=>zam (zbk hm) fun d _=>zam (zbk hm) fun v _=>zam (zbk hm) fun s _=>zam (zbk hm) fun t _=>zam (zcH hm) fun n _=>zam (zeI fun q=>hv q) fun x _=>zcS
theorem zAk {p:Int}:Cut m p (zv3 bs p) (zv3 (bs.take m) p):=by
 refine zam (zcH hm) fun k _=> ?_
 unfold znp
 by_cases h1:k.1=1
 ·rw[if_pos h1,if_pos h1];exact zam (zvI hm hb) fun x _=>zcS
 rw[if_neg h1,if_neg h1]
 by_cases h2:k.1=2
 ·rw[if_pos h2,if_pos h2];exact zam (zp9 hm hb) fun x _=>zcS
 rw[if_neg h2,if_neg h2]
 by_cases h3:k.1=3
 ·rw[if_pos h3,if_pos h3];exact zam (zbk hm) fun x _=>zcS
 rw[if_neg h3,if_neg h3]
 by_cases h4:k.1=4
 ·rw[if_pos h4,if_pos h4];exact zam (zbk hm) fun x _=>zam (zxW hm hb) fun y _=>zcS
 rw[if_neg h4,if_neg h4]
 by_cases h5:k.1=5
 ·rw[if_pos h5,if_pos h5];exact zam (zbk hm) fun x _=>zam (zbk hm) fun y _=>zam (zp5 hm hb) fun z _=>zcS
 rw[if_neg h5,if_neg h5]
 by_cases h6:k.1=6
 ·rw[if_pos h6,if_pos h6];exact zam (zbk hm) fun x _=>zam (zbk hm) fun y _=>zam (zp5 hm hb) fun z _=>zcS
 rw[if_neg h6,if_neg h6]
 by_cases h7:k.1=7
 ·rw[if_pos h7,if_pos h7];exact zam (zbk hm) fun x _=>zam (zbk hm) fun y _=>zcS
 rw[if_neg h7,if_neg h7]
 by_cases h8:k.1=8
 ·rw[if_pos h8,if_pos h8];exact zam (zbk hm) fun x _=>zcS
 rw[if_neg h8,if_neg h8]
 by_cases h9:k.1=9
 ·rw[if_pos h9,if_pos h9];exact zam (zv7 hm hb) fun x _=>zcS
 rw[if_neg h9,if_neg h9]
 intro y hy;cases hy
end
theorem zfA {l:List Int}:∀x∈zaL l,zav x:=fun x hx=>by
 obtain⟨v,_,hv⟩:=List.mem_flatMap.1 hx
 exact zd5 v x hv
theorem zdw {a b:List Int} (ha:∀x∈a,zav x) (hb:∀x∈b,zav x):∀x∈a++b,zav x:=fun x hx=>(List.mem_append.1 hx).elim (ha x) (hb x)
theorem zgi {n:Int} (h:0≤n∧n≤255):∀x∈[n],zav x:=fun x hx=>by
 simp only[List.mem_cons,List.not_mem_nil,or_false]at hx
 rw[hx];unfold zav;omega
theorem zyP {α:Type} {f:α→List Int} {l:List α} (h:∀y∈l,∀x∈f y,zav x):∀x∈l.flatMap f,zav x:=fun x hx=>by
 obtain⟨y,hy,hx⟩:=List.mem_flatMap.1 hx
 exact h y hy x hx
theorem zyQ {r:Req} (h:Req.may r=true):∀x∈ziA r,zav x:=by
 obtain⟨f1,f2,f3,_⟩:=zeD h
 have g:=zdF f3
 exact zdw (zgi (by omega)) (zdw (zd5 _) (zdw (zgi (by omega)) (zdw (zd5 _) (zpA _ (by omega)))))
theorem zvJ {b:Batch} (h:Batch.may b=true):∀x∈zeR b,zav x:=by
 obtain⟨h3,hr⟩:=zeC h
 unfold zeR
 split
 ·exact zgi (by decide)
 ·exact zdw (zdw (zdw (zgi (by decide)) zfA) (zgi (by omega))) (zyP fun r hr2=>zyQ (hr r (List.mem_of_mem_take hr2)))
theorem zAl {p:Prom} (m:MayP p):∀x∈zeG p,zav x:=by
 have:=m.src
 have:=m.len
 exact zdw (zdw (zgi (by omega)) (zdw zfA (zgi (by omega)))) (zyP fun v hv=>zdw zfA (zvJ (m.votes v (List.mem_of_mem_take hv)).2.2.2.2))
theorem zBC {s:Sn} (h:RightS s.st):∀x∈snI s,zav x:=zdw (zd5 _) (zdw (zd5 _) (zdw (zd5 _) (zxZ h)))
theorem zxX {p:Pkt} (h:ziV p=true):∀x∈pkI p,zav x:=by
 have ho:=(zgf h).1
 obtain⟨kind,ballot,slot,done,req,ans,bat,prom,snap⟩:=p
 rcases kinds kind with rfl|rfl|rfl|rfl|rfl|rfl|rfl|rfl|rfl|⟨k1,k2,k3,k4,k5,k6,k7,k8,k9⟩
 ·exact zdw (zgi (n:=1) (by decide)) (show∀x∈ziA req,zav x from zyQ ho)
 ·refine zdw (zgi (n:=2) (by decide)) (show∀x∈zbd ans,zav x from ?_)
  have ho:answerB ans=true:=ho
  have f:=zb0 ho
  exact zdw (zgi (by omega)) (zdw (zd5 _) (zru f.2.2))
 ·exact zdw (zgi (n:=3) (by decide)) (show∀x∈zaL [ballot],zav x from zfA)
 ·have ho:(inW ballot 0&&Prom.may prom)=true:=ho
  rw[Bool.and_eq_true]at ho
  exact zdw (zgi (n:=4) (by decide)) (show∀x∈zaL [ballot]++zeG prom,zav x from zdw zfA (zAl (zl5 ho.2)))
 ·have ho:(inW ballot 0&&inW slot 1&&Batch.may bat)=true:=ho
  rw[Bool.and_eq_true]at ho
  exact zdw (zgi (n:=5) (by decide)) (show∀x∈zaL [ballot,slot]++zeR bat,zav x from zdw zfA (zvJ ho.2))
 ·have ho:(inW ballot 0&&inW slot 1&&Batch.may bat)=true:=ho
  rw[Bool.and_eq_true]at ho
  exact zdw (zgi (n:=6) (by decide)) (show∀x∈zaL [ballot,slot]++zeR bat,zav x from zdw zfA (zvJ ho.2))
 ·exact zdw (zgi (n:=7) (by decide)) (show∀x∈zaL [ballot,done],zav x from zfA)
 ·exact zdw (zgi (n:=8) (by decide)) (show∀x∈zaL [done],zav x from zfA)
 ·exact zdw (zgi (n:=9) (by decide)) (show∀x∈snI snap,zav x from zBC (zd6 ho).2.2.2)
 ·simp only[beq_eq_false_iff_ne,ne_eq]at k1 k2 k3 k4 k5 k6 k7 k8 k9
  unfold okP at ho
  simp only[k1,k2,k3,k4,k5,k6,k7,k8,k9,if_false]at ho
  cases ho
theorem ziE {p:Pkt} (h:ziV p=true):1≤(pkI p).length∧(pkI p).length≤1401:=by
 have:=zkD h
 rw[pkI,List.length_append,List.length_singleton]
 omega
theorem zvK {x:Inp} (h:x.ok) (rest:List Int):zv3 (pkI (zaE x)++rest) 0= .ok (zaE x,((pkI (zaE x)).length:Int)):=by
 obtain⟨e1,h1⟩:=byte_at (bs:=pkI (zaE x)++rest) (p:=0) (x:=(zaE x).kind) (rest:=zk2 (zaE x)++rest) (by simp[pkI])
 have e2:=zAo h h1
 rw[zv3,show((0:Int))=((0:Nat):Int) from rfl,e1]
 show znp _ (zaE x).kind ((0+1:Nat):Int)=_
 rw[e2]
 refine congrArg Except.ok (Prod.ext rfl ?_)
 simp only[pkI,List.length_append,List.length_singleton]
theorem znh {x:Inp} (h:x.ok):zsO (pkI (zaE x))=(zaE x,0):=by
 have hm:=zc0 x h
 have hl:=ziE hm
 have e:=zvK h []
 rw[List.append_nil]at e
 unfold zsO
 rw[if_neg (by omega),e]
 simp only
 rw[if_neg]
 rw[zBE,if_pos hm]
 simp
theorem zvL {x:Inp} (h:x.ok) (c:Int):zsO (pkI (zaE x)++[c])=(pk0 0,4):=by
 have hm:=zc0 x h
 have hl:=ziE hm
 unfold zsO
 rw[if_neg (by rw[List.length_append,List.length_singleton];omega),zvK h [c]]
 simp only
 rw[if_pos]
 have:(((pkI (zaE x)).length:Int) !=((pkI (zaE x)++[c]).length:Int))=true:=by
  rw[List.length_append,List.length_singleton]
  simp
  omega
 rw[this,Bool.true_or]
theorem zxY {x:Inp} (h:x.ok) {k:Nat} (hk:k<(pkI (zaE x)).length):zsO ((pkI (zaE x)).take k)=(pk0 0,4):=by
 have hm:=zc0 x h
 have hl:=ziE hm
 have e:=zvK h []
 rw[List.append_nil]at e
 obtain⟨_,_,h3⟩:=zAk (m:=k) (p:=0) (Nat.le_of_lt hk) ⟨by omega,zxX hm⟩ _ e
 unfold zsO
 rw[if_neg (by rw[List.length_take];omega),h3 (by omega) (by simp only;omega)]
theorem zng {a b:ByteArray} (h:a.toList=b.toList):a=b:=by
 rw[zcE,zcE]at h
 cases a;cases b
 simp only at h
 rw[Array.toList_inj.1 h]
theorem zdU {α:Type} {eq:α→α→Bool} (h:∀x y,eq x y=true→x=y):∀{a b:List α},sameL eq a b=true→a=b
 |[],[],_=>rfl
 |[],_::_,q=>by simp[sameL]at q
 |_::_,[],q=>by simp[sameL]at q
 |x::a,y::b,q=>by
  simp only[sameL,List.length_cons,List.zip_cons_cons,List.all_cons,Bool.and_eq_true,beq_iff_eq]at q
  rw[h x y q.2.1,zdU h (a:=a) (b:=b) (by simp only[sameL,Bool.and_eq_true,beq_iff_eq];exact⟨by omega,q.2.2⟩)]
theorem zxO (a b:Grant) (h:zo5 a b=true):a=b:=by
 simp only[zo5,Bool.and_eq_true,beq_iff_eq]at h
 cases a;cases b
 simp only at h
 rw[zng h.1,h.2]
theorem zxP (a b:Sess) (h:znc a b=true):a=b:=by
 simp only[znc,Bool.and_eq_true,beq_iff_eq]at h
 cases a;cases b
 simp only at h
 rw[h.1,h.2.1,h.2.2]
theorem zxQ (a b:Lk) (h:eqLk a b=true):a=b:=by
 simp only[eqLk,Bool.and_eq_true,beq_iff_eq]at h
 cases a;cases b
 simp only at h
 rw[zng h.1.1.1,h.1.1.2,h.1.2,zdU (fun x y q=>by simpa[zh7]using q) h.2]
theorem zro (a b:Memo) (h:eqMe a b=true):a=b:=by
 simp only[eqMe,Bool.and_eq_true,beq_iff_eq]at h
 obtain⟨c,s,r⟩:=a
 obtain⟨c2,s2,r2⟩:=b
 cases r;cases r2
 simp only at h
 rw[h.1.1.1.1.1,h.1.1.1.1.2,h.1.1.1.2,h.1.1.2,h.1.2,zdU zxO h.2]
theorem zxR (a b:St) (h:zsJ a b=true):a=b:=by
 simp only[zsJ,Bool.and_eq_true,beq_iff_eq]at h
 cases a;cases b
 simp only at h
 rw[h.1.1.1.1.1,h.1.1.1.1.2,h.1.1.1.2,zdU zxP h.1.1.2,zdU zxQ h.1.2,zdU zro h.2]
theorem zrp (a b:Req) (h:znb a b=true):a=b:=by
 simp only[znb,Bool.and_eq_true,beq_iff_eq]at h
 cases a;cases b
 simp only at h
 rw[h.1,h.2.1,h.2.2.1,h.2.2.2.1,zng h.2.2.2.2]
theorem zrq (a b:Batch) (h:eqBa a b=true):a=b:=by
 simp only[eqBa,Bool.and_eq_true,beq_iff_eq]at h
 obtain⟨f,v,⟨tv,ts⟩,t,r⟩:=a
 obtain⟨f2,v2,⟨tv2,ts2⟩,t2,r2⟩:=b
 simp only at h
 rw[h.1.1.1.1,h.1.1.1.2,h.1.1.2.1,h.1.1.2.2,h.1.2,zdU zrp h.2]
theorem zxS (a b:Vote) (h:zvw a b=true):a=b:=by
 simp only[zvw,Bool.and_eq_true,beq_iff_eq]at h
 cases a;cases b
 simp only at h
 rw[h.1.1,h.1.2,zrq _ _ h.2]
theorem zxT (a b:Prom) (h:zAC a b=true):a=b:=by
 simp only[zAC,Bool.and_eq_true,beq_iff_eq]at h
 obtain⟨f,v,⟨tv,ts⟩,t,r⟩:=a
 obtain⟨f2,v2,⟨tv2,ts2⟩,t2,r2⟩:=b
 simp only at h
 rw[h.1.1.1.1,h.1.1.1.2,h.1.1.2.1,h.1.1.2.2,h.1.2,zdU zxS h.2]
theorem zxU (a b:Sn) (h:zAD a b=true):a=b:=by
 simp only[zAD,Bool.and_eq_true,beq_iff_eq]at h
 cases a;cases b
 simp only at h
 rw[h.1.1,h.1.2.1,h.1.2.2,zxR _ _ h.2]
theorem zxV (a b:Pkt) (h:zyN a b=true):a=b:=by
 simp only[zyN,Bool.and_eq_true,beq_iff_eq]at h
 cases a;cases b
 simp only at h
 rw[h.1.1.1.1.1.1.1.1,h.1.1.1.1.1.1.1.2,h.1.1.1.1.1.1.2,h.1.1.1.1.1.2,zrp _ _ h.1.1.1.1.2,zro _ _ h.1.1.1.2,zrq _ _ h.1.1.2,zxT _ _ h.1.2,zxU _ _ h.2]
theorem zrr (a:Req):znb a a=true:=by simp[znb]
theorem zrs (a:Batch):eqBa a a=true:=by simp[eqBa,zeE zrr]
theorem zrt (a:Pkt):zyN a a=true:=by
 have hm:eqMe a.ans a.ans=true:=by simp[eqMe,zoU]
 have hv:∀v,zvw v v=true:=fun v=>by simp[zvw,zrs]
 have hp:zAC a.prom a.prom=true:=by simp[zAC,zeE hv]
 simp[zyN,zrr,hm,zrs,hp,zxF]
theorem zsF {x y:Inp} (hx:x.ok) (hy:y.ok):((strOf (pkI (zaE x))).toList==(strOf (pkI (zaE y))).toList)=zyN (zaE x) (zaE y):=by
 rw[str_eq (zxX (zc0 x hx)) (zxX (zc0 y hy)),Bool.eq_iff_iff,decide_eq_true_eq]
 constructor
 ·intro h
  have h1:=znh hx
  rw[h,znh hy]at h1
  rw[Prod.mk.injEq]at h1
  rw[h1.1]
  exact zrt _
 ·intro h
  rw[zxV _ _ h]
set_option maxHeartbeats 8000000 in
theorem zk4 (j k:Int) (av bv:List Int) (acts:List Act) (told:NTold) (h1:(Inp.mk j av acts told).ok) (h2:(Inp.mk k bv acts told).ok):
  CallOK prog 6 [.f (au j), .f (au k), .f (al av.length (zad av)), .f (al bv.length (zad bv)), .f (al acts.length (zkh acts)), .f (.agg told.lent)] (fun r o=>r=[rb true]∧o=[]):=by
 refine zh func6 results6 ntmps6 call6 ?_
 simp only[f6,Option.getD]
 have c1:=znj _ h1
 have c2:=znj _ h2
 have m1:=zc0 _ h1
 have m2:=zc0 _ h2
 have o1:=zju _ h1
 have o2:=zju _ h2
 have hs:=zsF h1 h2
 simp only at c1 c2
 obtain⟨P,hP⟩:∃P,P=zaE ⟨j,av,acts,told⟩:=⟨_,rfl⟩
 obtain⟨Q,hQ⟩:∃Q,Q=zaE ⟨k,bv,acts,told⟩:=⟨_,rfl⟩
 rw[←hP]at c1 m1 o1 hs
 rw[←hQ]at c2 m2 o2 hs
 have l1:=ziE m1
 have l2:=ziE m2
 have p1:=zgg P o1 m1
 have p2:=zgg Q o2 m2
 have sm:=zpW P Q o1 o2
 have haw:=zid
 clear hP hQ
 have hkn:=(zvQ m1).kind
 have hw:IntKind.i64.wrap P.kind=P.kind:=wrap64 (by omega) (by omega)
 have hbo:bytesOf (uD P.kind::zad (zk2 P))=some ((pkI P).map fun n=>UInt8.ofNat n.toNat):=zcN (pkI P)
 have htk:List.take (pkI P).length (uD P.kind::zad (zk2 P))=uD P.kind::zad (zk2 P):=zau (l:=pkI P)
 have hl1:((zk2 P).length+1=(pkI P).length)=True:=eq_true (by rw[pkI,List.length_append,List.length_singleton];omega)
 have g1:decide (((pkI P).length:Int)>0)=true:=by simp;omega
 have g2:decide (((pkI Q).length:Int)>0)=true:=by simp;omega
 repeat'(first|exact zC|(with_reducible first|refine zbc 4 ?_|refine zaR 4 ?_|refine zaS 4 ?_)|refine zu0 ?_|(with_reducible first|refine zae _ _ ?_)|refine zx (c1) ?_|refine zx (c2) ?_|refine zx (p1) ?_|refine zx (p2) ?_|(apply zaa<;>intro hb)|(apply I;exact zI)|(apply I<;>intro hg))
 refine zbl (zbr (Gh.sealV 15 (x:= .own ⟨15,1,0⟩ 0 (pkI P).length) (d:= .sl (pkI P).length (zad (pkI P))) rfl (by simp only[zY,zau,Nat.reduceSub,Nat.reduceEqDiff,Nat.reduceAdd,Nat.reduceMul,Nat.reduceLeDiff,Nat.reduceLT,Nat.reduceBEq,reduceCtorEq];rfl)) ?_)
 refine zbr (Gh.sealV 17 (x:= .own ⟨17,1,0⟩ 0 (pkI Q).length) (d:= .sl (pkI Q).length (zad (pkI Q))) rfl (by simp only[zY,zau,Nat.reduceSub,Nat.reduceEqDiff,Nat.reduceAdd,Nat.reduceMul,Nat.reduceLeDiff,Nat.reduceLT,Nat.reduceBEq,reduceCtorEq];rfl)) ?_
 rw[show D.sl (pkI P).length (zad (pkI P))=D.sl (pkI P).length (uD P.kind::zad (zk2 P)) from rfl]
 refine zL (I hl1 (I g1 (I g2 (I hw (I hbo (I htk (I @zcN @zau))))))) (I (sm) (haw)) ?_
 show [rb (((strOf (pkI P)).toList==(strOf (pkI Q)).toList)==zyN P Q)]=_
 rw[hs,beq_self_eq_true]
end Go.Proofs.YtliimajkpggbhaaGreat
