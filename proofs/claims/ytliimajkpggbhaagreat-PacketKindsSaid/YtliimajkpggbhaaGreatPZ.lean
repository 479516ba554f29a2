import Derived.Test.YtliimajkpggbhaaGreatK9
import Derived.JoinedOf
import Derived.Handed
import Derived.ProofKit
import Derived.Test.YtliimajkpggbhaaGreatPS
namespace Go.Proofs.YtliimajkpggbhaaGreat
open Go.Pk
set_option maxRecDepth 100000
set_option linter.unusedSimpArgs false
set_option linter.unusedVariables false
structure Inp where
 kind:Int
 ns:List Int
 acts:List Act
 told:NTold
structure Inp.ok (x:Inp):Prop where
 kind:zau x.kind
 nl:x.ns.length<2^60
 nb:∀y∈x.ns,zau y
 al:x.acts.length<2^60
 ab:∀a∈x.acts,zoW a
 told:x.told.ok
abbrev Inp.n (x:Inp) (k:Nat):Int:=x.ns.getD k 0
def zaD (x:Inp):Pkt:=
 if x.kind % 9=0 then {pk0 1 with req:=zom (x.n 0) (x.n 1) (x.n 2) (x.n 3) (x.n 4)}
 else if x.kind % 9=1 then {pk0 2 with ans:=zwV (x.n 0) (x.n 1) x.ns}
 else if x.kind % 9=2 then {pk0 3 with ballot:=x.n 0 % 16}
 else if x.kind % 9=3 then {pk0 4 with ballot:=x.n 0 % 16,prom:=zex (x.n 1 % 5) x.told}
 else if x.kind % 9=4 then {pk0 5 with ballot:=x.n 0 % 16,slot:=1+x.n 1 % 9,bat:=zbz x.ns}
 else if x.kind % 9=5 then {pk0 6 with ballot:=x.n 0 % 16,slot:=1+x.n 1 % 9,bat:=zbz x.ns}
 else if x.kind % 9=6 then {pk0 7 with ballot:=x.n 0 % 16,done:=x.n 1 % 16}
 else if x.kind % 9=7 then {pk0 8 with done:=x.n 0 % 16}
 else {pk0 9 with snap:=⟨x.n 0 % 16,x.n 1 % 8,x.n 2 % 16,zkD x.acts⟩}
theorem zgx {k:Int} (h:zau k):k % 9=0∨k % 9=1∨k % 9=2∨k % 9=3∨k % 9=4∨k % 9=5∨k % 9=6∨k % 9=7∨k % 9=8:=by omega
abbrev NTold.lent (t:NTold):List C:=[.d (uD t.done), .d (uD t.view), .d (uD t.slot), .d (uD t.time), .lent t.votes.length (zfp t.votes)]
set_option maxHeartbeats 8000000 in
theorem zpl (x:Inp) (h:x.ok):CallOK Tryz.prog 18 [.f (au x.kind), .f (al x.ns.length (zad x.ns)), .f (al x.acts.length (zkF x.acts)), .f (.agg x.told.lent)] (fun r o=>r=[.agg ((zaD x).enc.map RO.d)]∧o=[]):=by
 refine CallOK.nil ?_
 refine zh Tryz.func18 Tryz.results18 Tryz.ntmps18 Tryz.call18 ?_
 simp only[Tryz.f18,Option.getD]
 obtain⟨kind,ns,acts,told⟩:=x
 obtain⟨hk,hnl,hnb,hal,hab,ht⟩:=h
 simp only at hk hnl hnb hal hab ht
 have hg:∀k,zau (ns.getD k 0):=zb5 hnb
 have hu:∀k,u8 (ns.getD k 0):=fun k=>zbw (hg k)
 have h0:=zuS ns hnl
 have mk:=ziH (m:=9) hk (by decide)
 have wk:IntKind.i64.wrap kind=kind:=wrap64 (by have:=hk.1;omega) (by have:=hk.2;omega)
 have w0:∀k,IntKind.i64.wrap (ns.getD k 0)=ns.getD k 0:=fun k=>wrap64 (by have:=(hg k).1;omega) (by have:=(hg k).2;omega)
 have m16:∀k,(ns.getD k 0).tmod 16=ns.getD k 0 % 16:=fun k=>ziH (hg k) (by decide)
 have m5:=ziH (m:=5) (hg 1) (by decide)
 have m9:=ziH (m:=9) (hg 1) (by decide)
 have m8':=ziH (m:=8) (hg 1) (by decide)
 have w9:IntKind.i64.wrap (1+ns.getD 1 0 % 9)=1+ns.getD 1 0 % 9:=wrap64 (by omega) (by omega)
 rcases zgx hk with e|e|e|e|e|e|e|e|e
 ·have kk:IntKind.i64.wrap (1+0)=1:=wrap64 (by omega) (by omega)
  have hc:=zpf _ _ _ _ _ (hu 0) (hu 1) (hu 2) (hu 3) (hu 4)
  rw[show zaD ⟨kind,ns,acts,told⟩={pk0 1 with req:=zom (ns.getD 0 0) (ns.getD 1 0) (ns.getD 2 0) (ns.getD 3 0) (ns.getD 4 0)} from by unfold zaD;simp only[e,Int.reduceEq,if_true,if_false]]
  repeat'(first|exact zC|refine zq (I mk (I wk (I w0 (I m16 (I e kk))))) ?_|refine zx (h0) ?_|refine zx (hc) ?_|(apply zaa<;>intro hb)|(apply I;exact zI)|(apply I<;>intro hg))
  simp[zaL,zcv,zaR,zax,st0, -List.length_flatMap,zar,zaP,zaN,zaB,zah,zaC]
 ·have kk:IntKind.i64.wrap (1+1)=2:=wrap64 (by omega) (by omega)
  have hc:=zzm _ _ ns (hg 0) (hg 1) hnl hnb
  rw[show zaD ⟨kind,ns,acts,told⟩={pk0 2 with ans:=zwV (ns.getD 0 0) (ns.getD 1 0) ns} from by unfold zaD;simp only[e,Int.reduceEq,if_true,if_false]]
  repeat'(first|exact zC|refine zq (I mk (I wk (I w0 (I m16 (I e kk))))) ?_|refine zx (h0) ?_|refine zx (hc) ?_|(apply zaa<;>intro hb)|(apply I;exact zI)|(apply I<;>intro hg))
  simp[zaL,zcv,zaR,zax,st0, -List.length_flatMap,zar,zaP,zaN,zaB,zah,zaC]
 ·have kk:IntKind.i64.wrap (1+2)=3:=wrap64 (by omega) (by omega)
  rw[show zaD ⟨kind,ns,acts,told⟩={pk0 3 with ballot:=ns.getD 0 0 % 16} from by unfold zaD;simp only[e,Int.reduceEq,if_true,if_false]]
  repeat'(first|exact zC|refine zq (I mk (I wk (I w0 (I m16 (I e kk))))) ?_|refine zx (h0) ?_|(apply zaa<;>intro hb)|(apply I;exact zI)|(apply I<;>intro hg))
  simp[zaL,zcv,zaR,zax,st0, -List.length_flatMap,zar,zaP,zaN,zaB,zah,zaC]
 ·have kk:IntKind.i64.wrap (1+3)=4:=wrap64 (by omega) (by omega)
  have hc:=zph (ns.getD 1 0 % 5) told (by omega) ht
  rw[show zaD ⟨kind,ns,acts,told⟩={pk0 4 with ballot:=ns.getD 0 0 % 16,prom:=zex (ns.getD 1 0 % 5) told} from by unfold zaD;simp only[e,Int.reduceEq,if_true,if_false]]
  repeat'(first|exact zC|refine zq (I mk (I wk (I w0 (I m16 (I e (I kk m5)))))) ?_|refine zx (h0) ?_|refine zx (hc) ?_|(apply zaa<;>intro hb)|(apply I;exact zI)|(apply I<;>intro hg))
  simp[zaL,zcv,zaR,zax,st0, -List.length_flatMap,zar,zaP,zaN,zaB,zah,zaC]
 ·have kk:IntKind.i64.wrap (1+4)=5:=wrap64 (by omega) (by omega)
  have hc:=zkk ns hnl (fun y hy=>zbw (hnb y hy))
  rw[show zaD ⟨kind,ns,acts,told⟩={pk0 5 with ballot:=ns.getD 0 0 % 16,slot:=1+ns.getD 1 0 % 9,bat:=zbz ns} from by unfold zaD;simp only[e,Int.reduceEq,if_true,if_false]]
  repeat'(first|exact zC|refine zq (I mk (I wk (I w0 (I m16 (I e (I kk (I m9 w9))))))) ?_|refine zx (h0) ?_|refine zx (hc) ?_|(apply zaa<;>intro hb)|(apply I;exact zI)|(apply I<;>intro hg))
  simp[zaL,zcv,zaR,zax,st0, -List.length_flatMap,zar,zaP,zaN,zaB,zah,zaC]
 ·have kk:IntKind.i64.wrap (1+5)=6:=wrap64 (by omega) (by omega)
  have hc:=zkk ns hnl (fun y hy=>zbw (hnb y hy))
  rw[show zaD ⟨kind,ns,acts,told⟩={pk0 6 with ballot:=ns.getD 0 0 % 16,slot:=1+ns.getD 1 0 % 9,bat:=zbz ns} from by unfold zaD;simp only[e,Int.reduceEq,if_true,if_false]]
  repeat'(first|exact zC|refine zq (I mk (I wk (I w0 (I m16 (I e (I kk (I m9 w9))))))) ?_|refine zx (h0) ?_|refine zx (hc) ?_|(apply zaa<;>intro hb)|(apply I;exact zI)|(apply I<;>intro hg))
  simp[zaL,zcv,zaR,zax,st0, -List.length_flatMap,zar,zaP,zaN,zaB,zah,zaC]
 ·have kk:IntKind.i64.wrap (1+6)=7:=wrap64 (by omega) (by omega)
  rw[show zaD ⟨kind,ns,acts,told⟩={pk0 7 with ballot:=ns.getD 0 0 % 16,done:=ns.getD 1 0 % 16} from by unfold zaD;simp only[e,Int.reduceEq,if_true,if_false]]
  repeat'(first|exact zC|refine zq (I mk (I wk (I w0 (I m16 (I e kk))))) ?_|refine zx (h0) ?_|(apply zaa<;>intro hb)|(apply I;exact zI)|(apply I<;>intro hg))
  simp[zaL,zcv,zaR,zax,st0, -List.length_flatMap,zar,zaP,zaN,zaB,zah,zaC]
 ·have kk:IntKind.i64.wrap (1+7)=8:=wrap64 (by omega) (by omega)
  rw[show zaD ⟨kind,ns,acts,told⟩={pk0 8 with done:=ns.getD 0 0 % 16} from by unfold zaD;simp only[e,Int.reduceEq,if_true,if_false]]
  repeat'(first|exact zC|refine zq (I mk (I wk (I w0 (I m16 (I e kk))))) ?_|refine zx (h0) ?_|(apply zaa<;>intro hb)|(apply I;exact zI)|(apply I<;>intro hg))
  simp[zaL,zcv,zaR,zax,st0, -List.length_flatMap,zar,zaP,zaN,zaB,zah,zaC]
 ·have kk:IntKind.i64.wrap (1+8)=9:=wrap64 (by omega) (by omega)
  have hg0:=hg 0
  have hg1:=hg 1
  have hg2:=hg 2
  unfold zau at hg0 hg1 hg2
  have t2:Int.toNat 2=2:=rfl
  have hc:=zux acts hal hab (ns.getD 0 0 % 16) (ns.getD 1 0 % 8) (ns.getD 2 0 % 16) ⟨by omega,by omega⟩ ⟨by omega,by omega⟩ ⟨by omega,by omega⟩
  rw[show zaD ⟨kind,ns,acts,told⟩={pk0 9 with snap:=⟨ns.getD 0 0 % 16,ns.getD 1 0 % 8,ns.getD 2 0 % 16,zkD acts⟩} from by unfold zaD;simp only[e,Int.reduceEq,if_true,if_false]]
  repeat'(first|exact zC|refine zq (I mk (I wk (I w0 (I m16 (I e (I kk (I m8' t2))))))) ?_|refine zx (h0) ?_|refine zx (hc) ?_|(apply zaa<;>intro hb)|(apply I;exact zI)|(apply I<;>intro hg))
  simp[zaL,zcv,zaR,zax,st0, -List.length_flatMap,zar,zaP,zaN,zaB,zah,zaC]
theorem zuJ (k:Int):zcL (pk0 k)=true:=by kernel_rfl
theorem zfr {p:Pkt} {k:Int} (h1:okP p=true) (h2:zzd p=pk0 k):ziD p=true:=by rw[ziD,h1,h2,zuJ];rfl
theorem zuK {v a:Int} (h:a≤v) (h2:v≤2305843009213693952):inW v a=true:=by simp[inW];omega
theorem zmH {n m:Int} (h:zau n) (hm:0<m) (h2:m≤256):zau (n % m):=by
 unfold zau
 have:=Int.emod_nonneg n (show m≠0 by omega)
 have:=Int.emod_lt_of_pos n hm
 omega
theorem zeu (x:Inp) (h:x.ok):ziD (zaD x)=true:=by
 obtain⟨kind,ns,acts,told⟩:=x
 obtain⟨hk,hnl,hnb,hal,hab,ht⟩:=h
 simp only at hk hnl hnb hal hab ht
 have hg:∀k,zau (ns.getD k 0):=zb5 hnb
 have hb1:Batch.may (zbz ns)=true:=zlI fun y hy=>zbw (hnb y hy)
 have i0:inW (ns.getD 0 0 % 16) 0=true:=zuK (by omega) (by omega)
 have i1:inW (ns.getD 1 0 % 16) 0=true:=zuK (by omega) (by omega)
 have i2:inW (1+ns.getD 1 0 % 9) 1=true:=zuK (by omega) (by omega)
 rcases zgx hk with e|e|e|e|e|e|e|e|e
 ·rw[show zaD ⟨kind,ns,acts,told⟩={pk0 1 with req:=zom (ns.getD 0 0) (ns.getD 1 0) (ns.getD 2 0) (ns.getD 3 0) (ns.getD 4 0)} from by unfold zaD;simp only[e,Int.reduceEq,if_true,if_false]]
  exact zfr (k:=1) (show Req.may _=true from zqB (zbw (hg 1))) rfl
 ·rw[show zaD ⟨kind,ns,acts,told⟩={pk0 2 with ans:=zwV (ns.getD 0 0) (ns.getD 1 0) ns} from by unfold zaD;simp only[e,Int.reduceEq,if_true,if_false]]
  exact zfr (k:=2) (show answerB _=true from zqJ (hg 0) (hg 1) hnb) rfl
 ·rw[show zaD ⟨kind,ns,acts,told⟩={pk0 3 with ballot:=ns.getD 0 0 % 16} from by unfold zaD;simp only[e,Int.reduceEq,if_true,if_false]]
  exact zfr (k:=3) (i0) rfl
 ·rw[show zaD ⟨kind,ns,acts,told⟩={pk0 4 with ballot:=ns.getD 0 0 % 16,prom:=zex (ns.getD 1 0 % 5) told} from by unfold zaD;simp only[e,Int.reduceEq,if_true,if_false]]
  exact zfr (k:=4) (show(inW _ 0&&Prom.may _)=true by rw[i0,zod (by omega) ht];rfl) rfl
 ·rw[show zaD ⟨kind,ns,acts,told⟩={pk0 5 with ballot:=ns.getD 0 0 % 16,slot:=1+ns.getD 1 0 % 9,bat:=zbz ns} from by unfold zaD;simp only[e,Int.reduceEq,if_true,if_false]]
  exact zfr (k:=5) (show(inW _ 0&&inW _ 1&&Batch.may _)=true by rw[i0,i2,hb1];rfl) rfl
 ·rw[show zaD ⟨kind,ns,acts,told⟩={pk0 6 with ballot:=ns.getD 0 0 % 16,slot:=1+ns.getD 1 0 % 9,bat:=zbz ns} from by unfold zaD;simp only[e,Int.reduceEq,if_true,if_false]]
  exact zfr (k:=6) (show(inW _ 0&&inW _ 1&&Batch.may _)=true by rw[i0,i2,hb1];rfl) rfl
 ·rw[show zaD ⟨kind,ns,acts,told⟩={pk0 7 with ballot:=ns.getD 0 0 % 16,done:=ns.getD 1 0 % 16} from by unfold zaD;simp only[e,Int.reduceEq,if_true,if_false]]
  exact zfr (k:=7) (show(inW _ 0&&inW _ 0)=true by rw[i0,i1];rfl) rfl
 ·rw[show zaD ⟨kind,ns,acts,told⟩={pk0 8 with done:=ns.getD 0 0 % 16} from by unfold zaD;simp only[e,Int.reduceEq,if_true,if_false]]
  exact zfr (k:=8) (i0) rfl
 ·rw[show zaD ⟨kind,ns,acts,told⟩={pk0 9 with snap:=⟨ns.getD 0 0 % 16,ns.getD 1 0 % 8,ns.getD 2 0 % 16,zkD acts⟩} from by unfold zaD;simp only[e,Int.reduceEq,if_true,if_false]]
  exact zfr (k:=9) (show zbp _=true by simp only[zbp,zg2 (zmH (m:=16) (hg 0) (by decide) (by decide)),zg2 (zmH (m:=8) (hg 1) (by decide) (by decide)),zg2 (zmH (m:=16) (hg 2) (by decide) (by decide)),zdv.2 (zqi acts).rt,Bool.and_self]) rfl
theorem zmI (x:Inp) (h:x.ok):(zaD x).ok:=by
 obtain⟨kind,ns,acts,told⟩:=x
 obtain⟨hk,hnl,hnb,hal,hab,ht⟩:=h
 simp only at hk hnl hnb hal hab ht
 have hg:∀k,zau (ns.getD k 0):=zb5 hnb
 have hu:∀k,u8 (ns.getD k 0):=fun k=>zbw (hg k)
 have hb1:=zoc fun y hy=>zbw (hnb y hy)
 have hbl:(zbz ns).reqs.length<2^30:=by have:=hb1.2;omega
 have q0:i64 (ns.getD 0 0 % 16):=zdr (by omega)
 have q1:i64 (ns.getD 1 0 % 16):=zdr (by omega)
 have q2:i64 (1+ns.getD 1 0 % 9):=zdr (by omega)
 rcases zgx hk with e|e|e|e|e|e|e|e|e
 ·rw[show zaD ⟨kind,ns,acts,told⟩={pk0 1 with req:=zom (ns.getD 0 0) (ns.getD 1 0) (ns.getD 2 0) (ns.getD 3 0) (ns.getD 4 0)} from by unfold zaD;simp only[e,Int.reduceEq,if_true,if_false]]
  have h0:=zgB (k:=1) (by unfold i64;omega)
  exact {h0 with req:=zuC (hu 1)}
 ·rw[show zaD ⟨kind,ns,acts,told⟩={pk0 2 with ans:=zwV (ns.getD 0 0) (ns.getD 1 0) ns} from by unfold zaD;simp only[e,Int.reduceEq,if_true,if_false]]
  have h0:=zgB (k:=2) (by unfold i64;omega)
  exact {h0 with ans:=zjQ (zqJ (hg 0) (hg 1) hnb)}
 ·rw[show zaD ⟨kind,ns,acts,told⟩={pk0 3 with ballot:=ns.getD 0 0 % 16} from by unfold zaD;simp only[e,Int.reduceEq,if_true,if_false]]
  have h0:=zgB (k:=3) (by unfold i64;omega)
  exact {h0 with b:=q0}
 ·rw[show zaD ⟨kind,ns,acts,told⟩={pk0 4 with ballot:=ns.getD 0 0 % 16,prom:=zex (ns.getD 1 0 % 5) told} from by unfold zaD;simp only[e,Int.reduceEq,if_true,if_false]]
  have h0:=zgB (k:=4) (by unfold i64;omega)
  have hm:=zlJ (zod (i:=ns.getD 1 0 % 5) (by omega) ht)
  have pl3:(zex (ns.getD 1 0 % 5) told).votes.length<2^30:=by have:=hm.len;omega
  have vl3:∀v∈(zex (ns.getD 1 0 % 5) told).votes,v.batch.reqs.length<2^30:=fun v hv=>by have:=(zer (hm.votes v hv).2.2.2.2).1;omega
  exact {h0 with b:=q0,prom:=zwF (by omega) ht,pl:=pl3,vl:=vl3}
 ·rw[show zaD ⟨kind,ns,acts,told⟩={pk0 5 with ballot:=ns.getD 0 0 % 16,slot:=1+ns.getD 1 0 % 9,bat:=zbz ns} from by unfold zaD;simp only[e,Int.reduceEq,if_true,if_false]]
  have h0:=zgB (k:=5) (by unfold i64;omega)
  exact {h0 with b:=q0,s:=q2,bat:=hb1.1,bl:=hbl}
 ·rw[show zaD ⟨kind,ns,acts,told⟩={pk0 6 with ballot:=ns.getD 0 0 % 16,slot:=1+ns.getD 1 0 % 9,bat:=zbz ns} from by unfold zaD;simp only[e,Int.reduceEq,if_true,if_false]]
  have h0:=zgB (k:=6) (by unfold i64;omega)
  exact {h0 with b:=q0,s:=q2,bat:=hb1.1,bl:=hbl}
 ·rw[show zaD ⟨kind,ns,acts,told⟩={pk0 7 with ballot:=ns.getD 0 0 % 16,done:=ns.getD 1 0 % 16} from by unfold zaD;simp only[e,Int.reduceEq,if_true,if_false]]
  have h0:=zgB (k:=7) (by unfold i64;omega)
  exact {h0 with b:=q0,d:=q1}
 ·rw[show zaD ⟨kind,ns,acts,told⟩={pk0 8 with done:=ns.getD 0 0 % 16} from by unfold zaD;simp only[e,Int.reduceEq,if_true,if_false]]
  have h0:=zgB (k:=8) (by unfold i64;omega)
  exact {h0 with d:=q0}
 ·rw[show zaD ⟨kind,ns,acts,told⟩={pk0 9 with snap:=⟨ns.getD 0 0 % 16,ns.getD 1 0 % 8,ns.getD 2 0 % 16,zkD acts⟩} from by unfold zaD;simp only[e,Int.reduceEq,if_true,if_false]]
  have h0:=zgB (k:=9) (by unfold i64;omega)
  exact {h0 with snap:=zcl (zqi acts).rt}
structure MayK (p:Pkt):Prop where
 kind:1≤p.kind∧p.kind≤9
 ballot:0≤p.ballot∧p.ballot≤2305843009213693952
 slot:0≤p.slot∧p.slot≤2305843009213693952
 done:0≤p.done∧p.done≤2305843009213693952
 req:zmC p.req ⟨0,0,0,0, .empty⟩=true∨Req.may p.req=true
 ans:p.ans.seq=0∨answerB p.ans=true
 time:p.prom.time=0∨Prom.may p.prom=true
theorem zuL {p:Pkt} (h:ziD p=true):MayK p:=by
 obtain⟨ho,he⟩:=zf7 h
 obtain⟨kind,ballot,slot,done,req,ans,bat,prom,snap⟩:=p
 rcases kinds kind with rfl|rfl|rfl|rfl|rfl|rfl|rfl|rfl|rfl|⟨k1,k2,k3,k4,k5,k6,k7,k8,k9⟩
 ·have ho:Req.may req=true:=ho
  have he:zcL ⟨1,ballot,slot,done,⟨0,0,0,0, .empty⟩,ans,bat,prom,snap⟩=true:=he
  simp only[zcL,inW,Bool.and_eq_true,beq_iff_eq,decide_eq_true_eq]at ho he
  have b:=he.1.1.1.1.1.1.1.1.1.1.1.1.1.1.1.1.1.1
  exact⟨by simp only;omega,by simp only;omega,by simp only;omega,by simp only;omega, .inr ho, .inl (by simp_all), .inl (by simp_all)⟩
 ·have ho:answerB ans=true:=ho
  have he:zcL ⟨2,ballot,slot,done,req,⟨0,0,⟨0,0,0,[]⟩⟩,bat,prom,snap⟩=true:=he
  simp only[zcL,inW,Bool.and_eq_true,beq_iff_eq,decide_eq_true_eq]at ho he
  have b:=he.1.1.1.1.1.1.1.1.1.1.1.1.1.1.1.1.1.1
  exact⟨by simp only;omega,by simp only;omega,by simp only;omega,by simp only;omega, .inl (by simp_all), .inr ho, .inl (by simp_all)⟩
 ·have ho:inW ballot 0=true:=ho
  have he:zcL ⟨3,0,slot,done,req,ans,bat,prom,snap⟩=true:=he
  simp only[zcL,inW,Bool.and_eq_true,beq_iff_eq,decide_eq_true_eq]at ho he
  have b:=he.1.1.1.1.1.1.1.1.1.1.1.1.1.1.1.1.1.1
  exact⟨by simp only;omega,by simp only;omega,by simp only;omega,by simp only;omega, .inl (by simp_all), .inl (by simp_all), .inl (by simp_all)⟩
 ·have ho:(inW ballot 0&&Prom.may prom)=true:=ho
  have he:zcL ⟨4,0,slot,done,req,ans,bat,⟨0,0,⟨0,0⟩,0,[]⟩,snap⟩=true:=he
  simp only[zcL,inW,Bool.and_eq_true,beq_iff_eq,decide_eq_true_eq]at ho he
  have b:=he.1.1.1.1.1.1.1.1.1.1.1.1.1.1.1.1.1.1
  exact⟨by simp only;omega,by simp only;omega,by simp only;omega,by simp only;omega, .inl (by simp_all), .inl (by simp_all), .inr ho.2⟩
 ·have ho:(inW ballot 0&&inW slot 1&&Batch.may bat)=true:=ho
  have he:zcL ⟨5,0,0,done,req,ans,bat00,prom,snap⟩=true:=he
  simp only[zcL,inW,Bool.and_eq_true,beq_iff_eq,decide_eq_true_eq]at ho he
  have b:=he.1.1.1.1.1.1.1.1.1.1.1.1.1.1.1.1.1.1
  exact⟨by simp only;omega,by simp only;omega,by simp only;omega,by simp only;omega, .inl (by simp_all), .inl (by simp_all), .inl (by simp_all)⟩
 ·have ho:(inW ballot 0&&inW slot 1&&Batch.may bat)=true:=ho
  have he:zcL ⟨6,0,0,done,req,ans,bat00,prom,snap⟩=true:=he
  simp only[zcL,inW,Bool.and_eq_true,beq_iff_eq,decide_eq_true_eq]at ho he
  have b:=he.1.1.1.1.1.1.1.1.1.1.1.1.1.1.1.1.1.1
  exact⟨by simp only;omega,by simp only;omega,by simp only;omega,by simp only;omega, .inl (by simp_all), .inl (by simp_all), .inl (by simp_all)⟩
 ·have ho:(inW ballot 0&&inW done 0)=true:=ho
  have he:zcL ⟨7,0,slot,0,req,ans,bat,prom,snap⟩=true:=he
  simp only[zcL,inW,Bool.and_eq_true,beq_iff_eq,decide_eq_true_eq]at ho he
  have b:=he.1.1.1.1.1.1.1.1.1.1.1.1.1.1.1.1.1.1
  exact⟨by simp only;omega,by simp only;omega,by simp only;omega,by simp only;omega, .inl (by simp_all), .inl (by simp_all), .inl (by simp_all)⟩
 ·have ho:inW done 0=true:=ho
  have he:zcL ⟨8,ballot,slot,0,req,ans,bat,prom,snap⟩=true:=he
  simp only[zcL,inW,Bool.and_eq_true,beq_iff_eq,decide_eq_true_eq]at ho he
  have b:=he.1.1.1.1.1.1.1.1.1.1.1.1.1.1.1.1.1.1
  exact⟨by simp only;omega,by simp only;omega,by simp only;omega,by simp only;omega, .inl (by simp_all), .inl (by simp_all), .inl (by simp_all)⟩
 ·have ho:zbp snap=true:=ho
  have he:zcL ⟨9,ballot,slot,done,req,ans,bat,prom,⟨0,0,0,zzw⟩⟩=true:=he
  simp only[zcL,inW,Bool.and_eq_true,beq_iff_eq,decide_eq_true_eq]at ho he
  have b:=he.1.1.1.1.1.1.1.1.1.1.1.1.1.1.1.1.1.1
  exact⟨by simp only;omega,by simp only;omega,by simp only;omega,by simp only;omega, .inl (by simp_all), .inl (by simp_all), .inl (by simp_all)⟩
 ·simp only[beq_eq_false_iff_ne,ne_eq]at k1 k2 k3 k4 k5 k6 k7 k8 k9
  unfold okP at ho
  simp only[k1,k2,k3,k4,k5,k6,k7,k8,k9,if_false]at ho
  cases ho
theorem zkp {p:Pkt} (h:MayK p→False):ziD p=false:=by
 cases hp:ziD p
 ·rfl
 ·exact(h (zuL hp)).elim
set_option maxHeartbeats 8000000 in
theorem zkq (kind:Int) (ns:List Int) (acts:List Act) (told:NTold) (how n:Int) (h:(Inp.mk kind ns acts told).ok) (hh:zau how) (hn:zau n):
  CallOK Tryz.prog 7 [.f (au kind), .f (al ns.length (zad ns)), .f (al acts.length (zkF acts)), .f (.agg told.lent), .f (au how), .f (au n)] (fun r o=>r=[rb true]∧o=[]):=by
 refine zh Tryz.func7 Tryz.results7 Tryz.ntmps7 Tryz.call7 ?_
 simp only[Tryz.f7,Option.getD]
 have h1:=zpl _ h
 have hm:=zeu _ h
 have ho:=zmI _ h
 simp only at h1
 obtain⟨P,hP⟩:∃P,P=zaD ⟨kind,ns,acts,told⟩:=⟨_,rfl⟩
 rw[←hP]at h1 hm ho
 have h2:=zcE P ho
 rw[hm]at h2
 have mh:=ziH (m:=7) hh (by decide)
 have haw:=zkJ
 unfold zau at hn hh
 have wn:IntKind.i64.wrap n=n:=wrap64 (by omega) (by omega)
 clear hP
 rcases(show how % 7=0∨how % 7=1∨how % 7=2∨how % 7=3∨how % 7=4∨how % 7=5∨how % 7=6 by omega)with e|e|e|e|e|e|e
 ·have w1:IntKind.i64.wrap (10+n)=10+n:=wrap64 (by omega) (by omega)
  have hok:Pkt.ok {P with kind:=10+n}:={ho with k:=by unfold i64;simp only;omega}
  have hno:ziD {P with kind:=10+n}=false:=zkp fun f=>by have:=f.kind;simp only at this;omega
  have h3:=zdL _ hok hno
  have h4:=zcE _ hok
  rw[hno]at h4
  exact zW (I mh (I e (I wn w1))) (I (h1) (I (h2) (I (h3) (I (h4) (haw)))))
 ·have w1:IntKind.i64.wrap (-1 - n)= -1 - n:=wrap64 (by omega) (by omega)
  have hok:Pkt.ok {P with ballot:= -1 - n}:={ho with b:=by unfold i64;simp only;omega}
  have hno:ziD {P with ballot:= -1 - n}=false:=zkp fun f=>by have:=f.ballot;simp only at this;omega
  have h3:=zdL _ hok hno
  have h4:=zcE _ hok
  rw[hno]at h4
  exact zW (I mh (I e (I wn w1))) (I (h1) (I (h2) (I (h3) (I (h4) (haw)))))
 ·have w1:IntKind.i64.wrap (2305843009213693953+n)=2305843009213693953+n:=wrap64 (by omega) (by omega)
  have hok:Pkt.ok {P with done:=2305843009213693953+n}:={ho with d:=by unfold i64;simp only;omega}
  have hno:ziD {P with done:=2305843009213693953+n}=false:=zkp fun f=>by have:=f.done;simp only at this;omega
  have h3:=zdL _ hok hno
  have h4:=zcE _ hok
  rw[hno]at h4
  exact zW (I mh (I e (I wn w1))) (I (h1) (I (h2) (I (h3) (I (h4) (haw)))))
 ·have w1:IntKind.i64.wrap (-1 - n)= -1 - n:=wrap64 (by omega) (by omega)
  have hok:Pkt.ok {P with slot:= -1 - n}:={ho with s:=by unfold i64;simp only;omega}
  have hno:ziD {P with slot:= -1 - n}=false:=zkp fun f=>by have:=f.slot;simp only at this;omega
  have h3:=zdL _ hok hno
  have h4:=zcE _ hok
  rw[hno]at h4
  exact zW (I mh (I e (I wn w1))) (I (h1) (I (h2) (I (h3) (I (h4) (haw)))))
 ·have w1:=wn
  have hok:Pkt.ok {P with req:=⟨9,1,0,0, .empty⟩}:={ho with req:=⟨(show i64 9 by unfold i64;omega),(show i64 1 by unfold i64;omega),zdp,zdp,(by show(ByteArray.empty).size<2^62;decide)⟩}
  have hno:ziD {P with req:=⟨9,1,0,0, .empty⟩}=false:=zkp fun f=>f.req.elim (fun q=>Bool.noConfusion (q.symm.trans (show zmC ⟨9,1,0,0, .empty⟩ ⟨0,0,0,0, .empty⟩=false from by kernel_rfl))) (fun q=>Bool.noConfusion (q.symm.trans (show Req.may ⟨9,1,0,0, .empty⟩=false from by kernel_rfl)))
  have h3:=zdL _ hok hno
  have h4:=zcE _ hok
  rw[hno]at h4
  exact zW (I mh (I e (I wn w1))) (I (h1) (I (h2) (I (h3) (I (h4) (haw)))))
 ·have w1:=wn
  have hok:Pkt.ok {P with prom:={P.prom with time:= -1}}:={ho with prom:=⟨ho.prom.1,ho.prom.2.1,ho.prom.2.2.1,ho.prom.2.2.2.1,by unfold i64;simp only;omega,ho.prom.2.2.2.2.2⟩}
  have hno:ziD {P with prom:={P.prom with time:= -1}}=false:=zkp fun f=>f.time.elim (fun q=>by simp only at q;omega) (fun q=>by have:=(zlJ q).time;simp only at this;omega)
  have h3:=zdL _ hok hno
  have h4:=zcE _ hok
  rw[hno]at h4
  exact zW (I mh (I e (I wn w1))) (I (h1) (I (h2) (I (h3) (I (h4) (haw)))))
 ·have w1:=wn
  have hok:Pkt.ok {P with ans:={P.ans with seq:= -1}}:={ho with ans:=ho.ans}
  have hno:ziD {P with ans:={P.ans with seq:= -1}}=false:=zkp fun f=>f.ans.elim (fun q=>by simp only at q;omega) (fun q=>by have:=(zbX q).2.1;simp only at this;omega)
  have h3:=zdL _ hok hno
  have h4:=zcE _ hok
  rw[hno]at h4
  exact zW (I mh (I e (I wn w1))) (I (h1) (I (h2) (I (h3) (I (h4) (haw)))))
theorem zBf {n:Int} (h:(Lit.int .u8 n).wf=true):zau n:=by
 have h2:(decide (IntKind.u8.min≤n)&&decide (n≤IntKind.u8.max))=true:=h
 have e1:IntKind.u8.min=0:=by decide
 have e2:IntKind.u8.max=255:=by decide
 rw[e1,e2]at h2
 simp only[Bool.and_eq_true,decide_eq_true_eq]at h2
 unfold zau
 omega
theorem zmF {α:Type} {enc:α→List D} {ok:α→Prop} {s:Sh} (h:∀ds,ShD s ds→∃x,ds=enc x∧ok x):∀xs:List (List D),(∀x∈xs,ShD s x)→∃l:List α,l.length=xs.length∧xs.flatten=l.flatMap enc∧∀x∈l,ok x
 |[],_=>⟨[],rfl,rfl,fun x hx=>by cases hx⟩
 |x::xs,hx=>by
  obtain⟨a,ha1,ha2⟩:=h x (hx x (by simp))
  obtain⟨l,h1,h2,h3⟩:=zmF h xs fun y hy=>hx y (by simp[hy])
  refine⟨a::l,by simp[h1], ?_,fun y hy=> ?_⟩
  ·rw[List.flatten_cons,List.flatMap_cons,h2,ha1]
  ·rcases List.mem_cons.1 hy with rfl|hy
   ·exact ha2
   ·exact h3 y hy
theorem zpi:reachBytes<2^60:=by decide
theorem byte_of (ds:List D) (h:ShD (.int .u8) ds):∃x:Int,ds=[uD x]∧zau x:=by
 simp only[ShD]at h
 obtain⟨n,rfl,hn⟩:=h
 exact⟨n,rfl,zBf hn⟩
abbrev zog:Sh:= .struct [.int .u8, .int .u8, .int .u8, .int .u8, .int .u8, .int .u8]
theorem zAy (ds:List D) (h:ShD zog ds):∃a:Act,ds=a.enc∧zoW a:=by
 rw[ShD]at h
 simp only[ShDs]at h
 obtain⟨_,_,rfl,h1,_,_,rfl,h2,_,_,rfl,h3,_,_,rfl,h4,_,_,rfl,h5,_,_,rfl,h6,rfl⟩:=h
 obtain⟨a,rfl,ha⟩:=byte_of _ h1
 obtain⟨b,rfl,hb⟩:=byte_of _ h2
 obtain⟨c,rfl,hc⟩:=byte_of _ h3
 obtain⟨d,rfl,hd⟩:=byte_of _ h4
 obtain⟨e,rfl,he⟩:=byte_of _ h5
 obtain⟨f,rfl,hf⟩:=byte_of _ h6
 exact⟨⟨a,b,c,d,e,f⟩,rfl,ha,hb,hc,hd,he,hf⟩
theorem zuF (ds:List D) (h:ShD (.slice 6 zog) ds):∃l:List Act,ds=[.sl l.length (zkF l)]∧l.length<2^60∧∀x∈l,zoW x:=by
 rw[ShD]at h
 obtain⟨xs,rfl,hx1,hx2⟩:=h
 obtain⟨l,l1,l2,l3⟩:=zmF zAy xs hx2
 have:=zpi
 exact⟨l,by rw[←l1,l2],by omega,l3⟩
theorem zpj (l:List Int):(l.flatMap fun n=>[uD n])=zad l:=by
 induction l with
 |nil=>rfl
 |cons a l ih=>simp[List.flatMap_cons,ih]
theorem zwH (ds:List D) (h:ShD (.slice 1 (.int .u8)) ds):∃l:List Int,ds=[.sl l.length (zad l)]∧l.length<2^60∧∀x∈l,zau x:=by
 rw[ShD]at h
 obtain⟨xs,rfl,hx1,hx2⟩:=h
 obtain⟨l,l1,l2,l3⟩:=zmF byte_of xs hx2
 have:=zpi
 rw[zpj]at l2
 exact⟨l,by rw[←l1,l2],by omega,l3⟩
def zD9 (n:Int):Prop:=0≤n∧n<65536
abbrev wD (n:Int):D:= .v (.int .u16 n)
abbrev aw (n:Int):AV:= .one (.d (wD n))
abbrev zrS:Sh:= .struct [.int .u8, .int .u8, .slice 1 (.int .u8)]
abbrev zgL:Sh:= .struct [.int .u8, .int .u8, .int .u8, .int .u8, .slice 32 zrS]
theorem zuR (ds:List D) (h:ShD zrS ds):∃v:NVote,ds=v.enc∧v.ok:=by
 rw[ShD]at h
 simp only[ShDs]at h
 obtain⟨_,_,rfl,h1,_,_,rfl,h2,_,_,rfl,h3,rfl⟩:=h
 obtain⟨a,rfl,ha⟩:=byte_of _ h1
 obtain⟨b,rfl,hb⟩:=byte_of _ h2
 obtain⟨l,rfl,l1,l2⟩:=zwH _ h3
 exact⟨⟨a,b,l⟩,rfl,zbw ha,zbw hb,l1,fun x hx=>zbw (l2 x hx)⟩
theorem zpm (ds:List D) (h:ShD zgL ds):∃v:NTold,ds=v.enc∧v.ok:=by
 rw[ShD]at h
 simp only[ShDs]at h
 obtain⟨_,_,rfl,h1,_,_,rfl,h2,_,_,rfl,h3,_,_,rfl,h4,_,_,rfl,h5,rfl⟩:=h
 obtain⟨a,rfl,ha⟩:=byte_of _ h1
 obtain⟨b,rfl,hb⟩:=byte_of _ h2
 obtain⟨c,rfl,hc⟩:=byte_of _ h3
 obtain⟨d,rfl,hd⟩:=byte_of _ h4
 rw[ShD]at h5
 obtain⟨xs,rfl,hx1,hx2⟩:=h5
 obtain⟨l,l1,l2,l3⟩:=zmF zuR xs hx2
 have:=zpi
 refine⟨⟨a,b,c,d,l⟩, ?_,zbw ha,zbw hb,zbw hc,zbw hd,by simp only;omega,l3⟩
 rw[←l1,l2]
 rfl
theorem zqI {r:Reply} (h:zbN r=true):∀x∈zcr r,zau x:=by
 obtain⟨f1,f2,f3,f4,f5⟩:=zc6 h
 have hg:=zdg h
 intro x hx
 simp only[zcr,List.mem_append,List.mem_cons,List.not_mem_nil,or_false]at hx
 rcases hx with rfl|hx|(rfl|rfl)|hx
 ·unfold zau;omega
 ·exact zdY _ x hx
 ·unfold zau;omega
 ·unfold zau;omega
 ·obtain⟨g,hgm,hx⟩:=List.mem_flatMap.1 hx
  have:=hg g hgm
  rcases List.mem_append.1 hx with hx|hx
  ·exact zoR _ (by omega) x hx
  ·exact zdY _ x hx
theorem zuI {m:Memo} (h:answerB m=true):∀x∈zba m,zau x:=by
 obtain⟨f1,f2,f3⟩:=zbX h
 intro x hx
 simp only[zba,List.mem_append,List.mem_cons,List.not_mem_nil,or_false]at hx
 rcases hx with rfl|hx|hx
 ·unfold zau;omega
 ·exact zdY _ x hx
 ·exact zqI f3 x hx
theorem zwR {s:St} (h:RightS s):∀x∈zdX s,zau x:=by
 have h1:=h.sl
 have h2:=h.ll
 have h3:=zhB h
 intro x hx
 simp only[zdX,sb3,sb2,sb1,zkC,List.take_length,List.mem_append,List.mem_cons,List.not_mem_nil,or_false]at hx
 rcases hx with(((((hx|hx|hx|rfl)|hx)|rfl)|hx)|rfl)|hx
 ·exact zdY _ x hx
 ·exact zdY _ x hx
 ·exact zdY _ x hx
 ·unfold zau;omega
 ·obtain⟨g,hg,hx⟩:=List.mem_flatMap.1 hx
  obtain⟨f1,_,_⟩:=zct.1 (h.sok g hg).1
  simp only[isClient,Bool.and_eq_true,decide_eq_true_eq]at f1
  simp only[ziM,List.mem_cons,List.mem_append]at hx
  rcases hx with rfl|hx|hx
  ·unfold zau;omega
  ·exact zdY _ x hx
  ·exact zdY _ x hx
 ·unfold zau;omega
 ·obtain⟨k,hk,hx⟩:=List.mem_flatMap.1 hx
  obtain⟨q0,q1,q2,q3,q4,q5⟩:=zgr h hk
  simp only[zh9,lk0,List.mem_append,List.mem_cons,List.not_mem_nil,or_false]at hx
  rcases hx with(hx|rfl|hx|rfl)|hx
  ·exact zoR _ (by omega) x hx
  ·unfold zau;omega
  ·exact zdY _ x hx
  ·unfold zau;omega
  ·have:=q5 x hx;unfold zau;omega
 ·unfold zau;omega
 ·obtain⟨m,hm,hx⟩:=List.mem_flatMap.1 hx
  exact zuI (h.mok m hm) x hx
section
variable {bs:List Int}
theorem zdN {p:Nat} {v:Int} {rest:List Int} (h:bs.drop p=zbs v++rest) (hv:0≤v∧v<4611686018427387904):zbf bs p= .ok (v,((p+8:Nat):Int))∧bs.drop (p+8)=rest:=⟨zeb h hv,by have:=zaE h;rwa[zaX]at this⟩
theorem byte_at {p:Nat} {x:Int} {rest:List Int} (h:bs.drop p=[x]++rest):zbt bs p= .ok (x,((p+1:Nat):Int))∧bs.drop (p+1)=rest:=⟨zg7 h,zaE h⟩
theorem zAC {p:Nat} {k n:Int} {s:ByteArray} {rest:List Int} (h:bs.drop p=zn4 k n s++rest) (hm:zlz k n s=true):zqv bs p= .ok ((k,n,s),((p+(zn4 k n s).length:Nat):Int)):=by
 obtain⟨f1,f2,f3,f4,f5⟩:=zdx hm
 obtain⟨e1,h1⟩:=byte_at (x:=k) (rest:=zbs n++(zdS s++rest)) (by rw[h];simp[zn4])
 obtain⟨e2,h2⟩:=zdN h1 (by omega)
 have e3:=zpq h2 f5
 rw[zqv,e1];simp only
 rw[e2];simp only
 rw[e3];simp only
 rw[if_pos hm,zmz]
 refine congrArg Except.ok (Prod.ext rfl ?_)
 simp only
 omega
theorem zxI {p:Nat} {r:Req} {rest:List Int} (h:bs.drop p=zik r++rest) (hm:Req.may r=true):zkd bs p= .ok (r,((p+(zik r).length:Nat):Int)):=by
 obtain⟨f1,f2,f3,_⟩:=zes hm
 obtain⟨e1,h1⟩:=byte_at (x:=r.client) (rest:=zbs r.seq++(zn4 r.kind r.session r.name++rest)) (by rw[h];simp[zik])
 obtain⟨e2,h2⟩:=zdN h1 (by omega)
 have e3:=zAC h2 f3
 rw[zkd,e1];simp only
 rw[e2];simp only
 rw[e3];simp only
 rw[if_pos (show Req.may ⟨r.client,r.seq,r.kind,r.session,r.name⟩=true from hm)]
 refine congrArg Except.ok (Prod.ext rfl ?_)
 simp[zik,zaX]
 omega
theorem zuH {p:Nat} {b:Batch} {rest:List Int} (h:bs.drop p=zeH b++rest) (hm:Batch.may b=true):zg4 bs p= .ok (b,((p+(zeH b).length:Nat):Int)):=by
 cases hf:b.fill
 ·obtain⟨h3,hr⟩:=zer hm
  have hn:=zke hm
  rw[zeH,if_neg (by rw[hf];simp)]at h⊢
  obtain⟨e1,h1⟩:=byte_at (x:=0) (rest:=(zfw b).flatMap zbs++([(b.reqs.length:Int)]++(b.reqs.flatMap zik++rest))) (by rw[h];simp[bp1,bp0,zaH])
  have e2:=zey (f:=zbf bs) (enc:=zbs) (l:=zfw b) (acc:=[]) (fun x hx p rest hd=>by rw[zeb hd (by have:=hn x hx;omega),zaX]) h1
  have h2:=zaE h1
  have e3:=zfz (most:=3) h2 (by omega)
  have h3:=zaE h2
  have e4:=zey (f:=zkd bs) (enc:=zik) (l:=b.reqs) (acc:=[]) (fun x hx p rest hd=>zxI hd (hr x hx)) h3
  simp only[List.length_cons,List.length_nil,Nat.reduceAdd]at e2
  rw[zg4,e1];simp only
  rw[if_neg (by decide),if_neg (by decide),e2];simp only
  rw[e3];simp only
  rw[Int.toNat_natCast,show((p+1+((zfw b).flatMap zbs).length+1:Nat):Int)=((p+1+((zfw b).flatMap zbs).length+[(b.reqs.length:Int)].length:Nat):Int) from rfl,e4]
  simp only[List.nil_append]
  rw[show(⟨false,(zfw b).getD 0 0,⟨(zfw b).getD 1 0,(zfw b).getD 2 0⟩,(zfw b).getD 3 0,b.reqs⟩:Batch)=b from by rw[←hf];rfl,if_pos hm]
  have l8:((zfw b).flatMap zbs).length=32:=zbu (l:=zfw b)
  have l9:(bp1 b b.reqs.length).length=34+(b.reqs.flatMap zik).length:=by
   rw[bp1,List.length_append,List.length_append,zmy b (Nat.le_refl _),List.take_length];simp
  refine congrArg Except.ok (Prod.ext rfl ?_)
  rw[l8,l9]
  simp only[List.length_singleton]
  omega
 ·have hb:b=⟨true,0,⟨0,0⟩,0,[]⟩:=by
   unfold Batch.may at hm
   rw[if_pos hf]at hm
   simp only[Bool.and_eq_true,beq_iff_eq]at hm
   obtain⟨fill,view,⟨tv,ts⟩,time,reqs⟩:=b
   simp only at hf hm
   obtain⟨⟨⟨h1,h2⟩,h3,h4⟩,h5⟩:=hm
   have:reqs=[]:=List.length_eq_zero_iff.1 (by omega)
   subst hf h1 h2 h3 h4 this
   rfl
  rw[zeH,if_pos hf]at h⊢
  rw[zg4,(byte_at h).1];simp only
  rw[if_neg (by decide),if_pos trivial,hb]
  rfl
theorem zzj {p:Nat} {v:Vote} {rest:List Int} (h:bs.drop p=ziP v++rest) (hn:∀x∈[v.slot,v.ballot],0≤x∧x<4611686018427387904) (hm:Batch.may v.batch=true):ziO bs p= .ok (v,((p+(ziP v).length:Nat):Int)):=by
 obtain⟨e1,h1⟩:=zdN (v:=v.slot) (rest:=zbs v.ballot++(zeH v.batch++rest)) (by rw[h];simp[ziP,zaH]) (hn _ (by simp))
 obtain⟨e2,h2⟩:=zdN h1 (hn _ (by simp))
 have e3:=zuH h2 hm
 rw[ziO,e1];simp only
 rw[e2];simp only
 rw[e3]
 refine congrArg Except.ok (Prod.ext rfl ?_)
 simp[ziP,zbu]
 omega
theorem zzk {p:Nat} {x:Prom} {rest:List Int} (h:bs.drop p=zew x++rest) (m:MayP x):zii bs p= .ok (x,((p+(zew x).length:Nat):Int)):=by
 have hn:=zn8 m
 obtain⟨e1,h1⟩:=byte_at (x:=x.src) (rest:=zbs x.done++(zbs x.tip.view++(zbs x.tip.slot++(zbs x.time++([(x.votes.length:Int)]++(x.votes.flatMap ziP++rest)))))) (by rw[h];simp[zew,pr1,pr0,zaH])
 obtain⟨e2,h2⟩:=zdN h1 (hn _ (by simp))
 obtain⟨e3,h3⟩:=zdN h2 (hn _ (by simp))
 obtain⟨e4,h4⟩:=zdN h3 (hn _ (by simp))
 obtain⟨e5,h5⟩:=zdN h4 (hn _ (by simp))
 obtain⟨e6,h6⟩:=byte_at h5
 have e7:=zey (f:=ziO bs) (enc:=ziP) (l:=x.votes) (acc:=[]) (fun v hv p rest hd=>zzj hd (zki m hv).1 (zki m hv).2) h6
 rw[zii,e1];simp only
 rw[e2];simp only
 rw[e3];simp only
 rw[e4];simp only
 rw[e5];simp only
 rw[e6];simp only
 rw[Int.toNat_natCast,e7]
 refine congrArg Except.ok (Prod.ext rfl ?_)
 simp only[zew,pr1,List.length_append,zup,List.take_length]
 omega
end
theorem zzl {bs:List Int} {p:Nat} {x:Inp} {rest:List Int} (h:x.ok) (hd:bs.drop p=zkG (zaD x)++rest):zoo bs (zaD x).kind p= .ok (zaD x,((p+(zkG (zaD x)).length:Nat):Int)):=by
 have hm:=zeu x h
 have ho:=(zf7 hm).1
 clear hm
 obtain⟨kind,ns,acts,told⟩:=x
 obtain⟨hk,hnl,hnb,hal,hab,ht⟩:=h
 simp only at hk hnl hnb hal hab ht
 have b0:0≤ns.getD 0 0 % 16∧ns.getD 0 0 % 16<4611686018427387904:=by omega
 have b1:0≤ns.getD 1 0 % 16∧ns.getD 1 0 % 16<4611686018427387904:=by omega
 have b2:0≤1+ns.getD 1 0 % 9∧1+ns.getD 1 0 % 9<4611686018427387904:=by omega
 rcases zgx hk with e|e|e|e|e|e|e|e|e
 ·rw[show zaD ⟨kind,ns,acts,told⟩={pk0 1 with req:=zom (ns.getD 0 0) (ns.getD 1 0) (ns.getD 2 0) (ns.getD 3 0) (ns.getD 4 0)} from by unfold zaD;simp only[e,Int.reduceEq,if_true,if_false]]at hd ho⊢
  have hd:bs.drop p=(zik (zom (ns.getD 0 0) (ns.getD 1 0) (ns.getD 2 0) (ns.getD 3 0) (ns.getD 4 0)))++rest:=hd
  have r:=zxI hd ho
  show zaA (zkd bs p) _=_
  rw[r]
  rfl
 ·rw[show zaD ⟨kind,ns,acts,told⟩={pk0 2 with ans:=zwV (ns.getD 0 0) (ns.getD 1 0) ns} from by unfold zaD;simp only[e,Int.reduceEq,if_true,if_false]]at hd ho⊢
  have hd:bs.drop p=(zba (zwV (ns.getD 0 0) (ns.getD 1 0) ns))++rest:=hd
  have r:=zpr hd ho
  show zaA (zgz bs p) _=_
  rw[r]
  rfl
 ·rw[show zaD ⟨kind,ns,acts,told⟩={pk0 3 with ballot:=ns.getD 0 0 % 16} from by unfold zaD;simp only[e,Int.reduceEq,if_true,if_false]]at hd ho⊢
  have hd:bs.drop p=(zaH [ns.getD 0 0 % 16])++rest:=hd
  have r:=(zdN (v:=ns.getD 0 0 % 16) (rest:=rest) (by rw[hd];simp[zaH]) b0).1
  show zaA (zbf bs p) _=_
  rw[r]
  rfl
 ·rw[show zaD ⟨kind,ns,acts,told⟩={pk0 4 with ballot:=ns.getD 0 0 % 16,prom:=zex (ns.getD 1 0 % 5) told} from by unfold zaD;simp only[e,Int.reduceEq,if_true,if_false]]at hd ho⊢
  have hd:bs.drop p=(zaH [ns.getD 0 0 % 16]++zew (zex (ns.getD 1 0 % 5) told))++rest:=hd
  have ho:(inW _ 0&&Prom.may _)=true:=ho
  rw[Bool.and_eq_true]at ho
  obtain⟨r,h1⟩:=zdN (v:=ns.getD 0 0 % 16) (rest:=zew (zex (ns.getD 1 0 % 5) told)++rest) (by rw[hd];simp[zaH]) b0
  have r2:=zzk h1 (zlJ ho.2)
  show zaA (zbf bs p) (fun x=>zaA (zii bs x.2) _)=_
  rw[r]
  show zaA (zii bs ((p+8:Nat):Int)) _=_
  rw[r2]
  refine congrArg Except.ok (Prod.ext rfl ?_)
  show _=((p+(zaH [ns.getD 0 0 % 16]++zew (zex (ns.getD 1 0 % 5) told)).length:Nat):Int)
  rw[List.length_append,zbu]
  simp only[List.length_singleton]
  omega
 ·rw[show zaD ⟨kind,ns,acts,told⟩={pk0 5 with ballot:=ns.getD 0 0 % 16,slot:=1+ns.getD 1 0 % 9,bat:=zbz ns} from by unfold zaD;simp only[e,Int.reduceEq,if_true,if_false]]at hd ho⊢
  have hd:bs.drop p=(zaH [ns.getD 0 0 % 16,1+ns.getD 1 0 % 9]++zeH (zbz ns))++rest:=hd
  have ho:(inW _ 0&&inW _ 1&&Batch.may _)=true:=ho
  rw[Bool.and_eq_true]at ho
  obtain⟨r,h1⟩:=zdN (v:=ns.getD 0 0 % 16) (rest:=zbs (1+ns.getD 1 0 % 9)++(zeH (zbz ns)++rest)) (by rw[hd];simp[zaH]) b0
  obtain⟨r2,h2⟩:=zdN h1 b2
  have r3:=zuH h2 ho.2
  show zaA (zbf bs p) (fun x=>zaA (zbf bs x.2) fun y=>zaA (zg4 bs y.2) _)=_
  rw[r]
  show zaA (zbf bs ((p+8:Nat):Int)) (fun y=>zaA (zg4 bs y.2) _)=_
  rw[r2]
  show zaA (zg4 bs ((p+8+8:Nat):Int)) _=_
  rw[r3]
  refine congrArg Except.ok (Prod.ext rfl ?_)
  show _=((p+(zaH [ns.getD 0 0 % 16,1+ns.getD 1 0 % 9]++zeH (zbz ns)).length:Nat):Int)
  rw[List.length_append,zbu]
  simp only[List.length_cons,List.length_nil]
  omega
 ·rw[show zaD ⟨kind,ns,acts,told⟩={pk0 6 with ballot:=ns.getD 0 0 % 16,slot:=1+ns.getD 1 0 % 9,bat:=zbz ns} from by unfold zaD;simp only[e,Int.reduceEq,if_true,if_false]]at hd ho⊢
  have hd:bs.drop p=(zaH [ns.getD 0 0 % 16,1+ns.getD 1 0 % 9]++zeH (zbz ns))++rest:=hd
  have ho:(inW _ 0&&inW _ 1&&Batch.may _)=true:=ho
  rw[Bool.and_eq_true]at ho
  obtain⟨r,h1⟩:=zdN (v:=ns.getD 0 0 % 16) (rest:=zbs (1+ns.getD 1 0 % 9)++(zeH (zbz ns)++rest)) (by rw[hd];simp[zaH]) b0
  obtain⟨r2,h2⟩:=zdN h1 b2
  have r3:=zuH h2 ho.2
  show zaA (zbf bs p) (fun x=>zaA (zbf bs x.2) fun y=>zaA (zg4 bs y.2) _)=_
  rw[r]
  show zaA (zbf bs ((p+8:Nat):Int)) (fun y=>zaA (zg4 bs y.2) _)=_
  rw[r2]
  show zaA (zg4 bs ((p+8+8:Nat):Int)) _=_
  rw[r3]
  refine congrArg Except.ok (Prod.ext rfl ?_)
  show _=((p+(zaH [ns.getD 0 0 % 16,1+ns.getD 1 0 % 9]++zeH (zbz ns)).length:Nat):Int)
  rw[List.length_append,zbu]
  simp only[List.length_cons,List.length_nil]
  omega
 ·rw[show zaD ⟨kind,ns,acts,told⟩={pk0 7 with ballot:=ns.getD 0 0 % 16,done:=ns.getD 1 0 % 16} from by unfold zaD;simp only[e,Int.reduceEq,if_true,if_false]]at hd ho⊢
  have hd:bs.drop p=(zaH [ns.getD 0 0 % 16,ns.getD 1 0 % 16])++rest:=hd
  obtain⟨r,h1⟩:=zdN (v:=ns.getD 0 0 % 16) (rest:=zbs (ns.getD 1 0 % 16)++rest) (by rw[hd];simp[zaH]) b0
  obtain⟨r2,h2⟩:=zdN h1 b1
  show zaA (zbf bs p) (fun x=>zaA (zbf bs x.2) _)=_
  rw[r]
  show zaA (zbf bs ((p+8:Nat):Int)) _=_
  rw[r2]
  rfl
 ·rw[show zaD ⟨kind,ns,acts,told⟩={pk0 8 with done:=ns.getD 0 0 % 16} from by unfold zaD;simp only[e,Int.reduceEq,if_true,if_false]]at hd ho⊢
  have hd:bs.drop p=(zaH [ns.getD 0 0 % 16])++rest:=hd
  have r:=(zdN (v:=ns.getD 0 0 % 16) (rest:=rest) (by rw[hd];simp[zaH]) b0).1
  show zaA (zbf bs p) _=_
  rw[r]
  rfl
 ·rw[show zaD ⟨kind,ns,acts,told⟩={pk0 9 with snap:=⟨ns.getD 0 0 % 16,ns.getD 1 0 % 8,ns.getD 2 0 % 16,zkD acts⟩} from by unfold zaD;simp only[e,Int.reduceEq,if_true,if_false]]at hd ho⊢
  have hd:bs.drop p=(snI ⟨ns.getD 0 0 % 16,ns.getD 1 0 % 8,ns.getD 2 0 % 16,zkD acts⟩)++rest:=hd
  have r:=zu1 hd ho
  show zaA (ziI bs p) _=_
  rw[r]
  rfl
section
variable {bs:List Int} {m:Nat} (hm:m≤bs.length) (hb:BsOk bs)
include hm hb
end
theorem zfq {l:List Int}:∀x∈zaH l,zau x:=fun x hx=>by
 obtain⟨v,_,hv⟩:=List.mem_flatMap.1 hx
 exact zdY v x hv
theorem zdq {a b:List Int} (ha:∀x∈a,zau x) (hb:∀x∈b,zau x):∀x∈a++b,zau x:=fun x hx=>(List.mem_append.1 hx).elim (ha x) (hb x)
theorem zf9 {n:Int} (h:0≤n∧n≤255):∀x∈[n],zau x:=fun x hx=>by
 simp only[List.mem_cons,List.not_mem_nil,or_false]at hx
 rw[hx];unfold zau;omega
theorem zxG {α:Type} {f:α→List Int} {l:List α} (h:∀y∈l,∀x∈f y,zau x):∀x∈l.flatMap f,zau x:=fun x hx=>by
 obtain⟨y,hy,hx⟩:=List.mem_flatMap.1 hx
 exact h y hy x hx
theorem zxH {r:Req} (h:Req.may r=true):∀x∈zik r,zau x:=by
 obtain⟨f1,f2,f3,_⟩:=zes h
 have g:=zdx f3
 exact zdq (zf9 (by omega)) (zdq (zdY _) (zdq (zf9 (by omega)) (zdq (zdY _) (zoR _ (by omega)))))
theorem zuG {b:Batch} (h:Batch.may b=true):∀x∈zeH b,zau x:=by
 obtain⟨h3,hr⟩:=zer h
 unfold zeH
 split
 ·exact zf9 (by decide)
 ·exact zdq (zdq (zdq (zf9 (by decide)) zfq) (zf9 (by omega))) (zxG fun r hr2=>zxH (hr r (List.mem_of_mem_take hr2)))
theorem zzi {p:Prom} (m:MayP p):∀x∈zew p,zau x:=by
 have:=m.src
 have:=m.len
 exact zdq (zdq (zf9 (by omega)) (zdq zfq (zf9 (by omega)))) (zxG fun v hv=>zdq zfq (zuG (m.votes v (List.mem_of_mem_take hv)).2.2.2.2))
theorem zAz {s:Sn} (h:RightS s.st):∀x∈snI s,zau x:=zdq (zdY _) (zdq (zdY _) (zdq (zdY _) (zwR h)))
theorem zAA {p:Pkt} (h:ziD p=true):∀x∈pkI p,zau x:=by
 have ho:=(zf7 h).1
 obtain⟨kind,ballot,slot,done,req,ans,bat,prom,snap⟩:=p
 rcases kinds kind with rfl|rfl|rfl|rfl|rfl|rfl|rfl|rfl|rfl|⟨k1,k2,k3,k4,k5,k6,k7,k8,k9⟩
 ·exact zdq (zf9 (n:=1) (by decide)) (show∀x∈zik req,zau x from zxH ho)
 ·refine zdq (zf9 (n:=2) (by decide)) (show∀x∈zba ans,zau x from ?_)
  have ho:answerB ans=true:=ho
  have f:=zbX ho
  exact zdq (zf9 (by omega)) (zdq (zdY _) (zqI f.2.2))
 ·exact zdq (zf9 (n:=3) (by decide)) (show∀x∈zaH [ballot],zau x from zfq)
 ·have ho:(inW ballot 0&&Prom.may prom)=true:=ho
  rw[Bool.and_eq_true]at ho
  exact zdq (zf9 (n:=4) (by decide)) (show∀x∈zaH [ballot]++zew prom,zau x from zdq zfq (zzi (zlJ ho.2)))
 ·have ho:(inW ballot 0&&inW slot 1&&Batch.may bat)=true:=ho
  rw[Bool.and_eq_true]at ho
  exact zdq (zf9 (n:=5) (by decide)) (show∀x∈zaH [ballot,slot]++zeH bat,zau x from zdq zfq (zuG ho.2))
 ·have ho:(inW ballot 0&&inW slot 1&&Batch.may bat)=true:=ho
  rw[Bool.and_eq_true]at ho
  exact zdq (zf9 (n:=6) (by decide)) (show∀x∈zaH [ballot,slot]++zeH bat,zau x from zdq zfq (zuG ho.2))
 ·exact zdq (zf9 (n:=7) (by decide)) (show∀x∈zaH [ballot,done],zau x from zfq)
 ·exact zdq (zf9 (n:=8) (by decide)) (show∀x∈zaH [done],zau x from zfq)
 ·exact zdq (zf9 (n:=9) (by decide)) (show∀x∈snI snap,zau x from zAz (zdZ ho).2.2.2)
 ·simp only[beq_eq_false_iff_ne,ne_eq]at k1 k2 k3 k4 k5 k6 k7 k8 k9
  unfold okP at ho
  simp only[k1,k2,k3,k4,k5,k6,k7,k8,k9,if_false]at ho
  cases ho
theorem zpk {p:Pkt} (h:ziD p=true):1≤(pkI p).length∧(pkI p).length≤1401:=by
 have:=zkh h
 rw[pkI,List.length_append,List.length_singleton]
 omega
theorem zAB {x:Inp} (h:x.ok) (rest:List Int):zxR (pkI (zaD x)++rest) 0= .ok (zaD x,((pkI (zaD x)).length:Int)):=by
 obtain⟨e1,h1⟩:=byte_at (bs:=pkI (zaD x)++rest) (p:=0) (x:=(zaD x).kind) (rest:=zkG (zaD x)++rest) (by simp[pkI])
 have e2:=zzl h h1
 rw[zxR,show((0:Int))=((0:Nat):Int) from rfl,e1]
 show zoo _ (zaD x).kind ((0+1:Nat):Int)=_
 rw[e2]
 refine congrArg Except.ok (Prod.ext rfl ?_)
 simp only[pkI,List.length_append,List.length_singleton]
theorem zqH {x:Inp} (h:x.ok):zxQ (pkI (zaD x))=(zaD x,0):=by
 have hm:=zeu x h
 have hl:=zpk hm
 have e:=zAB h []
 rw[List.append_nil]at e
 unfold zxQ
 rw[if_neg (by omega),e]
 simp only
 rw[if_neg]
 rw[zAD,if_pos hm]
 simp
theorem zmG {a b:ByteArray} (h:a.toList=b.toList):a=b:=by
 rw[zcx,zcx]at h
 cases a;cases b
 simp only at h
 rw[Array.toList_inj.1 h]
theorem zdM {α:Type} {eq:α→α→Bool} (h:∀x y,eq x y=true→x=y):∀{a b:List α},sameL eq a b=true→a=b
 |[],[],_=>rfl
 |[],_::_,q=>by simp[sameL]at q
 |_::_,[],q=>by simp[sameL]at q
 |x::a,y::b,q=>by
  simp only[sameL,List.length_cons,List.zip_cons_cons,List.all_cons,Bool.and_eq_true,beq_iff_eq]at q
  rw[h x y q.2.1,zdM h (a:=a) (b:=b) (by simp only[sameL,Bool.and_eq_true,beq_iff_eq];exact⟨by omega,q.2.2⟩)]
theorem zwI (a b:Grant) (h:zol a b=true):a=b:=by
 simp only[zol,Bool.and_eq_true,beq_iff_eq]at h
 cases a;cases b
 simp only at h
 rw[zmG h.1,h.2]
theorem zwJ (a b:Sess) (h:zmD a b=true):a=b:=by
 simp only[zmD,Bool.and_eq_true,beq_iff_eq]at h
 cases a;cases b
 simp only at h
 rw[h.1,h.2.1,h.2.2]
theorem zwK (a b:Lk) (h:eqLk a b=true):a=b:=by
 simp only[eqLk,Bool.and_eq_true,beq_iff_eq]at h
 cases a;cases b
 simp only at h
 rw[zmG h.1.1.1,h.1.1.2,h.1.2,zdM (fun x y q=>by simpa[zhU]using q) h.2]
theorem zqC (a b:Memo) (h:eqMe a b=true):a=b:=by
 simp only[eqMe,Bool.and_eq_true,beq_iff_eq]at h
 obtain⟨c,s,r⟩:=a
 obtain⟨c2,s2,r2⟩:=b
 cases r;cases r2
 simp only at h
 rw[h.1.1.1.1.1,h.1.1.1.1.2,h.1.1.1.2,h.1.1.2,h.1.2,zdM zwI h.2]
theorem zwL (a b:St) (h:zrR a b=true):a=b:=by
 simp only[zrR,Bool.and_eq_true,beq_iff_eq]at h
 cases a;cases b
 simp only at h
 rw[h.1.1.1.1.1,h.1.1.1.1.2,h.1.1.1.2,zdM zwJ h.1.1.2,zdM zwK h.1.2,zdM zqC h.2]
theorem zqD (a b:Req) (h:zmC a b=true):a=b:=by
 simp only[zmC,Bool.and_eq_true,beq_iff_eq]at h
 cases a;cases b
 simp only at h
 rw[h.1,h.2.1,h.2.2.1,h.2.2.2.1,zmG h.2.2.2.2]
theorem zqE (a b:Batch) (h:eqBa a b=true):a=b:=by
 simp only[eqBa,Bool.and_eq_true,beq_iff_eq]at h
 obtain⟨f,v,⟨tv,ts⟩,t,r⟩:=a
 obtain⟨f2,v2,⟨tv2,ts2⟩,t2,r2⟩:=b
 simp only at h
 rw[h.1.1.1.1,h.1.1.1.2,h.1.1.2.1,h.1.1.2.2,h.1.2,zdM zqD h.2]
theorem zwM (a b:Vote) (h:zut a b=true):a=b:=by
 simp only[zut,Bool.and_eq_true,beq_iff_eq]at h
 cases a;cases b
 simp only at h
 rw[h.1.1,h.1.2,zqE _ _ h.2]
theorem zwN (a b:Prom) (h:zzx a b=true):a=b:=by
 simp only[zzx,Bool.and_eq_true,beq_iff_eq]at h
 obtain⟨f,v,⟨tv,ts⟩,t,r⟩:=a
 obtain⟨f2,v2,⟨tv2,ts2⟩,t2,r2⟩:=b
 simp only at h
 rw[h.1.1.1.1,h.1.1.1.2,h.1.1.2.1,h.1.1.2.2,h.1.2,zdM zwM h.2]
theorem zwO (a b:Sn) (h:zzy a b=true):a=b:=by
 simp only[zzy,Bool.and_eq_true,beq_iff_eq]at h
 cases a;cases b
 simp only at h
 rw[h.1.1,h.1.2.1,h.1.2.2,zwL _ _ h.2]
theorem zwP (a b:Pkt) (h:zxE a b=true):a=b:=by
 simp only[zxE,Bool.and_eq_true,beq_iff_eq]at h
 cases a;cases b
 simp only at h
 rw[h.1.1.1.1.1.1.1.1,h.1.1.1.1.1.1.1.2,h.1.1.1.1.1.1.2,h.1.1.1.1.1.2,zqD _ _ h.1.1.1.1.2,zqC _ _ h.1.1.1.2,zqE _ _ h.1.1.2,zwN _ _ h.1.2,zwO _ _ h.2]
theorem zqF (a:Req):zmC a a=true:=by simp[zmC]
theorem zqG (a:Batch):eqBa a a=true:=by simp[eqBa,zet zqF]
theorem zwQ (a:Pkt):zxE a a=true:=by
 have hm:eqMe a.ans a.ans=true:=by simp[eqMe,zoa]
 have hv:∀v,zut v v=true:=fun v=>by simp[zut,zqG]
 have hp:zzx a.prom a.prom=true:=by simp[zzx,zet hv]
 simp[zxE,zqF,hm,zqG,hp,zwy]
theorem zrN {x y:Inp} (hx:x.ok) (hy:y.ok):((strOf (pkI (zaD x))).toList==(strOf (pkI (zaD y))).toList)=zxE (zaD x) (zaD y):=by
 rw[str_eq (zAA (zeu x hx)) (zAA (zeu y hy)),Bool.eq_iff_iff,decide_eq_true_eq]
 constructor
 ·intro h
  have h1:=zqH hx
  rw[h,zqH hy]at h1
  rw[Prod.mk.injEq]at h1
  rw[h1.1]
  exact zwQ _
 ·intro h
  rw[zwP _ _ h]
set_option maxHeartbeats 8000000 in
theorem zkI (j k:Int) (av bv:List Int) (acts:List Act) (told:NTold) (h1:(Inp.mk j av acts told).ok) (h2:(Inp.mk k bv acts told).ok):
  CallOK Tryz.prog 6 [.f (au j), .f (au k), .f (al av.length (zad av)), .f (al bv.length (zad bv)), .f (al acts.length (zkF acts)), .f (.agg told.lent)] (fun r o=>r=[rb true]∧o=[]):=by
 refine zh Tryz.func6 Tryz.results6 Tryz.ntmps6 Tryz.call6 ?_
 simp only[Tryz.f6,Option.getD]
 have c1:=zpl _ h1
 have c2:=zpl _ h2
 have m1:=zeu _ h1
 have m2:=zeu _ h2
 have o1:=zmI _ h1
 have o2:=zmI _ h2
 have hs:=zrN h1 h2
 simp only at c1 c2
 obtain⟨P,hP⟩:∃P,P=zaD ⟨j,av,acts,told⟩:=⟨_,rfl⟩
 obtain⟨Q,hQ⟩:∃Q,Q=zaD ⟨k,bv,acts,told⟩:=⟨_,rfl⟩
 rw[←hP]at c1 m1 o1 hs
 rw[←hQ]at c2 m2 o2 hs
 have l1:=zpk m1
 have l2:=zpk m2
 have p1:=zhT P o1 m1
 have p2:=zhT Q o2 m2
 have sm:=zuw P Q o1 o2
 have haw:=zkJ
 clear hP hQ
 have hkn:=(zuL m1).kind
 have hw:IntKind.i64.wrap P.kind=P.kind:=wrap64 (by omega) (by omega)
 have hbo:bytesOf (uD P.kind::zad (zkG P))=some ((pkI P).map fun n=>UInt8.ofNat n.toNat):=zdh (pkI P)
 have htk:List.take (pkI P).length (uD P.kind::zad (zkG P))=uD P.kind::zad (zkG P):=zat (l:=pkI P)
 have hl1:((zkG P).length+1=(pkI P).length)=True:=eq_true (by rw[pkI,List.length_append,List.length_singleton];omega)
 have g1:decide (((pkI P).length:Int)>0)=true:=by simp;omega
 have g2:decide (((pkI Q).length:Int)>0)=true:=by simp;omega
 repeat'(first|exact zC|(with_reducible first|refine zbh 4 ?_|refine zaU 4 ?_|refine zaV 4 ?_)|refine zu0 ?_|(with_reducible first|refine zae _ _ ?_)|refine zx (c1) ?_|refine zx (c2) ?_|refine zx (p1) ?_|refine zx (p2) ?_|(apply zaa<;>intro hb)|(apply I;exact zI)|(apply I<;>intro hg))
 refine zbl (zbk (Gh.sealV 15 (x:= .own ⟨15,1,0⟩ 0 (pkI P).length) (d:= .sl (pkI P).length (zad (pkI P))) rfl (by simp only[zY,zat,Nat.reduceSub,Nat.reduceEqDiff,Nat.reduceAdd,Nat.reduceMul,Nat.reduceLeDiff,Nat.reduceLT,Nat.reduceBEq,reduceCtorEq];rfl)) ?_)
 refine zbk (Gh.sealV 17 (x:= .own ⟨17,1,0⟩ 0 (pkI Q).length) (d:= .sl (pkI Q).length (zad (pkI Q))) rfl (by simp only[zY,zat,Nat.reduceSub,Nat.reduceEqDiff,Nat.reduceAdd,Nat.reduceMul,Nat.reduceLeDiff,Nat.reduceLT,Nat.reduceBEq,reduceCtorEq];rfl)) ?_
 rw[show D.sl (pkI P).length (zad (pkI P))=D.sl (pkI P).length (uD P.kind::zad (zkG P)) from rfl]
 refine zL (I hl1 (I g1 (I g2 (I hw (I hbo (I htk (I @zdh @zat))))))) (I (sm) (haw)) ?_
 show [rb (((strOf (pkI P)).toList==(strOf (pkI Q)).toList)==zxE P Q)]=_
 rw[hs,beq_self_eq_true]
end Go.Proofs.YtliimajkpggbhaaGreat
