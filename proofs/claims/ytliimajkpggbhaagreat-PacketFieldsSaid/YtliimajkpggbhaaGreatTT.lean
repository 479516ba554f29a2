import Derived.Test.YtliimajkpggbhaaGreatK9
import Derived.JoinedOf
import Derived.Handed
import Derived.ProofKit
import Derived.Test.YtliimajkpggbhaaGreatPT
namespace Go.Proofs.YtliimajkpggbhaaGreat
open Go.Pk
set_option maxRecDepth 100000
set_option linter.unusedSimpArgs false
set_option linter.unusedVariables false
theorem zt8 (k:Int):zcB (pk0 k)=true:=by kernel_rfl
theorem ze3 {p:Pkt} {k:Int} (h1:okP p=true) (h2:zyf p=pk0 k):ziA p=true:=by rw[ziA,h1,h2,zt8];rfl
theorem zt9 {v a:Int} (h:a≤v) (h2:v≤2305843009213693952):inW v a=true:=by simp[inW];omega
theorem zl2 {n m:Int} (h:zaN n) (hm:0<m) (h2:m≤256):zaN (n % m):=by
 unfold zaN
 have:=Int.emod_nonneg n (show m≠0 by omega)
 have:=Int.emod_lt_of_pos n hm
 omega
theorem zua (x:Inp) (h:x.ok):ziA (zbc x)=true:=by
 obtain⟨kind,ns,acts,told⟩:=x
 obtain⟨hk,hnl,hnb,hal,hab,ht⟩:=h
 simp only at hk hnl hnb hal hab ht
 have hg:∀k,zaN (ns.getD k 0):=zbW hnb
 have hb1:Batch.may (zb7 ns)=true:=zkU fun y hy=>zbp (hnb y hy)
 have i0:inW (ns.getD 0 0 % 16) 0=true:=zt9 (by omega) (by omega)
 have i1:inW (ns.getD 1 0 % 16) 0=true:=zt9 (by omega) (by omega)
 have i2:inW (1+ns.getD 1 0 % 9) 1=true:=zt9 (by omega) (by omega)
 rcases zhW hk with e|e|e|e|e|e|e|e|e
 ·rw[show zbc ⟨kind,ns,acts,told⟩={pk0 1 with req:=zp1 (ns.getD 0 0) (ns.getD 1 0) (ns.getD 2 0) (ns.getD 3 0) (ns.getD 4 0)} from by unfold zbc;simp only[e,Int.reduceEq,if_true,if_false]]
  exact ze3 (k:=1) (show Req.may _=true from zp0 (zbp (hg 1))) rfl
 ·rw[show zbc ⟨kind,ns,acts,told⟩={pk0 2 with ans:=zyp (ns.getD 0 0) (ns.getD 1 0) ns} from by unfold zbc;simp only[e,Int.reduceEq,if_true,if_false]]
  exact ze3 (k:=2) (show answerB _=true from zp3 (hg 0) (hg 1) hnb) rfl
 ·rw[show zbc ⟨kind,ns,acts,told⟩={pk0 3 with ballot:=ns.getD 0 0 % 16} from by unfold zbc;simp only[e,Int.reduceEq,if_true,if_false]]
  exact ze3 (k:=3) (i0) rfl
 ·rw[show zbc ⟨kind,ns,acts,told⟩={pk0 4 with ballot:=ns.getD 0 0 % 16,prom:=ze8 (ns.getD 1 0 % 5) told} from by unfold zbc;simp only[e,Int.reduceEq,if_true,if_false]]
  exact ze3 (k:=4) (show(inW _ 0&&Prom.may _)=true by rw[i0,znH (by omega) ht];rfl) rfl
 ·rw[show zbc ⟨kind,ns,acts,told⟩={pk0 5 with ballot:=ns.getD 0 0 % 16,slot:=1+ns.getD 1 0 % 9,bat:=zb7 ns} from by unfold zbc;simp only[e,Int.reduceEq,if_true,if_false]]
  exact ze3 (k:=5) (show(inW _ 0&&inW _ 1&&Batch.may _)=true by rw[i0,i2,hb1];rfl) rfl
 ·rw[show zbc ⟨kind,ns,acts,told⟩={pk0 6 with ballot:=ns.getD 0 0 % 16,slot:=1+ns.getD 1 0 % 9,bat:=zb7 ns} from by unfold zbc;simp only[e,Int.reduceEq,if_true,if_false]]
  exact ze3 (k:=6) (show(inW _ 0&&inW _ 1&&Batch.may _)=true by rw[i0,i2,hb1];rfl) rfl
 ·rw[show zbc ⟨kind,ns,acts,told⟩={pk0 7 with ballot:=ns.getD 0 0 % 16,done:=ns.getD 1 0 % 16} from by unfold zbc;simp only[e,Int.reduceEq,if_true,if_false]]
  exact ze3 (k:=7) (show(inW _ 0&&inW _ 0)=true by rw[i0,i1];rfl) rfl
 ·rw[show zbc ⟨kind,ns,acts,told⟩={pk0 8 with done:=ns.getD 0 0 % 16} from by unfold zbc;simp only[e,Int.reduceEq,if_true,if_false]]
  exact ze3 (k:=8) (i0) rfl
 ·rw[show zbc ⟨kind,ns,acts,told⟩={pk0 9 with snap:=⟨ns.getD 0 0 % 16,ns.getD 1 0 % 8,ns.getD 2 0 % 16,zm5 acts⟩} from by unfold zbc;simp only[e,Int.reduceEq,if_true,if_false]]
  exact ze3 (k:=9) (show zbq _=true by simp only[zbq,zgD (zl2 (m:=16) (hg 0) (by decide) (by decide)),zgD (zl2 (m:=8) (hg 1) (by decide) (by decide)),zgD (zl2 (m:=16) (hg 2) (by decide) (by decide)),zdV.2 (zpG acts).rt,Bool.and_self]) rfl
theorem zv3 (x:Inp) (h:x.ok):(zbc x).ok:=by
 obtain⟨kind,ns,acts,told⟩:=x
 obtain⟨hk,hnl,hnb,hal,hab,ht⟩:=h
 simp only at hk hnl hnb hal hab ht
 have hg:∀k,zaN (ns.getD k 0):=zbW hnb
 have hu:∀k,u8 (ns.getD k 0):=fun k=>zbp (hg k)
 have hb1:=znG fun y hy=>zbp (hnb y hy)
 have hbl:(zb7 ns).reqs.length<2^30:=by have:=hb1.2;omega
 have q0:i64 (ns.getD 0 0 % 16):=zdi (by omega)
 have q1:i64 (ns.getD 1 0 % 16):=zdi (by omega)
 have q2:i64 (1+ns.getD 1 0 % 9):=zdi (by omega)
 rcases zhW hk with e|e|e|e|e|e|e|e|e
 ·rw[show zbc ⟨kind,ns,acts,told⟩={pk0 1 with req:=zp1 (ns.getD 0 0) (ns.getD 1 0) (ns.getD 2 0) (ns.getD 3 0) (ns.getD 4 0)} from by unfold zbc;simp only[e,Int.reduceEq,if_true,if_false]]
  have h0:=zf9 (k:=1) (by unfold i64;omega)
  exact {h0 with req:=zt4 (hu 1)}
 ·rw[show zbc ⟨kind,ns,acts,told⟩={pk0 2 with ans:=zyp (ns.getD 0 0) (ns.getD 1 0) ns} from by unfold zbc;simp only[e,Int.reduceEq,if_true,if_false]]
  have h0:=zf9 (k:=2) (by unfold i64;omega)
  exact {h0 with ans:=zjg (zp3 (hg 0) (hg 1) hnb)}
 ·rw[show zbc ⟨kind,ns,acts,told⟩={pk0 3 with ballot:=ns.getD 0 0 % 16} from by unfold zbc;simp only[e,Int.reduceEq,if_true,if_false]]
  have h0:=zf9 (k:=3) (by unfold i64;omega)
  exact {h0 with b:=q0}
 ·rw[show zbc ⟨kind,ns,acts,told⟩={pk0 4 with ballot:=ns.getD 0 0 % 16,prom:=ze8 (ns.getD 1 0 % 5) told} from by unfold zbc;simp only[e,Int.reduceEq,if_true,if_false]]
  have h0:=zf9 (k:=4) (by unfold i64;omega)
  have hm:=zp2 (znH (i:=ns.getD 1 0 % 5) (by omega) ht)
  have pl3:(ze8 (ns.getD 1 0 % 5) told).votes.length<2^30:=by have:=hm.len;omega
  have vl3:∀v∈(ze8 (ns.getD 1 0 % 5) told).votes,v.batch.reqs.length<2^30:=fun v hv=>by have:=(zfE (hm.votes v hv).2.2.2.2).1;omega
  exact {h0 with b:=q0,prom:=zv1 (by omega) ht,pl:=pl3,vl:=vl3}
 ·rw[show zbc ⟨kind,ns,acts,told⟩={pk0 5 with ballot:=ns.getD 0 0 % 16,slot:=1+ns.getD 1 0 % 9,bat:=zb7 ns} from by unfold zbc;simp only[e,Int.reduceEq,if_true,if_false]]
  have h0:=zf9 (k:=5) (by unfold i64;omega)
  exact {h0 with b:=q0,s:=q2,bat:=hb1.1,bl:=hbl}
 ·rw[show zbc ⟨kind,ns,acts,told⟩={pk0 6 with ballot:=ns.getD 0 0 % 16,slot:=1+ns.getD 1 0 % 9,bat:=zb7 ns} from by unfold zbc;simp only[e,Int.reduceEq,if_true,if_false]]
  have h0:=zf9 (k:=6) (by unfold i64;omega)
  exact {h0 with b:=q0,s:=q2,bat:=hb1.1,bl:=hbl}
 ·rw[show zbc ⟨kind,ns,acts,told⟩={pk0 7 with ballot:=ns.getD 0 0 % 16,done:=ns.getD 1 0 % 16} from by unfold zbc;simp only[e,Int.reduceEq,if_true,if_false]]
  have h0:=zf9 (k:=7) (by unfold i64;omega)
  exact {h0 with b:=q0,d:=q1}
 ·rw[show zbc ⟨kind,ns,acts,told⟩={pk0 8 with done:=ns.getD 0 0 % 16} from by unfold zbc;simp only[e,Int.reduceEq,if_true,if_false]]
  have h0:=zf9 (k:=8) (by unfold i64;omega)
  exact {h0 with d:=q0}
 ·rw[show zbc ⟨kind,ns,acts,told⟩={pk0 9 with snap:=⟨ns.getD 0 0 % 16,ns.getD 1 0 % 8,ns.getD 2 0 % 16,zm5 acts⟩} from by unfold zbc;simp only[e,Int.reduceEq,if_true,if_false]]
  have h0:=zf9 (k:=9) (by unfold i64;omega)
  exact {h0 with snap:=zcc (zpG acts).rt}
structure MayK (p:Pkt):Prop where
 kind:1≤p.kind∧p.kind≤9
 ballot:0≤p.ballot∧p.ballot≤2305843009213693952
 slot:0≤p.slot∧p.slot≤2305843009213693952
 done:0≤p.done∧p.done≤2305843009213693952
 req:zoF p.req ⟨0,0,0,0, .empty⟩=true∨Req.may p.req=true
 ans:p.ans.seq=0∨answerB p.ans=true
 time:p.prom.time=0∨Prom.may p.prom=true
theorem zyn {p:Pkt} (h:ziA p=true):MayK p:=by
 obtain⟨ho,he⟩:=zjI h
 obtain⟨kind,ballot,slot,done,req,ans,bat,prom,snap⟩:=p
 rcases kinds kind with rfl|rfl|rfl|rfl|rfl|rfl|rfl|rfl|rfl|⟨k1,k2,k3,k4,k5,k6,k7,k8,k9⟩
 ·have ho:Req.may req=true:=ho
  have he:zcB ⟨1,ballot,slot,done,⟨0,0,0,0, .empty⟩,ans,bat,prom,snap⟩=true:=he
  simp only[zcB,inW,Bool.and_eq_true,beq_iff_eq,decide_eq_true_eq]at ho he
  have b:=he.1.1.1.1.1.1.1.1.1.1.1.1.1.1.1.1.1.1
  exact⟨by simp only;omega,by simp only;omega,by simp only;omega,by simp only;omega, .inr ho, .inl (by simp_all), .inl (by simp_all)⟩
 ·have ho:answerB ans=true:=ho
  have he:zcB ⟨2,ballot,slot,done,req,⟨0,0,⟨0,0,0,[]⟩⟩,bat,prom,snap⟩=true:=he
  simp only[zcB,inW,Bool.and_eq_true,beq_iff_eq,decide_eq_true_eq]at ho he
  have b:=he.1.1.1.1.1.1.1.1.1.1.1.1.1.1.1.1.1.1
  exact⟨by simp only;omega,by simp only;omega,by simp only;omega,by simp only;omega, .inl (by simp_all), .inr ho, .inl (by simp_all)⟩
 ·have ho:inW ballot 0=true:=ho
  have he:zcB ⟨3,0,slot,done,req,ans,bat,prom,snap⟩=true:=he
  simp only[zcB,inW,Bool.and_eq_true,beq_iff_eq,decide_eq_true_eq]at ho he
  have b:=he.1.1.1.1.1.1.1.1.1.1.1.1.1.1.1.1.1.1
  exact⟨by simp only;omega,by simp only;omega,by simp only;omega,by simp only;omega, .inl (by simp_all), .inl (by simp_all), .inl (by simp_all)⟩
 ·have ho:(inW ballot 0&&Prom.may prom)=true:=ho
  have he:zcB ⟨4,0,slot,done,req,ans,bat,⟨0,0,⟨0,0⟩,0,[]⟩,snap⟩=true:=he
  simp only[zcB,inW,Bool.and_eq_true,beq_iff_eq,decide_eq_true_eq]at ho he
  have b:=he.1.1.1.1.1.1.1.1.1.1.1.1.1.1.1.1.1.1
  exact⟨by simp only;omega,by simp only;omega,by simp only;omega,by simp only;omega, .inl (by simp_all), .inl (by simp_all), .inr ho.2⟩
 ·have ho:(inW ballot 0&&inW slot 1&&Batch.may bat)=true:=ho
  have he:zcB ⟨5,0,0,done,req,ans,bat00,prom,snap⟩=true:=he
  simp only[zcB,inW,Bool.and_eq_true,beq_iff_eq,decide_eq_true_eq]at ho he
  have b:=he.1.1.1.1.1.1.1.1.1.1.1.1.1.1.1.1.1.1
  exact⟨by simp only;omega,by simp only;omega,by simp only;omega,by simp only;omega, .inl (by simp_all), .inl (by simp_all), .inl (by simp_all)⟩
 ·have ho:(inW ballot 0&&inW slot 1&&Batch.may bat)=true:=ho
  have he:zcB ⟨6,0,0,done,req,ans,bat00,prom,snap⟩=true:=he
  simp only[zcB,inW,Bool.and_eq_true,beq_iff_eq,decide_eq_true_eq]at ho he
  have b:=he.1.1.1.1.1.1.1.1.1.1.1.1.1.1.1.1.1.1
  exact⟨by simp only;omega,by simp only;omega,by simp only;omega,by simp only;omega, .inl (by simp_all), .inl (by simp_all), .inl (by simp_all)⟩
 ·have ho:(inW ballot 0&&inW done 0)=true:=ho
  have he:zcB ⟨7,0,slot,0,req,ans,bat,prom,snap⟩=true:=he
  simp only[zcB,inW,Bool.and_eq_true,beq_iff_eq,decide_eq_true_eq]at ho he
  have b:=he.1.1.1.1.1.1.1.1.1.1.1.1.1.1.1.1.1.1
  exact⟨by simp only;omega,by simp only;omega,by simp only;omega,by simp only;omega, .inl (by simp_all), .inl (by simp_all), .inl (by simp_all)⟩
 ·have ho:inW done 0=true:=ho
  have he:zcB ⟨8,ballot,slot,0,req,ans,bat,prom,snap⟩=true:=he
  simp only[zcB,inW,Bool.and_eq_true,beq_iff_eq,decide_eq_true_eq]at ho he
  have b:=he.1.1.1.1.1.1.1.1.1.1.1.1.1.1.1.1.1.1
  exact⟨by simp only;omega,by simp only;omega,by simp only;omega,by simp only;omega, .inl (by simp_all), .inl (by simp_all), .inl (by simp_all)⟩
 ·have ho:zbq snap=true:=ho
  have he:zcB ⟨9,ballot,slot,done,req,ans,bat,prom,⟨0,0,0,zyC⟩⟩=true:=he
  simp only[zcB,inW,Bool.and_eq_true,beq_iff_eq,decide_eq_true_eq]at ho he
  have b:=he.1.1.1.1.1.1.1.1.1.1.1.1.1.1.1.1.1.1
  exact⟨by simp only;omega,by simp only;omega,by simp only;omega,by simp only;omega, .inl (by simp_all), .inl (by simp_all), .inl (by simp_all)⟩
 ·simp only[beq_eq_false_iff_ne,ne_eq]at k1 k2 k3 k4 k5 k6 k7 k8 k9
  unfold okP at ho
  simp only[k1,k2,k3,k4,k5,k6,k7,k8,k9,if_false]at ho
  cases ho
theorem zjN {p:Pkt} (h:MayK p→False):ziA p=false:=by
 cases hp:ziA p
 ·rfl
 ·exact(h (zyn hp)).elim
set_option maxHeartbeats 8000000 in
theorem zjO (kind:Int) (ns:List Int) (acts:List Act) (told:NTold) (how n:Int) (h:(Inp.mk kind ns acts told).ok) (hh:zaN how) (hn:zaN n):
  CallOK Tryz.prog 7 [.f (au kind), .f (al ns.length (zad ns)), .f (al acts.length (zlu acts)), .f (.agg told.lent), .f (au how), .f (au n)] (fun r o=>r=[rb true]∧o=[]):=by
 refine zh Tryz.func7 Tryz.results7 Tryz.ntmps7 Tryz.call7 ?_
 simp only[Tryz.f7,Option.getD]
 have h1:=zyo _ h
 have hm:=zua _ h
 have ho:=zv3 _ h
 simp only at h1
 obtain⟨P,hP⟩:∃P,P=zbc ⟨kind,ns,acts,told⟩:=⟨_,rfl⟩
 rw[←hP]at h1 hm ho
 have h2:=zct P ho
 rw[hm]at h2
 have mh:=zib (m:=7) hh (by decide)
 have haw:=zp4
 unfold zaN at hn hh
 have wn:IntKind.i64.wrap n=n:=wrap64 (by omega) (by omega)
 clear hP
 rcases(show how % 7=0∨how % 7=1∨how % 7=2∨how % 7=3∨how % 7=4∨how % 7=5∨how % 7=6 by omega)with e|e|e|e|e|e|e
 ·have w1:IntKind.i64.wrap (10+n)=10+n:=wrap64 (by omega) (by omega)
  have hok:Pkt.ok {P with kind:=10+n}:={ho with k:=by unfold i64;simp only;omega}
  have hno:ziA {P with kind:=10+n}=false:=zjN fun f=>by have:=f.kind;simp only at this;omega
  have h3:=zdA _ hok hno
  have h4:=zct _ hok
  rw[hno]at h4
  repeat'(first|exact zC|refine zq (I mh (I e (I wn w1))) ?_|refine zx (h1) ?_|refine zx (h2) ?_|refine zx (h3) ?_|refine zx (h4) ?_|refine zx (haw) ?_|(apply zaa<;>intro hb)|(apply I;exact zI)|(apply I<;>intro hg))
 ·have w1:IntKind.i64.wrap (-1 - n)= -1 - n:=wrap64 (by omega) (by omega)
  have hok:Pkt.ok {P with ballot:= -1 - n}:={ho with b:=by unfold i64;simp only;omega}
  have hno:ziA {P with ballot:= -1 - n}=false:=zjN fun f=>by have:=f.ballot;simp only at this;omega
  have h3:=zdA _ hok hno
  have h4:=zct _ hok
  rw[hno]at h4
  repeat'(first|exact zC|refine zq (I mh (I e (I wn w1))) ?_|refine zx (h1) ?_|refine zx (h2) ?_|refine zx (h3) ?_|refine zx (h4) ?_|refine zx (haw) ?_|(apply zaa<;>intro hb)|(apply I;exact zI)|(apply I<;>intro hg))
 ·have w1:IntKind.i64.wrap (2305843009213693953+n)=2305843009213693953+n:=wrap64 (by omega) (by omega)
  have hok:Pkt.ok {P with done:=2305843009213693953+n}:={ho with d:=by unfold i64;simp only;omega}
  have hno:ziA {P with done:=2305843009213693953+n}=false:=zjN fun f=>by have:=f.done;simp only at this;omega
  have h3:=zdA _ hok hno
  have h4:=zct _ hok
  rw[hno]at h4
  repeat'(first|exact zC|refine zq (I mh (I e (I wn w1))) ?_|refine zx (h1) ?_|refine zx (h2) ?_|refine zx (h3) ?_|refine zx (h4) ?_|refine zx (haw) ?_|(apply zaa<;>intro hb)|(apply I;exact zI)|(apply I<;>intro hg))
 ·have w1:IntKind.i64.wrap (-1 - n)= -1 - n:=wrap64 (by omega) (by omega)
  have hok:Pkt.ok {P with slot:= -1 - n}:={ho with s:=by unfold i64;simp only;omega}
  have hno:ziA {P with slot:= -1 - n}=false:=zjN fun f=>by have:=f.slot;simp only at this;omega
  have h3:=zdA _ hok hno
  have h4:=zct _ hok
  rw[hno]at h4
  repeat'(first|exact zC|refine zq (I mh (I e (I wn w1))) ?_|refine zx (h1) ?_|refine zx (h2) ?_|refine zx (h3) ?_|refine zx (h4) ?_|refine zx (haw) ?_|(apply zaa<;>intro hb)|(apply I;exact zI)|(apply I<;>intro hg))
 ·have w1:=wn
  have hok:Pkt.ok {P with req:=⟨9,1,0,0, .empty⟩}:={ho with req:=⟨(show i64 9 by unfold i64;omega),(show i64 1 by unfold i64;omega),zdh,zdh,(by show(ByteArray.empty).size<2^62;decide)⟩}
  have hno:ziA {P with req:=⟨9,1,0,0, .empty⟩}=false:=zjN fun f=>f.req.elim (fun q=>Bool.noConfusion (q.symm.trans (show zoF ⟨9,1,0,0, .empty⟩ ⟨0,0,0,0, .empty⟩=false from by kernel_rfl))) (fun q=>Bool.noConfusion (q.symm.trans (show Req.may ⟨9,1,0,0, .empty⟩=false from by kernel_rfl)))
  have h3:=zdA _ hok hno
  have h4:=zct _ hok
  rw[hno]at h4
  repeat'(first|exact zC|refine zq (I mh (I e (I wn w1))) ?_|refine zx (h1) ?_|refine zx (h2) ?_|refine zx (h3) ?_|refine zx (h4) ?_|refine zx (haw) ?_|(apply zaa<;>intro hb)|(apply I;exact zI)|(apply I<;>intro hg))
 ·have w1:=wn
  have hok:Pkt.ok {P with prom:={P.prom with time:= -1}}:={ho with prom:=⟨ho.prom.1,ho.prom.2.1,ho.prom.2.2.1,ho.prom.2.2.2.1,by unfold i64;simp only;omega,ho.prom.2.2.2.2.2⟩}
  have hno:ziA {P with prom:={P.prom with time:= -1}}=false:=zjN fun f=>f.time.elim (fun q=>by simp only at q;omega) (fun q=>by have:=(zp2 q).time;simp only at this;omega)
  have h3:=zdA _ hok hno
  have h4:=zct _ hok
  rw[hno]at h4
  repeat'(first|exact zC|refine zq (I mh (I e (I wn w1))) ?_|refine zx (h1) ?_|refine zx (h2) ?_|refine zx (h3) ?_|refine zx (h4) ?_|refine zx (haw) ?_|(apply zaa<;>intro hb)|(apply I;exact zI)|(apply I<;>intro hg))
 ·have w1:=wn
  have hok:Pkt.ok {P with ans:={P.ans with seq:= -1}}:={ho with ans:=ho.ans}
  have hno:ziA {P with ans:={P.ans with seq:= -1}}=false:=zjN fun f=>f.ans.elim (fun q=>by simp only at q;omega) (fun q=>by have:=(zc8 q).2.1;simp only at this;omega)
  have h3:=zdA _ hok hno
  have h4:=zct _ hok
  rw[hno]at h4
  repeat'(first|exact zC|refine zq (I mh (I e (I wn w1))) ?_|refine zx (h1) ?_|refine zx (h2) ?_|refine zx (h3) ?_|refine zx (h4) ?_|refine zx (haw) ?_|(apply zaa<;>intro hb)|(apply I;exact zI)|(apply I<;>intro hg))
theorem zAf {n:Int} (h:(Lit.int .u8 n).wf=true):zaN n:=by
 have h2:(decide (IntKind.u8.min≤n)&&decide (n≤IntKind.u8.max))=true:=h
 have e1:IntKind.u8.min=0:=by decide
 have e2:IntKind.u8.max=255:=by decide
 rw[e1,e2]at h2
 simp only[Bool.and_eq_true,decide_eq_true_eq]at h2
 unfold zaN
 omega
theorem zl1 {α:Type} {enc:α→List D} {ok:α→Prop} {s:Sh} (h:∀ds,ShD s ds→∃x,ds=enc x∧ok x):∀xs:List (List D),(∀x∈xs,ShD s x)→∃l:List α,l.length=xs.length∧xs.flatten=l.flatMap enc∧∀x∈l,ok x
 |[],_=>⟨[],rfl,rfl,fun x hx=>by cases hx⟩
 |x::xs,hx=>by
  obtain⟨a,ha1,ha2⟩:=h x (hx x (by simp))
  obtain⟨l,h1,h2,h3⟩:=zl1 h xs fun y hy=>hx y (by simp[hy])
  refine⟨a::l,by simp[h1], ?_,fun y hy=> ?_⟩
  ·rw[List.flatten_cons,List.flatMap_cons,h2,ha1]
  ·rcases List.mem_cons.1 hy with rfl|hy
   ·exact ha2
   ·exact h3 y hy
theorem zoL:reachBytes<2^60:=by decide
theorem byte_of (ds:List D) (h:ShD (.int .u8) ds):∃x:Int,ds=[uD x]∧zaN x:=by
 simp only[ShD]at h
 obtain⟨n,rfl,hn⟩:=h
 exact⟨n,rfl,zAf hn⟩
abbrev zt7:Sh:= .struct [.int .u8, .int .u8, .int .u8, .int .u8, .int .u8, .int .u8]
theorem zzC (ds:List D) (h:ShD zt7 ds):∃a:Act,ds=a.enc∧zon a:=by
 rw[ShD]at h
 simp only[ShDs]at h
 obtain⟨_,_,rfl,h1,_,_,rfl,h2,_,_,rfl,h3,_,_,rfl,h4,_,_,rfl,h5,_,_,rfl,h6,rfl⟩:=h
 obtain⟨a,rfl,ha⟩:=byte_of _ h1
 obtain⟨b,rfl,hb⟩:=byte_of _ h2
 obtain⟨c,rfl,hc⟩:=byte_of _ h3
 obtain⟨d,rfl,hd⟩:=byte_of _ h4
 obtain⟨e,rfl,he⟩:=byte_of _ h5
 obtain⟨f,rfl,hf⟩:=byte_of _ h6
 exact⟨⟨a,b,c,d,e,f⟩,rfl,ha,hb,hc,hd,he,hf⟩
theorem zym (ds:List D) (h:ShD (.slice 6 zt7) ds):∃l:List Act,ds=[.sl l.length (zlu l)]∧l.length<2^60∧∀x∈l,zon x:=by
 rw[ShD]at h
 obtain⟨xs,rfl,hx1,hx2⟩:=h
 obtain⟨l,l1,l2,l3⟩:=zl1 zzC xs hx2
 have:=zoL
 exact⟨l,by rw[←l1,l2],by omega,l3⟩
theorem zoM (l:List Int):(l.flatMap fun n=>[uD n])=zad l:=by
 induction l with
 |nil=>rfl
 |cons a l ih=>simp[List.flatMap_cons,ih]
theorem zzD (ds:List D) (h:ShD (.slice 1 (.int .u8)) ds):∃l:List Int,ds=[.sl l.length (zad l)]∧l.length<2^60∧∀x∈l,zaN x:=by
 rw[ShD]at h
 obtain⟨xs,rfl,hx1,hx2⟩:=h
 obtain⟨l,l1,l2,l3⟩:=zl1 byte_of xs hx2
 have:=zoL
 rw[zoM]at l2
 exact⟨l,by rw[←l1,l2],by omega,l3⟩
def zDa (n:Int):Prop:=0≤n∧n<65536
abbrev wD (n:Int):D:= .v (.int .u16 n)
abbrev aw (n:Int):AV:= .one (.d (wD n))
abbrev zrj:Sh:= .struct [.int .u8, .int .u8, .slice 1 (.int .u8)]
abbrev zkV:Sh:= .struct [.int .u8, .int .u8, .int .u8, .int .u8, .slice 32 zrj]
theorem zuj (ds:List D) (h:ShD zrj ds):∃v:NVote,ds=v.enc∧v.ok:=by
 rw[ShD]at h
 simp only[ShDs]at h
 obtain⟨_,_,rfl,h1,_,_,rfl,h2,_,_,rfl,h3,rfl⟩:=h
 obtain⟨a,rfl,ha⟩:=byte_of _ h1
 obtain⟨b,rfl,hb⟩:=byte_of _ h2
 obtain⟨l,rfl,l1,l2⟩:=zzD _ h3
 exact⟨⟨a,b,l⟩,rfl,zbp ha,zbp hb,l1,fun x hx=>zbp (l2 x hx)⟩
theorem zuk (ds:List D) (h:ShD zkV ds):∃v:NTold,ds=v.enc∧v.ok:=by
 rw[ShD]at h
 simp only[ShDs]at h
 obtain⟨_,_,rfl,h1,_,_,rfl,h2,_,_,rfl,h3,_,_,rfl,h4,_,_,rfl,h5,rfl⟩:=h
 obtain⟨a,rfl,ha⟩:=byte_of _ h1
 obtain⟨b,rfl,hb⟩:=byte_of _ h2
 obtain⟨c,rfl,hc⟩:=byte_of _ h3
 obtain⟨d,rfl,hd⟩:=byte_of _ h4
 rw[ShD]at h5
 obtain⟨xs,rfl,hx1,hx2⟩:=h5
 obtain⟨l,l1,l2,l3⟩:=zl1 zuj xs hx2
 have:=zoL
 refine⟨⟨a,b,c,d,l⟩, ?_,zbp ha,zbp hb,zbp hc,zbp hd,by simp only;omega,l3⟩
 rw[←l1,l2]
 rfl
end Go.Proofs.YtliimajkpggbhaaGreat
