import Derived.Test.YtliimajkpggbhaaGreatL2
namespace Go.Proofs.YtliimajkpggbhaaGreat
open Go.Pk
set_option maxRecDepth 100000
set_option linter.unusedSimpArgs false
set_option linter.unusedVariables false
theorem ztj (n:Nat) (ds:List D) (p:Nat) (x:Int) (rest:List D) (hl:ds.length=n) (hn:n<2^62) (hp:p<n) (hat:ds.drop p= .v (.int .u8 x)::rest) (hx:0≤x∧x≤255):
  CallOK Tryz.prog 138 [.f (asl n ds), .f (ai p)] (fun r o=>r=[ri x,ri ((p+1:Nat):Int),ri 0]∧o=[]):=by
 refine za8 zcp mixed (T:=Ty) Tryz.func138 rfl Tryz.results138 Tryz.ntmps138 Tryz.call138 Tryz.call172 (ks:=[4,5,6]) rfl rfl rfl rfl rfl rfl (by decide) (by decide)
  (xs:=[asl n ds,ai p]) ziB zhw ⟨(asl n ds::ai p::dq2 (.one (.ptr ⟨4,0,0⟩ 0):: .one (.ptr ⟨5,0,0⟩ 0):: .one (.ptr ⟨6,0,0⟩ 0)::zp1 [])),[(4,{next:=1,l:=[obq 0 [di 0],none]}),(5,{next:=1,l:=[obq 0 [di 0],none]}),(6,{next:=1,l:=[obq 0 [di 0],none]})]⟩ ?_ ?_ rfl ?_
 ·simp only[List.map_cons,List.map_nil]
  repeat'(first|exact zC|refine zq0 ?_|(apply zaa<;>intro hb)|(apply I;exact zI)|(apply I<;>intro hg))
  exact fun _ _ _ h=>h
 ·exact⟨⟨_,rfl,rfl,rfl,rfl,rfl⟩,⟨_,rfl,rfl,rfl,rfl,rfl⟩,⟨_,rfl,rfl,rfl,rfl,rfl⟩,trivial⟩
 ·have htk:=znB n ds p 1 hl hn (by omega)
  rw[hat]at htk
  have hw:IntKind.i64.wrap x=x:=wrap64 (by omega) (by omega)
  repeat'(first|exact zC|refine zq0 ?_|(apply zaa<;>intro hb)|(apply I;exact zI)|(apply I<;>intro hg))
  refine zj (htk) ?_
  repeat'(first|exact zC|refine zq (I hw @zeA) ?_|(apply zaa<;>intro hb)|(apply I;exact zI)|(apply I<;>intro hg))
theorem zrh (n:Nat) (ds:List D) (p:Int) (hl:ds.length=n) (hn:n<2^62) (hp:i64 p) (h:zbV n p 1=true):
  CallOK Tryz.prog 138 [.f (asl n ds), .f (ai p)] (fun r o=>r=[ri 0,ri 0,ri 2]∧o=[]):=by
 refine za8 zcp mixed (T:=Ty) Tryz.func138 rfl Tryz.results138 Tryz.ntmps138 Tryz.call138 Tryz.call172 (ks:=[4,5,6]) rfl rfl rfl rfl rfl rfl (by decide) (by decide)
  (xs:=[asl n ds,ai p]) ziB zhw ⟨(asl n ds::ai p::dq2 (.one (.ptr ⟨4,0,0⟩ 0):: .one (.ptr ⟨5,0,0⟩ 0):: .one (.ptr ⟨6,0,0⟩ 0)::zp1 [])),[(4,{next:=1,l:=[obq 0 [di 0],none]}),(5,{next:=1,l:=[obq 0 [di 0],none]}),(6,{next:=1,l:=[obq 0 [di 0],none]})]⟩ ?_ ?_ rfl ?_
 ·simp only[List.map_cons,List.map_nil]
  repeat'(first|exact zC|refine zq0 ?_|(apply zaa<;>intro hb)|(apply I;exact zI)|(apply I<;>intro hg))
  exact fun _ _ _ h=>h
 ·exact⟨⟨_,rfl,rfl,rfl,rfl,rfl⟩,⟨_,rfl,rfl,rfl,rfl,rfl⟩,⟨_,rfl,rfl,rfl,rfl,rfl⟩,trivial⟩
 ·have htk:=zgG n ds p 1 hl hn hp h
  repeat'(first|exact zC|refine zq0 ?_|(apply zaa<;>intro hb)|(apply I;exact zI)|(apply I<;>intro hg))
  refine zp (rdr n ds p) (htk) ?_
  simp only[zaC,zaD,zaB,zaG]
  refine⟨⟨_,rfl⟩,rfl,⟨⟨_,rfl,rfl,rfl,rfl,rfl⟩,⟨_,rfl,rfl,rfl,rfl,rfl⟩,⟨_,rfl,rfl,rfl,rfl,rfl⟩,trivial⟩, ?_⟩
  rw[show zk5 20 [4,5,6] (nw3 (.int .i64 0) (zdW 206 2))=⟨(dq4 (.one (.ptr ⟨4,0,0⟩ 0):: .one (.ptr ⟨5,0,0⟩ 0):: .one (.ptr ⟨6,0,0⟩ 0)::zp1 [])),[(4,{next:=1,l:=[obq 0 [di 0]]}),(5,{next:=1,l:=[obq 0 [di 0]]}),(6,{next:=1,l:=[obq 0 [di 2]]})]⟩ from rfl]
  first|refine zs0 ?_|exact zt0
def zgF (l:List Int):Int:=l.foldl (fun u c=>u*256+c) 0
theorem zpD {l:List Int} {c:Int}:zgF (l++[c])=zgF l*256+c:=by unfold zgF;rw[List.foldl_append];rfl
theorem ziA:∀{l:List Int} {a:Int},0≤a→(∀c∈l,zcA c)→0≤l.foldl (fun u c=>u*256+c) a∧l.foldl (fun u c=>u*256+c) a<(a+1)*256^l.length
 |[],a,ha,_=>by simp;omega
 |c::l,a,ha,h=>by
  have h2:=h c (by simp)
  unfold zcA at h2
  obtain⟨h3,h4⟩:=ziA (l:=l) (a:=a*256+c) (by omega) fun x hx=>h x (by simp[hx])
  refine⟨h3,Int.lt_of_lt_of_le h4 ?_⟩
  rw[List.length_cons,Int.pow_succ,Int.mul_comm (256^l.length) 256,←Int.mul_assoc]
  exact Int.mul_le_mul_of_nonneg_right (by omega) (Int.pow_nonneg (by decide))
theorem zf7 {l:List Int} (h:∀c∈l,zcA c):0≤zgF l∧zgF l<256^l.length:=by
 have:=ziA (l:=l) (a:=0) (by decide) h
 rw[Int.zero_add,Int.one_mul]at this
 exact this
theorem zyV {i:Nat} (h:i<8):(256:Int)^i≤72057594037927936:=by
 rcases(show i=0∨i=1∨i=2∨i=3∨i=4∨i=5∨i=6∨i=7 by omega)with rfl|rfl|rfl|rfl|rfl|rfl|rfl|rfl<;>decide
theorem ztk {n:Int} (h0:0≤n) (h1:n<18446744073709551616):IntKind.u64.wrap n=n:=by
 have e:IntKind.u64.wrap n=n % 18446744073709551616:=by
  unfold IntKind.wrap
  simp[IntKind.bits,IntKind.signed]
 rw[e]
 omega
theorem zuS {u c:Int} (hu:0≤u∧u<72057594037927936) (hc:0≤c∧c≤255):
  IntKind.u64.wrap (BitVec.ofInt IntKind.u64.bits (u*256)|||BitVec.ofInt IntKind.u64.bits c).toNat=u*256+c:=by
 obtain⟨a,rfl⟩:=Int.eq_ofNat_of_zero_le hu.1
 obtain⟨b,rfl⟩:=Int.eq_ofNat_of_zero_le hc.1
 have hb:IntKind.u64.bits=64:=rfl
 rw[hb]
 have e1:(BitVec.ofInt 64 ((a:Int)*256)|||BitVec.ofInt 64 (b:Int)).toNat=a*256+b:=by
  have h1:((a:Int)*256)=((a*256:Nat):Int):=by omega
  rw[h1,BitVec.ofInt_natCast,BitVec.ofInt_natCast,BitVec.toNat_or,BitVec.toNat_ofNat,BitVec.toNat_ofNat]
  rw[Nat.mod_eq_of_lt (by omega),Nat.mod_eq_of_lt (by omega)]
  have:=Nat.shiftLeft_add_eq_or_of_lt (i:=8) (b:=b) (by omega) a
  rw[Nat.shiftLeft_eq]at this
  exact this.symm
 rw[e1,ztk (by omega) (by omega)]
 omega
theorem zfK {l:List Int} {i:Nat} (hi:i<l.length) (h:∀c∈l,zcA c):zcA (l.getD i 0):=by
 rw[List.getD_eq_getElem?_getD,List.getElem?_eq_getElem hi];exact h _ (List.getElem_mem hi)
theorem zpE {l:List Int} {i:Nat} (hi:i<l.length):zgF (l.take (i+1))=zgF (l.take i)*256+l.getD i 0:=by
 rw[List.take_succ_eq_append_getElem hi,zpD,List.getD_eq_getElem?_getD,List.getElem?_eq_getElem hi];rfl
set_option maxHeartbeats 1000000 in
theorem zri (n:Nat) (ds:List D) (p:Nat) (c:List Int) (hl:ds.length=n) (hn:n<2^62) (hp:p+8≤n) (hat:(ds.drop p).take 8=zad c) (hc8:c.length=8) (hc:∀x∈c,zcA x):
  CallOK Tryz.prog 139 [.f (asl n ds), .f (ai p)] (fun r o=>r=(if zgF c<4611686018427387904 then [ri (zgF c),ri ((p+8:Nat):Int),ri 0]else [ri 0,ri 0,ri 4])∧o=[]):=by
 refine za8 zcp mixed (T:=Ty) Tryz.func139 rfl Tryz.results139 Tryz.ntmps139 Tryz.call139 Tryz.call174 (ks:=[4,5,6]) rfl rfl rfl rfl rfl rfl (by decide) (by decide)
  (xs:=[asl n ds,ai p]) zkO ziC ⟨(asl n ds::ai p::dq2 (.one (.ptr ⟨4,0,0⟩ 0):: .one (.ptr ⟨5,0,0⟩ 0):: .one (.ptr ⟨6,0,0⟩ 0)::zrA [])),[(4,{next:=1,l:=[obq 0 [di 0],none]}),(5,{next:=1,l:=[obq 0 [di 0],none]}),(6,{next:=1,l:=[obq 0 [di 0],none]})]⟩ ?_ ?_ rfl ?_
 ·simp only[List.map_cons,List.map_nil]
  repeat'(first|exact zC|refine zq0 ?_|(apply zaa<;>intro hb)|(apply I;exact zI)|(apply I<;>intro hg))
  exact fun _ _ _ h=>h
 ·exact⟨⟨_,rfl,rfl,rfl,rfl,rfl⟩,⟨_,rfl,rfl,rfl,rfl,rfl⟩,⟨_,rfl,rfl,rfl,rfl,rfl⟩,trivial⟩
 ·have htk:=znB n ds p 8 hl hn hp
  rw[hat]at htk
  have hb1:=zf7 hc
  rw[hc8]at hb1
  repeat'(first|exact zC|refine zq0 ?_|(apply zaa<;>intro hb)|(apply I;exact zI)|(apply I<;>intro hg))
  refine zj (htk) ?_
  repeat'(first|exact zC|refine zq0 ?_|(apply zaa<;>intro hb)|(apply I;exact zI)|(apply I<;>intro hg))
  refine zjg Ty Tryz.prog (τ:=Nat) (fun i=>⟨(dq4 (.one (.ptr ⟨4,0,0⟩ 0):: .one (.ptr ⟨5,0,0⟩ 0):: .one (.ptr ⟨6,0,0⟩ 0)::ptq 7:: .one (.d (.v (.int .u64 (zgF (c.take i)))))::dq6 (asl 8 (zad c)::ai 8::ai i::ztN []))),[(4,{next:=1,l:=[obq 0 [di 0],none]}),(5,{next:=1,l:=[obq 0 [di 0],none]}),(6,{next:=1,l:=[obq 0 [di 0],none]}),(7,⟨2,[obq 1 [.d (.sl n ds),di ((p+8:Nat):Int)],none,none]⟩)]⟩)
   (fun i=>i≤8) (fun i=>8 - i) 0 (Gh.canon [4,5,6,7] [] [4,5,6] zK rfl rfl) (Nat.zero_le _) ?_
  intro i hi0 K hK
  refine zw ?_
  refine zaa (fun hlt=> ?_) (fun hge=> ?_)
  ·have hi:i<c.length:=by simp at hlt;omega
   have hat2:=zhg hi
   have hw:=zan (i:=i) (n:=8) (by omega) (by omega)
   have hx:=zfK hi hc
   unfold zcA at hx
   have hbi:=zf7 (l:=c.take i) fun x hx=>hc x (List.mem_of_mem_take hx)
   have hli:(c.take i).length=i:=by rw[List.length_take];omega
   rw[hli]at hbi
   have hp8:=zyV (i:=i) (by omega)
   have w1:min (Int.toNat 8) IntKind.u64.bits=8:=by decide
   have w2:IntKind.u64.wrap (zgF (c.take i)*2^8)=zgF (c.take i)*256:=ztk (by omega) (by omega)
   have w3:IntKind.u64.wrap (c.getD i 0)=c.getD i 0:=ztk (by omega) (by omega)
   have w4:=zuS (u:=zgF (c.take i)) (c:=c.getD i 0) ⟨hbi.1,by omega⟩ ⟨hx.1,by omega⟩
   have w5:=zpE hi
   have w6:¬((8:Int)<0):=by decide
   repeat'(first|(with_reducible first|refine zat _ _ ?_|refine zcN ?_|refine zcO ?_)|rw[zcm]|simp only[hat2,zaV,hc8,w1,w2,w3,w4,if_neg w6,zY,Int.reduceEq,Int.reduceBEq,Int.reduceBNe,Nat.reduceSub,Nat.reduceEqDiff,Nat.reduceAdd,Nat.reduceMul,Nat.reduceLeDiff,Nat.reduceLT,Nat.reduceBEq,reduceCtorEq]|refine zbN ?_|refine zaa (fun hb=> ?_) (fun hb=> ?_)|(refine And.intro ?_ ?_;exact zI)|refine And.intro (fun hg=> ?_) (fun hg=> ?_)|exact zC|fail)
   exact hK _ (i+1) (Gh.canon [4,5,6,7] [] [4,5,6] (zk (I hw w5)) rfl rfl) (by omega) (by omega)
  ·have hi:i=8:=by
    have:¬(i:Int)<8:=by simpa using hge
    omega
   subst hi
   have ht:c.take 8=c:=List.take_of_length_le (by omega)
   have w7:IntKind.i64.wrap (zgF c)=zgF c∨¬zgF c<4611686018427387904:=by
    by_cases h:zgF c<4611686018427387904
    ·exact .inl (wrap64 (by omega) (by omega))
    ·exact .inr h
   by_cases hlt:zgF c<4611686018427387904
   ·have h1:decide (zgF c≥4611686018427387904)=false:=by simp;omega
    have w7:IntKind.i64.wrap (zgF c)=zgF c:=wrap64 (by omega) (by omega)
    repeat'(first|(with_reducible first|refine zat _ _ ?_|refine zcN ?_|refine zcO ?_)|rw[zcm]|simp only[ht,h1,w7,if_pos hlt,zeA,zY,Int.reduceEq,Int.reduceBEq,Int.reduceBNe,Nat.reduceSub,Nat.reduceEqDiff,Nat.reduceAdd,Nat.reduceMul,Nat.reduceLeDiff,Nat.reduceLT,Nat.reduceBEq,reduceCtorEq]|refine zbN ?_|refine zaa (fun hb=> ?_) (fun hb=> ?_)|(refine And.intro ?_ ?_;exact zI)|refine And.intro (fun hg=> ?_) (fun hg=> ?_)|exact zC|fail)
   ·have h1:decide (zgF c≥4611686018427387904)=true:=by simp;omega
    repeat'(first|(with_reducible first|refine zat _ _ ?_|refine zcN ?_|refine zcO ?_)|rw[zcm]|simp only[ht,h1,if_neg hlt,zY,Int.reduceEq,Int.reduceBEq,Int.reduceBNe,Nat.reduceSub,Nat.reduceEqDiff,Nat.reduceAdd,Nat.reduceMul,Nat.reduceLeDiff,Nat.reduceLT,Nat.reduceBEq,reduceCtorEq]|refine zbN ?_|refine zaa (fun hb=> ?_) (fun hb=> ?_)|(refine And.intro ?_ ?_;exact zI)|refine And.intro (fun hg=> ?_) (fun hg=> ?_)|exact zC|fail)
    simp only[zaC,zaD,zaB,zaG]
    refine⟨⟨_,rfl⟩,rfl,⟨⟨_,rfl,rfl,rfl,rfl,rfl⟩,⟨_,rfl,rfl,rfl,rfl,rfl⟩,⟨_,rfl,rfl,rfl,rfl,rfl⟩,trivial⟩, ?_⟩
    rw[show zk5 35 [4,5,6] (nw3 (.int .i64 0) (zdW 206 4))=⟨(dq4 (.one (.ptr ⟨4,0,0⟩ 0):: .one (.ptr ⟨5,0,0⟩ 0):: .one (.ptr ⟨6,0,0⟩ 0)::zrA [])),[(4,{next:=1,l:=[obq 0 [di 0]]}),(5,{next:=1,l:=[obq 0 [di 0]]}),(6,{next:=1,l:=[obq 0 [di 4]]})]⟩ from rfl]
    first|refine zs0 ?_|exact zt0
theorem ztl (n:Nat) (ds:List D) (p:Int) (hl:ds.length=n) (hn:n<2^62) (hp:i64 p) (h:zbV n p 8=true):
  CallOK Tryz.prog 139 [.f (asl n ds), .f (ai p)] (fun r o=>r=[ri 0,ri 0,ri 2]∧o=[]):=by
 refine za8 zcp mixed (T:=Ty) Tryz.func139 rfl Tryz.results139 Tryz.ntmps139 Tryz.call139 Tryz.call174 (ks:=[4,5,6]) rfl rfl rfl rfl rfl rfl (by decide) (by decide)
  (xs:=[asl n ds,ai p]) zkO ziC ⟨(asl n ds::ai p::dq2 (.one (.ptr ⟨4,0,0⟩ 0):: .one (.ptr ⟨5,0,0⟩ 0):: .one (.ptr ⟨6,0,0⟩ 0)::zrA [])),[(4,{next:=1,l:=[obq 0 [di 0],none]}),(5,{next:=1,l:=[obq 0 [di 0],none]}),(6,{next:=1,l:=[obq 0 [di 0],none]})]⟩ ?_ ?_ rfl ?_
 ·simp only[List.map_cons,List.map_nil]
  repeat'(first|exact zC|refine zq0 ?_|(apply zaa<;>intro hb)|(apply I;exact zI)|(apply I<;>intro hg))
  exact fun _ _ _ h=>h
 ·exact⟨⟨_,rfl,rfl,rfl,rfl,rfl⟩,⟨_,rfl,rfl,rfl,rfl,rfl⟩,⟨_,rfl,rfl,rfl,rfl,rfl⟩,trivial⟩
 ·have htk:=zgG n ds p 8 hl hn hp h
  repeat'(first|exact zC|refine zq0 ?_|(apply zaa<;>intro hb)|(apply I;exact zI)|(apply I<;>intro hg))
  refine zp (rdr n ds p) (htk) ?_
  simp only[zaC,zaD,zaB,zaG]
  refine⟨⟨_,rfl⟩,rfl,⟨⟨_,rfl,rfl,rfl,rfl,rfl⟩,⟨_,rfl,rfl,rfl,rfl,rfl⟩,⟨_,rfl,rfl,rfl,rfl,rfl⟩,trivial⟩, ?_⟩
  rw[show zk5 35 [4,5,6] (nw3 (.int .i64 0) (zdW 206 2))=⟨(dq4 (.one (.ptr ⟨4,0,0⟩ 0):: .one (.ptr ⟨5,0,0⟩ 0):: .one (.ptr ⟨6,0,0⟩ 0)::zrA [])),[(4,{next:=1,l:=[obq 0 [di 0]]}),(5,{next:=1,l:=[obq 0 [di 0]]}),(6,{next:=1,l:=[obq 0 [di 2]]})]⟩ from rfl]
  first|refine zs0 ?_|exact zt0
theorem zdQ:∀l:List Int,bytesOf (zad l)=some (l.map fun n=>UInt8.ofNat n.toNat)
 |[]=>rfl
 |n::l=>by
  have:=zdQ l
  simp only[zad,List.map_cons,bytesOf]at this⊢
  rw[this]
def strOf (c:List Int):ByteArray:=⟨(c.map fun n=>UInt8.ofNat n.toNat).toArray⟩
theorem ztm (n:Nat) (ds:List D) (p x:Nat) (most:Int) (c:List Int) (rest:List D) (hl:ds.length=n) (hn:n<2^62) (hp:p+1+x≤n) (hat:ds.drop p= .v (.int .u8 (x:Int))::rest) (hx:x≤255) (hm:(x:Int)≤most)
  (hat2:(ds.drop (p+1)).take x=zad c) (hcx:c.length=x):CallOK Tryz.prog 175 [.f (asl n ds), .f (ai p), .f (ai most)] (fun r o=>r=[.one (.d (sD (strOf c))),ri ((p+1+x:Nat):Int),ri 0]∧o=[]):=by
 refine za8 zcp mixed (T:=Ty) Tryz.func175 rfl Tryz.results175 Tryz.ntmps175 Tryz.call175 Tryz.call198 (ks:=[6,7,8]) rfl rfl rfl rfl rfl rfl (by decide) (by decide)
  (xs:=[asl n ds,ai p,ai most]) zeR zdR ⟨(asl n ds::ai p::ai most::dq3 (.one (.ptr ⟨6,0,0⟩ 0):: .one (.ptr ⟨7,0,0⟩ 0):: .one (.ptr ⟨8,0,0⟩ 0)::znX [])),[(6,{next:=1,l:=[obq 0 [dS .empty],none]}),(7,{next:=1,l:=[obq 0 [di 0],none]}),(8,{next:=1,l:=[obq 0 [di 0],none]})]⟩ ?_ ?_ rfl ?_
 ·simp only[List.map_cons,List.map_nil]
  repeat'(first|exact zC|refine zq0 ?_|(apply zaa<;>intro hb)|(apply I;exact zI)|(apply I<;>intro hg))
  exact fun _ _ _ h=>h
 ·exact⟨⟨_,rfl,rfl,rfl,rfl,rfl⟩,⟨_,rfl,rfl,rfl,rfl,rfl⟩,⟨_,rfl,rfl,rfl,rfl,rfl⟩,trivial⟩
 ·have htk:=znB n ds p 1 hl hn (by omega)
  rw[hat]at htk
  have htk2:=znB n ds (p+1) x hl hn (by omega)
  rw[hat2]at htk2
  have hw:IntKind.i64.wrap (x:Int)=(x:Int):=wrap64 (by omega) (by omega)
  have h1:decide ((x:Int)>most)=false:=by simp;omega
  repeat'(first|exact zC|refine zq0 ?_|(apply zaa<;>intro hb)|(apply I;exact zI)|(apply I<;>intro hg))
  refine zj (htk) ?_
  repeat'(first|exact zC|refine zq (I hw h1) ?_|(apply zaa<;>intro hb)|(apply I;exact zI)|(apply I<;>intro hg))
  refine zj (htk2) ?_
  repeat'(first|exact zC|refine zq (I @zdQ (I @zaV (I hcx @zeA))) ?_|(apply zaa<;>intro hb)|(apply I;exact zI)|(apply I<;>intro hg))
  rfl
theorem zpF (n:Nat) (ds:List D) (p x:Nat) (most:Int) (rest:List D) (hl:ds.length=n) (hn:n<2^62) (hp:p+1≤n) (hat:ds.drop p= .v (.int .u8 (x:Int))::rest) (hx:x≤255) (hm:¬(x:Int)≤most):
  CallOK Tryz.prog 175 [.f (asl n ds), .f (ai p), .f (ai most)] (fun r o=>r=[.one (.d (sD .empty)),ri 0,ri 3]∧o=[]):=by
 refine za8 zcp mixed (T:=Ty) Tryz.func175 rfl Tryz.results175 Tryz.ntmps175 Tryz.call175 Tryz.call198 (ks:=[6,7,8]) rfl rfl rfl rfl rfl rfl (by decide) (by decide)
  (xs:=[asl n ds,ai p,ai most]) zeR zdR ⟨(asl n ds::ai p::ai most::dq3 (.one (.ptr ⟨6,0,0⟩ 0):: .one (.ptr ⟨7,0,0⟩ 0):: .one (.ptr ⟨8,0,0⟩ 0)::znX [])),[(6,{next:=1,l:=[obq 0 [dS .empty],none]}),(7,{next:=1,l:=[obq 0 [di 0],none]}),(8,{next:=1,l:=[obq 0 [di 0],none]})]⟩ ?_ ?_ rfl ?_
 ·simp only[List.map_cons,List.map_nil]
  repeat'(first|exact zC|refine zq0 ?_|(apply zaa<;>intro hb)|(apply I;exact zI)|(apply I<;>intro hg))
  exact fun _ _ _ h=>h
 ·exact⟨⟨_,rfl,rfl,rfl,rfl,rfl⟩,⟨_,rfl,rfl,rfl,rfl,rfl⟩,⟨_,rfl,rfl,rfl,rfl,rfl⟩,trivial⟩
 ·have htk:=znB n ds p 1 hl hn (by omega)
  rw[hat]at htk
  have hw:IntKind.i64.wrap (x:Int)=(x:Int):=wrap64 (by omega) (by omega)
  have h1:decide ((x:Int)>most)=true:=by simp;omega
  repeat'(first|exact zC|refine zq0 ?_|(apply zaa<;>intro hb)|(apply I;exact zI)|(apply I<;>intro hg))
  refine zj (htk) ?_
  repeat'(first|exact zC|refine zq (I hw h1) ?_|(apply zaa<;>intro hb)|(apply I;exact zI)|(apply I<;>intro hg))
  simp only[zaC,zaD,zaB,zaG]
  refine⟨⟨_,rfl⟩,rfl,⟨⟨_,rfl,rfl,rfl,rfl,rfl⟩,⟨_,rfl,rfl,rfl,rfl,rfl⟩,⟨_,rfl,rfl,rfl,rfl,rfl⟩,trivial⟩, ?_⟩
  rw[show zk5 30 [6,7,8] (nwT (zdW 206 3))=⟨(dq6 (.one (.ptr ⟨6,0,0⟩ 0):: .one (.ptr ⟨7,0,0⟩ 0):: .one (.ptr ⟨8,0,0⟩ 0)::znX [])),[(6,{next:=1,l:=[obq 0 [dS .empty]]}),(7,{next:=1,l:=[obq 0 [di 0]]}),(8,{next:=1,l:=[obq 0 [di 3]]})]⟩ from rfl]
  first|refine zs0 ?_|exact zt0
theorem zrj (n:Nat) (ds:List D) (p most:Int) (hl:ds.length=n) (hn:n<2^62) (hp:i64 p) (h:zbV n p 1=true):
  CallOK Tryz.prog 175 [.f (asl n ds), .f (ai p), .f (ai most)] (fun r o=>r=[.one (.d (sD .empty)),ri 0,ri 2]∧o=[]):=by
 refine za8 zcp mixed (T:=Ty) Tryz.func175 rfl Tryz.results175 Tryz.ntmps175 Tryz.call175 Tryz.call198 (ks:=[6,7,8]) rfl rfl rfl rfl rfl rfl (by decide) (by decide)
  (xs:=[asl n ds,ai p,ai most]) zeR zdR ⟨(asl n ds::ai p::ai most::dq3 (.one (.ptr ⟨6,0,0⟩ 0):: .one (.ptr ⟨7,0,0⟩ 0):: .one (.ptr ⟨8,0,0⟩ 0)::znX [])),[(6,{next:=1,l:=[obq 0 [dS .empty],none]}),(7,{next:=1,l:=[obq 0 [di 0],none]}),(8,{next:=1,l:=[obq 0 [di 0],none]})]⟩ ?_ ?_ rfl ?_
 ·simp only[List.map_cons,List.map_nil]
  repeat'(first|exact zC|refine zq0 ?_|(apply zaa<;>intro hb)|(apply I;exact zI)|(apply I<;>intro hg))
  exact fun _ _ _ h=>h
 ·exact⟨⟨_,rfl,rfl,rfl,rfl,rfl⟩,⟨_,rfl,rfl,rfl,rfl,rfl⟩,⟨_,rfl,rfl,rfl,rfl,rfl⟩,trivial⟩
 ·have htk:=zgG n ds p 1 hl hn hp h
  repeat'(first|exact zC|refine zq0 ?_|(apply zaa<;>intro hb)|(apply I;exact zI)|(apply I<;>intro hg))
  refine zp (rdr n ds p) (htk) ?_
  simp only[zaC,zaD,zaB,zaG]
  refine⟨⟨_,rfl⟩,rfl,⟨⟨_,rfl,rfl,rfl,rfl,rfl⟩,⟨_,rfl,rfl,rfl,rfl,rfl⟩,⟨_,rfl,rfl,rfl,rfl,rfl⟩,trivial⟩, ?_⟩
  rw[show zk5 30 [6,7,8] (nwT (zdW 206 2))=⟨(dq6 (.one (.ptr ⟨6,0,0⟩ 0):: .one (.ptr ⟨7,0,0⟩ 0):: .one (.ptr ⟨8,0,0⟩ 0)::znX [])),[(6,{next:=1,l:=[obq 0 [dS .empty]]}),(7,{next:=1,l:=[obq 0 [di 0]]}),(8,{next:=1,l:=[obq 0 [di 2]]})]⟩ from rfl]
  first|refine zs0 ?_|exact zt0
theorem znA (n:Nat) (ds:List D) (p x:Nat) (most:Int) (rest:List D) (hl:ds.length=n) (hn:n<2^62) (hp:p+1≤n) (hat:ds.drop p= .v (.int .u8 (x:Int))::rest) (hx:x≤255) (hm:(x:Int)≤most)
  (hs:zbV n ((p+1:Nat):Int) x=true):CallOK Tryz.prog 175 [.f (asl n ds), .f (ai p), .f (ai most)] (fun r o=>r=[.one (.d (sD .empty)),ri 0,ri 2]∧o=[]):=by
 refine za8 zcp mixed (T:=Ty) Tryz.func175 rfl Tryz.results175 Tryz.ntmps175 Tryz.call175 Tryz.call198 (ks:=[6,7,8]) rfl rfl rfl rfl rfl rfl (by decide) (by decide)
  (xs:=[asl n ds,ai p,ai most]) zeR zdR ⟨(asl n ds::ai p::ai most::dq3 (.one (.ptr ⟨6,0,0⟩ 0):: .one (.ptr ⟨7,0,0⟩ 0):: .one (.ptr ⟨8,0,0⟩ 0)::znX [])),[(6,{next:=1,l:=[obq 0 [dS .empty],none]}),(7,{next:=1,l:=[obq 0 [di 0],none]}),(8,{next:=1,l:=[obq 0 [di 0],none]})]⟩ ?_ ?_ rfl ?_
 ·simp only[List.map_cons,List.map_nil]
  repeat'(first|exact zC|refine zq0 ?_|(apply zaa<;>intro hb)|(apply I;exact zI)|(apply I<;>intro hg))
  exact fun _ _ _ h=>h
 ·exact⟨⟨_,rfl,rfl,rfl,rfl,rfl⟩,⟨_,rfl,rfl,rfl,rfl,rfl⟩,⟨_,rfl,rfl,rfl,rfl,rfl⟩,trivial⟩
 ·have htk:=znB n ds p 1 hl hn (by omega)
  rw[hat]at htk
  have htk2:=zgG n ds ((p+1:Nat):Int) x hl hn (by unfold i64;omega) hs
  have hw:IntKind.i64.wrap (x:Int)=(x:Int):=wrap64 (by omega) (by omega)
  have h1:decide ((x:Int)>most)=false:=by simp;omega
  repeat'(first|exact zC|refine zq0 ?_|(apply zaa<;>intro hb)|(apply I;exact zI)|(apply I<;>intro hg))
  refine zj (htk) ?_
  repeat'(first|exact zC|refine zq (I hw h1) ?_|(apply zaa<;>intro hb)|(apply I;exact zI)|(apply I<;>intro hg))
  refine zp (rdr n ds p) (htk2) ?_
  simp only[zaC,zaD,zaB,zaG]
  refine⟨⟨_,rfl⟩,rfl,⟨⟨_,rfl,rfl,rfl,rfl,rfl⟩,⟨_,rfl,rfl,rfl,rfl,rfl⟩,⟨_,rfl,rfl,rfl,rfl,rfl⟩,trivial⟩, ?_⟩
  rw[show zk5 30 [6,7,8] (nwT (zdW 206 2))=⟨(dq6 (.one (.ptr ⟨6,0,0⟩ 0):: .one (.ptr ⟨7,0,0⟩ 0):: .one (.ptr ⟨8,0,0⟩ 0)::znX [])),[(6,{next:=1,l:=[obq 0 [dS .empty]]}),(7,{next:=1,l:=[obq 0 [di 0]]}),(8,{next:=1,l:=[obq 0 [di 2]]})]⟩ from rfl]
  first|refine zs0 ?_|exact zt0
def zbp (bs:List Int) (p:Int):Int×Int×Int:=if zbV bs.length p 1=true then(0,0,2)else(bs.getD p.toNat 0,p+1,0)
def zeQ (bs:List Int) (p:Int):Int×Int×Int:=
 if zbV bs.length p 8=true then(0,0,2)else if zgF ((bs.drop p.toNat).take 8)<4611686018427387904 then(zgF ((bs.drop p.toNat).take 8),p+8,0)else(0,0,4)
def zbT (bs:List Int) (p most:Int):ByteArray×Int×Int:=
 if zbV bs.length p 1=true then(.empty,0,2)else if¬bs.getD p.toNat 0≤most then(.empty,0,3)else
 if zbV bs.length (p+1) (bs.getD p.toNat 0)=true then(.empty,0,2)else(strOf ((bs.drop (p.toNat+1)).take (bs.getD p.toNat 0).toNat),p+1+bs.getD p.toNat 0,0)
theorem zcS {n:Nat} {p k:Int} (h:zbV n p k=false):0≤p∧p≤n∧k≤n - p:=by
 unfold zbV at h
 simp at h
 omega
structure BsOk (bs:List Int):Prop where
 l:bs.length<2^60
 b:∀x∈bs,zcA x
theorem zcv (bs:List Int) (p:Int) (h:BsOk bs) (hp:i64 p):CallOK Tryz.prog 138 [.f (asl bs.length (zad bs)), .f (ai p)] (fun r o=>r=[ri (zbp bs p).1,ri (zbp bs p).2.1,ri (zbp bs p).2.2]∧o=[]):=by
 have hl:=h.l
 cases hs:zbV bs.length p 1
 ·obtain⟨h1,h2,h3⟩:=zcS hs
  obtain⟨q,rfl⟩:=Int.eq_ofNat_of_zero_le h1
  have hq:q<bs.length:=by omega
  have hb:=zfK hq h.b
  unfold zcA at hb
  rw[zbp,if_neg (by rw[hs];simp)]
  have:=ztj bs.length (zad bs) q (bs.getD q 0) _ zaV (by omega) hq (zhg hq) ⟨hb.1,by omega⟩
  simpa using this
 ·rw[zbp,if_pos hs]
  exact zrh bs.length (zad bs) p zaV (by omega) hp hs
theorem zdP (bs:List Int) (p:Int) (h:BsOk bs) (hp:i64 p):CallOK Tryz.prog 139 [.f (asl bs.length (zad bs)), .f (ai p)] (fun r o=>r=[ri (zeQ bs p).1,ri (zeQ bs p).2.1,ri (zeQ bs p).2.2]∧o=[]):=by
 have hl:=h.l
 cases hs:zbV bs.length p 8
 ·obtain⟨h1,h2,h3⟩:=zcS hs
  obtain⟨q,rfl⟩:=Int.eq_ofNat_of_zero_le h1
  rw[zeQ,if_neg (by rw[hs];simp)]
  have:=zri bs.length (zad bs) q ((bs.drop q).take 8) zaV (by omega) (by omega) (by rw[←List.map_drop,←List.map_take]) (by rw[List.length_take,List.length_drop];omega) (fun x hx=>h.b x (List.mem_of_mem_drop (List.mem_of_mem_take hx)))
  simp only[Int.toNat_natCast]
  split
  ·rename_i hv
   rw[if_pos hv]at this
   exact this
  ·rename_i hv
   rw[if_neg hv]at this
   exact this
 ·rw[zeQ,if_pos hs]
  exact ztl bs.length (zad bs) p zaV (by omega) hp hs
theorem zfJ (bs:List Int) (p most:Int) (h:BsOk bs) (hp:i64 p):CallOK Tryz.prog 175 [.f (asl bs.length (zad bs)), .f (ai p), .f (ai most)] (fun r o=>r=[.one (.d (sD (zbT bs p most).1)),ri (zbT bs p most).2.1,ri (zbT bs p most).2.2]∧o=[]):=by
 have hl:=h.l
 cases hs:zbV bs.length p 1
 ·obtain⟨h1,h2,h3⟩:=zcS hs
  obtain⟨q,rfl⟩:=Int.eq_ofNat_of_zero_le h1
  have hq:q<bs.length:=by omega
  have hb:=zfK hq h.b
  unfold zcA at hb
  obtain⟨x,hx⟩:=Int.eq_ofNat_of_zero_le hb.1
  have hat:=zhg hq
  rw[hx]at hat
  rw[zbT,if_neg (by rw[hs];simp)]
  simp only[Int.toNat_natCast,hx]
  by_cases hm:(x:Int)≤most
  ·rw[if_neg (by simpa using hm)]
   cases hs2:zbV bs.length ((q:Int)+1) (x:Int)
   ·obtain⟨h4,h5,h6⟩:=zcS hs2
    rw[if_neg (by simp)]
    have:=ztm bs.length (zad bs) q x most ((bs.drop (q+1)).take x) _ zaV (by omega) (by omega) hat (by omega) hm (by rw[←List.map_drop,←List.map_take]) (by rw[List.length_take,List.length_drop];omega)
    simpa using this
   ·rw[if_pos rfl]
    exact znA bs.length (zad bs) q x most _ zaV (by omega) (by omega) hat (by omega) hm (by simpa using hs2)
  ·rw[if_pos (by simpa using hm)]
   exact zpF bs.length (zad bs) q x most _ zaV (by omega) (by omega) hat (by omega) hm
 ·rw[zbT,if_pos hs]
  exact zrj bs.length (zad bs) p most zaV (by omega) hp hs
theorem zcW {bs:List Int} {p:Int}:0≤(zbp bs p).2.1∧(zbp bs p).2.1≤bs.length:=by
 unfold zbp
 cases hs:zbV bs.length p 1
 ·obtain⟨h1,h2,h3⟩:=zcS hs
  rw[if_neg (by simp)];simp only;omega
 ·rw[if_pos rfl];simp only;omega
theorem zer {bs:List Int} {p:Int}:0≤(zeQ bs p).2.1∧(zeQ bs p).2.1≤bs.length:=by
 unfold zeQ
 cases hs:zbV bs.length p 8
 ·obtain⟨h1,h2,h3⟩:=zcS hs
  rw[if_neg (by simp)]
  split
  ·simp only;omega
  ·simp only;omega
 ·rw[if_pos rfl];simp only;omega
theorem ziz {bs:List Int} {p most:Int} (h:BsOk bs):0≤(zbT bs p most).2.1∧(zbT bs p most).2.1≤bs.length:=by
 unfold zbT
 cases hs:zbV bs.length p 1
 ·obtain⟨h1,h2,h3⟩:=zcS hs
  rw[if_neg (by simp)]
  have hb:=zfK (i:=p.toNat) (by omega) h.b
  unfold zcA at hb
  split
  ·simp only;omega
  ·cases hs2:zbV bs.length (p+1) (bs.getD p.toNat 0)
   ·obtain⟨h4,h5,h6⟩:=zcS hs2
    rw[if_neg (by simp)];simp only;omega
   ·rw[if_pos rfl];simp only;omega
 ·rw[if_pos rfl];simp only;omega
def zbP (bs:List Int):Nat→Int→List Grant→List Grant×Int×Int
 |0,p,acc=>(acc,p,0)
 |k+1,p,acc=>
  if(zbT bs p 12).2.2≠0 then([],0,(zbT bs p 12).2.2)else
  if(zeQ bs (zbT bs p 12).2.1).2.2≠0 then([],0,(zeQ bs (zbT bs p 12).2.1).2.2)else
  zbP bs k (zeQ bs (zbT bs p 12).2.1).2.1 (acc++[⟨(zbT bs p 12).1,(zeQ bs (zbT bs p 12).2.1).1⟩])
abbrev zvM (l:List Grant):RF:= .one (.own 2 l.length (zaK l) false)
theorem zdV {n:Nat} (hn:n<2^60) {p:Int} (h:0≤p∧p≤n):i64 p:=by unfold i64;omega
set_option maxHeartbeats 1000000 in
theorem zpC (bs:List Int) (p:Int) (n:Nat) (h:BsOk bs) (hp:i64 p) (hn:n<2^20):
  CallOK Tryz.prog 176 [.f (asl bs.length (zad bs)), .f (ai p), .f (ai n)] (fun r o=>r=[zvM (zbP bs n p []).1,ri (zbP bs n p []).2.1,ri (zbP bs n p []).2.2]∧o=[]):=by
 refine CallOK.nil ?_
 refine zh Tryz.func176 Tryz.results176 Tryz.ntmps176 Tryz.call176 ?_
 simp only[Tryz.f176,Option.getD]
 repeat'(first|exact zC|refine zq0 ?_|(apply zaa<;>intro hb)|(apply I;exact zI)|(apply I<;>intro hg))
 refine zai (τ:=Nat×Int×List Grant) (fun t=>⟨(asl bs.length (zad bs)::ai t.2.1::dq7 (.one (.own ⟨9,1,1⟩ 0 t.2.2.length)::dq2 (ai n::ai t.1::ztR []))),[(9,⟨2,[none,roq 1 2 (zaK t.2.2)]⟩),(6,⟨2,[]⟩),(10,⟨2,[]⟩),(40,⟨2,[]⟩),(41,⟨2,[]⟩)]⟩)
  (fun t=>t.1≤n∧i64 t.2.1∧t.2.2.length=t.1) (fun t=>zbP bs (n - t.1) t.2.1 t.2.2) (fun t=>n - t.1) (0,p,[])
  ((Gh.nil (i:=9) (s:=9) (sz:=2) rfl).trans (Gh.canon [9] [6,10,40,41] [] zK rfl rfl)) ⟨Nat.zero_le _,hp,rfl⟩ ?_
 intro⟨i,q,acc⟩ ⟨hi0,hq,ha⟩ hF K hK
 simp only[Nat.sub_zero]at hi0 hq ha hF hK⊢
 refine zw ?_
 refine zaa (fun hlt=> ?_) (fun hge=> ?_)
 ·have hi:i<n:=by simpa using hlt
  have hw:=zan hi (by omega)
  have ht:=zfJ bs q 12 h hq
  have hm:=zdP bs (zbT bs q 12).2.1 h (zdV h.l (ziz h))
  have hst:n - i=(n - (i+1))+1:=by omega
  rw[hst,zbP]at hF
  have hle:(acc.length+1≤2^47)=True:=eq_true (by omega)
  cases e1:((zbT bs q 12).2.2 !=0)
  ·have e1':(zbT bs q 12).2.2=0:=by simpa using e1
   rw[if_neg (by simp[e1'])]at hF
   cases e2:((zeQ bs (zbT bs q 12).2.1).2.2 !=0)
   ·have e2':(zeQ bs (zbT bs q 12).2.1).2.2=0:=by simpa using e2
    rw[if_neg (by simp[e2'])]at hF
    repeat'(first|exact zC|refine zq (I e1 (I e2 hle)) ?_|refine zx (ht) ?_|refine zx (hm) ?_|(apply zaa<;>intro hb)|(apply I;exact zI)|(apply I<;>intro hg))
    refine hK _ (i+1,(zeQ bs (zbT bs q 12).2.1).2.1,acc++[⟨(zbT bs q 12).1,(zeQ bs (zbT bs q 12).2.1).1⟩]) (Gh.canon [9] [] [] (zk (I hw (I @List.length_append.{0} @List.length_singleton.{0}))) rfl (by simp only[List.length_append,List.length_singleton];rw[zjO];rfl)) ⟨hi,zdV h.l zer,by simp only[List.length_append,List.length_singleton];omega⟩ ?_ (by simp only;omega)
    simp only
    rw[hst,zbP,if_neg (by simp[e1']),if_neg (by simp[e2'])]
   ·have e2':(zeQ bs (zbT bs q 12).2.1).2.2≠0:=by simpa using e2
    rw[if_pos e2']at hF
    rw[←hF]
    repeat'(first|exact zC|refine zq (I e1 e2) ?_|refine zx (ht) ?_|refine zx (hm) ?_|(apply zaa<;>intro hb)|(apply I;exact zI)|(apply I<;>intro hg))
    show zaw _ _∧zaw _ _∧zaw _ _∧True
    simp[zaw]
  ·have e1':(zbT bs q 12).2.2≠0:=by simpa using e1
   rw[if_pos e1']at hF
   rw[←hF]
   repeat'(first|exact zC|refine zq e1 ?_|refine zx (ht) ?_|refine zx (hm) ?_|(apply zaa<;>intro hb)|(apply I;exact zI)|(apply I<;>intro hg))
   show zaw _ _∧zaw _ _∧zaw _ _∧True
   simp[zaw]
 ·have hi:i=n:=by
   have:¬(i:Int)<n:=by simpa using hge
   omega
  rw[hi,Nat.sub_self,zbP]at hF
  rw[←hF]
  repeat'(first|exact zC|refine zq0 ?_|(apply zaa<;>intro hb)|(apply I;exact zI)|(apply I<;>intro hg))
  show zaw _ _∧zaw _ _∧zaw _ _∧True
  simp[zaw]
abbrev zpA:Reply:=⟨0,0,0,[]⟩
def ze1 (bs:List Int) (p:Int):Reply×Int×Int:=
 if(zbp bs p).2.2≠0 then(zpA,0,(zbp bs p).2.2)else
 let s:=zeQ bs (zbp bs p).2.1
 if s.2.2≠0 then(zpA,0,s.2.2)else
 let a:=zbp bs s.2.1
 if a.2.2≠0 then(zpA,0,a.2.2)else
 let n:=zbp bs a.2.1
 if n.2.2≠0 then(zpA,0,n.2.2)else
 if n.1>4 then(zpA,0,4)else
 let g:=zbP bs n.1.toNat n.2.1 []
 if g.2.2≠0 then(zpA,0,g.2.2)else
 if zcf ⟨(zbp bs p).1,s.1,a.1,g.1⟩=false then(zpA,0,4)else(⟨(zbp bs p).1,s.1,a.1,g.1⟩,g.2.1,0)
theorem zht {bs:List Int} (h:BsOk bs) {p:Int}:zcA (zbp bs p).1:=by
 unfold zbp
 cases hs:zbV bs.length p 1
 ·obtain⟨h1,h2,h3⟩:=zcS hs
  rw[if_neg (by simp)]
  exact zfK (by omega) h.b
 ·rw[if_pos rfl];exact⟨by decide,by decide⟩
theorem ziy {bs:List Int} {p most:Int}:(zbT bs p most).1.size≤bs.length:=by
 unfold zbT
 split
 ·simp
 ·split
  ·simp
  ·split
   ·simp
   ·simp only[strOf,ByteArray.size,List.size_toArray,List.length_map,List.length_take,List.length_drop]
    omega
theorem zf5 {bs:List Int}:∀{n:Nat} {p:Int} {acc:List Grant},(∀g∈acc,g.name.size≤bs.length)→(zbP bs n p acc).1.length≤acc.length+n∧∀g∈(zbP bs n p acc).1,g.name.size≤bs.length
 |0,p,acc,h=>⟨Nat.le_refl _,h⟩
 |n+1,p,acc,h=>by
  rw[zbP]
  split
  ·exact⟨Nat.zero_le _,by simp⟩
  ·split
   ·exact⟨Nat.zero_le _,by simp⟩
   ·have:=zf5 (bs:=bs) (n:=n) (p:=(zeQ bs (zbT bs p 12).2.1).2.1) (acc:=acc++[⟨(zbT bs p 12).1,(zeQ bs (zbT bs p 12).2.1).1⟩]) (fun g hg=>by
     rcases List.mem_append.1 hg with hg|hg
     ·exact h g hg
     ·simp at hg;subst hg;exact ziy)
    rw[List.length_append,List.length_singleton]at this
    exact⟨by omega,this.2⟩
set_option maxHeartbeats 1000000 in
theorem zlN (bs:List Int) (p:Int) (h:BsOk bs) (hp:i64 p):
  CallOK Tryz.prog 141 [.f (asl bs.length (zad bs)), .f (ai p)] (fun r o=>r=[ztb (ze1 bs p).1,ri (ze1 bs p).2.1,ri (ze1 bs p).2.2]∧o=[]):=by
 refine CallOK.nil ?_
 refine zh Tryz.func141 Tryz.results141 Tryz.ntmps141 Tryz.call141 ?_
 simp only[Tryz.f141,Option.getD]
 have hl:=h.l
 have h1:=zcv bs p h hp
 have h2:=zdP bs (zbp bs p).2.1 h (zdV h.l zcW)
 have h3:=zcv bs (zeQ bs (zbp bs p).2.1).2.1 h (zdV h.l zer)
 have h4:=zcv bs (zbp bs (zeQ bs (zbp bs p).2.1).2.1).2.1 h (zdV h.l zcW)
 unfold ze1
 simp only
 obtain⟨b,hb⟩:∃b,b=zbp bs p:=⟨_,rfl⟩
 rw[←hb]at h1 h2 h3 h4⊢
 obtain⟨s,hs⟩:∃s,s=zeQ bs b.2.1:=⟨_,rfl⟩
 rw[←hs]at h2 h3 h4⊢
 obtain⟨a,ha⟩:∃a,a=zbp bs s.2.1:=⟨_,rfl⟩
 rw[←ha]at h3 h4⊢
 obtain⟨n,hn⟩:∃n,n=zbp bs a.2.1:=⟨_,rfl⟩
 rw[←hn]at h4⊢
 have hnv:zcA n.1:=by rw[hn];exact zht h
 have hnn:i64 n.2.1:=by rw[hn];exact zdV h.l zcW
 have hbv:zcA b.1:=by rw[hb];exact zht h
 unfold zcA at hnv hbv
 have h5:=zpC bs n.2.1 n.1.toNat h hnn (by omega)
 rw[Int.toNat_of_nonneg hnv.1]at h5
 have hgk:=zf5 (bs:=bs) (n:=n.1.toNat) (p:=n.2.1) (acc:=[]) (by simp)
 obtain⟨g,hg⟩:∃g,g=zbP bs n.1.toNat n.2.1 []:=⟨_,rfl⟩
 rw[←hg]at h5 hgk⊢
 have h6:=zfb ⟨b.1,s.1,a.1,g.1⟩ ⟨by have:=hgk.1;simp only[List.length_nil]at this;simp only;omega,fun x hx=>by have:=hgk.2 x hx;omega⟩
 clear hgk
 cases e1:(b.2.2 !=0)
 ·rw[if_neg (by simpa using e1)]
  cases e2:(s.2.2 !=0)
  ·rw[if_neg (by simpa using e2)]
   cases e3:(a.2.2 !=0)
   ·rw[if_neg (by simpa using e3)]
    cases e4:(n.2.2 !=0)
    ·rw[if_neg (by simpa using e4)]
     cases e5:decide (n.1>4)
     ·rw[if_neg (by simpa using e5)]
      cases e6:(g.2.2 !=0)
      ·rw[if_neg (by simpa using e6)]
       cases e7:zcf ⟨b.1,s.1,a.1,g.1⟩
       ·rw[e7]at h6
        rw[if_pos rfl]
        repeat'(first|exact zC|refine zq (I e1 (I e2 (I e3 (I e4 (I e5 e6))))) ?_|refine zx (h1) ?_|refine zx (h2) ?_|refine zx (h3) ?_|refine zx (h4) ?_|refine zx (h5) ?_|refine zx (h6) ?_|(apply zaa<;>intro hb)|(apply I;exact zI)|(apply I<;>intro hg))
        show(zaw _ _∧zaw _ _∧zaw _ _∧zaw _ _∧True)∧zaw _ _∧zaw _ _∧True
        simp[zaw, -List.length_flatMap,zas]
       ·rw[e7]at h6
        rw[if_neg (by simp)]
        repeat'(first|exact zC|refine zq (I e1 (I e2 (I e3 (I e4 (I e5 e6))))) ?_|refine zx (h1) ?_|refine zx (h2) ?_|refine zx (h3) ?_|refine zx (h4) ?_|refine zx (h5) ?_|refine zx (h6) ?_|(apply zaa<;>intro hb)|(apply I;exact zI)|(apply I<;>intro hg))
        show(zaw _ _∧zaw _ _∧zaw _ _∧zaw _ _∧True)∧zaw _ _∧zaw _ _∧True
        simp[zaw, -List.length_flatMap,zas]
      ·rw[if_pos (by simpa using e6)]
       repeat'(first|exact zC|refine zq (I e1 (I e2 (I e3 (I e4 (I e5 e6))))) ?_|refine zx (h1) ?_|refine zx (h2) ?_|refine zx (h3) ?_|refine zx (h4) ?_|refine zx (h5) ?_|(apply zaa<;>intro hb)|(apply I;exact zI)|(apply I<;>intro hg))
       show(zaw _ _∧zaw _ _∧zaw _ _∧zaw _ _∧True)∧zaw _ _∧zaw _ _∧True
       simp[zaw, -List.length_flatMap,zas]
     ·rw[if_pos (by simpa using e5)]
      repeat'(first|exact zC|refine zq (I e1 (I e2 (I e3 (I e4 e5)))) ?_|refine zx (h1) ?_|refine zx (h2) ?_|refine zx (h3) ?_|refine zx (h4) ?_|(apply zaa<;>intro hb)|(apply I;exact zI)|(apply I<;>intro hg))
      show(zaw _ _∧zaw _ _∧zaw _ _∧zaw _ _∧True)∧zaw _ _∧zaw _ _∧True
      simp[zaw, -List.length_flatMap,zas]
    ·rw[if_pos (by simpa using e4)]
     repeat'(first|exact zC|refine zq (I e1 (I e2 (I e3 e4))) ?_|refine zx (h1) ?_|refine zx (h2) ?_|refine zx (h3) ?_|refine zx (h4) ?_|(apply zaa<;>intro hb)|(apply I;exact zI)|(apply I<;>intro hg))
     show(zaw _ _∧zaw _ _∧zaw _ _∧zaw _ _∧True)∧zaw _ _∧zaw _ _∧True
     simp[zaw, -List.length_flatMap,zas]
   ·rw[if_pos (by simpa using e3)]
    repeat'(first|exact zC|refine zq (I e1 (I e2 e3)) ?_|refine zx (h1) ?_|refine zx (h2) ?_|refine zx (h3) ?_|(apply zaa<;>intro hb)|(apply I;exact zI)|(apply I<;>intro hg))
    show(zaw _ _∧zaw _ _∧zaw _ _∧zaw _ _∧True)∧zaw _ _∧zaw _ _∧True
    simp[zaw, -List.length_flatMap,zas]
  ·rw[if_pos (by simpa using e2)]
   repeat'(first|exact zC|refine zq (I e1 e2) ?_|refine zx (h1) ?_|refine zx (h2) ?_|(apply zaa<;>intro hb)|(apply I;exact zI)|(apply I<;>intro hg))
   show(zaw _ _∧zaw _ _∧zaw _ _∧zaw _ _∧True)∧zaw _ _∧zaw _ _∧True
   simp[zaw, -List.length_flatMap,zas]
 ·rw[if_pos (by simpa using e1)]
  repeat'(first|exact zC|refine zq e1 ?_|refine zx (h1) ?_|(apply zaa<;>intro hb)|(apply I;exact zI)|(apply I<;>intro hg))
  show(zaw _ _∧zaw _ _∧zaw _ _∧zaw _ _∧True)∧zaw _ _∧zaw _ _∧True
  simp[zaw, -List.length_flatMap,zas]
abbrev zpB:Memo:=⟨0,0,zpA⟩
def zf6 (bs:List Int) (p:Int):Memo×Int×Int:=
 if(zbp bs p).2.2≠0 then(zpB,0,(zbp bs p).2.2)else
 let s:=zeQ bs (zbp bs p).2.1
 if s.2.2≠0 then(zpB,0,s.2.2)else
 let r:=ze1 bs s.2.1
 if r.2.2≠0 then(zpB,0,r.2.2)else
 if answerB ⟨(zbp bs p).1,s.1,r.1⟩=false then(zpB,0,4)else(⟨(zbp bs p).1,s.1,r.1⟩,r.2.1,0)
abbrev zsf (m:Memo):RF:= .agg (m.enc.map RO.d)
theorem zgn {bs:List Int}:∀{n:Nat} {p:Int} {acc:List Grant},0≤p∧p≤bs.length→0≤(zbP bs n p acc).2.1∧(zbP bs n p acc).2.1≤bs.length
 |0,p,acc,h=>h
 |n+1,p,acc,h=>by
  rw[zbP]
  split
  ·simp only;omega
  ·split
   ·simp only;omega
   ·exact zgn zer
theorem zgo {bs:List Int} (h:BsOk bs) {p:Int}:(0≤(ze1 bs p).2.1∧(ze1 bs p).2.1≤bs.length)∧zcI (ze1 bs p).1:=by
 have hl:=h.l
 have h0:(0≤((zpA,(0:Int),(0:Int)):Reply×Int×Int).2.1∧((zpA,(0:Int),(0:Int)):Reply×Int×Int).2.1≤bs.length)∧zcI zpA:=⟨by simp only;omega,by simp,by simp⟩
 unfold ze1
 simp only
 split
 ·exact h0
 split
 ·exact h0
 split
 ·exact h0
 split
 ·exact h0
 split
 ·exact h0
 rename_i h5
 split
 ·exact h0
 split
 ·exact h0
 ·have hgk:=zf5 (bs:=bs) (n:=(zbp bs (zbp bs (zeQ bs (zbp bs p).2.1).2.1).2.1).1.toNat) (p:=(zbp bs (zbp bs (zeQ bs (zbp bs p).2.1).2.1).2.1).2.1) (acc:=[]) (by simp)
  simp only[List.length_nil]at hgk
  exact⟨zgn zcW,by simp only;omega,fun g hg=>by have:=hgk.2 g hg;omega⟩
set_option maxHeartbeats 1000000 in
theorem zeq (bs:List Int) (p:Int) (h:BsOk bs) (hp:i64 p):
  CallOK Tryz.prog 91 [.f (asl bs.length (zad bs)), .f (ai p)] (fun r o=>r=[zsf (zf6 bs p).1,ri (zf6 bs p).2.1,ri (zf6 bs p).2.2]∧o=[]):=by
 refine CallOK.nil ?_
 refine zh Tryz.func91 Tryz.results91 Tryz.ntmps91 Tryz.call91 ?_
 simp only[Tryz.f91,Option.getD]
 have h1:=zcv bs p h hp
 have h2:=zdP bs (zbp bs p).2.1 h (zdV h.l zcW)
 have h3:=zlN bs (zeQ bs (zbp bs p).2.1).2.1 h (zdV h.l zer)
 have hf:=(zgo h (p:=(zeQ bs (zbp bs p).2.1).2.1)).2
 unfold zf6
 simp only
 obtain⟨b,hb⟩:∃b,b=zbp bs p:=⟨_,rfl⟩
 rw[←hb]at h1 h2 h3 hf⊢
 obtain⟨s,hs⟩:∃s,s=zeQ bs b.2.1:=⟨_,rfl⟩
 rw[←hs]at h2 h3 hf⊢
 obtain⟨a,ha⟩:∃a,a=ze1 bs s.2.1:=⟨_,rfl⟩
 rw[←ha]at h3 hf⊢
 have h4:=zdk ⟨b.1,s.1,a.1⟩ hf
 cases e1:(b.2.2 !=0)
 ·rw[if_neg (by simpa using e1)]
  cases e2:(s.2.2 !=0)
  ·rw[if_neg (by simpa using e2)]
   cases e3:(a.2.2 !=0)
   ·rw[if_neg (by simpa using e3)]
    cases e7:answerB ⟨b.1,s.1,a.1⟩
    ·rw[e7]at h4
     rw[if_pos rfl]
     repeat'(first|exact zC|refine zq (I e1 (I e2 e3)) ?_|refine zx (h1) ?_|refine zx (h2) ?_|refine zx (h3) ?_|refine zx (h4) ?_|(apply zaa<;>intro hb)|(apply I;exact zI)|(apply I<;>intro hg))
     show(zaw _ _∧zaw _ _∧zaw _ _∧zaw _ _∧zaw _ _∧zaw _ _∧True)∧zaw _ _∧zaw _ _∧True
     simp[zaw]
    ·rw[e7]at h4
     rw[if_neg (by simp)]
     repeat'(first|exact zC|refine zq (I e1 (I e2 e3)) ?_|refine zx (h1) ?_|refine zx (h2) ?_|refine zx (h3) ?_|refine zx (h4) ?_|(apply zaa<;>intro hb)|(apply I;exact zI)|(apply I<;>intro hg))
     show(zaw _ _∧zaw _ _∧zaw _ _∧zaw _ _∧zaw _ _∧zaw _ _∧True)∧zaw _ _∧zaw _ _∧True
     simp[zaw]
   ·rw[if_pos (by simpa using e3)]
    repeat'(first|exact zC|refine zq (I e1 (I e2 e3)) ?_|refine zx (h1) ?_|refine zx (h2) ?_|refine zx (h3) ?_|(apply zaa<;>intro hb)|(apply I;exact zI)|(apply I<;>intro hg))
    show(zaw _ _∧zaw _ _∧zaw _ _∧zaw _ _∧zaw _ _∧zaw _ _∧True)∧zaw _ _∧zaw _ _∧True
    simp[zaw]
  ·rw[if_pos (by simpa using e2)]
   repeat'(first|exact zC|refine zq (I e1 e2) ?_|refine zx (h1) ?_|refine zx (h2) ?_|(apply zaa<;>intro hb)|(apply I;exact zI)|(apply I<;>intro hg))
   show(zaw _ _∧zaw _ _∧zaw _ _∧zaw _ _∧zaw _ _∧zaw _ _∧True)∧zaw _ _∧zaw _ _∧True
   simp[zaw]
 ·rw[if_pos (by simpa using e1)]
  repeat'(first|exact zC|refine zq e1 ?_|refine zx (h1) ?_|(apply zaa<;>intro hb)|(apply I;exact zI)|(apply I<;>intro hg))
  show(zaw _ _∧zaw _ _∧zaw _ _∧zaw _ _∧zaw _ _∧zaw _ _∧True)∧zaw _ _∧zaw _ _∧True
  simp[zaw]
def zeS (s:ByteArray):List Int:=(s.size:Int)::s.data.toList.map fun b=>(b.toNat:Int)
theorem zlM (s:ByteArray):zgr s=zad (zeS s):=by simp[zgr,zeS,zad,zuu]
theorem zci (s:ByteArray):(zeS s).length=1+s.size:=by simp[zeS,zji,Nat.add_comm]
def zmL (g:Grant):List Int:=zeS g.name++zbI g.token
def zcJ (l:List Grant):List Int:=l.flatMap zmL
def zcM (r:Reply):List Int:=[r.code]++(zbI r.session++([r.ahead,(r.held.length:Int)]++zcJ r.held))
def zbJ (m:Memo):List Int:=[m.client]++(zbI m.seq++zcM m.reply)
theorem zbz (n:Int):(zbI n).length=8:=rfl
theorem znz (g:Grant):(zmL g).length=9+g.name.size:=by simp[zmL,zci,zbz];omega
theorem zfe:∀{l:List Grant} {k:Nat},(∀g∈l,g.name.size≤k)→(zcJ l).length≤l.length*(9+k)
 |[],k,_=>by simp[zcJ]
 |g::l,k,h=>by
  have h1:=zfe (l:=l) (k:=k) fun x hx=>h x (by simp[hx])
  have h2:=h g (by simp)
  rw[zcJ,List.flatMap_cons,List.length_append,List.length_cons,znz,Nat.add_mul]
  unfold zcJ at h1
  omega
theorem zdm {r:Reply} (h:zcf r=true):(0≤r.code∧r.code≤12)∧(0≤r.session∧r.session≤2305843009213693952)∧(0≤r.ahead∧r.ahead≤3)∧r.held.length≤4∧zbK (ze0 r.held) 0 r.held=true:=by
 unfold zcf at h
 have hH:zdU=2305843009213693952:=rfl
 simp only[Bool.and_eq_true,Bool.not_eq_true',Bool.or_eq_false_iff,decide_eq_false_iff_not,hH]at h
 obtain⟨⟨h1,h2⟩,h3⟩:=h
 refine⟨by omega,by omega,by omega,by omega,h3⟩
theorem zix {α:Type} {q:Nat→α→Bool}:∀{l:List α} {i:Nat},zbK q i l=true→∀x∈l,∃k,q k x=true
 |[],_,_,x,hx=>by cases hx
 |a::l,i,h,x,hx=>by
  rw[zbK]at h
  split at h
  ·rename_i hq
   rcases List.mem_cons.1 hx with rfl|hx
   ·exact⟨i,hq⟩
   ·exact zix h x hx
  ·cases h
theorem zdO {r:Reply} (h:zcf r=true):∀g∈r.held,g.name.size≤12∧0≤g.token∧g.token<4611686018427387904:=by
 intro g hg
 obtain⟨k,hk⟩:=zix (zdm h).2.2.2.2 g hg
 unfold ze0 at hk
 have hH:zdU=2305843009213693952:=rfl
 simp only[Bool.not_eq_true',Bool.or_eq_false_iff,decide_eq_false_iff_not,hH,Bool.not_eq_false']at hk
 obtain⟨⟨⟨h1,h2⟩,h3⟩,h4⟩:=hk
 have:nameP g.name=true:=by simpa using h1
 unfold nameP at this
 simp only[Bool.and_eq_true,decide_eq_true_eq]at this
 omega
theorem zcR {m:Memo} (h:answerB m=true):(0≤m.client∧m.client<8)∧(1≤m.seq∧m.seq≤2305843009213693952)∧zcf m.reply=true:=by
 unfold answerB at h
 have hH:zdU=2305843009213693952:=rfl
 simp only[Bool.and_eq_true,decide_eq_true_eq,hH]at h
 exact⟨by omega,by omega,h.2⟩
theorem zny {l:List Grant} {i:Nat} (hi:i<l.length):zcJ (l.take (i+1))=zcJ (l.take i)++(zeS l[i].name++zbI l[i].token):=by
 rw[List.take_succ_eq_append_getElem hi,zcJ,List.flatMap_append];simp[zcJ,zmL]
def zjv (r:Reply):List Int:=[r.code]++(zbI r.session++[r.ahead,(r.held.length:Int)])
def zhG (r:Reply) (i:Nat):List Int:=zjv r++zcJ (r.held.take i)
theorem zkM {r:Reply} {i:Nat} (hi:i<r.held.length):zhG r (i+1)=(zhG r i++zeS r.held[i].name)++zbI r.held[i].token:=by
 rw[zhG,zny hi,zhG];simp
theorem zkN {r:Reply}:zhG r 0=zjv r:=by simp[zhG,zcJ]
theorem zrg {r:Reply}:zhG r r.held.length=zcM r:=by simp[zhG,zjv,zcM]
theorem zhs (r:Reply):(zjv r).length=11:=by simp[zjv,zbz]
set_option maxHeartbeats 1000000 in
theorem zlL (r:Reply) (h:zcf r=true):CallOK Tryz.prog 67 [.f (.agg r.lent)] (fun x o=>x=[.one (.own 1 (zcM r).length (zad (zcM r)) false),ri 0]∧o=[]):=by
 obtain⟨f1,f2,f3,f4,f5⟩:=zdm h
 have hgr:=zdO h
 refine zh Tryz.func67 Tryz.results67 Tryz.ntmps67 Tryz.call67 ?_
 simp only[Tryz.f67,Option.getD]
 have hmy:=zfb r ⟨by omega,fun g hg=>by have:=(hgr g hg).1;omega⟩
 rw[h]at hmy
 have hpn:=zcz r.session (by omega)
 have w1:IntKind.u8.wrap r.code=r.code:=zcH (by omega) (by omega)
 have w2:IntKind.u8.wrap r.ahead=r.ahead:=zcH (by omega) (by omega)
 have w3:IntKind.u8.wrap (r.held.length:Int)=r.held.length:=zcH (by omega) (by omega)
 have hcc:CallOK Tryz.prog 66 [.f (al 3 [.sl 1 (zad [r.code]), .sl 8 (zad (zbI r.session)), .sl 2 (zad [r.ahead,(r.held.length:Int)])])] (fun x o=>x=[.one (.own 1 11 (zad (zjv r)) false)]∧o=[]):=by
  have hc:=zhf [zad [r.code],zad (zbI r.session),zad [r.ahead,(r.held.length:Int)]] (by simp) (fun l hl=>by
   simp only[List.mem_cons,List.not_mem_nil,or_false]at hl
   rcases hl with rfl|rfl|rfl
   ·simp
   ·rw[zdi];decide
   ·simp)
  rw[show [zad [r.code],zad (zbI r.session),zad [r.ahead,(r.held.length:Int)]].flatten=zad (zjv r) from by simp[zjv,zad]]at hc
  rw[show(zad (zjv r)).length=11 from by rw[List.length_map,zhs]]at hc
  exact hc
 have t1:(zad (zbI r.session)).take 8=zad (zbI r.session):=List.take_of_length_le (by rw[zdi];decide)
 have t2:toDs (sub 0 2 1 [C.d (uD r.ahead),C.d (uD (r.held.length:Int))])=some [uD r.ahead,uD (r.held.length:Int)]:=rfl
 repeat'(first|exact zC|refine zq (I t1 (I t2 (I w1 (I w2 w3)))) ?_|refine zx (hmy) ?_|refine zx (hpn) ?_|refine zx (hcc) ?_|(apply zaa<;>intro hb)|(apply I;exact zI)|(apply I<;>intro hg))
 refine zai (τ:=Nat) (fun i=>⟨(dd::ptq 1::dq4 (.one (.own ⟨6,1,1⟩ 0 (zhG r i).length)::ztR (al r.held.length (zaK r.held)::ai r.held.length::ai i::ztP []))),[(1,⟨2,[obq 1 [di r.code,di r.session,di r.ahead, .lent r.held.length (zaK r.held)],none,none,none,none]⟩),(19,⟨2,[]⟩),(4,⟨2,[]⟩),(25,⟨2,[]⟩),(34,⟨2,[]⟩),(35,⟨2,[]⟩),(36,⟨2,[]⟩),(6,⟨2,[none,roq 1 1 (zad (zhG r i))]⟩),(8,⟨2,[]⟩),(9,⟨2,[]⟩),(11,⟨2,[]⟩),(47,⟨2,[]⟩),(53,⟨2,[]⟩),(58,⟨2,[]⟩),(60,⟨2,[]⟩)]⟩)
  (fun i=>i≤r.held.length) (fun _=>()) (fun i=>r.held.length - i) 0
  (Gh.canon [1,6] [8,9,11,47,53,58,60] [] (zk (I @zkN @zhs)) rfl (by rw[zkN];rfl)) (Nat.zero_le _) ?_
 intro i hi0 hF K hK
 refine zw ?_
 refine zaa (fun hlt=> ?_) (fun hge=> ?_)
 ·have hi:i<r.held.length:=by simpa using hlt
  have hat:=zcx hi
  have hw:=zan hi (by omega)
  have hg:=hgr _ (List.getElem_mem hi)
  have hpt:=zfY r.held[i].name (by omega)
  have hpm:=zcz r.held[i].token hg.2
  have hlb:(zhG r i).length≤11+4*21:=by
   rw[zhG,List.length_append,zhs]
   have:=zfe (l:=r.held.take i) (k:=12) fun g hx=>(hgr g (List.mem_of_mem_take hx)).1
   have:(r.held.take i).length≤4:=by rw[List.length_take];omega
   omega
  have hle:((zhG r i).length+(1+r.held[i].name.size)≤2^47)=True:=eq_true (by omega)
  have hle2:((zhG r i).length+(1+r.held[i].name.size)+8≤2^47)=True:=eq_true (by omega)
  have k1:(zgr r.held[i].name).take (1+r.held[i].name.size)=zgr r.held[i].name:=List.take_of_length_le (by rw[zfz];exact Nat.le_refl _)
  have k2:(zad (zbI r.held[i].token)).take 8=zad (zbI r.held[i].token):=List.take_of_length_le (by rw[zdi];decide)
  have k3:(zad (zhG r i)).take (zhG r i).length=zad (zhG r i):=List.take_of_length_le (by rw[List.length_map];exact Nat.le_refl _)
  have k4:(zad (zhG r i)++zgr r.held[i].name).take ((zhG r i).length+(1+r.held[i].name.size))=zad (zhG r i)++zgr r.held[i].name:=List.take_of_length_le (by rw[List.length_append,List.length_map,zfz];exact Nat.le_refl _)
  have hsl:(zhG r (i+1)).length=(zhG r i).length+(1+r.held[i].name.size)+8:=by rw[zkM hi,List.length_append,List.length_append,zci,zbz]
  repeat'(first|exact zC|refine zq (I hat (I @zas (I hle (I hle2 (I k1 (I k2 (I k3 (I k4 (I @zfz (I @List.length_map.{0,0} (I @zbz zca))))))))))) ?_|refine zx (hpt) ?_|refine zx (hpm) ?_|(apply zaa<;>intro hb)|(apply I;exact zI)|(apply I<;>intro hg))
  exact hK _ (i+1) (Gh.canon [1,6] [] [] (zk (I hw hsl)) rfl (by rw[zkM hi,zlM];simp only[roq,zad,List.map_append];rfl)) hi rfl (by omega)
 ·have hi:i=r.held.length:=by
   have:¬(i:Int)<r.held.length:=by simpa using hge
   omega
  subst hi
  repeat'(first|exact zC|refine zq0 ?_|(apply zaa<;>intro hb)|(apply I;exact zI)|(apply I<;>intro hg))
  rw[zrg]
theorem ziw {r:Reply} (h:zcf r=true):(zcM r).length≤95:=by
 have hgr:=zdO h
 have hf:=(zdm h).2.2.2.1
 have:=zfe (l:=r.held) (k:=12) fun g hg=>(hgr g hg).1
 have e:(zcM r).length=11+(zcJ r.held).length:=by simp[zcM,zbz];omega
 omega
theorem zfd {m:Memo} (h:answerB m=true):(zbJ m).length≤104:=by
 have:=ziw (zcR h).2.2
 have e:(zbJ m).length=9+(zcM m.reply).length:=by simp[zbJ,zbz];omega
 omega
theorem zlK {m:Memo} (h:answerB m=true):zcI m.reply:=by
 have hgr:=zdO (zcR h).2.2
 have hf:=(zdm (zcR h).2.2).2.2.2.1
 exact⟨by omega,fun g hg=>by have:=(hgr g hg).1;omega⟩
theorem zgm (m:Memo) (h:answerB m=true):CallOK Tryz.prog 23 [.f (.agg m.lent)] (fun x o=>x=[.one (.own 1 (zbJ m).length (zad (zbJ m)) false),ri 0]∧o=[]):=by
 refine zh Tryz.func23 Tryz.results23 Tryz.ntmps23 Tryz.call23 ?_
 simp only[Tryz.f23,Option.getD]
 obtain⟨f1,f2,f3⟩:=zcR h
 have hmy:=zdk m (zlK h)
 rw[h]at hmy
 have hpn:=zcz m.seq (by omega)
 have hpr:=zlL m.reply f3
 have hrl:=ziw f3
 have w1:IntKind.u8.wrap m.client=m.client:=zcH (by omega) (by omega)
 have hcc:CallOK Tryz.prog 66 [.f (al 3 [.sl 1 (zad [m.client]), .sl 8 (zad (zbI m.seq)), .sl (zcM m.reply).length (zad (zcM m.reply))])] (fun x o=>x=[.one (.own 1 (zbJ m).length (zad (zbJ m)) false)]∧o=[]):=by
  have hc:=zhf [zad [m.client],zad (zbI m.seq),zad (zcM m.reply)] (by simp) (fun l hl=>by
   simp only[List.mem_cons,List.not_mem_nil,or_false]at hl
   rcases hl with rfl|rfl|rfl
   ·simp
   ·rw[zdi];decide
   ·rw[List.length_map];omega)
  rw[show [zad [m.client],zad (zbI m.seq),zad (zcM m.reply)].flatten=zad (zbJ m) from by simp[zbJ,zad]]at hc
  simp only[zp2,List.map_cons,List.map_nil,List.length_map,List.length_cons,List.length_nil,zbz]at hc
  exact hc
 have t1:(zad (zbI m.seq)).take 8=zad (zbI m.seq):=List.take_of_length_le (by rw[zdi];decide)
 have t2:(zad (zcM m.reply)).take (zcM m.reply).length=zad (zcM m.reply):=List.take_of_length_le (by rw[List.length_map];exact Nat.le_refl _)
 repeat'(first|exact zC|refine zq (I t1 (I t2 w1)) ?_|refine zx (hmy) ?_|refine zx (hpn) ?_|refine zx (hpr) ?_|refine zx (hcc) ?_|(apply zaa<;>intro hb)|(apply I;exact zI)|(apply I<;>intro hg))
end Go.Proofs.YtliimajkpggbhaaGreat
