import Derived.Test.YtliimajkpggbhaaGreatL2
namespace Go.Proofs.YtliimajkpggbhaaGreat
open Go.Pk Tryz
set_option maxRecDepth 100000
set_option linter.unusedSimpArgs false
set_option linter.unusedVariables false
theorem zzN (n:Nat) (ds:List D) (p:Nat) (x:Int) (rest:List D) (hl:ds.length=n) (hn:n<2^62) (hp:p<n) (hat:ds.drop p= .v (.int .u8 x)::rest) (hx:0≤x∧x≤255):
  CallOK prog 138 [.f (asl n ds), .f (ai p)] (fun r o=>r=[ri x,ri ((p+1:Nat):Int),ri 0]∧o=[]):=by
 refine zbM zcV mixed (T:=Ty) func138 rfl results138 ntmps138 call138 call172 (ks:=[4,5,6]) rfl rfl rfl rfl rfl rfl (by decide) (by decide)
  (xs:=[asl n ds,ai p]) zlQ zkf ⟨(asl n ds::ai p::dq2 (.one (.ptr ⟨4,0,0⟩ 0):: .one (.ptr ⟨5,0,0⟩ 0):: .one (.ptr ⟨6,0,0⟩ 0)::zs6 [])),[(4,{next:=1,l:=[obq 0 [di 0],none]}),(5,{next:=1,l:=[obq 0 [di 0],none]}),(6,{next:=1,l:=[obq 0 [di 0],none]})]⟩ ?_ ?_ rfl ?_
 ·simp only[List.map_cons,List.map_nil]
  refine zL0 trivial ?_
  exact fun _ _ _ h=>h
 ·exact⟨⟨_,rfl,rfl,rfl,rfl,rfl⟩,⟨_,rfl,rfl,rfl,rfl,rfl⟩,⟨_,rfl,rfl,rfl,rfl,rfl⟩,trivial⟩
 ·have htk:=zr5 n ds p 1 hl hn (by omega)
  rw[hat]at htk
  have hw:IntKind.i64.wrap x=x:=wrap64 (by omega) (by omega)
  refine zL0 trivial ?_
  refine zj (htk) ?_
  exact zW0 (I hw @zgr)
theorem zw9 (n:Nat) (ds:List D) (p:Int) (hl:ds.length=n) (hn:n<2^62) (hp:i64 p) (h:zbQ n p 1=true):
  CallOK prog 138 [.f (asl n ds), .f (ai p)] (fun r o=>r=[ri 0,ri 0,ri 2]∧o=[]):=by
 refine zbM zcV mixed (T:=Ty) func138 rfl results138 ntmps138 call138 call172 (ks:=[4,5,6]) rfl rfl rfl rfl rfl rfl (by decide) (by decide)
  (xs:=[asl n ds,ai p]) zlQ zkf ⟨(asl n ds::ai p::dq2 (.one (.ptr ⟨4,0,0⟩ 0):: .one (.ptr ⟨5,0,0⟩ 0):: .one (.ptr ⟨6,0,0⟩ 0)::zs6 [])),[(4,{next:=1,l:=[obq 0 [di 0],none]}),(5,{next:=1,l:=[obq 0 [di 0],none]}),(6,{next:=1,l:=[obq 0 [di 0],none]})]⟩ ?_ ?_ rfl ?_
 ·simp only[List.map_cons,List.map_nil]
  refine zL0 trivial ?_
  exact fun _ _ _ h=>h
 ·exact⟨⟨_,rfl,rfl,rfl,rfl,rfl⟩,⟨_,rfl,rfl,rfl,rfl,rfl⟩,⟨_,rfl,rfl,rfl,rfl,rfl⟩,trivial⟩
 ·have htk:=zjl n ds p 1 hl hn hp h
  refine zL0 trivial ?_
  refine zp (rdr n ds p) (htk) ?_
  simp only[za4,za5,za3,zbg]
  refine⟨⟨_,rfl⟩,rfl,⟨⟨_,rfl,rfl,rfl,rfl,rfl⟩,⟨_,rfl,rfl,rfl,rfl,rfl⟩,⟨_,rfl,rfl,rfl,rfl,rfl⟩,trivial⟩, ?_⟩
  rw[show zo2 20 [4,5,6] (nw3 (.int .i64 0) (zfE 206 2))=⟨(dq4 (.one (.ptr ⟨4,0,0⟩ 0):: .one (.ptr ⟨5,0,0⟩ 0):: .one (.ptr ⟨6,0,0⟩ 0)::zs6 [])),[(4,{next:=1,l:=[obq 0 [di 0]]}),(5,{next:=1,l:=[obq 0 [di 0]]}),(6,{next:=1,l:=[obq 0 [di 2]]})]⟩ from rfl]
  first|refine zs0 ?_|exact zt0
def ziS (l:List Int):Int:=l.foldl (fun u c=>u*256+c) 0
theorem zum {l:List Int} {c:Int}:ziS (l++[c])=ziS l*256+c:=by unfold ziS;rw[List.foldl_append];rfl
theorem zlP:∀{l:List Int} {a:Int},0≤a→(∀c∈l,zav c)→0≤l.foldl (fun u c=>u*256+c) a∧l.foldl (fun u c=>u*256+c) a<(a+1)*256^l.length
 |[],a,ha,_=>by simp;omega
 |c::l,a,ha,h=>by
  have h2:=h c (by simp)
  unfold zav at h2
  obtain⟨h3,h4⟩:=zlP (l:=l) (a:=a*256+c) (by omega) fun x hx=>h x (by simp[hx])
  refine⟨h3,Int.lt_of_lt_of_le h4 ?_⟩
  rw[List.length_cons,Int.pow_succ,Int.mul_comm (256^l.length) 256,←Int.mul_assoc]
  exact Int.mul_le_mul_of_nonneg_right (by omega) (Int.pow_nonneg (by decide))
theorem zir {l:List Int} (h:∀c∈l,zav c):0≤ziS l∧ziS l<256^l.length:=by
 have:=zlP (l:=l) (a:=0) (by decide) h
 rw[Int.zero_add,Int.one_mul]at this
 exact this
theorem zE3 {i:Nat} (h:i<8):(256:Int)^i≤72057594037927936:=by
 rcases(show i=0∨i=1∨i=2∨i=3∨i=4∨i=5∨i=6∨i=7 by omega)with rfl|rfl|rfl|rfl|rfl|rfl|rfl|rfl<;>decide
theorem zzO {n:Int} (h0:0≤n) (h1:n<18446744073709551616):IntKind.u64.wrap n=n:=by
 have e:IntKind.u64.wrap n=n % 18446744073709551616:=by
  unfold IntKind.wrap
  simp[IntKind.bits,IntKind.signed]
 rw[e]
 omega
theorem zBn {u c:Int} (hu:0≤u∧u<72057594037927936) (hc:0≤c∧c≤255):
  IntKind.u64.wrap (BitVec.ofInt IntKind.u64.bits (u*256)|||BitVec.ofInt IntKind.u64.bits c).toNat=u*256+c:=by
 obtain⟨a,rfl⟩:=Int.eq_ofNat_of_zero_le hu.1
 obtain⟨b,rfl⟩:=Int.eq_ofNat_of_zero_le hc.1
 have hb:IntKind.u64.bits=64:=rfl
 rw[hb]
 have e1:(BitVec.ofInt 64 ((a:Int)*256)|||BitVec.ofInt 64 (b:Int)).toNat=a*256+b:=by
  have h1:((a:Int)*256)=((a*256:Nat):Int):=by omega
  rw[h1,BitVec.ofInt_natCast,BitVec.ofInt_natCast,BitVec.toNat_or,BitVec.toNat_ofNat,BitVec.toNat_ofNat]
  rw[Nat.mod_eq_of_lt (by omega),Nat.mod_eq_of_lt (by omega)]
  have:=Nat.shiftLeft_add_eq_or_of_lt (i:=8) (b:=b) (by omega) a
  rw[Nat.shiftLeft_eq]at this
  exact this.symm
 rw[e1,zzO (by omega) (by omega)]
 omega
theorem zfs {l:List Int} {i:Nat} (hi:i<l.length) (h:∀c∈l,zav c):zav (l.getD i 0):=by
 rw[List.getD_eq_getElem?_getD,List.getElem?_eq_getElem hi];exact h _ (List.getElem_mem hi)
theorem zun {l:List Int} {i:Nat} (hi:i<l.length):ziS (l.take (i+1))=ziS (l.take i)*256+l.getD i 0:=by
 rw[List.take_succ_eq_append_getElem hi,zum,List.getD_eq_getElem?_getD,List.getElem?_eq_getElem hi];rfl
set_option maxHeartbeats 1000000 in
theorem zxa (n:Nat) (ds:List D) (p:Nat) (c:List Int) (hl:ds.length=n) (hn:n<2^62) (hp:p+8≤n) (hat:(ds.drop p).take 8=zad c) (hc8:c.length=8) (hc:∀x∈c,zav x):
  CallOK prog 139 [.f (asl n ds), .f (ai p)] (fun r o=>r=(if ziS c<4611686018427387904 then [ri (ziS c),ri ((p+8:Nat):Int),ri 0]else [ri 0,ri 0,ri 4])∧o=[]):=by
 refine zbM zcV mixed (T:=Ty) func139 rfl results139 ntmps139 call139 call174 (ks:=[4,5,6]) rfl rfl rfl rfl rfl rfl (by decide) (by decide)
  (xs:=[asl n ds,ai p]) zom zlR ⟨(asl n ds::ai p::dq2 (.one (.ptr ⟨4,0,0⟩ 0):: .one (.ptr ⟨5,0,0⟩ 0):: .one (.ptr ⟨6,0,0⟩ 0)::zwf [])),[(4,{next:=1,l:=[obq 0 [di 0],none]}),(5,{next:=1,l:=[obq 0 [di 0],none]}),(6,{next:=1,l:=[obq 0 [di 0],none]})]⟩ ?_ ?_ rfl ?_
 ·simp only[List.map_cons,List.map_nil]
  refine zL0 trivial ?_
  exact fun _ _ _ h=>h
 ·exact⟨⟨_,rfl,rfl,rfl,rfl,rfl⟩,⟨_,rfl,rfl,rfl,rfl,rfl⟩,⟨_,rfl,rfl,rfl,rfl,rfl⟩,trivial⟩
 ·have htk:=zr5 n ds p 8 hl hn hp
  rw[hat]at htk
  have hb1:=zir hc
  rw[hc8]at hb1
  refine zL0 trivial ?_
  refine zj (htk) ?_
  refine zL0 trivial ?_
  refine zjk Ty prog (τ:=Nat) (fun i=>⟨(dq4 (.one (.ptr ⟨4,0,0⟩ 0):: .one (.ptr ⟨5,0,0⟩ 0):: .one (.ptr ⟨6,0,0⟩ 0)::ptq 7:: .one (.d (.v (.int .u64 (ziS (c.take i)))))::dq6 (asl 8 (zad c)::ai 8::ai i::zy1 []))),[(4,{next:=1,l:=[obq 0 [di 0],none]}),(5,{next:=1,l:=[obq 0 [di 0],none]}),(6,{next:=1,l:=[obq 0 [di 0],none]}),(7,⟨2,[obq 1 [.d (.sl n ds),di ((p+8:Nat):Int)],none,none]⟩)]⟩)
   (fun i=>i≤8) (fun i=>8 - i) 0 (Gh.canon [4,5,6,7] [] [4,5,6] zK rfl rfl) (Nat.zero_le _) ?_
  intro i hi0 K hK
  refine zw ?_
  refine zaa (fun hlt=> ?_) (fun hge=> ?_)
  ·have hi:i<c.length:=by simp at hlt;omega
   have hat2:=zdQ hi
   have hw:=zai (i:=i) (n:=8) (by omega) (by omega)
   have hx:=zfs hi hc
   unfold zav at hx
   have hbi:=zir (l:=c.take i) fun x hx=>hc x (List.mem_of_mem_take hx)
   have hli:(c.take i).length=i:=by rw[List.length_take];omega
   rw[hli]at hbi
   have hp8:=zE3 (i:=i) (by omega)
   have w1:min (Int.toNat 8) IntKind.u64.bits=8:=by decide
   have w2:IntKind.u64.wrap (ziS (c.take i)*2^8)=ziS (c.take i)*256:=zzO (by omega) (by omega)
   have w3:IntKind.u64.wrap (c.getD i 0)=c.getD i 0:=zzO (by omega) (by omega)
   have w4:=zBn (u:=ziS (c.take i)) (c:=c.getD i 0) ⟨hbi.1,by omega⟩ ⟨hx.1,by omega⟩
   have w5:=zun hi
   have w6:¬((8:Int)<0):=by decide
   repeat'(first|(with_reducible first|refine zae _ _ ?_|refine zcm ?_|refine zcn ?_)|rw[zbP]|simp only[hat2,za8,hc8,w1,w2,w3,w4,if_neg w6,zY,Int.reduceEq,Int.reduceBEq,Int.reduceBNe,Nat.reduceSub,Nat.reduceEqDiff,Nat.reduceAdd,Nat.reduceMul,Nat.reduceLeDiff,Nat.reduceLT,Nat.reduceBEq,reduceCtorEq]|refine zbb ?_|refine zaa (fun hb=> ?_) (fun hb=> ?_)|(refine And.intro ?_ ?_;exact zI)|refine And.intro (fun hg=> ?_) (fun hg=> ?_)|exact zC|fail)
   exact hK _ (i+1) (Gh.canon [4,5,6,7] [] [4,5,6] (zk (I hw w5)) rfl rfl) (by omega) (by omega)
  ·have hi:i=8:=by
    have:¬(i:Int)<8:=by simpa using hge
    omega
   subst hi
   have ht:c.take 8=c:=List.take_of_length_le (by omega)
   have w7:IntKind.i64.wrap (ziS c)=ziS c∨¬ziS c<4611686018427387904:=by
    by_cases h:ziS c<4611686018427387904
    ·exact .inl (wrap64 (by omega) (by omega))
    ·exact .inr h
   by_cases hlt:ziS c<4611686018427387904
   ·have h1:decide (ziS c≥4611686018427387904)=false:=by simp;omega
    have w7:IntKind.i64.wrap (ziS c)=ziS c:=wrap64 (by omega) (by omega)
    repeat'(first|(with_reducible first|refine zae _ _ ?_|refine zcm ?_|refine zcn ?_)|rw[zbP]|simp only[ht,h1,w7,if_pos hlt,zgr,zY,Int.reduceEq,Int.reduceBEq,Int.reduceBNe,Nat.reduceSub,Nat.reduceEqDiff,Nat.reduceAdd,Nat.reduceMul,Nat.reduceLeDiff,Nat.reduceLT,Nat.reduceBEq,reduceCtorEq]|refine zbb ?_|refine zaa (fun hb=> ?_) (fun hb=> ?_)|(refine And.intro ?_ ?_;exact zI)|refine And.intro (fun hg=> ?_) (fun hg=> ?_)|exact zC|fail)
   ·have h1:decide (ziS c≥4611686018427387904)=true:=by simp;omega
    repeat'(first|(with_reducible first|refine zae _ _ ?_|refine zcm ?_|refine zcn ?_)|rw[zbP]|simp only[ht,h1,if_neg hlt,zY,Int.reduceEq,Int.reduceBEq,Int.reduceBNe,Nat.reduceSub,Nat.reduceEqDiff,Nat.reduceAdd,Nat.reduceMul,Nat.reduceLeDiff,Nat.reduceLT,Nat.reduceBEq,reduceCtorEq]|refine zbb ?_|refine zaa (fun hb=> ?_) (fun hb=> ?_)|(refine And.intro ?_ ?_;exact zI)|refine And.intro (fun hg=> ?_) (fun hg=> ?_)|exact zC|fail)
    simp only[za4,za5,za3,zbg]
    refine⟨⟨_,rfl⟩,rfl,⟨⟨_,rfl,rfl,rfl,rfl,rfl⟩,⟨_,rfl,rfl,rfl,rfl,rfl⟩,⟨_,rfl,rfl,rfl,rfl,rfl⟩,trivial⟩, ?_⟩
    rw[show zo2 35 [4,5,6] (nw3 (.int .i64 0) (zfE 206 4))=⟨(dq4 (.one (.ptr ⟨4,0,0⟩ 0):: .one (.ptr ⟨5,0,0⟩ 0):: .one (.ptr ⟨6,0,0⟩ 0)::zwf [])),[(4,{next:=1,l:=[obq 0 [di 0]]}),(5,{next:=1,l:=[obq 0 [di 0]]}),(6,{next:=1,l:=[obq 0 [di 4]]})]⟩ from rfl]
    first|refine zs0 ?_|exact zt0
theorem zzP (n:Nat) (ds:List D) (p:Int) (hl:ds.length=n) (hn:n<2^62) (hp:i64 p) (h:zbQ n p 8=true):
  CallOK prog 139 [.f (asl n ds), .f (ai p)] (fun r o=>r=[ri 0,ri 0,ri 2]∧o=[]):=by
 refine zbM zcV mixed (T:=Ty) func139 rfl results139 ntmps139 call139 call174 (ks:=[4,5,6]) rfl rfl rfl rfl rfl rfl (by decide) (by decide)
  (xs:=[asl n ds,ai p]) zom zlR ⟨(asl n ds::ai p::dq2 (.one (.ptr ⟨4,0,0⟩ 0):: .one (.ptr ⟨5,0,0⟩ 0):: .one (.ptr ⟨6,0,0⟩ 0)::zwf [])),[(4,{next:=1,l:=[obq 0 [di 0],none]}),(5,{next:=1,l:=[obq 0 [di 0],none]}),(6,{next:=1,l:=[obq 0 [di 0],none]})]⟩ ?_ ?_ rfl ?_
 ·simp only[List.map_cons,List.map_nil]
  refine zL0 trivial ?_
  exact fun _ _ _ h=>h
 ·exact⟨⟨_,rfl,rfl,rfl,rfl,rfl⟩,⟨_,rfl,rfl,rfl,rfl,rfl⟩,⟨_,rfl,rfl,rfl,rfl,rfl⟩,trivial⟩
 ·have htk:=zjl n ds p 8 hl hn hp h
  refine zL0 trivial ?_
  refine zp (rdr n ds p) (htk) ?_
  simp only[za4,za5,za3,zbg]
  refine⟨⟨_,rfl⟩,rfl,⟨⟨_,rfl,rfl,rfl,rfl,rfl⟩,⟨_,rfl,rfl,rfl,rfl,rfl⟩,⟨_,rfl,rfl,rfl,rfl,rfl⟩,trivial⟩, ?_⟩
  rw[show zo2 35 [4,5,6] (nw3 (.int .i64 0) (zfE 206 2))=⟨(dq4 (.one (.ptr ⟨4,0,0⟩ 0):: .one (.ptr ⟨5,0,0⟩ 0):: .one (.ptr ⟨6,0,0⟩ 0)::zwf [])),[(4,{next:=1,l:=[obq 0 [di 0]]}),(5,{next:=1,l:=[obq 0 [di 0]]}),(6,{next:=1,l:=[obq 0 [di 2]]})]⟩ from rfl]
  first|refine zs0 ?_|exact zt0
theorem zcN:∀l:List Int,bytesOf (zad l)=some (l.map fun n=>UInt8.ofNat n.toNat)
 |[]=>rfl
 |n::l=>by
  have:=zcN l
  simp only[zad,List.map_cons,bytesOf]at this⊢
  rw[this]
def strOf (c:List Int):ByteArray:=⟨(c.map fun n=>UInt8.ofNat n.toNat).toArray⟩
theorem zzQ (n:Nat) (ds:List D) (p x:Nat) (most:Int) (c:List Int) (rest:List D) (hl:ds.length=n) (hn:n<2^62) (hp:p+1+x≤n) (hat:ds.drop p= .v (.int .u8 (x:Int))::rest) (hx:x≤255) (hm:(x:Int)≤most)
  (hat2:(ds.drop (p+1)).take x=zad c) (hcx:c.length=x):CallOK prog 175 [.f (asl n ds), .f (ai p), .f (ai most)] (fun r o=>r=[.one (.d (sD (strOf c))),ri ((p+1+x:Nat):Int),ri 0]∧o=[]):=by
 refine zbM zcV mixed (T:=Ty) func175 rfl results175 ntmps175 call175 call198 (ks:=[6,7,8]) rfl rfl rfl rfl rfl rfl (by decide) (by decide)
  (xs:=[asl n ds,ai p,ai most]) zgD zft ⟨(asl n ds::ai p::ai most::dq3 (.one (.ptr ⟨6,0,0⟩ 0):: .one (.ptr ⟨7,0,0⟩ 0):: .one (.ptr ⟨8,0,0⟩ 0)::zpf [])),[(6,{next:=1,l:=[obq 0 [dS .empty],none]}),(7,{next:=1,l:=[obq 0 [di 0],none]}),(8,{next:=1,l:=[obq 0 [di 0],none]})]⟩ ?_ ?_ rfl ?_
 ·simp only[List.map_cons,List.map_nil]
  refine zL0 trivial ?_
  exact fun _ _ _ h=>h
 ·exact⟨⟨_,rfl,rfl,rfl,rfl,rfl⟩,⟨_,rfl,rfl,rfl,rfl,rfl⟩,⟨_,rfl,rfl,rfl,rfl,rfl⟩,trivial⟩
 ·have htk:=zr5 n ds p 1 hl hn (by omega)
  rw[hat]at htk
  have htk2:=zr5 n ds (p+1) x hl hn (by omega)
  rw[hat2]at htk2
  have hw:IntKind.i64.wrap (x:Int)=(x:Int):=wrap64 (by omega) (by omega)
  have h1:decide ((x:Int)>most)=false:=by simp;omega
  refine zL0 trivial ?_
  refine zj (htk) ?_
  refine zL0 (I hw h1) ?_
  refine zj (htk2) ?_
  refine zL0 (I @zcN (I @za8 (I hcx @zgr))) ?_
  rfl
theorem zuo (n:Nat) (ds:List D) (p x:Nat) (most:Int) (rest:List D) (hl:ds.length=n) (hn:n<2^62) (hp:p+1≤n) (hat:ds.drop p= .v (.int .u8 (x:Int))::rest) (hx:x≤255) (hm:¬(x:Int)≤most):
  CallOK prog 175 [.f (asl n ds), .f (ai p), .f (ai most)] (fun r o=>r=[.one (.d (sD .empty)),ri 0,ri 3]∧o=[]):=by
 refine zbM zcV mixed (T:=Ty) func175 rfl results175 ntmps175 call175 call198 (ks:=[6,7,8]) rfl rfl rfl rfl rfl rfl (by decide) (by decide)
  (xs:=[asl n ds,ai p,ai most]) zgD zft ⟨(asl n ds::ai p::ai most::dq3 (.one (.ptr ⟨6,0,0⟩ 0):: .one (.ptr ⟨7,0,0⟩ 0):: .one (.ptr ⟨8,0,0⟩ 0)::zpf [])),[(6,{next:=1,l:=[obq 0 [dS .empty],none]}),(7,{next:=1,l:=[obq 0 [di 0],none]}),(8,{next:=1,l:=[obq 0 [di 0],none]})]⟩ ?_ ?_ rfl ?_
 ·simp only[List.map_cons,List.map_nil]
  refine zL0 trivial ?_
  exact fun _ _ _ h=>h
 ·exact⟨⟨_,rfl,rfl,rfl,rfl,rfl⟩,⟨_,rfl,rfl,rfl,rfl,rfl⟩,⟨_,rfl,rfl,rfl,rfl,rfl⟩,trivial⟩
 ·have htk:=zr5 n ds p 1 hl hn (by omega)
  rw[hat]at htk
  have hw:IntKind.i64.wrap (x:Int)=(x:Int):=wrap64 (by omega) (by omega)
  have h1:decide ((x:Int)>most)=true:=by simp;omega
  refine zL0 trivial ?_
  refine zj (htk) ?_
  refine zL0 (I hw h1) ?_
  simp only[za4,za5,za3,zbg]
  refine⟨⟨_,rfl⟩,rfl,⟨⟨_,rfl,rfl,rfl,rfl,rfl⟩,⟨_,rfl,rfl,rfl,rfl,rfl⟩,⟨_,rfl,rfl,rfl,rfl,rfl⟩,trivial⟩, ?_⟩
  rw[show zo2 30 [6,7,8] (nwT (zfE 206 3))=⟨(dq6 (.one (.ptr ⟨6,0,0⟩ 0):: .one (.ptr ⟨7,0,0⟩ 0):: .one (.ptr ⟨8,0,0⟩ 0)::zpf [])),[(6,{next:=1,l:=[obq 0 [dS .empty]]}),(7,{next:=1,l:=[obq 0 [di 0]]}),(8,{next:=1,l:=[obq 0 [di 3]]})]⟩ from rfl]
  first|refine zs0 ?_|exact zt0
theorem zxb (n:Nat) (ds:List D) (p most:Int) (hl:ds.length=n) (hn:n<2^62) (hp:i64 p) (h:zbQ n p 1=true):
  CallOK prog 175 [.f (asl n ds), .f (ai p), .f (ai most)] (fun r o=>r=[.one (.d (sD .empty)),ri 0,ri 2]∧o=[]):=by
 refine zbM zcV mixed (T:=Ty) func175 rfl results175 ntmps175 call175 call198 (ks:=[6,7,8]) rfl rfl rfl rfl rfl rfl (by decide) (by decide)
  (xs:=[asl n ds,ai p,ai most]) zgD zft ⟨(asl n ds::ai p::ai most::dq3 (.one (.ptr ⟨6,0,0⟩ 0):: .one (.ptr ⟨7,0,0⟩ 0):: .one (.ptr ⟨8,0,0⟩ 0)::zpf [])),[(6,{next:=1,l:=[obq 0 [dS .empty],none]}),(7,{next:=1,l:=[obq 0 [di 0],none]}),(8,{next:=1,l:=[obq 0 [di 0],none]})]⟩ ?_ ?_ rfl ?_
 ·simp only[List.map_cons,List.map_nil]
  refine zL0 trivial ?_
  exact fun _ _ _ h=>h
 ·exact⟨⟨_,rfl,rfl,rfl,rfl,rfl⟩,⟨_,rfl,rfl,rfl,rfl,rfl⟩,⟨_,rfl,rfl,rfl,rfl,rfl⟩,trivial⟩
 ·have htk:=zjl n ds p 1 hl hn hp h
  refine zL0 trivial ?_
  refine zp (rdr n ds p) (htk) ?_
  simp only[za4,za5,za3,zbg]
  refine⟨⟨_,rfl⟩,rfl,⟨⟨_,rfl,rfl,rfl,rfl,rfl⟩,⟨_,rfl,rfl,rfl,rfl,rfl⟩,⟨_,rfl,rfl,rfl,rfl,rfl⟩,trivial⟩, ?_⟩
  rw[show zo2 30 [6,7,8] (nwT (zfE 206 2))=⟨(dq6 (.one (.ptr ⟨6,0,0⟩ 0):: .one (.ptr ⟨7,0,0⟩ 0):: .one (.ptr ⟨8,0,0⟩ 0)::zpf [])),[(6,{next:=1,l:=[obq 0 [dS .empty]]}),(7,{next:=1,l:=[obq 0 [di 0]]}),(8,{next:=1,l:=[obq 0 [di 2]]})]⟩ from rfl]
  first|refine zs0 ?_|exact zt0
theorem zr4 (n:Nat) (ds:List D) (p x:Nat) (most:Int) (rest:List D) (hl:ds.length=n) (hn:n<2^62) (hp:p+1≤n) (hat:ds.drop p= .v (.int .u8 (x:Int))::rest) (hx:x≤255) (hm:(x:Int)≤most)
  (hs:zbQ n ((p+1:Nat):Int) x=true):CallOK prog 175 [.f (asl n ds), .f (ai p), .f (ai most)] (fun r o=>r=[.one (.d (sD .empty)),ri 0,ri 2]∧o=[]):=by
 refine zbM zcV mixed (T:=Ty) func175 rfl results175 ntmps175 call175 call198 (ks:=[6,7,8]) rfl rfl rfl rfl rfl rfl (by decide) (by decide)
  (xs:=[asl n ds,ai p,ai most]) zgD zft ⟨(asl n ds::ai p::ai most::dq3 (.one (.ptr ⟨6,0,0⟩ 0):: .one (.ptr ⟨7,0,0⟩ 0):: .one (.ptr ⟨8,0,0⟩ 0)::zpf [])),[(6,{next:=1,l:=[obq 0 [dS .empty],none]}),(7,{next:=1,l:=[obq 0 [di 0],none]}),(8,{next:=1,l:=[obq 0 [di 0],none]})]⟩ ?_ ?_ rfl ?_
 ·simp only[List.map_cons,List.map_nil]
  refine zL0 trivial ?_
  exact fun _ _ _ h=>h
 ·exact⟨⟨_,rfl,rfl,rfl,rfl,rfl⟩,⟨_,rfl,rfl,rfl,rfl,rfl⟩,⟨_,rfl,rfl,rfl,rfl,rfl⟩,trivial⟩
 ·have htk:=zr5 n ds p 1 hl hn (by omega)
  rw[hat]at htk
  have htk2:=zjl n ds ((p+1:Nat):Int) x hl hn (by unfold i64;omega) hs
  have hw:IntKind.i64.wrap (x:Int)=(x:Int):=wrap64 (by omega) (by omega)
  have h1:decide ((x:Int)>most)=false:=by simp;omega
  refine zL0 trivial ?_
  refine zj (htk) ?_
  refine zL0 (I hw h1) ?_
  refine zp (rdr n ds p) (htk2) ?_
  simp only[za4,za5,za3,zbg]
  refine⟨⟨_,rfl⟩,rfl,⟨⟨_,rfl,rfl,rfl,rfl,rfl⟩,⟨_,rfl,rfl,rfl,rfl,rfl⟩,⟨_,rfl,rfl,rfl,rfl,rfl⟩,trivial⟩, ?_⟩
  rw[show zo2 30 [6,7,8] (nwT (zfE 206 2))=⟨(dq6 (.one (.ptr ⟨6,0,0⟩ 0):: .one (.ptr ⟨7,0,0⟩ 0):: .one (.ptr ⟨8,0,0⟩ 0)::zpf [])),[(6,{next:=1,l:=[obq 0 [dS .empty]]}),(7,{next:=1,l:=[obq 0 [di 0]]}),(8,{next:=1,l:=[obq 0 [di 2]]})]⟩ from rfl]
  first|refine zs0 ?_|exact zt0
def zbf (bs:List Int) (p:Int):Int×Int×Int:=if zbQ bs.length p 1=true then(0,0,2)else(bs.getD p.toNat 0,p+1,0)
def zfj (bs:List Int) (p:Int):Int×Int×Int:=
 if zbQ bs.length p 8=true then(0,0,2)else if ziS ((bs.drop p.toNat).take 8)<4611686018427387904 then(ziS ((bs.drop p.toNat).take 8),p+8,0)else(0,0,4)
def zcq (bs:List Int) (p most:Int):ByteArray×Int×Int:=
 if zbQ bs.length p 1=true then(.empty,0,2)else if¬bs.getD p.toNat 0≤most then(.empty,0,3)else
 if zbQ bs.length (p+1) (bs.getD p.toNat 0)=true then(.empty,0,2)else(strOf ((bs.drop (p.toNat+1)).take (bs.getD p.toNat 0).toNat),p+1+bs.getD p.toNat 0,0)
theorem zcM {n:Nat} {p k:Int} (h:zbQ n p k=false):0≤p∧p≤n∧k≤n - p:=by
 unfold zbQ at h
 simp at h
 omega
structure BsOk (bs:List Int):Prop where
 l:bs.length<2^60
 b:∀x∈bs,zav x
theorem zdL (bs:List Int) (p:Int) (h:BsOk bs) (hp:i64 p):CallOK prog 138 [.f (asl bs.length (zad bs)), .f (ai p)] (fun r o=>r=[ri (zbf bs p).1,ri (zbf bs p).2.1,ri (zbf bs p).2.2]∧o=[]):=by
 have hl:=h.l
 cases hs:zbQ bs.length p 1
 ·obtain⟨h1,h2,h3⟩:=zcM hs
  obtain⟨q,rfl⟩:=Int.eq_ofNat_of_zero_le h1
  have hq:q<bs.length:=by omega
  have hb:=zfs hq h.b
  unfold zav at hb
  rw[zbf,if_neg (by rw[hs];simp)]
  have:=zzN bs.length (zad bs) q (bs.getD q 0) _ za8 (by omega) hq (zdQ hq) ⟨hb.1,by omega⟩
  simpa using this
 ·rw[zbf,if_pos hs]
  exact zw9 bs.length (zad bs) p za8 (by omega) hp hs
theorem zfr (bs:List Int) (p:Int) (h:BsOk bs) (hp:i64 p):CallOK prog 139 [.f (asl bs.length (zad bs)), .f (ai p)] (fun r o=>r=[ri (zfj bs p).1,ri (zfj bs p).2.1,ri (zfj bs p).2.2]∧o=[]):=by
 have hl:=h.l
 cases hs:zbQ bs.length p 8
 ·obtain⟨h1,h2,h3⟩:=zcM hs
  obtain⟨q,rfl⟩:=Int.eq_ofNat_of_zero_le h1
  rw[zfj,if_neg (by rw[hs];simp)]
  have:=zxa bs.length (zad bs) q ((bs.drop q).take 8) za8 (by omega) (by omega) (by rw[←List.map_drop,←List.map_take]) (by rw[List.length_take,List.length_drop];omega) (fun x hx=>h.b x (List.mem_of_mem_drop (List.mem_of_mem_take hx)))
  simp only[Int.toNat_natCast]
  split
  ·rename_i hv
   rw[if_pos hv]at this
   exact this
  ·rename_i hv
   rw[if_neg hv]at this
   exact this
 ·rw[zfj,if_pos hs]
  exact zzP bs.length (zad bs) p za8 (by omega) hp hs
theorem zhS (bs:List Int) (p most:Int) (h:BsOk bs) (hp:i64 p):CallOK prog 175 [.f (asl bs.length (zad bs)), .f (ai p), .f (ai most)] (fun r o=>r=[.one (.d (sD (zcq bs p most).1)),ri (zcq bs p most).2.1,ri (zcq bs p most).2.2]∧o=[]):=by
 have hl:=h.l
 cases hs:zbQ bs.length p 1
 ·obtain⟨h1,h2,h3⟩:=zcM hs
  obtain⟨q,rfl⟩:=Int.eq_ofNat_of_zero_le h1
  have hq:q<bs.length:=by omega
  have hb:=zfs hq h.b
  unfold zav at hb
  obtain⟨x,hx⟩:=Int.eq_ofNat_of_zero_le hb.1
  have hat:=zdQ hq
  rw[hx]at hat
  rw[zcq,if_neg (by rw[hs];simp)]
  simp only[Int.toNat_natCast,hx]
  by_cases hm:(x:Int)≤most
  ·rw[if_neg (by simpa using hm)]
   cases hs2:zbQ bs.length ((q:Int)+1) (x:Int)
   ·obtain⟨h4,h5,h6⟩:=zcM hs2
    rw[if_neg (by simp)]
    have:=zzQ bs.length (zad bs) q x most ((bs.drop (q+1)).take x) _ za8 (by omega) (by omega) hat (by omega) hm (by rw[←List.map_drop,←List.map_take]) (by rw[List.length_take,List.length_drop];omega)
    simpa using this
   ·rw[if_pos rfl]
    exact zr4 bs.length (zad bs) q x most _ za8 (by omega) (by omega) hat (by omega) hm (by simpa using hs2)
  ·rw[if_pos (by simpa using hm)]
   exact zuo bs.length (zad bs) q x most _ za8 (by omega) (by omega) hat (by omega) hm
 ·rw[zcq,if_pos hs]
  exact zxb bs.length (zad bs) p most za8 (by omega) hp hs
theorem zeg {bs:List Int} {p:Int}:0≤(zbf bs p).2.1∧(zbf bs p).2.1≤bs.length:=by
 unfold zbf
 cases hs:zbQ bs.length p 1
 ·obtain⟨h1,h2,h3⟩:=zcM hs
  rw[if_neg (by simp)];simp only;omega
 ·rw[if_pos rfl];simp only;omega
theorem zgc {bs:List Int} {p:Int}:0≤(zfj bs p).2.1∧(zfj bs p).2.1≤bs.length:=by
 unfold zfj
 cases hs:zbQ bs.length p 8
 ·obtain⟨h1,h2,h3⟩:=zcM hs
  rw[if_neg (by simp)]
  split
  ·simp only;omega
  ·simp only;omega
 ·rw[if_pos rfl];simp only;omega
theorem zlO {bs:List Int} {p most:Int} (h:BsOk bs):0≤(zcq bs p most).2.1∧(zcq bs p most).2.1≤bs.length:=by
 unfold zcq
 cases hs:zbQ bs.length p 1
 ·obtain⟨h1,h2,h3⟩:=zcM hs
  rw[if_neg (by simp)]
  have hb:=zfs (i:=p.toNat) (by omega) h.b
  unfold zav at hb
  split
  ·simp only;omega
  ·cases hs2:zbQ bs.length (p+1) (bs.getD p.toNat 0)
   ·obtain⟨h4,h5,h6⟩:=zcM hs2
    rw[if_neg (by simp)];simp only;omega
   ·rw[if_pos rfl];simp only;omega
 ·rw[if_pos rfl];simp only;omega
def zbe (bs:List Int):Nat→Int→List Grant→List Grant×Int×Int
 |0,p,acc=>(acc,p,0)
 |k+1,p,acc=>
  if(zcq bs p 12).2.2≠0 then([],0,(zcq bs p 12).2.2)else
  if(zfj bs (zcq bs p 12).2.1).2.2≠0 then([],0,(zfj bs (zcq bs p 12).2.1).2.2)else
  zbe bs k (zfj bs (zcq bs p 12).2.1).2.1 (acc++[⟨(zcq bs p 12).1,(zfj bs (zcq bs p 12).2.1).1⟩])
abbrev zB9 (l:List Grant):RF:= .one (.own 2 l.length (zaK l) false)
theorem zfD {n:Nat} (hn:n<2^60) {p:Int} (h:0≤p∧p≤n):i64 p:=by unfold i64;omega
set_option maxHeartbeats 1000000 in
theorem zul (bs:List Int) (p:Int) (n:Nat) (h:BsOk bs) (hp:i64 p) (hn:n<2^20):
  CallOK prog 176 [.f (asl bs.length (zad bs)), .f (ai p), .f (ai n)] (fun r o=>r=[zB9 (zbe bs n p []).1,ri (zbe bs n p []).2.1,ri (zbe bs n p []).2.2]∧o=[]):=by
 refine CallOK.nil ?_
 refine zh func176 results176 ntmps176 call176 ?_
 simp only[f176,Option.getD]
 refine zL0 trivial ?_
 refine zaf (τ:=Nat×Int×List Grant) (fun t=>⟨(asl bs.length (zad bs)::ai t.2.1::dq7 (.one (.own ⟨9,1,1⟩ 0 t.2.2.length)::dq2 (ai n::ai t.1::zAT []))),[(9,⟨2,[none,roq 1 2 (zaK t.2.2)]⟩),(6,⟨2,[]⟩),(10,⟨2,[]⟩),(40,⟨2,[]⟩),(41,⟨2,[]⟩)]⟩)
  (fun t=>t.1≤n∧i64 t.2.1∧t.2.2.length=t.1) (fun t=>zbe bs (n - t.1) t.2.1 t.2.2) (fun t=>n - t.1) (0,p,[])
  ((Gh.nil (i:=9) (s:=9) (sz:=2) rfl).trans (Gh.canon [9] [6,10,40,41] [] zK rfl rfl)) ⟨Nat.zero_le _,hp,rfl⟩ ?_
 intro⟨i,q,acc⟩ ⟨hi0,hq,ha⟩ hF K hK
 simp only[Nat.sub_zero]at hi0 hq ha hF hK⊢
 refine zw ?_
 refine zaa (fun hlt=> ?_) (fun hge=> ?_)
 ·have hi:i<n:=by simpa using hlt
  have hw:=zai hi (by omega)
  have ht:=zhS bs q 12 h hq
  have hm:=zfr bs (zcq bs q 12).2.1 h (zfD h.l (zlO h))
  have hst:n - i=(n - (i+1))+1:=by omega
  rw[hst,zbe]at hF
  have hle:(acc.length+1≤2^47)=True:=eq_true (by omega)
  cases e1:((zcq bs q 12).2.2 !=0)
  ·have e1':(zcq bs q 12).2.2=0:=by simpa using e1
   rw[if_neg (by simp[e1'])]at hF
   cases e2:((zfj bs (zcq bs q 12).2.1).2.2 !=0)
   ·have e2':(zfj bs (zcq bs q 12).2.1).2.2=0:=by simpa using e2
    rw[if_neg (by simp[e2'])]at hF
    refine zL (I e1 (I e2 hle)) (I (ht) (hm)) ?_
    refine hK _ (i+1,(zfj bs (zcq bs q 12).2.1).2.1,acc++[⟨(zcq bs q 12).1,(zfj bs (zcq bs q 12).2.1).1⟩]) (Gh.canon [9] [] [] (zk (I hw (I @List.length_append.{0} @List.length_singleton.{0}))) rfl (by simp only[List.length_append,List.length_singleton];rw[zfM];rfl)) ⟨hi,zfD h.l zgc,by simp only[List.length_append,List.length_singleton];omega⟩ ?_ (by simp only;omega)
    simp only
    rw[hst,zbe,if_neg (by simp[e1']),if_neg (by simp[e2'])]
   ·have e2':(zfj bs (zcq bs q 12).2.1).2.2≠0:=by simpa using e2
    rw[if_pos e2']at hF
    rw[←hF]
    refine zL (I e1 e2) (I (ht) (hm)) ?_
    show zaA _ _∧zaA _ _∧zaA _ _∧True
    simp[zaA]
  ·have e1':(zcq bs q 12).2.2≠0:=by simpa using e1
   rw[if_pos e1']at hF
   rw[←hF]
   refine zL e1 (I (ht) (hm)) ?_
   show zaA _ _∧zaA _ _∧zaA _ _∧True
   simp[zaA]
 ·have hi:i=n:=by
   have:¬(i:Int)<n:=by simpa using hge
   omega
  rw[hi,Nat.sub_self,zbe]at hF
  rw[←hF]
  refine zL0 trivial ?_
  show zaA _ _∧zaA _ _∧zaA _ _∧True
  simp[zaA]
abbrev zui:Reply:=⟨0,0,0,[]⟩
def zdp (bs:List Int) (p:Int):Reply×Int×Int:=
 if(zbf bs p).2.2≠0 then(zui,0,(zbf bs p).2.2)else
 let s:=zfj bs (zbf bs p).2.1
 if s.2.2≠0 then(zui,0,s.2.2)else
 let a:=zbf bs s.2.1
 if a.2.2≠0 then(zui,0,a.2.2)else
 let n:=zbf bs a.2.1
 if n.2.2≠0 then(zui,0,n.2.2)else
 if n.1>4 then(zui,0,4)else
 let g:=zbe bs n.1.toNat n.2.1 []
 if g.2.2≠0 then(zui,0,g.2.2)else
 if zbR ⟨(zbf bs p).1,s.1,a.1,g.1⟩=false then(zui,0,4)else(⟨(zbf bs p).1,s.1,a.1,g.1⟩,g.2.1,0)
theorem zkc {bs:List Int} (h:BsOk bs) {p:Int}:zav (zbf bs p).1:=by
 unfold zbf
 cases hs:zbQ bs.length p 1
 ·obtain⟨h1,h2,h3⟩:=zcM hs
  rw[if_neg (by simp)]
  exact zfs (by omega) h.b
 ·rw[if_pos rfl];exact⟨by decide,by decide⟩
theorem zlN {bs:List Int} {p most:Int}:(zcq bs p most).1.size≤bs.length:=by
 unfold zcq
 split
 ·simp
 ·split
  ·simp
  ·split
   ·simp
   ·simp only[strOf,ByteArray.size,List.size_toArray,List.length_map,List.length_take,List.length_drop]
    omega
theorem ziq {bs:List Int}:∀{n:Nat} {p:Int} {acc:List Grant},(∀g∈acc,g.name.size≤bs.length)→(zbe bs n p acc).1.length≤acc.length+n∧∀g∈(zbe bs n p acc).1,g.name.size≤bs.length
 |0,p,acc,h=>⟨Nat.le_refl _,h⟩
 |n+1,p,acc,h=>by
  rw[zbe]
  split
  ·exact⟨Nat.zero_le _,by simp⟩
  ·split
   ·exact⟨Nat.zero_le _,by simp⟩
   ·have:=ziq (bs:=bs) (n:=n) (p:=(zfj bs (zcq bs p 12).2.1).2.1) (acc:=acc++[⟨(zcq bs p 12).1,(zfj bs (zcq bs p 12).2.1).1⟩]) (fun g hg=>by
     rcases List.mem_append.1 hg with hg|hg
     ·exact h g hg
     ·simp at hg;subst hg;exact zlN)
    rw[List.length_append,List.length_singleton]at this
    exact⟨by omega,this.2⟩
set_option maxHeartbeats 1000000 in
theorem zpC (bs:List Int) (p:Int) (h:BsOk bs) (hp:i64 p):
  CallOK prog 141 [.f (asl bs.length (zad bs)), .f (ai p)] (fun r o=>r=[zu4 (zdp bs p).1,ri (zdp bs p).2.1,ri (zdp bs p).2.2]∧o=[]):=by
 refine CallOK.nil ?_
 refine zh func141 results141 ntmps141 call141 ?_
 simp only[f141,Option.getD]
 have hl:=h.l
 have h1:=zdL bs p h hp
 have h2:=zfr bs (zbf bs p).2.1 h (zfD h.l zeg)
 have h3:=zdL bs (zfj bs (zbf bs p).2.1).2.1 h (zfD h.l zgc)
 have h4:=zdL bs (zbf bs (zfj bs (zbf bs p).2.1).2.1).2.1 h (zfD h.l zeg)
 unfold zdp
 simp only
 obtain⟨b,hb⟩:∃b,b=zbf bs p:=⟨_,rfl⟩
 rw[←hb]at h1 h2 h3 h4⊢
 obtain⟨s,hs⟩:∃s,s=zfj bs b.2.1:=⟨_,rfl⟩
 rw[←hs]at h2 h3 h4⊢
 obtain⟨a,ha⟩:∃a,a=zbf bs s.2.1:=⟨_,rfl⟩
 rw[←ha]at h3 h4⊢
 obtain⟨n,hn⟩:∃n,n=zbf bs a.2.1:=⟨_,rfl⟩
 rw[←hn]at h4⊢
 have hnv:zav n.1:=by rw[hn];exact zkc h
 have hnn:i64 n.2.1:=by rw[hn];exact zfD h.l zeg
 have hbv:zav b.1:=by rw[hb];exact zkc h
 unfold zav at hnv hbv
 have h5:=zul bs n.2.1 n.1.toNat h hnn (by omega)
 rw[Int.toNat_of_nonneg hnv.1]at h5
 have hgk:=ziq (bs:=bs) (n:=n.1.toNat) (p:=n.2.1) (acc:=[]) (by simp)
 obtain⟨g,hg⟩:∃g,g=zbe bs n.1.toNat n.2.1 []:=⟨_,rfl⟩
 rw[←hg]at h5 hgk⊢
 have h6:=zhh ⟨b.1,s.1,a.1,g.1⟩ ⟨by have:=hgk.1;simp only[List.length_nil]at this;simp only;omega,fun x hx=>by have:=hgk.2 x hx;omega⟩
 clear hgk
 cases e1:(b.2.2 !=0)
 ·rw[if_neg (by simpa using e1)]
  cases e2:(s.2.2 !=0)
  ·rw[if_neg (by simpa using e2)]
   cases e3:(a.2.2 !=0)
   ·rw[if_neg (by simpa using e3)]
    cases e4:(n.2.2 !=0)
    ·rw[if_neg (by simpa using e4)]
     cases e5:decide (n.1>4)
     ·rw[if_neg (by simpa using e5)]
      cases e6:(g.2.2 !=0)
      ·rw[if_neg (by simpa using e6)]
       cases e7:zbR ⟨b.1,s.1,a.1,g.1⟩
       ·rw[e7]at h6
        rw[if_pos rfl]
        refine zL (I e1 (I e2 (I e3 (I e4 (I e5 e6))))) (I (h1) (I (h2) (I (h3) (I (h4) (I (h5) (h6)))))) ?_
        show(zaA _ _∧zaA _ _∧zaA _ _∧zaA _ _∧True)∧zaA _ _∧zaA _ _∧True
        simp[zaA, -List.length_flatMap,zas]
       ·rw[e7]at h6
        rw[if_neg (by simp)]
        refine zL (I e1 (I e2 (I e3 (I e4 (I e5 e6))))) (I (h1) (I (h2) (I (h3) (I (h4) (I (h5) (h6)))))) ?_
        show(zaA _ _∧zaA _ _∧zaA _ _∧zaA _ _∧True)∧zaA _ _∧zaA _ _∧True
        simp[zaA, -List.length_flatMap,zas]
      ·rw[if_pos (by simpa using e6)]
       refine zL (I e1 (I e2 (I e3 (I e4 (I e5 e6))))) (I (h1) (I (h2) (I (h3) (I (h4) (h5))))) ?_
       show(zaA _ _∧zaA _ _∧zaA _ _∧zaA _ _∧True)∧zaA _ _∧zaA _ _∧True
       simp[zaA, -List.length_flatMap,zas]
     ·rw[if_pos (by simpa using e5)]
      refine zL (I e1 (I e2 (I e3 (I e4 e5)))) (I (h1) (I (h2) (I (h3) (h4)))) ?_
      show(zaA _ _∧zaA _ _∧zaA _ _∧zaA _ _∧True)∧zaA _ _∧zaA _ _∧True
      simp[zaA, -List.length_flatMap,zas]
    ·rw[if_pos (by simpa using e4)]
     refine zL (I e1 (I e2 (I e3 e4))) (I (h1) (I (h2) (I (h3) (h4)))) ?_
     show(zaA _ _∧zaA _ _∧zaA _ _∧zaA _ _∧True)∧zaA _ _∧zaA _ _∧True
     simp[zaA, -List.length_flatMap,zas]
   ·rw[if_pos (by simpa using e3)]
    refine zL (I e1 (I e2 e3)) (I (h1) (I (h2) (h3))) ?_
    show(zaA _ _∧zaA _ _∧zaA _ _∧zaA _ _∧True)∧zaA _ _∧zaA _ _∧True
    simp[zaA, -List.length_flatMap,zas]
  ·rw[if_pos (by simpa using e2)]
   refine zL (I e1 e2) (I (h1) (h2)) ?_
   show(zaA _ _∧zaA _ _∧zaA _ _∧zaA _ _∧True)∧zaA _ _∧zaA _ _∧True
   simp[zaA, -List.length_flatMap,zas]
 ·rw[if_pos (by simpa using e1)]
  refine zL e1 (h1) ?_
  show(zaA _ _∧zaA _ _∧zaA _ _∧zaA _ _∧True)∧zaA _ _∧zaA _ _∧True
  simp[zaA, -List.length_flatMap,zas]
abbrev zuj:Memo:=⟨0,0,zui⟩
def zfq (bs:List Int) (p:Int):Memo×Int×Int:=
 if(zbf bs p).2.2≠0 then(zuj,0,(zbf bs p).2.2)else
 let s:=zfj bs (zbf bs p).2.1
 if s.2.2≠0 then(zuj,0,s.2.2)else
 let r:=zdp bs s.2.1
 if r.2.2≠0 then(zuj,0,r.2.2)else
 if answerB ⟨(zbf bs p).1,s.1,r.1⟩=false then(zuj,0,4)else(⟨(zbf bs p).1,s.1,r.1⟩,r.2.1,0)
abbrev zuk (m:Memo):RF:= .agg (m.enc.map RO.d)
theorem ziQ {bs:List Int}:∀{n:Nat} {p:Int} {acc:List Grant},0≤p∧p≤bs.length→0≤(zbe bs n p acc).2.1∧(zbe bs n p acc).2.1≤bs.length
 |0,p,acc,h=>h
 |n+1,p,acc,h=>by
  rw[zbe]
  split
  ·simp only;omega
  ·split
   ·simp only;omega
   ·exact ziQ zgc
theorem ziR {bs:List Int} (h:BsOk bs) {p:Int}:(0≤(zdp bs p).2.1∧(zdp bs p).2.1≤bs.length)∧zcu (zdp bs p).1:=by
 have hl:=h.l
 have h0:(0≤((zui,(0:Int),(0:Int)):Reply×Int×Int).2.1∧((zui,(0:Int),(0:Int)):Reply×Int×Int).2.1≤bs.length)∧zcu zui:=⟨by simp only;omega,by simp,by simp⟩
 unfold zdp
 simp only
 split
 ·exact h0
 split
 ·exact h0
 split
 ·exact h0
 split
 ·exact h0
 split
 ·exact h0
 rename_i h5
 split
 ·exact h0
 split
 ·exact h0
 ·have hgk:=ziq (bs:=bs) (n:=(zbf bs (zbf bs (zfj bs (zbf bs p).2.1).2.1).2.1).1.toNat) (p:=(zbf bs (zbf bs (zfj bs (zbf bs p).2.1).2.1).2.1).2.1) (acc:=[]) (by simp)
  simp only[List.length_nil]at hgk
  exact⟨ziQ zeg,by simp only;omega,fun g hg=>by have:=hgk.2 g hg;omega⟩
set_option maxHeartbeats 1000000 in
theorem zgb (bs:List Int) (p:Int) (h:BsOk bs) (hp:i64 p):
  CallOK prog 91 [.f (asl bs.length (zad bs)), .f (ai p)] (fun r o=>r=[zuk (zfq bs p).1,ri (zfq bs p).2.1,ri (zfq bs p).2.2]∧o=[]):=by
 refine CallOK.nil ?_
 refine zh func91 results91 ntmps91 call91 ?_
 simp only[f91,Option.getD]
 have h1:=zdL bs p h hp
 have h2:=zfr bs (zbf bs p).2.1 h (zfD h.l zeg)
 have h3:=zpC bs (zfj bs (zbf bs p).2.1).2.1 h (zfD h.l zgc)
 have hf:=(ziR h (p:=(zfj bs (zbf bs p).2.1).2.1)).2
 unfold zfq
 simp only
 obtain⟨b,hb⟩:∃b,b=zbf bs p:=⟨_,rfl⟩
 rw[←hb]at h1 h2 h3 hf⊢
 obtain⟨s,hs⟩:∃s,s=zfj bs b.2.1:=⟨_,rfl⟩
 rw[←hs]at h2 h3 hf⊢
 obtain⟨a,ha⟩:∃a,a=zdp bs s.2.1:=⟨_,rfl⟩
 rw[←ha]at h3 hf⊢
 have h4:=zeQ ⟨b.1,s.1,a.1⟩ hf
 cases e1:(b.2.2 !=0)
 ·rw[if_neg (by simpa using e1)]
  cases e2:(s.2.2 !=0)
  ·rw[if_neg (by simpa using e2)]
   cases e3:(a.2.2 !=0)
   ·rw[if_neg (by simpa using e3)]
    cases e7:answerB ⟨b.1,s.1,a.1⟩
    ·rw[e7]at h4
     rw[if_pos rfl]
     refine zL (I e1 (I e2 e3)) (I (h1) (I (h2) (I (h3) (h4)))) ?_
     show(zaA _ _∧zaA _ _∧zaA _ _∧zaA _ _∧zaA _ _∧zaA _ _∧True)∧zaA _ _∧zaA _ _∧True
     simp[zaA]
    ·rw[e7]at h4
     rw[if_neg (by simp)]
     refine zL (I e1 (I e2 e3)) (I (h1) (I (h2) (I (h3) (h4)))) ?_
     show(zaA _ _∧zaA _ _∧zaA _ _∧zaA _ _∧zaA _ _∧zaA _ _∧True)∧zaA _ _∧zaA _ _∧True
     simp[zaA]
   ·rw[if_pos (by simpa using e3)]
    refine zL (I e1 (I e2 e3)) (I (h1) (I (h2) (h3))) ?_
    show(zaA _ _∧zaA _ _∧zaA _ _∧zaA _ _∧zaA _ _∧zaA _ _∧True)∧zaA _ _∧zaA _ _∧True
    simp[zaA]
  ·rw[if_pos (by simpa using e2)]
   refine zL (I e1 e2) (I (h1) (h2)) ?_
   show(zaA _ _∧zaA _ _∧zaA _ _∧zaA _ _∧zaA _ _∧zaA _ _∧True)∧zaA _ _∧zaA _ _∧True
   simp[zaA]
 ·rw[if_pos (by simpa using e1)]
  refine zL e1 (h1) ?_
  show(zaA _ _∧zaA _ _∧zaA _ _∧zaA _ _∧zaA _ _∧zaA _ _∧True)∧zaA _ _∧zaA _ _∧True
  simp[zaA]
def zdZ (s:ByteArray):List Int:=(s.size:Int)::s.data.toList.map fun b=>(b.toNat:Int)
theorem zpz (s:ByteArray):zi2 s=zad (zdZ s):=by simp[zi2,zdZ,zad,zBp]
theorem zcj (s:ByteArray):(zdZ s).length=1+s.size:=by simp[zdZ,zjm,Nat.add_comm]
def zlK (g:Grant):List Int:=zdZ g.name++zbz g.token
def zbU (l:List Grant):List Int:=l.flatMap zlK
def zcx (r:Reply):List Int:=[r.code]++(zbz r.session++([r.ahead,(r.held.length:Int)]++zbU r.held))
def zbd (m:Memo):List Int:=[m.client]++(zbz m.seq++zcx m.reply)
theorem zaY (n:Int):(zbz n).length=8:=rfl
theorem zr0 (g:Grant):(zlK g).length=9+g.name.size:=by simp[zlK,zcj,zaY];omega
theorem zha:∀{l:List Grant} {k:Nat},(∀g∈l,g.name.size≤k)→(zbU l).length≤l.length*(9+k)
 |[],k,_=>by simp[zbU]
 |g::l,k,h=>by
  have h1:=zha (l:=l) (k:=k) fun x hx=>h x (by simp[hx])
  have h2:=h g (by simp)
  rw[zbU,List.flatMap_cons,List.length_append,List.length_cons,zr0,Nat.add_mul]
  unfold zbU at h1
  omega
theorem zzM (b:UInt8):zav (b.toNat:Int):=⟨by omega,by have:=b.toNat_lt;omega⟩
theorem zr1 (v:Int):zav (IntKind.u8.wrap v):=by
 have e:IntKind.u8.wrap v=v % 256:=by
  unfold IntKind.wrap
  simp[IntKind.bits,IntKind.signed]
 rw[e];unfold zav;omega
theorem zd5 (v:Int):∀x∈zbz v,zav x:=by
 intro x hx
 obtain⟨k,_,rfl⟩:=List.mem_map.1 hx
 exact zr1 _
theorem zpA (s:ByteArray) (h:s.size≤255):∀x∈zdZ s,zav x:=by
 intro x hx
 rcases List.mem_cons.1 hx with rfl|hx
 ·exact⟨by omega,by omega⟩
 ·obtain⟨b,_,rfl⟩:=List.mem_map.1 hx
  exact zzM b
theorem zuf (v:Int):IntKind.u8.wrap v=v % 256:=by
 unfold IntKind.wrap
 simp[IntKind.bits,IntKind.signed]
theorem zug (v:Int) (k:Nat):zlS v k=v / (2^(8*(7 - k))) % 256:=by
 rw[zlS,zuf,Int.fdiv_eq_ediv_of_nonneg _ (Int.pow_nonneg (by decide))]
theorem zBm (v:Int) (h:0≤v∧v<4611686018427387904):ziS (zbz v)=v:=by
 have e:zbz v=[v / 72057594037927936 % 256,v / 281474976710656 % 256,v / 1099511627776 % 256,v / 4294967296 % 256,v / 16777216 % 256,v / 65536 % 256,v / 256 % 256,v % 256]:=by
  show List.map (zlS v) [0,1,2,3,4,5,6,7]=_
  simp only[List.map_cons,List.map_nil,zug]
  simp
 rw[e]
 simp only[ziS,List.foldl_cons,List.foldl_nil]
 have d1:v / 65536=v / 256 / 256:=by omega
 have d2:v / 16777216=v / 65536 / 256:=by omega
 have d3:v / 4294967296=v / 16777216 / 256:=by omega
 have d4:v / 1099511627776=v / 4294967296 / 256:=by omega
 have d5:v / 281474976710656=v / 1099511627776 / 256:=by omega
 have d6:v / 72057594037927936=v / 281474976710656 / 256:=by omega
 have t0:0*256+v / 72057594037927936 % 256=v / 72057594037927936:=by omega
 have t1:v / 72057594037927936*256+v / 281474976710656 % 256=v / 281474976710656:=by rw[d6];omega
 have t2:v / 281474976710656*256+v / 1099511627776 % 256=v / 1099511627776:=by rw[d5];omega
 have t3:v / 1099511627776*256+v / 4294967296 % 256=v / 4294967296:=by rw[d4];omega
 have t4:v / 4294967296*256+v / 16777216 % 256=v / 16777216:=by rw[d3];omega
 have t5:v / 16777216*256+v / 65536 % 256=v / 65536:=by rw[d2];omega
 have t6:v / 65536*256+v / 256 % 256=v / 256:=by rw[d1];omega
 have t7:v / 256*256+v % 256=v:=by omega
 rw[t0,t1,t2,t3,t4,t5,t6,t7]
theorem zaG {bs a rest:List Int} {p:Nat} (h:bs.drop p=a++rest):bs.drop (p+a.length)=rest:=by
 rw[←List.drop_drop,h,List.drop_left]
theorem zpB {bs a rest:List Int} {p:Nat} (h:bs.drop p=a++rest) (ha:a≠[]):p+a.length≤bs.length:=by
 have:=congrArg List.length h
 rw[List.length_drop,List.length_append]at this
 have:0<a.length:=List.length_pos_iff.2 ha
 omega
theorem short_at {n p k:Nat} (h:p+k≤n):zbQ n (p:Int) (k:Int)=false:=by
 unfold zbQ
 simp;omega
theorem zhR {bs:List Int} {p:Nat} {x:Int} {rest:List Int} (h:bs.drop p=[x]++rest):zbf bs p=(x,((p+1:Nat):Int),0):=by
 have h1:=zpB h (by simp)
 simp only[List.length_singleton]at h1
 rw[zbf,if_neg (by rw[show(1:Int)=((1:Nat):Int) from rfl,short_at h1];simp),Int.toNat_natCast]
 have:bs.getD p 0=x:=by
  have:=congrArg (fun l=>l[0]?) h
  simp only[List.getElem?_drop,Nat.add_zero,List.singleton_append,List.getElem?_cons_zero]at this
  rw[List.getD_eq_getElem?_getD,this];rfl
 rw[this];simp
theorem zmG {bs:List Int} {p:Nat} {v:Int} {rest:List Int} (h:bs.drop p=zbz v++rest) (hv:0≤v∧v<4611686018427387904):zfj bs p=(v,((p+8:Nat):Int),0):=by
 have h1:=zpB h (by intro h;have:=congrArg List.length h;rw[zaY]at this;simp at this)
 rw[zaY]at h1
 have h2:(bs.drop p).take 8=zbz v:=by rw[h];exact List.take_left' (zaY v)
 rw[zfj,if_neg (by rw[show(8:Int)=((8:Nat):Int) from rfl,short_at h1];simp),Int.toNat_natCast,h2,zBm v hv,if_pos hv.2];simp
theorem zr2 (s:ByteArray):strOf (s.data.toList.map fun b=>(b.toNat:Int))=s:=by
 unfold strOf
 rw[List.map_map]
 have:(fun n:Int=>UInt8.ofNat n.toNat)∘(fun b:UInt8=>(b.toNat:Int))=id:=by
  funext b;simp
 rw[this,List.map_id]
theorem zq3 {bs:List Int} {p:Nat} {s:ByteArray} {most:Int} {rest:List Int} (h:bs.drop p=zdZ s++rest) (hs:(s.size:Int)≤most):zcq bs p most=(s,((p+(1+s.size):Nat):Int),0):=by
 have h1:=zpB h (by simp[zdZ])
 rw[zcj]at h1
 have hg:bs.getD p 0=(s.size:Int):=by
  have:=congrArg (fun l=>l[0]?) h
  simp only[List.getElem?_drop,Nat.add_zero,zdZ,List.cons_append,List.getElem?_cons_zero]at this
  rw[List.getD_eq_getElem?_getD,this];rfl
 have h2:(bs.drop (p+1)).take s.size=s.data.toList.map fun b=>(b.toNat:Int):=by
  rw[←List.drop_drop,h,zdZ,List.cons_append,List.drop_succ_cons,List.drop_zero]
  exact List.take_left' (by simp[zjm])
 have hs1:=short_at (n:=bs.length) (p:=p) (k:=1) (by omega)
 have hs2:=short_at (n:=bs.length) (p:=p+1) (k:=s.size) (by omega)
 rw[Int.natCast_add]at hs2
 simp only[Int.ofNat_one,Int.natCast_one]at hs1 hs2
 rw[zcq,if_neg (by rw[hs1];simp),Int.toNat_natCast,hg,if_neg (by simpa using hs),if_neg (by rw[hs2];simp),Int.toNat_natCast,h2,zr2]
 simp;omega
theorem zlL {bs:List Int}:∀{l:List Grant} {p:Nat} {acc:List Grant} {rest:List Int},bs.drop p=zbU l++rest→(∀g∈l,g.name.size≤12∧0≤g.token∧g.token<4611686018427387904)→
  zbe bs l.length p acc=(acc++l,((p+(zbU l).length:Nat):Int),0)
 |[],p,acc,rest,h,_=>by simp[zbe,zbU]
 |g::l,p,acc,rest,h,hg=>by
  obtain⟨g1,g2⟩:=hg g (by simp)
  have h1:bs.drop p=zdZ g.name++(zbz g.token++(zbU l++rest)):=by rw[h];simp[zbU,zlK]
  have e1:=zq3 h1 (most:=12) (by omega)
  have h2:=zaG h1
  rw[zcj]at h2
  have e2:=zmG h2 g2
  have h3:=zaG h2
  rw[zaY]at h3
  have ih:=zlL (l:=l) (acc:=acc++[g]) h3 fun x hx=>hg x (by simp[hx])
  rw[List.length_cons,zbe,e1]
  simp only
  rw[e2]
  simp only[ne_eq,not_true_eq_false,if_false]
  rw[show({name:=g.name,token:=g.token}:Grant)=g from rfl,ih]
  have:(zbU (g::l)).length=1+g.name.size+8+(zbU l).length:=by simp[zbU,zlK,zcj,zaY];omega
  rw[this,List.append_assoc]
  simp;omega
theorem zdd {r:Reply} (h:zbR r=true):(0≤r.code∧r.code≤12)∧(0≤r.session∧r.session≤2305843009213693952)∧(0≤r.ahead∧r.ahead≤3)∧r.held.length≤4∧zbN (zcG r.held) 0 r.held=true:=by
 unfold zbR at h
 have hH:zbE=2305843009213693952:=rfl
 simp only[Bool.and_eq_true,Bool.not_eq_true',Bool.or_eq_false_iff,decide_eq_false_iff_not,hH]at h
 obtain⟨⟨h1,h2⟩,h3⟩:=h
 refine⟨by omega,by omega,by omega,by omega,h3⟩
theorem zlM {α:Type} {q:Nat→α→Bool}:∀{l:List α} {i:Nat},zbN q i l=true→∀x∈l,∃k,q k x=true
 |[],_,_,x,hx=>by cases hx
 |a::l,i,h,x,hx=>by
  rw[zbN]at h
  split at h
  ·rename_i hq
   rcases List.mem_cons.1 hx with rfl|hx
   ·exact⟨i,hq⟩
   ·exact zlM h x hx
  ·cases h
theorem zdo {r:Reply} (h:zbR r=true):∀g∈r.held,g.name.size≤12∧0≤g.token∧g.token<4611686018427387904:=by
 intro g hg
 obtain⟨k,hk⟩:=zlM (zdd h).2.2.2.2 g hg
 unfold zcG at hk
 have hH:zbE=2305843009213693952:=rfl
 simp only[Bool.not_eq_true',Bool.or_eq_false_iff,decide_eq_false_iff_not,hH,Bool.not_eq_false']at hk
 obtain⟨⟨⟨h1,h2⟩,h3⟩,h4⟩:=hk
 have:nameP g.name=true:=by simpa using h1
 unfold nameP at this
 simp only[Bool.and_eq_true,decide_eq_true_eq]at this
 omega
theorem zuh {bs:List Int} {r:Reply} {p:Nat} {rest:List Int} (h:bs.drop p=zcx r++rest) (hr:zbR r=true):zdp bs p=(r,((p+(zcx r).length:Nat):Int),0):=by
 obtain⟨f1,f2,f3,f4,f5⟩:=zdd hr
 have h1:bs.drop p=[r.code]++(zbz r.session++([r.ahead]++([(r.held.length:Int)]++(zbU r.held++rest)))):=by rw[h];simp[zcx]
 have e1:=zhR h1
 have h2:=zaG h1
 have e2:=zmG (p:=p+[r.code].length) h2 (by omega)
 have h3:=zaG h2
 rw[zaY]at h3
 have e3:=zhR h3
 have h4:=zaG h3
 have e4:=zhR h4
 have h5:=zaG h4
 have e5:=zlL (acc:=[]) h5 (zdo hr)
 simp only[List.length_singleton]at e2 e3 e4 e5
 rw[zdp,e1]
 simp only[ne_eq,not_true_eq_false,if_false]
 rw[e2]
 simp only[ne_eq,not_true_eq_false,if_false]
 rw[e3]
 simp only[ne_eq,not_true_eq_false,if_false]
 rw[e4]
 simp only[ne_eq,not_true_eq_false,if_false,Int.toNat_natCast]
 rw[e5]
 simp only[ne_eq,not_true_eq_false,if_false,List.nil_append]
 rw[if_neg (by omega),show(⟨r.code,r.session,r.ahead,r.held⟩:Reply)=r from rfl,if_neg (by rw[hr];simp)]
 have:(zcx r).length=1+8+1+1+(zbU r.held).length:=by simp[zcx,zaY];omega
 rw[this]
 simp;omega
theorem zb0 {m:Memo} (h:answerB m=true):(0≤m.client∧m.client<8)∧(1≤m.seq∧m.seq≤2305843009213693952)∧zbR m.reply=true:=by
 unfold answerB at h
 have hH:zbE=2305843009213693952:=rfl
 simp only[Bool.and_eq_true,decide_eq_true_eq,hH]at h
 exact⟨by omega,by omega,h.2⟩
theorem zr3 {bs:List Int} {m:Memo} {p:Nat} {rest:List Int} (h:bs.drop p=zbd m++rest) (hm:answerB m=true):zfq bs p=(m,((p+(zbd m).length:Nat):Int),0):=by
 obtain⟨f1,f2,f3⟩:=zb0 hm
 have h1:bs.drop p=[m.client]++(zbz m.seq++(zcx m.reply++rest)):=by rw[h];simp[zbd]
 have e1:=zhR h1
 have h2:=zaG h1
 have e2:=zmG (p:=p+[m.client].length) h2 (by omega)
 have h3:=zaG h2
 rw[zaY]at h3
 have e3:=zuh h3 f3
 simp only[List.length_singleton]at e2 e3
 rw[zfq,e1]
 simp only[ne_eq,not_true_eq_false,if_false]
 rw[e2]
 simp only[ne_eq,not_true_eq_false,if_false]
 rw[e3]
 simp only[ne_eq,not_true_eq_false,if_false]
 rw[show(⟨m.client,m.seq,m.reply⟩:Memo)=m from rfl,if_neg (by rw[hm];simp)]
 have:(zbd m).length=1+8+(zcx m.reply).length:=by simp[zbd,zaY];omega
 rw[this]
 simp;omega
theorem zrZ {l:List Grant} {i:Nat} (hi:i<l.length):zbU (l.take (i+1))=zbU (l.take i)++(zdZ l[i].name++zbz l[i].token):=by
 rw[List.take_succ_eq_append_getElem hi,zbU,List.flatMap_append];simp[zbU,zlK]
def zmF (r:Reply):List Int:=[r.code]++(zbz r.session++[r.ahead,(r.held.length:Int)])
def zkP (r:Reply) (i:Nat):List Int:=zmF r++zbU (r.held.take i)
theorem zok {r:Reply} {i:Nat} (hi:i<r.held.length):zkP r (i+1)=(zkP r i++zdZ r.held[i].name)++zbz r.held[i].token:=by
 rw[zkP,zrZ hi,zkP];simp
theorem zol {r:Reply}:zkP r 0=zmF r:=by simp[zkP,zbU]
theorem zw8 {r:Reply}:zkP r r.held.length=zcx r:=by simp[zkP,zmF,zcx]
theorem zkb (r:Reply):(zmF r).length=11:=by simp[zmF,zaY]
set_option maxHeartbeats 1000000 in
theorem zpy (r:Reply) (h:zbR r=true):CallOK prog 67 [.f (.agg r.lent)] (fun x o=>x=[.one (.own 1 (zcx r).length (zad (zcx r)) false),ri 0]∧o=[]):=by
 obtain⟨f1,f2,f3,f4,f5⟩:=zdd h
 have hgr:=zdo h
 refine zh func67 results67 ntmps67 call67 ?_
 simp only[f67,Option.getD]
 have hmy:=zhh r ⟨by omega,fun g hg=>by have:=(hgr g hg).1;omega⟩
 rw[h]at hmy
 have hpn:=zdP r.session (by omega)
 have w1:IntKind.u8.wrap r.code=r.code:=zd0 (by omega) (by omega)
 have w2:IntKind.u8.wrap r.ahead=r.ahead:=zd0 (by omega) (by omega)
 have w3:IntKind.u8.wrap (r.held.length:Int)=r.held.length:=zd0 (by omega) (by omega)
 have hcc:CallOK prog 66 [.f (al 3 [.sl 1 (zad [r.code]), .sl 8 (zad (zbz r.session)), .sl 2 (zad [r.ahead,(r.held.length:Int)])])] (fun x o=>x=[.one (.own 1 11 (zad (zmF r)) false)]∧o=[]):=by
  have hc:=zkg [zad [r.code],zad (zbz r.session),zad [r.ahead,(r.held.length:Int)]] (by simp) (fun l hl=>by
   simp only[List.mem_cons,List.not_mem_nil,or_false]at hl
   rcases hl with rfl|rfl|rfl
   ·simp
   ·rw[zeM];decide
   ·simp)
  rw[show [zad [r.code],zad (zbz r.session),zad [r.ahead,(r.held.length:Int)]].flatten=zad (zmF r) from by simp[zmF,zad]]at hc
  rw[show(zad (zmF r)).length=11 from by rw[List.length_map,zkb]]at hc
  exact hc
 have t1:(zad (zbz r.session)).take 8=zad (zbz r.session):=List.take_of_length_le (by rw[zeM];decide)
 have t2:toDs (sub 0 2 1 [C.d (uD r.ahead),C.d (uD (r.held.length:Int))])=some [uD r.ahead,uD (r.held.length:Int)]:=rfl
 refine zL (I t1 (I t2 (I w1 (I w2 w3)))) (I (hmy) (I (hpn) (hcc))) ?_
 refine zaf (τ:=Nat) (fun i=>⟨(dd::ptq 1::dq4 (.one (.own ⟨6,1,1⟩ 0 (zkP r i).length)::zAT (al r.held.length (zaK r.held)::ai r.held.length::ai i::zy2 []))),[(1,⟨2,[obq 1 [di r.code,di r.session,di r.ahead, .lent r.held.length (zaK r.held)],none,none,none,none]⟩),(19,⟨2,[]⟩),(4,⟨2,[]⟩),(25,⟨2,[]⟩),(34,⟨2,[]⟩),(35,⟨2,[]⟩),(36,⟨2,[]⟩),(6,⟨2,[none,roq 1 1 (zad (zkP r i))]⟩),(8,⟨2,[]⟩),(9,⟨2,[]⟩),(11,⟨2,[]⟩),(47,⟨2,[]⟩),(53,⟨2,[]⟩),(58,⟨2,[]⟩),(60,⟨2,[]⟩)]⟩)
  (fun i=>i≤r.held.length) (fun _=>()) (fun i=>r.held.length - i) 0
  (Gh.canon [1,6] [8,9,11,47,53,58,60] [] (zk (I @zol @zkb)) rfl (by rw[zol];rfl)) (Nat.zero_le _) ?_
 intro i hi0 hF K hK
 refine zw ?_
 refine zaa (fun hlt=> ?_) (fun hge=> ?_)
 ·have hi:i<r.held.length:=by simpa using hlt
  have hat:=zcD hi
  have hw:=zai hi (by omega)
  have hg:=hgr _ (List.getElem_mem hi)
  have hpt:=zit r.held[i].name (by omega)
  have hpm:=zdP r.held[i].token hg.2
  have hlb:(zkP r i).length≤11+4*21:=by
   rw[zkP,List.length_append,zkb]
   have:=zha (l:=r.held.take i) (k:=12) fun g hx=>(hgr g (List.mem_of_mem_take hx)).1
   have:(r.held.take i).length≤4:=by rw[List.length_take];omega
   omega
  have hle:((zkP r i).length+(1+r.held[i].name.size)≤2^47)=True:=eq_true (by omega)
  have hle2:((zkP r i).length+(1+r.held[i].name.size)+8≤2^47)=True:=eq_true (by omega)
  have k1:(zi2 r.held[i].name).take (1+r.held[i].name.size)=zi2 r.held[i].name:=List.take_of_length_le (by rw[zhT];exact Nat.le_refl _)
  have k2:(zad (zbz r.held[i].token)).take 8=zad (zbz r.held[i].token):=List.take_of_length_le (by rw[zeM];decide)
  have k3:(zad (zkP r i)).take (zkP r i).length=zad (zkP r i):=List.take_of_length_le (by rw[List.length_map];exact Nat.le_refl _)
  have k4:(zad (zkP r i)++zi2 r.held[i].name).take ((zkP r i).length+(1+r.held[i].name.size))=zad (zkP r i)++zi2 r.held[i].name:=List.take_of_length_le (by rw[List.length_append,List.length_map,zhT];exact Nat.le_refl _)
  have hsl:(zkP r (i+1)).length=(zkP r i).length+(1+r.held[i].name.size)+8:=by rw[zok hi,List.length_append,List.length_append,zcj,zaY]
  refine zL (I hat (I @zas (I hle (I hle2 (I k1 (I k2 (I k3 (I k4 (I @zhT (I @List.length_map.{0,0} (I @zaY zca))))))))))) (I (hpt) (hpm)) ?_
  exact hK _ (i+1) (Gh.canon [1,6] [] [] (zk (I hw hsl)) rfl (by rw[zok hi,zpz];simp only[roq,zad,List.map_append];rfl)) hi rfl (by omega)
 ·have hi:i=r.held.length:=by
   have:¬(i:Int)<r.held.length:=by simpa using hge
   omega
  subst hi
  refine zL0 trivial ?_
  rw[zw8]
theorem zlJ {r:Reply} (h:zbR r=true):(zcx r).length≤95:=by
 have hgr:=zdo h
 have hf:=(zdd h).2.2.2.1
 have:=zha (l:=r.held) (k:=12) fun g hg=>(hgr g hg).1
 have e:(zcx r).length=11+(zbU r.held).length:=by simp[zcx,zaY];omega
 omega
theorem zg9 {m:Memo} (h:answerB m=true):(zbd m).length≤104:=by
 have:=zlJ (zb0 h).2.2
 have e:(zbd m).length=9+(zcx m.reply).length:=by simp[zbd,zaY];omega
 omega
theorem zka {m:Memo} (h:answerB m=true):zcu m.reply:=by
 have hgr:=zdo (zb0 h).2.2
 have hf:=(zdd (zb0 h).2.2).2.2.2.1
 exact⟨by omega,fun g hg=>by have:=(hgr g hg).1;omega⟩
theorem ziP (m:Memo) (h:answerB m=true):CallOK prog 23 [.f (.agg m.lent)] (fun x o=>x=[.one (.own 1 (zbd m).length (zad (zbd m)) false),ri 0]∧o=[]):=by
 refine zh func23 results23 ntmps23 call23 ?_
 simp only[f23,Option.getD]
 obtain⟨f1,f2,f3⟩:=zb0 h
 have hmy:=zeQ m (zka h)
 rw[h]at hmy
 have hpn:=zdP m.seq (by omega)
 have hpr:=zpy m.reply f3
 have hrl:=zlJ f3
 have w1:IntKind.u8.wrap m.client=m.client:=zd0 (by omega) (by omega)
 have hcc:CallOK prog 66 [.f (al 3 [.sl 1 (zad [m.client]), .sl 8 (zad (zbz m.seq)), .sl (zcx m.reply).length (zad (zcx m.reply))])] (fun x o=>x=[.one (.own 1 (zbd m).length (zad (zbd m)) false)]∧o=[]):=by
  have hc:=zkg [zad [m.client],zad (zbz m.seq),zad (zcx m.reply)] (by simp) (fun l hl=>by
   simp only[List.mem_cons,List.not_mem_nil,or_false]at hl
   rcases hl with rfl|rfl|rfl
   ·simp
   ·rw[zeM];decide
   ·rw[List.length_map];omega)
  rw[show [zad [m.client],zad (zbz m.seq),zad (zcx m.reply)].flatten=zad (zbd m) from by simp[zbd,zad]]at hc
  simp only[zvV,List.map_cons,List.map_nil,List.length_map,List.length_cons,List.length_nil,zaY]at hc
  exact hc
 have t1:(zad (zbz m.seq)).take 8=zad (zbz m.seq):=List.take_of_length_le (by rw[zeM];decide)
 have t2:(zad (zcx m.reply)).take (zcx m.reply).length=zad (zcx m.reply):=List.take_of_length_le (by rw[List.length_map];exact Nat.le_refl _)
 exact zW (I t1 (I t2 w1)) (I (hmy) (I (hpn) (I (hpr) (hcc))))
end Go.Proofs.YtliimajkpggbhaaGreat
