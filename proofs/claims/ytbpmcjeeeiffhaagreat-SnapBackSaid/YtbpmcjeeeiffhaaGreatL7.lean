import Derived.Test.YtbpmcjeeeiffhaaGreatL2
namespace Go.Proofs.YtbpmcjeeeiffhaaGreat
open Go.Pk
set_option maxRecDepth 100000
set_option linter.unusedSimpArgs false
set_option linter.unusedVariables false
theorem zvk (n:Nat) (ds:List D) (p:Nat) (x:Int) (rest:List D) (hl:ds.length=n) (hn:n<2^62) (hp:p<n) (hat:ds.drop p= .v (.int .u8 x)::rest) (hx:0≤x∧x≤255):
  CallOK Tryz.prog 135 [.f (asl n ds), .f (ai p)] (fun r o=>r=[ri x,ri ((p+1:Nat):Int),ri 0]∧o=[]):=by
 refine zbs zas mixed (T:=Ty) Tryz.func135 rfl Tryz.results135 Tryz.ntmps135 Tryz.call135 Tryz.call175 (ks:=[4,5,6]) rfl rfl rfl rfl rfl rfl (by decide) (by decide)
  (xs:=[asl n ds,ai p]) zjr zit ⟨[asl n ds,ai p,dd,dd, .one (.ptr ⟨4,0,0⟩ 0), .one (.ptr ⟨5,0,0⟩ 0), .one (.ptr ⟨6,0,0⟩ 0),dd,dd,dd,dd,dd,dd,dd,dd,dd,dd,dd,dd,dd],[(4,{next:=1,l:=[some {e:=0,var:=true,fz:=false,sz:=0,cells:=[di 0]},none]}),(5,{next:=1,l:=[some {e:=0,var:=true,fz:=false,sz:=0,cells:=[di 0]},none]}),(6,{next:=1,l:=[some {e:=0,var:=true,fz:=false,sz:=0,cells:=[di 0]},none]})]⟩ ?_ ?_ rfl ?_
 ·simp only[List.map_cons,List.map_nil]
  repeat'(first|refine zq0 ?_|exact zd0|(refine zaa ?_ ?_<;>intro hb)|(refine And.intro ?_ ?_;exact zI)|(refine And.intro ?_ ?_<;>intro hg)|exact zC|fail)
  exact fun _ _ _ h=>h
 ·exact⟨⟨_,rfl,rfl,rfl,rfl,rfl⟩,⟨_,rfl,rfl,rfl,rfl,rfl⟩,⟨_,rfl,rfl,rfl,rfl,rfl⟩,trivial⟩
 ·have htk:=zpa n ds p 1 hl hn (by omega)
  rw[hat]at htk
  have hw:IntKind.i64.wrap x=x:=wrap64 (by omega) (by omega)
  repeat'(first|refine zq0 ?_|exact zd0|(refine zaa ?_ ?_<;>intro hb)|(refine And.intro ?_ ?_;exact zI)|(refine And.intro ?_ ?_<;>intro hg)|exact zC|fail)
  refine zj (htk) ?_
  repeat'(first|refine zq (I hw @zdc) ?_|exact zd (I hw @zdc)|(refine zaa ?_ ?_<;>intro hb)|(refine And.intro ?_ ?_;exact zI)|(refine And.intro ?_ ?_<;>intro hg)|exact zC|fail)
theorem ztd (n:Nat) (ds:List D) (p:Int) (hl:ds.length=n) (hn:n<2^62) (hp:i64 p) (h:zbw n p 1=true):
  CallOK Tryz.prog 135 [.f (asl n ds), .f (ai p)] (fun r o=>r=[ri 0,ri 0,ri 2]∧o=[]):=by
 refine zbs zas mixed (T:=Ty) Tryz.func135 rfl Tryz.results135 Tryz.ntmps135 Tryz.call135 Tryz.call175 (ks:=[4,5,6]) rfl rfl rfl rfl rfl rfl (by decide) (by decide)
  (xs:=[asl n ds,ai p]) zjr zit ⟨[asl n ds,ai p,dd,dd, .one (.ptr ⟨4,0,0⟩ 0), .one (.ptr ⟨5,0,0⟩ 0), .one (.ptr ⟨6,0,0⟩ 0),dd,dd,dd,dd,dd,dd,dd,dd,dd,dd,dd,dd,dd],[(4,{next:=1,l:=[some {e:=0,var:=true,fz:=false,sz:=0,cells:=[di 0]},none]}),(5,{next:=1,l:=[some {e:=0,var:=true,fz:=false,sz:=0,cells:=[di 0]},none]}),(6,{next:=1,l:=[some {e:=0,var:=true,fz:=false,sz:=0,cells:=[di 0]},none]})]⟩ ?_ ?_ rfl ?_
 ·simp only[List.map_cons,List.map_nil]
  repeat'(first|refine zq0 ?_|exact zd0|(refine zaa ?_ ?_<;>intro hb)|(refine And.intro ?_ ?_;exact zI)|(refine And.intro ?_ ?_<;>intro hg)|exact zC|fail)
  exact fun _ _ _ h=>h
 ·exact⟨⟨_,rfl,rfl,rfl,rfl,rfl⟩,⟨_,rfl,rfl,rfl,rfl,rfl⟩,⟨_,rfl,rfl,rfl,rfl,rfl⟩,trivial⟩
 ·have htk:=zhv n ds p 1 hl hn hp h
  repeat'(first|refine zq0 ?_|exact zd0|(refine zaa ?_ ?_<;>intro hb)|(refine And.intro ?_ ?_;exact zI)|(refine And.intro ?_ ?_<;>intro hg)|exact zC|fail)
  refine zp (rdr n ds p) (htk) ?_
  simp only[zbi,zbj,zbh,zbA]
  refine⟨⟨_,rfl⟩,rfl,⟨⟨_,rfl,rfl,rfl,rfl,rfl⟩,⟨_,rfl,rfl,rfl,rfl,rfl⟩,⟨_,rfl,rfl,rfl,rfl,rfl⟩,trivial⟩, ?_⟩
  rw[show zlZ 20 [4,5,6] (nw3 (.int .i64 0) (zeX 170 2))=⟨[dd,dd,dd,dd, .one (.ptr ⟨4,0,0⟩ 0), .one (.ptr ⟨5,0,0⟩ 0), .one (.ptr ⟨6,0,0⟩ 0),dd,dd,dd,dd,dd,dd,dd,dd,dd,dd,dd,dd,dd],[(4,{next:=1,l:=[some {e:=0,var:=true,fz:=false,sz:=0,cells:=[di 0]}]}),(5,{next:=1,l:=[some {e:=0,var:=true,fz:=false,sz:=0,cells:=[di 0]}]}),(6,{next:=1,l:=[some {e:=0,var:=true,fz:=false,sz:=0,cells:=[di 2]}]})]⟩ from rfl]
  first|refine zs0 ?_|exact zt0
def zg8 (l:List Int):Int:=l.foldl (fun u c=>u*256+c) 0
theorem zry {l:List Int} {c:Int}:zg8 (l++[c])=zg8 l*256+c:=by unfold zg8;rw[List.foldl_append];rfl
theorem zjo:∀{l:List Int} {a:Int},0≤a→(∀c∈l,zaK c)→0≤l.foldl (fun u c=>u*256+c) a∧l.foldl (fun u c=>u*256+c) a<(a+1)*256^l.length
 |[],a,ha,_=>by simp;omega
 |c::l,a,ha,h=>by
  have h2:=h c (by simp)
  unfold zaK at h2
  obtain⟨h3,h4⟩:=zjo (l:=l) (a:=a*256+c) (by omega) fun x hx=>h x (by simp[hx])
  refine⟨h3,Int.lt_of_lt_of_le h4 ?_⟩
  rw[List.length_cons,Int.pow_succ,Int.mul_comm (256^l.length) 256,←Int.mul_assoc]
  exact Int.mul_le_mul_of_nonneg_right (by omega) (Int.pow_nonneg (by decide))
theorem zjq {l:List Int} (h:∀c∈l,zaK c):0≤zg8 l∧zg8 l<256^l.length:=by
 have:=zjo (l:=l) (a:=0) (by decide) h
 rw[Int.zero_add,Int.one_mul]at this
 exact this
theorem zyY {i:Nat} (h:i<8):(256:Int)^i≤72057594037927936:=by
 rcases(show i=0∨i=1∨i=2∨i=3∨i=4∨i=5∨i=6∨i=7 by omega)with rfl|rfl|rfl|rfl|rfl|rfl|rfl|rfl<;>decide
theorem zvl {n:Int} (h0:0≤n) (h1:n<18446744073709551616):IntKind.u64.wrap n=n:=by
 have e:IntKind.u64.wrap n=n % 18446744073709551616:=by
  unfold IntKind.wrap
  simp[IntKind.bits,IntKind.signed]
 rw[e]
 omega
theorem zwd {u c:Int} (hu:0≤u∧u<72057594037927936) (hc:0≤c∧c≤255):
  IntKind.u64.wrap (BitVec.ofInt IntKind.u64.bits (u*256)|||BitVec.ofInt IntKind.u64.bits c).toNat=u*256+c:=by
 obtain⟨a,rfl⟩:=Int.eq_ofNat_of_zero_le hu.1
 obtain⟨b,rfl⟩:=Int.eq_ofNat_of_zero_le hc.1
 have hb:IntKind.u64.bits=64:=rfl
 rw[hb]
 have e1:(BitVec.ofInt 64 ((a:Int)*256)|||BitVec.ofInt 64 (b:Int)).toNat=a*256+b:=by
  have h1:((a:Int)*256)=((a*256:Nat):Int):=by omega
  rw[h1,BitVec.ofInt_natCast,BitVec.ofInt_natCast,BitVec.toNat_or,BitVec.toNat_ofNat,BitVec.toNat_ofNat]
  rw[Nat.mod_eq_of_lt (by omega),Nat.mod_eq_of_lt (by omega)]
  have:=Nat.shiftLeft_add_eq_or_of_lt (i:=8) (b:=b) (by omega) a
  rw[Nat.shiftLeft_eq]at this
  exact this.symm
 rw[e1,zvl (by omega) (by omega)]
 omega
theorem zfl {l:List Int} {i:Nat} (hi:i<l.length) (h:∀c∈l,zaK c):zaK (l.getD i 0):=by
 rw[List.getD_eq_getElem?_getD,List.getElem?_eq_getElem hi];exact h _ (List.getElem_mem hi)
theorem zrz {l:List Int} {i:Nat} (hi:i<l.length):zg8 (l.take (i+1))=zg8 (l.take i)*256+l.getD i 0:=by
 rw[List.take_succ_eq_append_getElem hi,zry,List.getD_eq_getElem?_getD,List.getElem?_eq_getElem hi];rfl
set_option maxHeartbeats 1000000 in
theorem zte (n:Nat) (ds:List D) (p:Nat) (c:List Int) (hl:ds.length=n) (hn:n<2^62) (hp:p+8≤n) (hat:(ds.drop p).take 8=zaf c) (hc8:c.length=8) (hc:∀x∈c,zaK x):
  CallOK Tryz.prog 92 [.f (asl n ds), .f (ai p)] (fun r o=>r=(if zg8 c<4611686018427387904 then [ri (zg8 c),ri ((p+8:Nat):Int),ri 0]else [ri 0,ri 0,ri 4])∧o=[]):=by
 refine zbs zas mixed (T:=Ty) Tryz.func92 rfl Tryz.results92 Tryz.ntmps92 Tryz.call92 Tryz.call141 (ks:=[4,5,6]) rfl rfl rfl rfl rfl rfl (by decide) (by decide)
  (xs:=[asl n ds,ai p]) zlU zjs ⟨[asl n ds,ai p,dd,dd, .one (.ptr ⟨4,0,0⟩ 0), .one (.ptr ⟨5,0,0⟩ 0), .one (.ptr ⟨6,0,0⟩ 0),dd,dd,dd,dd,dd,dd,dd,dd,dd,dd,dd,dd,dd,dd,dd,dd,dd,dd,dd,dd,dd,dd,dd,dd,dd,dd,dd,dd],[(4,{next:=1,l:=[some {e:=0,var:=true,fz:=false,sz:=0,cells:=[di 0]},none]}),(5,{next:=1,l:=[some {e:=0,var:=true,fz:=false,sz:=0,cells:=[di 0]},none]}),(6,{next:=1,l:=[some {e:=0,var:=true,fz:=false,sz:=0,cells:=[di 0]},none]})]⟩ ?_ ?_ rfl ?_
 ·simp only[List.map_cons,List.map_nil]
  repeat'(first|refine zq0 ?_|exact zd0|(refine zaa ?_ ?_<;>intro hb)|(refine And.intro ?_ ?_;exact zI)|(refine And.intro ?_ ?_<;>intro hg)|exact zC|fail)
  exact fun _ _ _ h=>h
 ·exact⟨⟨_,rfl,rfl,rfl,rfl,rfl⟩,⟨_,rfl,rfl,rfl,rfl,rfl⟩,⟨_,rfl,rfl,rfl,rfl,rfl⟩,trivial⟩
 ·have htk:=zpa n ds p 8 hl hn hp
  rw[hat]at htk
  have hb1:=zjq hc
  rw[hc8]at hb1
  repeat'(first|refine zq0 ?_|exact zd0|(refine zaa ?_ ?_<;>intro hb)|(refine And.intro ?_ ?_;exact zI)|(refine And.intro ?_ ?_<;>intro hg)|exact zC|fail)
  refine zj (htk) ?_
  repeat'(first|refine zq0 ?_|exact zd0|(refine zaa ?_ ?_<;>intro hb)|(refine And.intro ?_ ?_;exact zI)|(refine And.intro ?_ ?_<;>intro hg)|exact zC|fail)
  refine zho Ty Tryz.prog (τ:=Nat) (fun i=>⟨[dd,dd,dd,dd, .one (.ptr ⟨4,0,0⟩ 0), .one (.ptr ⟨5,0,0⟩ 0), .one (.ptr ⟨6,0,0⟩ 0), .one (.ptr ⟨7,0,1⟩ 0), .one (.d (.v (.int .u64 (zg8 (c.take i))))),dd,dd,dd,dd,dd,dd,asl 8 (zaf c),ai 8,ai i,dd,dd,dd,dd,dd,dd,dd,dd,dd,dd,dd,dd,dd,dd,dd,dd,dd],[(4,{next:=1,l:=[some {e:=0,var:=true,fz:=false,sz:=0,cells:=[di 0]},none]}),(5,{next:=1,l:=[some {e:=0,var:=true,fz:=false,sz:=0,cells:=[di 0]},none]}),(6,{next:=1,l:=[some {e:=0,var:=true,fz:=false,sz:=0,cells:=[di 0]},none]}),(7,{next:=2,l:=[some {e:=1,var:=true,fz:=false,sz:=0,cells:=[.d (.sl n ds),di ((p+8:Nat):Int)]},none,none]})]⟩)
   (fun i=>i≤8) (fun i=>8 - i) 0 (Gh.canon [4,5,6,7] [] [4,5,6] zK rfl rfl) (Nat.zero_le _) ?_
  intro i hi0 K hK
  refine zw ?_
  refine zaa (fun hlt=> ?_) (fun hge=> ?_)
  ·have hi:i<c.length:=by simp at hlt;omega
   have hat2:=zhY hi
   have hw:=zaq (i:=i) (n:=8) (by omega) (by omega)
   have hx:=zfl hi hc
   unfold zaK at hx
   have hbi:=zjq (l:=c.take i) fun x hx=>hc x (List.mem_of_mem_take hx)
   have hli:(c.take i).length=i:=by rw[List.length_take];omega
   rw[hli]at hbi
   have hp8:=zyY (i:=i) (by omega)
   have w1:min (Int.toNat 8) IntKind.u64.bits=8:=by decide
   have w2:IntKind.u64.wrap (zg8 (c.take i)*2^8)=zg8 (c.take i)*256:=zvl (by omega) (by omega)
   have w3:IntKind.u64.wrap (c.getD i 0)=c.getD i 0:=zvl (by omega) (by omega)
   have w4:=zwd (u:=zg8 (c.take i)) (c:=c.getD i 0) ⟨hbi.1,by omega⟩ ⟨hx.1,by omega⟩
   have w5:=zrz hi
   have w6:¬((8:Int)<0):=by decide
   repeat'(first|(with_reducible first|refine zad _ _ ?_|refine zaS ?_|refine zaT ?_)|rw[zaI]|simp only[hat2,za5,hc8,w1,w2,w3,w4,if_neg w6,zY,Int.reduceEq,Int.reduceBEq,Int.reduceBNe,Nat.reduceSub,Nat.reduceEqDiff,Nat.reduceAdd,Nat.reduceMul,Nat.reduceLeDiff,Nat.reduceLT,Nat.reduceBEq,reduceCtorEq]|refine zax ?_|refine zaa (fun hb=> ?_) (fun hb=> ?_)|(refine And.intro ?_ ?_;exact zI)|refine And.intro (fun hg=> ?_) (fun hg=> ?_)|exact zC|fail)
   exact hK _ (i+1) (Gh.canon [4,5,6,7] [] [4,5,6] (zk (I hw w5)) rfl rfl) (by omega) (by omega)
  ·have hi:i=8:=by
    have:¬(i:Int)<8:=by simpa using hge
    omega
   subst hi
   have ht:c.take 8=c:=List.take_of_length_le (by omega)
   have w7:IntKind.i64.wrap (zg8 c)=zg8 c∨¬zg8 c<4611686018427387904:=by
    by_cases h:zg8 c<4611686018427387904
    ·exact .inl (wrap64 (by omega) (by omega))
    ·exact .inr h
   by_cases hlt:zg8 c<4611686018427387904
   ·have h1:decide (zg8 c≥4611686018427387904)=false:=by simp;omega
    have w7:IntKind.i64.wrap (zg8 c)=zg8 c:=wrap64 (by omega) (by omega)
    repeat'(first|(with_reducible first|refine zad _ _ ?_|refine zaS ?_|refine zaT ?_)|rw[zaI]|simp only[ht,h1,w7,if_pos hlt,zdc,zY,Int.reduceEq,Int.reduceBEq,Int.reduceBNe,Nat.reduceSub,Nat.reduceEqDiff,Nat.reduceAdd,Nat.reduceMul,Nat.reduceLeDiff,Nat.reduceLT,Nat.reduceBEq,reduceCtorEq]|refine zax ?_|refine zaa (fun hb=> ?_) (fun hb=> ?_)|(refine And.intro ?_ ?_;exact zI)|refine And.intro (fun hg=> ?_) (fun hg=> ?_)|exact zC|fail)
   ·have h1:decide (zg8 c≥4611686018427387904)=true:=by simp;omega
    repeat'(first|(with_reducible first|refine zad _ _ ?_|refine zaS ?_|refine zaT ?_)|rw[zaI]|simp only[ht,h1,if_neg hlt,zY,Int.reduceEq,Int.reduceBEq,Int.reduceBNe,Nat.reduceSub,Nat.reduceEqDiff,Nat.reduceAdd,Nat.reduceMul,Nat.reduceLeDiff,Nat.reduceLT,Nat.reduceBEq,reduceCtorEq]|refine zax ?_|refine zaa (fun hb=> ?_) (fun hb=> ?_)|(refine And.intro ?_ ?_;exact zI)|refine And.intro (fun hg=> ?_) (fun hg=> ?_)|exact zC|fail)
    simp only[zbi,zbj,zbh,zbA]
    refine⟨⟨_,rfl⟩,rfl,⟨⟨_,rfl,rfl,rfl,rfl,rfl⟩,⟨_,rfl,rfl,rfl,rfl,rfl⟩,⟨_,rfl,rfl,rfl,rfl,rfl⟩,trivial⟩, ?_⟩
    rw[show zlZ 35 [4,5,6] (nw3 (.int .i64 0) (zeX 170 4))=⟨[dd,dd,dd,dd, .one (.ptr ⟨4,0,0⟩ 0), .one (.ptr ⟨5,0,0⟩ 0), .one (.ptr ⟨6,0,0⟩ 0),dd,dd,dd,dd,dd,dd,dd,dd,dd,dd,dd,dd,dd,dd,dd,dd,dd,dd,dd,dd,dd,dd,dd,dd,dd,dd,dd,dd],[(4,{next:=1,l:=[some {e:=0,var:=true,fz:=false,sz:=0,cells:=[di 0]}]}),(5,{next:=1,l:=[some {e:=0,var:=true,fz:=false,sz:=0,cells:=[di 0]}]}),(6,{next:=1,l:=[some {e:=0,var:=true,fz:=false,sz:=0,cells:=[di 4]}]})]⟩ from rfl]
    first|refine zs0 ?_|exact zt0
theorem zvm (n:Nat) (ds:List D) (p:Int) (hl:ds.length=n) (hn:n<2^62) (hp:i64 p) (h:zbw n p 8=true):
  CallOK Tryz.prog 92 [.f (asl n ds), .f (ai p)] (fun r o=>r=[ri 0,ri 0,ri 2]∧o=[]):=by
 refine zbs zas mixed (T:=Ty) Tryz.func92 rfl Tryz.results92 Tryz.ntmps92 Tryz.call92 Tryz.call141 (ks:=[4,5,6]) rfl rfl rfl rfl rfl rfl (by decide) (by decide)
  (xs:=[asl n ds,ai p]) zlU zjs ⟨[asl n ds,ai p,dd,dd, .one (.ptr ⟨4,0,0⟩ 0), .one (.ptr ⟨5,0,0⟩ 0), .one (.ptr ⟨6,0,0⟩ 0),dd,dd,dd,dd,dd,dd,dd,dd,dd,dd,dd,dd,dd,dd,dd,dd,dd,dd,dd,dd,dd,dd,dd,dd,dd,dd,dd,dd],[(4,{next:=1,l:=[some {e:=0,var:=true,fz:=false,sz:=0,cells:=[di 0]},none]}),(5,{next:=1,l:=[some {e:=0,var:=true,fz:=false,sz:=0,cells:=[di 0]},none]}),(6,{next:=1,l:=[some {e:=0,var:=true,fz:=false,sz:=0,cells:=[di 0]},none]})]⟩ ?_ ?_ rfl ?_
 ·simp only[List.map_cons,List.map_nil]
  repeat'(first|refine zq0 ?_|exact zd0|(refine zaa ?_ ?_<;>intro hb)|(refine And.intro ?_ ?_;exact zI)|(refine And.intro ?_ ?_<;>intro hg)|exact zC|fail)
  exact fun _ _ _ h=>h
 ·exact⟨⟨_,rfl,rfl,rfl,rfl,rfl⟩,⟨_,rfl,rfl,rfl,rfl,rfl⟩,⟨_,rfl,rfl,rfl,rfl,rfl⟩,trivial⟩
 ·have htk:=zhv n ds p 8 hl hn hp h
  repeat'(first|refine zq0 ?_|exact zd0|(refine zaa ?_ ?_<;>intro hb)|(refine And.intro ?_ ?_;exact zI)|(refine And.intro ?_ ?_<;>intro hg)|exact zC|fail)
  refine zp (rdr n ds p) (htk) ?_
  simp only[zbi,zbj,zbh,zbA]
  refine⟨⟨_,rfl⟩,rfl,⟨⟨_,rfl,rfl,rfl,rfl,rfl⟩,⟨_,rfl,rfl,rfl,rfl,rfl⟩,⟨_,rfl,rfl,rfl,rfl,rfl⟩,trivial⟩, ?_⟩
  rw[show zlZ 35 [4,5,6] (nw3 (.int .i64 0) (zeX 170 2))=⟨[dd,dd,dd,dd, .one (.ptr ⟨4,0,0⟩ 0), .one (.ptr ⟨5,0,0⟩ 0), .one (.ptr ⟨6,0,0⟩ 0),dd,dd,dd,dd,dd,dd,dd,dd,dd,dd,dd,dd,dd,dd,dd,dd,dd,dd,dd,dd,dd,dd,dd,dd,dd,dd,dd,dd],[(4,{next:=1,l:=[some {e:=0,var:=true,fz:=false,sz:=0,cells:=[di 0]}]}),(5,{next:=1,l:=[some {e:=0,var:=true,fz:=false,sz:=0,cells:=[di 0]}]}),(6,{next:=1,l:=[some {e:=0,var:=true,fz:=false,sz:=0,cells:=[di 2]}]})]⟩ from rfl]
  first|refine zs0 ?_|exact zt0
theorem zdh:∀l:List Int,bytesOf (zaf l)=some (l.map fun n=>UInt8.ofNat n.toNat)
 |[]=>rfl
 |n::l=>by
  have:=zdh l
  simp only[zaf,List.map_cons,bytesOf]at this⊢
  rw[this]
def strOf (c:List Int):ByteArray:=⟨(c.map fun n=>UInt8.ofNat n.toNat).toArray⟩
theorem zvn (n:Nat) (ds:List D) (p x:Nat) (most:Int) (c:List Int) (rest:List D) (hl:ds.length=n) (hn:n<2^62) (hp:p+1+x≤n) (hat:ds.drop p= .v (.int .u8 (x:Int))::rest) (hx:x≤255) (hm:(x:Int)≤most)
  (hat2:(ds.drop (p+1)).take x=zaf c) (hcx:c.length=x):CallOK Tryz.prog 176 [.f (asl n ds), .f (ai p), .f (ai most)] (fun r o=>r=[.one (.d (sD (strOf c))),ri ((p+1+x:Nat):Int),ri 0]∧o=[]):=by
 refine zbs zas mixed (T:=Ty) Tryz.func176 rfl Tryz.results176 Tryz.ntmps176 Tryz.call176 Tryz.call198 (ks:=[6,7,8]) rfl rfl rfl rfl rfl rfl (by decide) (by decide)
  (xs:=[asl n ds,ai p,ai most]) zfm zeo ⟨[asl n ds,ai p,ai most,dd,dd,dd, .one (.ptr ⟨6,0,0⟩ 0), .one (.ptr ⟨7,0,0⟩ 0), .one (.ptr ⟨8,0,0⟩ 0),dd,dd,dd,dd,dd,dd,dd,dd,dd,dd,dd,dd,dd,dd,dd,dd,dd,dd,dd,dd,dd],[(6,{next:=1,l:=[some {e:=0,var:=true,fz:=false,sz:=0,cells:=[dS .empty]},none]}),(7,{next:=1,l:=[some {e:=0,var:=true,fz:=false,sz:=0,cells:=[di 0]},none]}),(8,{next:=1,l:=[some {e:=0,var:=true,fz:=false,sz:=0,cells:=[di 0]},none]})]⟩ ?_ ?_ rfl ?_
 ·simp only[List.map_cons,List.map_nil]
  repeat'(first|refine zq0 ?_|exact zd0|(refine zaa ?_ ?_<;>intro hb)|(refine And.intro ?_ ?_;exact zI)|(refine And.intro ?_ ?_<;>intro hg)|exact zC|fail)
  exact fun _ _ _ h=>h
 ·exact⟨⟨_,rfl,rfl,rfl,rfl,rfl⟩,⟨_,rfl,rfl,rfl,rfl,rfl⟩,⟨_,rfl,rfl,rfl,rfl,rfl⟩,trivial⟩
 ·have htk:=zpa n ds p 1 hl hn (by omega)
  rw[hat]at htk
  have htk2:=zpa n ds (p+1) x hl hn (by omega)
  rw[hat2]at htk2
  have hw:IntKind.i64.wrap (x:Int)=(x:Int):=wrap64 (by omega) (by omega)
  have h1:decide ((x:Int)>most)=false:=by simp;omega
  repeat'(first|refine zq0 ?_|exact zd0|(refine zaa ?_ ?_<;>intro hb)|(refine And.intro ?_ ?_;exact zI)|(refine And.intro ?_ ?_<;>intro hg)|exact zC|fail)
  refine zj (htk) ?_
  repeat'(first|refine zq (I hw h1) ?_|exact zd (I hw h1)|(refine zaa ?_ ?_<;>intro hb)|(refine And.intro ?_ ?_;exact zI)|(refine And.intro ?_ ?_<;>intro hg)|exact zC|fail)
  refine zj (htk2) ?_
  repeat'(first|refine zq (I @zdh (I @za5 (I hcx @zdc))) ?_|exact zd (I @zdh (I @za5 (I hcx @zdc)))|(refine zaa ?_ ?_<;>intro hb)|(refine And.intro ?_ ?_;exact zI)|(refine And.intro ?_ ?_<;>intro hg)|exact zC|fail)
  rfl
theorem zrA (n:Nat) (ds:List D) (p x:Nat) (most:Int) (rest:List D) (hl:ds.length=n) (hn:n<2^62) (hp:p+1≤n) (hat:ds.drop p= .v (.int .u8 (x:Int))::rest) (hx:x≤255) (hm:¬(x:Int)≤most):
  CallOK Tryz.prog 176 [.f (asl n ds), .f (ai p), .f (ai most)] (fun r o=>r=[.one (.d (sD .empty)),ri 0,ri 3]∧o=[]):=by
 refine zbs zas mixed (T:=Ty) Tryz.func176 rfl Tryz.results176 Tryz.ntmps176 Tryz.call176 Tryz.call198 (ks:=[6,7,8]) rfl rfl rfl rfl rfl rfl (by decide) (by decide)
  (xs:=[asl n ds,ai p,ai most]) zfm zeo ⟨[asl n ds,ai p,ai most,dd,dd,dd, .one (.ptr ⟨6,0,0⟩ 0), .one (.ptr ⟨7,0,0⟩ 0), .one (.ptr ⟨8,0,0⟩ 0),dd,dd,dd,dd,dd,dd,dd,dd,dd,dd,dd,dd,dd,dd,dd,dd,dd,dd,dd,dd,dd],[(6,{next:=1,l:=[some {e:=0,var:=true,fz:=false,sz:=0,cells:=[dS .empty]},none]}),(7,{next:=1,l:=[some {e:=0,var:=true,fz:=false,sz:=0,cells:=[di 0]},none]}),(8,{next:=1,l:=[some {e:=0,var:=true,fz:=false,sz:=0,cells:=[di 0]},none]})]⟩ ?_ ?_ rfl ?_
 ·simp only[List.map_cons,List.map_nil]
  repeat'(first|refine zq0 ?_|exact zd0|(refine zaa ?_ ?_<;>intro hb)|(refine And.intro ?_ ?_;exact zI)|(refine And.intro ?_ ?_<;>intro hg)|exact zC|fail)
  exact fun _ _ _ h=>h
 ·exact⟨⟨_,rfl,rfl,rfl,rfl,rfl⟩,⟨_,rfl,rfl,rfl,rfl,rfl⟩,⟨_,rfl,rfl,rfl,rfl,rfl⟩,trivial⟩
 ·have htk:=zpa n ds p 1 hl hn (by omega)
  rw[hat]at htk
  have hw:IntKind.i64.wrap (x:Int)=(x:Int):=wrap64 (by omega) (by omega)
  have h1:decide ((x:Int)>most)=true:=by simp;omega
  repeat'(first|refine zq0 ?_|exact zd0|(refine zaa ?_ ?_<;>intro hb)|(refine And.intro ?_ ?_;exact zI)|(refine And.intro ?_ ?_<;>intro hg)|exact zC|fail)
  refine zj (htk) ?_
  repeat'(first|refine zq (I hw h1) ?_|exact zd (I hw h1)|(refine zaa ?_ ?_<;>intro hb)|(refine And.intro ?_ ?_;exact zI)|(refine And.intro ?_ ?_<;>intro hg)|exact zC|fail)
  simp only[zbi,zbj,zbh,zbA]
  refine⟨⟨_,rfl⟩,rfl,⟨⟨_,rfl,rfl,rfl,rfl,rfl⟩,⟨_,rfl,rfl,rfl,rfl,rfl⟩,⟨_,rfl,rfl,rfl,rfl,rfl⟩,trivial⟩, ?_⟩
  rw[show zlZ 30 [6,7,8] (nwT (zeX 170 3))=⟨[dd,dd,dd,dd,dd,dd, .one (.ptr ⟨6,0,0⟩ 0), .one (.ptr ⟨7,0,0⟩ 0), .one (.ptr ⟨8,0,0⟩ 0),dd,dd,dd,dd,dd,dd,dd,dd,dd,dd,dd,dd,dd,dd,dd,dd,dd,dd,dd,dd,dd],[(6,{next:=1,l:=[some {e:=0,var:=true,fz:=false,sz:=0,cells:=[dS .empty]}]}),(7,{next:=1,l:=[some {e:=0,var:=true,fz:=false,sz:=0,cells:=[di 0]}]}),(8,{next:=1,l:=[some {e:=0,var:=true,fz:=false,sz:=0,cells:=[di 3]}]})]⟩ from rfl]
  first|refine zs0 ?_|exact zt0
theorem ztf (n:Nat) (ds:List D) (p most:Int) (hl:ds.length=n) (hn:n<2^62) (hp:i64 p) (h:zbw n p 1=true):
  CallOK Tryz.prog 176 [.f (asl n ds), .f (ai p), .f (ai most)] (fun r o=>r=[.one (.d (sD .empty)),ri 0,ri 2]∧o=[]):=by
 refine zbs zas mixed (T:=Ty) Tryz.func176 rfl Tryz.results176 Tryz.ntmps176 Tryz.call176 Tryz.call198 (ks:=[6,7,8]) rfl rfl rfl rfl rfl rfl (by decide) (by decide)
  (xs:=[asl n ds,ai p,ai most]) zfm zeo ⟨[asl n ds,ai p,ai most,dd,dd,dd, .one (.ptr ⟨6,0,0⟩ 0), .one (.ptr ⟨7,0,0⟩ 0), .one (.ptr ⟨8,0,0⟩ 0),dd,dd,dd,dd,dd,dd,dd,dd,dd,dd,dd,dd,dd,dd,dd,dd,dd,dd,dd,dd,dd],[(6,{next:=1,l:=[some {e:=0,var:=true,fz:=false,sz:=0,cells:=[dS .empty]},none]}),(7,{next:=1,l:=[some {e:=0,var:=true,fz:=false,sz:=0,cells:=[di 0]},none]}),(8,{next:=1,l:=[some {e:=0,var:=true,fz:=false,sz:=0,cells:=[di 0]},none]})]⟩ ?_ ?_ rfl ?_
 ·simp only[List.map_cons,List.map_nil]
  repeat'(first|refine zq0 ?_|exact zd0|(refine zaa ?_ ?_<;>intro hb)|(refine And.intro ?_ ?_;exact zI)|(refine And.intro ?_ ?_<;>intro hg)|exact zC|fail)
  exact fun _ _ _ h=>h
 ·exact⟨⟨_,rfl,rfl,rfl,rfl,rfl⟩,⟨_,rfl,rfl,rfl,rfl,rfl⟩,⟨_,rfl,rfl,rfl,rfl,rfl⟩,trivial⟩
 ·have htk:=zhv n ds p 1 hl hn hp h
  repeat'(first|refine zq0 ?_|exact zd0|(refine zaa ?_ ?_<;>intro hb)|(refine And.intro ?_ ?_;exact zI)|(refine And.intro ?_ ?_<;>intro hg)|exact zC|fail)
  refine zp (rdr n ds p) (htk) ?_
  simp only[zbi,zbj,zbh,zbA]
  refine⟨⟨_,rfl⟩,rfl,⟨⟨_,rfl,rfl,rfl,rfl,rfl⟩,⟨_,rfl,rfl,rfl,rfl,rfl⟩,⟨_,rfl,rfl,rfl,rfl,rfl⟩,trivial⟩, ?_⟩
  rw[show zlZ 30 [6,7,8] (nwT (zeX 170 2))=⟨[dd,dd,dd,dd,dd,dd, .one (.ptr ⟨6,0,0⟩ 0), .one (.ptr ⟨7,0,0⟩ 0), .one (.ptr ⟨8,0,0⟩ 0),dd,dd,dd,dd,dd,dd,dd,dd,dd,dd,dd,dd,dd,dd,dd,dd,dd,dd,dd,dd,dd],[(6,{next:=1,l:=[some {e:=0,var:=true,fz:=false,sz:=0,cells:=[dS .empty]}]}),(7,{next:=1,l:=[some {e:=0,var:=true,fz:=false,sz:=0,cells:=[di 0]}]}),(8,{next:=1,l:=[some {e:=0,var:=true,fz:=false,sz:=0,cells:=[di 2]}]})]⟩ from rfl]
  first|refine zs0 ?_|exact zt0
theorem zo9 (n:Nat) (ds:List D) (p x:Nat) (most:Int) (rest:List D) (hl:ds.length=n) (hn:n<2^62) (hp:p+1≤n) (hat:ds.drop p= .v (.int .u8 (x:Int))::rest) (hx:x≤255) (hm:(x:Int)≤most)
  (hs:zbw n ((p+1:Nat):Int) x=true):CallOK Tryz.prog 176 [.f (asl n ds), .f (ai p), .f (ai most)] (fun r o=>r=[.one (.d (sD .empty)),ri 0,ri 2]∧o=[]):=by
 refine zbs zas mixed (T:=Ty) Tryz.func176 rfl Tryz.results176 Tryz.ntmps176 Tryz.call176 Tryz.call198 (ks:=[6,7,8]) rfl rfl rfl rfl rfl rfl (by decide) (by decide)
  (xs:=[asl n ds,ai p,ai most]) zfm zeo ⟨[asl n ds,ai p,ai most,dd,dd,dd, .one (.ptr ⟨6,0,0⟩ 0), .one (.ptr ⟨7,0,0⟩ 0), .one (.ptr ⟨8,0,0⟩ 0),dd,dd,dd,dd,dd,dd,dd,dd,dd,dd,dd,dd,dd,dd,dd,dd,dd,dd,dd,dd,dd],[(6,{next:=1,l:=[some {e:=0,var:=true,fz:=false,sz:=0,cells:=[dS .empty]},none]}),(7,{next:=1,l:=[some {e:=0,var:=true,fz:=false,sz:=0,cells:=[di 0]},none]}),(8,{next:=1,l:=[some {e:=0,var:=true,fz:=false,sz:=0,cells:=[di 0]},none]})]⟩ ?_ ?_ rfl ?_
 ·simp only[List.map_cons,List.map_nil]
  repeat'(first|refine zq0 ?_|exact zd0|(refine zaa ?_ ?_<;>intro hb)|(refine And.intro ?_ ?_;exact zI)|(refine And.intro ?_ ?_<;>intro hg)|exact zC|fail)
  exact fun _ _ _ h=>h
 ·exact⟨⟨_,rfl,rfl,rfl,rfl,rfl⟩,⟨_,rfl,rfl,rfl,rfl,rfl⟩,⟨_,rfl,rfl,rfl,rfl,rfl⟩,trivial⟩
 ·have htk:=zpa n ds p 1 hl hn (by omega)
  rw[hat]at htk
  have htk2:=zhv n ds ((p+1:Nat):Int) x hl hn (by unfold i64;omega) hs
  have hw:IntKind.i64.wrap (x:Int)=(x:Int):=wrap64 (by omega) (by omega)
  have h1:decide ((x:Int)>most)=false:=by simp;omega
  repeat'(first|refine zq0 ?_|exact zd0|(refine zaa ?_ ?_<;>intro hb)|(refine And.intro ?_ ?_;exact zI)|(refine And.intro ?_ ?_<;>intro hg)|exact zC|fail)
  refine zj (htk) ?_
  repeat'(first|refine zq (I hw h1) ?_|exact zd (I hw h1)|(refine zaa ?_ ?_<;>intro hb)|(refine And.intro ?_ ?_;exact zI)|(refine And.intro ?_ ?_<;>intro hg)|exact zC|fail)
  refine zp (rdr n ds p) (htk2) ?_
  simp only[zbi,zbj,zbh,zbA]
  refine⟨⟨_,rfl⟩,rfl,⟨⟨_,rfl,rfl,rfl,rfl,rfl⟩,⟨_,rfl,rfl,rfl,rfl,rfl⟩,⟨_,rfl,rfl,rfl,rfl,rfl⟩,trivial⟩, ?_⟩
  rw[show zlZ 30 [6,7,8] (nwT (zeX 170 2))=⟨[dd,dd,dd,dd,dd,dd, .one (.ptr ⟨6,0,0⟩ 0), .one (.ptr ⟨7,0,0⟩ 0), .one (.ptr ⟨8,0,0⟩ 0),dd,dd,dd,dd,dd,dd,dd,dd,dd,dd,dd,dd,dd,dd,dd,dd,dd,dd,dd,dd,dd],[(6,{next:=1,l:=[some {e:=0,var:=true,fz:=false,sz:=0,cells:=[dS .empty]}]}),(7,{next:=1,l:=[some {e:=0,var:=true,fz:=false,sz:=0,cells:=[di 0]}]}),(8,{next:=1,l:=[some {e:=0,var:=true,fz:=false,sz:=0,cells:=[di 2]}]})]⟩ from rfl]
  first|refine zs0 ?_|exact zt0
def zaY (bs:List Int) (p:Int):Int×Int×Int:=if zbw bs.length p 1=true then(0,0,2)else(bs.getD p.toNat 0,p+1,0)
def zev (bs:List Int) (p:Int):Int×Int×Int:=
 if zbw bs.length p 8=true then(0,0,2)else if zg8 ((bs.drop p.toNat).take 8)<4611686018427387904 then(zg8 ((bs.drop p.toNat).take 8),p+8,0)else(0,0,4)
def zb9 (bs:List Int) (p most:Int):ByteArray×Int×Int:=
 if zbw bs.length p 1=true then(.empty,0,2)else if¬bs.getD p.toNat 0≤most then(.empty,0,3)else
 if zbw bs.length (p+1) (bs.getD p.toNat 0)=true then(.empty,0,2)else(strOf ((bs.drop (p.toNat+1)).take (bs.getD p.toNat 0).toNat),p+1+bs.getD p.toNat 0,0)
theorem zck {n:Nat} {p k:Int} (h:zbw n p k=false):0≤p∧p≤n∧k≤n - p:=by
 unfold zbw at h
 simp at h
 omega
structure BsOk (bs:List Int):Prop where
 l:bs.length<2^60
 b:∀x∈bs,zaK x
theorem zfk (bs:List Int) (p:Int) (h:BsOk bs) (hp:i64 p):CallOK Tryz.prog 135 [.f (asl bs.length (zaf bs)), .f (ai p)] (fun r o=>r=[ri (zaY bs p).1,ri (zaY bs p).2.1,ri (zaY bs p).2.2]∧o=[]):=by
 have hl:=h.l
 cases hs:zbw bs.length p 1
 ·obtain⟨h1,h2,h3⟩:=zck hs
  obtain⟨q,rfl⟩:=Int.eq_ofNat_of_zero_le h1
  have hq:q<bs.length:=by omega
  have hb:=zfl hq h.b
  unfold zaK at hb
  rw[zaY,if_neg (by rw[hs];simp)]
  have:=zvk bs.length (zaf bs) q (bs.getD q 0) _ za5 (by omega) hq (zhY hq) ⟨hb.1,by omega⟩
  simpa using this
 ·rw[zaY,if_pos hs]
  exact ztd bs.length (zaf bs) p za5 (by omega) hp hs
theorem ziq (bs:List Int) (p:Int) (h:BsOk bs) (hp:i64 p):CallOK Tryz.prog 92 [.f (asl bs.length (zaf bs)), .f (ai p)] (fun r o=>r=[ri (zev bs p).1,ri (zev bs p).2.1,ri (zev bs p).2.2]∧o=[]):=by
 have hl:=h.l
 cases hs:zbw bs.length p 8
 ·obtain⟨h1,h2,h3⟩:=zck hs
  obtain⟨q,rfl⟩:=Int.eq_ofNat_of_zero_le h1
  rw[zev,if_neg (by rw[hs];simp)]
  have:=zte bs.length (zaf bs) q ((bs.drop q).take 8) za5 (by omega) (by omega) (by rw[←List.map_drop,←List.map_take]) (by rw[List.length_take,List.length_drop];omega) (fun x hx=>h.b x (List.mem_of_mem_drop (List.mem_of_mem_take hx)))
  simp only[Int.toNat_natCast]
  split
  ·rename_i hv
   rw[if_pos hv]at this
   exact this
  ·rename_i hv
   rw[if_neg hv]at this
   exact this
 ·rw[zev,if_pos hs]
  exact zvm bs.length (zaf bs) p za5 (by omega) hp hs
theorem zks (bs:List Int) (p most:Int) (h:BsOk bs) (hp:i64 p):CallOK Tryz.prog 176 [.f (asl bs.length (zaf bs)), .f (ai p), .f (ai most)] (fun r o=>r=[.one (.d (sD (zb9 bs p most).1)),ri (zb9 bs p most).2.1,ri (zb9 bs p most).2.2]∧o=[]):=by
 have hl:=h.l
 cases hs:zbw bs.length p 1
 ·obtain⟨h1,h2,h3⟩:=zck hs
  obtain⟨q,rfl⟩:=Int.eq_ofNat_of_zero_le h1
  have hq:q<bs.length:=by omega
  have hb:=zfl hq h.b
  unfold zaK at hb
  obtain⟨x,hx⟩:=Int.eq_ofNat_of_zero_le hb.1
  have hat:=zhY hq
  rw[hx]at hat
  rw[zb9,if_neg (by rw[hs];simp)]
  simp only[Int.toNat_natCast,hx]
  by_cases hm:(x:Int)≤most
  ·rw[if_neg (by simpa using hm)]
   cases hs2:zbw bs.length ((q:Int)+1) (x:Int)
   ·obtain⟨h4,h5,h6⟩:=zck hs2
    rw[if_neg (by simp)]
    have:=zvn bs.length (zaf bs) q x most ((bs.drop (q+1)).take x) _ za5 (by omega) (by omega) hat (by omega) hm (by rw[←List.map_drop,←List.map_take]) (by rw[List.length_take,List.length_drop];omega)
    simpa using this
   ·rw[if_pos rfl]
    exact zo9 bs.length (zaf bs) q x most _ za5 (by omega) (by omega) hat (by omega) hm (by simpa using hs2)
  ·rw[if_pos (by simpa using hm)]
   exact zrA bs.length (zaf bs) q x most _ za5 (by omega) (by omega) hat (by omega) hm
 ·rw[zb9,if_pos hs]
  exact ztf bs.length (zaf bs) p most za5 (by omega) hp hs
theorem zdp {bs:List Int} {p:Int}:0≤(zaY bs p).2.1∧(zaY bs p).2.1≤bs.length:=by
 unfold zaY
 cases hs:zbw bs.length p 1
 ·obtain⟨h1,h2,h3⟩:=zck hs
  rw[if_neg (by simp)];simp only;omega
 ·rw[if_pos rfl];simp only;omega
theorem zeW {bs:List Int} {p:Int}:0≤(zev bs p).2.1∧(zev bs p).2.1≤bs.length:=by
 unfold zev
 cases hs:zbw bs.length p 8
 ·obtain⟨h1,h2,h3⟩:=zck hs
  rw[if_neg (by simp)]
  split
  ·simp only;omega
  ·simp only;omega
 ·rw[if_pos rfl];simp only;omega
theorem zjn {bs:List Int} {p most:Int} (h:BsOk bs):0≤(zb9 bs p most).2.1∧(zb9 bs p most).2.1≤bs.length:=by
 unfold zb9
 cases hs:zbw bs.length p 1
 ·obtain⟨h1,h2,h3⟩:=zck hs
  rw[if_neg (by simp)]
  have hb:=zfl (i:=p.toNat) (by omega) h.b
  unfold zaK at hb
  split
  ·simp only;omega
  ·cases hs2:zbw bs.length (p+1) (bs.getD p.toNat 0)
   ·obtain⟨h4,h5,h6⟩:=zck hs2
    rw[if_neg (by simp)];simp only;omega
   ·rw[if_pos rfl];simp only;omega
 ·rw[if_pos rfl];simp only;omega
def zaU (bs:List Int):Nat→Int→List Grant→List Grant×Int×Int
 |0,p,acc=>(acc,p,0)
 |k+1,p,acc=>
  if(zb9 bs p 12).2.2≠0 then([],0,(zb9 bs p 12).2.2)else
  if(zev bs (zb9 bs p 12).2.1).2.2≠0 then([],0,(zev bs (zb9 bs p 12).2.1).2.2)else
  zaU bs k (zev bs (zb9 bs p 12).2.1).2.1 (acc++[⟨(zb9 bs p 12).1,(zev bs (zb9 bs p 12).2.1).1⟩])
abbrev zwD (l:List Grant):RF:= .one (.own 2 l.length (zaG l) false)
theorem zes {n:Nat} (hn:n<2^60) {p:Int} (h:0≤p∧p≤n):i64 p:=by unfold i64;omega
set_option maxHeartbeats 1000000 in
theorem zrx (bs:List Int) (p:Int) (n:Nat) (h:BsOk bs) (hp:i64 p) (hn:n<2^20):
  CallOK Tryz.prog 199 [.f (asl bs.length (zaf bs)), .f (ai p), .f (ai n)] (fun r o=>r=[zwD (zaU bs n p []).1,ri (zaU bs n p []).2.1,ri (zaU bs n p []).2.2]∧o=[]):=by
 refine CallOK.nil ?_
 refine zac zas mixed (T:=Ty) (n:=45) Tryz.func199 (c:=Tryz.f199.body.getD .skip) rfl Tryz.results199 Tryz.ntmps199 Tryz.call199 ?_
 simp only[Tryz.f199,Option.getD]
 repeat'(first|refine zq0 ?_|exact zd0|(refine zaa ?_ ?_<;>intro hb)|(refine And.intro ?_ ?_;exact zI)|(refine And.intro ?_ ?_<;>intro hg)|exact zC|fail)
 refine zam (τ:=Nat×Int×List Grant) (fun t=>⟨[asl bs.length (zaf bs),ai t.2.1,dd,dd,dd,dd,dd,dd,dd, .one (.own ⟨9,1,1⟩ 0 t.2.2.length),dd,dd,ai n,ai t.1,dd,dd,dd,dd,dd,dd,dd,dd,dd,dd,dd,dd,dd,dd,dd,dd,dd,dd,dd,dd,dd,dd,dd,dd,dd,dd,dd,dd,dd,dd,dd],[(9,{next:=2,l:=[none,some {e:=1,var:=false,fz:=false,sz:=2,cells:=(zaG t.2.2).map C.d}]}),(6,⟨2,[]⟩),(10,⟨2,[]⟩),(40,⟨2,[]⟩),(41,⟨2,[]⟩)]⟩)
  (fun t=>t.1≤n∧i64 t.2.1∧t.2.2.length=t.1) (fun t=>zaU bs (n - t.1) t.2.1 t.2.2) (fun t=>n - t.1) (0,p,[])
  ((Gh.nil (i:=9) (s:=9) (sz:=2) rfl).trans (Gh.canon [9] [6,10,40,41] [] zK rfl rfl)) ⟨Nat.zero_le _,hp,rfl⟩ ?_
 intro⟨i,q,acc⟩ ⟨hi0,hq,ha⟩ hF K hK
 simp only[Nat.sub_zero]at hi0 hq ha hF hK⊢
 refine zw ?_
 refine zaa (fun hlt=> ?_) (fun hge=> ?_)
 ·have hi:i<n:=by simpa using hlt
  have hw:=zaq hi (by omega)
  have ht:=zks bs q 12 h hq
  have hm:=ziq bs (zb9 bs q 12).2.1 h (zes h.l (zjn h))
  have hst:n - i=(n - (i+1))+1:=by omega
  rw[hst,zaU]at hF
  have hle:(acc.length+1≤2^47)=True:=eq_true (by omega)
  cases e1:((zb9 bs q 12).2.2 !=0)
  ·have e1':(zb9 bs q 12).2.2=0:=by simpa using e1
   rw[if_neg (by simp[e1'])]at hF
   cases e2:((zev bs (zb9 bs q 12).2.1).2.2 !=0)
   ·have e2':(zev bs (zb9 bs q 12).2.1).2.2=0:=by simpa using e2
    rw[if_neg (by simp[e2'])]at hF
    repeat'(first|refine zq (I e1 (I e2 hle)) ?_|exact zd (I e1 (I e2 hle))|refine zc (ht) ?_|refine zg (ht) ?_|refine zc (hm) ?_|refine zg (hm) ?_|(refine zaa ?_ ?_<;>intro hb)|(refine And.intro ?_ ?_;exact zI)|(refine And.intro ?_ ?_<;>intro hg)|exact zC|fail)
    refine hK _ (i+1,(zev bs (zb9 bs q 12).2.1).2.1,acc++[⟨(zb9 bs q 12).1,(zev bs (zb9 bs q 12).2.1).1⟩]) (Gh.canon [9] [] [] (zk (I hw (I @List.length_append.{0} @List.length_singleton.{0}))) rfl (by simp only[List.length_append,List.length_singleton];rw[zgX];rfl)) ⟨hi,zes h.l zeW,by simp only[List.length_append,List.length_singleton];omega⟩ ?_ (by simp only;omega)
    simp only
    rw[hst,zaU,if_neg (by simp[e1']),if_neg (by simp[e2'])]
   ·have e2':(zev bs (zb9 bs q 12).2.1).2.2≠0:=by simpa using e2
    rw[if_pos e2']at hF
    rw[←hF]
    repeat'(first|refine zq (I e1 e2) ?_|exact zd (I e1 e2)|refine zc (ht) ?_|refine zg (ht) ?_|refine zc (hm) ?_|refine zg (hm) ?_|(refine zaa ?_ ?_<;>intro hb)|(refine And.intro ?_ ?_;exact zI)|(refine And.intro ?_ ?_<;>intro hg)|exact zC|fail)
    show zaz _ _∧zaz _ _∧zaz _ _∧True
    simp[zaz]
  ·have e1':(zb9 bs q 12).2.2≠0:=by simpa using e1
   rw[if_pos e1']at hF
   rw[←hF]
   repeat'(first|refine zq e1 ?_|exact zd e1|refine zc (ht) ?_|refine zg (ht) ?_|refine zc (hm) ?_|refine zg (hm) ?_|(refine zaa ?_ ?_<;>intro hb)|(refine And.intro ?_ ?_;exact zI)|(refine And.intro ?_ ?_<;>intro hg)|exact zC|fail)
   show zaz _ _∧zaz _ _∧zaz _ _∧True
   simp[zaz]
 ·have hi:i=n:=by
   have:¬(i:Int)<n:=by simpa using hge
   omega
  rw[hi,Nat.sub_self,zaU]at hF
  rw[←hF]
  repeat'(first|refine zq0 ?_|exact zd0|(refine zaa ?_ ?_<;>intro hb)|(refine And.intro ?_ ?_;exact zI)|(refine And.intro ?_ ?_<;>intro hg)|exact zC|fail)
  show zaz _ _∧zaz _ _∧zaz _ _∧True
  simp[zaz]
abbrev zrw:Reply:=⟨0,0,0,[]⟩
def zcO (bs:List Int) (p:Int):Reply×Int×Int:=
 if(zaY bs p).2.2≠0 then(zrw,0,(zaY bs p).2.2)else
 let s:=zev bs (zaY bs p).2.1
 if s.2.2≠0 then(zrw,0,s.2.2)else
 let a:=zaY bs s.2.1
 if a.2.2≠0 then(zrw,0,a.2.2)else
 let n:=zaY bs a.2.1
 if n.2.2≠0 then(zrw,0,n.2.2)else
 if n.1>4 then(zrw,0,4)else
 let g:=zaU bs n.1.toNat n.2.1 []
 if g.2.2≠0 then(zrw,0,g.2.2)else
 if zbL ⟨(zaY bs p).1,s.1,a.1,g.1⟩=false then(zrw,0,4)else(⟨(zaY bs p).1,s.1,a.1,g.1⟩,g.2.1,0)
theorem zio {bs:List Int} (h:BsOk bs) {p:Int}:zaK (zaY bs p).1:=by
 unfold zaY
 cases hs:zbw bs.length p 1
 ·obtain⟨h1,h2,h3⟩:=zck hs
  rw[if_neg (by simp)]
  exact zfl (by omega) h.b
 ·rw[if_pos rfl];exact⟨by decide,by decide⟩
theorem zjm {bs:List Int} {p most:Int}:(zb9 bs p most).1.size≤bs.length:=by
 unfold zb9
 split
 ·simp
 ·split
  ·simp
  ·split
   ·simp
   ·simp only[strOf,ByteArray.size,List.size_toArray,List.length_map,List.length_take,List.length_drop]
    omega
theorem zgS {bs:List Int}:∀{n:Nat} {p:Int} {acc:List Grant},(∀g∈acc,g.name.size≤bs.length)→(zaU bs n p acc).1.length≤acc.length+n∧∀g∈(zaU bs n p acc).1,g.name.size≤bs.length
 |0,p,acc,h=>⟨Nat.le_refl _,h⟩
 |n+1,p,acc,h=>by
  rw[zaU]
  split
  ·exact⟨Nat.zero_le _,by simp⟩
  ·split
   ·exact⟨Nat.zero_le _,by simp⟩
   ·have:=zgS (bs:=bs) (n:=n) (p:=(zev bs (zb9 bs p 12).2.1).2.1) (acc:=acc++[⟨(zb9 bs p 12).1,(zev bs (zb9 bs p 12).2.1).1⟩]) (fun g hg=>by
     rcases List.mem_append.1 hg with hg|hg
     ·exact h g hg
     ·simp at hg;subst hg;exact zjm)
    rw[List.length_append,List.length_singleton]at this
    exact⟨by omega,this.2⟩
set_option maxHeartbeats 1000000 in
theorem zmY (bs:List Int) (p:Int) (h:BsOk bs) (hp:i64 p):
  CallOK Tryz.prog 177 [.f (asl bs.length (zaf bs)), .f (ai p)] (fun r o=>r=[zq5 (zcO bs p).1,ri (zcO bs p).2.1,ri (zcO bs p).2.2]∧o=[]):=by
 refine CallOK.nil ?_
 refine zac zas mixed (T:=Ty) (n:=82) Tryz.func177 (c:=Tryz.f177.body.getD .skip) rfl Tryz.results177 Tryz.ntmps177 Tryz.call177 ?_
 simp only[Tryz.f177,Option.getD]
 have hl:=h.l
 have h1:=zfk bs p h hp
 have h2:=ziq bs (zaY bs p).2.1 h (zes h.l zdp)
 have h3:=zfk bs (zev bs (zaY bs p).2.1).2.1 h (zes h.l zeW)
 have h4:=zfk bs (zaY bs (zev bs (zaY bs p).2.1).2.1).2.1 h (zes h.l zdp)
 unfold zcO
 simp only
 obtain⟨b,hb⟩:∃b,b=zaY bs p:=⟨_,rfl⟩
 rw[←hb]at h1 h2 h3 h4⊢
 obtain⟨s,hs⟩:∃s,s=zev bs b.2.1:=⟨_,rfl⟩
 rw[←hs]at h2 h3 h4⊢
 obtain⟨a,ha⟩:∃a,a=zaY bs s.2.1:=⟨_,rfl⟩
 rw[←ha]at h3 h4⊢
 obtain⟨n,hn⟩:∃n,n=zaY bs a.2.1:=⟨_,rfl⟩
 rw[←hn]at h4⊢
 have hnv:zaK n.1:=by rw[hn];exact zio h
 have hnn:i64 n.2.1:=by rw[hn];exact zes h.l zdp
 have hbv:zaK b.1:=by rw[hb];exact zio h
 unfold zaK at hnv hbv
 have h5:=zrx bs n.2.1 n.1.toNat h hnn (by omega)
 rw[Int.toNat_of_nonneg hnv.1]at h5
 have hgk:=zgS (bs:=bs) (n:=n.1.toNat) (p:=n.2.1) (acc:=[]) (by simp)
 obtain⟨g,hg⟩:∃g,g=zaU bs n.1.toNat n.2.1 []:=⟨_,rfl⟩
 rw[←hg]at h5 hgk⊢
 have h6:=zeg ⟨b.1,s.1,a.1,g.1⟩ ⟨by have:=hgk.1;simp only[List.length_nil]at this;simp only;omega,fun x hx=>by have:=hgk.2 x hx;omega⟩
 clear hgk
 cases e1:(b.2.2 !=0)
 ·rw[if_neg (by simpa using e1)]
  cases e2:(s.2.2 !=0)
  ·rw[if_neg (by simpa using e2)]
   cases e3:(a.2.2 !=0)
   ·rw[if_neg (by simpa using e3)]
    cases e4:(n.2.2 !=0)
    ·rw[if_neg (by simpa using e4)]
     cases e5:decide (n.1>4)
     ·rw[if_neg (by simpa using e5)]
      cases e6:(g.2.2 !=0)
      ·rw[if_neg (by simpa using e6)]
       cases e7:zbL ⟨b.1,s.1,a.1,g.1⟩
       ·rw[e7]at h6
        rw[if_pos rfl]
        repeat'(first|refine zq (I e1 (I e2 (I e3 (I e4 (I e5 e6))))) ?_|exact zd (I e1 (I e2 (I e3 (I e4 (I e5 e6)))))|refine zc (h1) ?_|refine zg (h1) ?_|refine zc (h2) ?_|refine zg (h2) ?_|refine zc (h3) ?_|refine zg (h3) ?_|refine zc (h4) ?_|refine zg (h4) ?_|refine zc (h5) ?_|refine zg (h5) ?_|refine zc (h6) ?_|refine zg (h6) ?_|(refine zaa ?_ ?_<;>intro hb)|(refine And.intro ?_ ?_;exact zI)|(refine And.intro ?_ ?_<;>intro hg)|exact zC|fail)
        show(zaz _ _∧zaz _ _∧zaz _ _∧zaz _ _∧True)∧zaz _ _∧zaz _ _∧True
        simp[zaz, -List.length_flatMap,zay]
       ·rw[e7]at h6
        rw[if_neg (by simp)]
        repeat'(first|refine zq (I e1 (I e2 (I e3 (I e4 (I e5 e6))))) ?_|exact zd (I e1 (I e2 (I e3 (I e4 (I e5 e6)))))|refine zc (h1) ?_|refine zg (h1) ?_|refine zc (h2) ?_|refine zg (h2) ?_|refine zc (h3) ?_|refine zg (h3) ?_|refine zc (h4) ?_|refine zg (h4) ?_|refine zc (h5) ?_|refine zg (h5) ?_|refine zc (h6) ?_|refine zg (h6) ?_|(refine zaa ?_ ?_<;>intro hb)|(refine And.intro ?_ ?_;exact zI)|(refine And.intro ?_ ?_<;>intro hg)|exact zC|fail)
        show(zaz _ _∧zaz _ _∧zaz _ _∧zaz _ _∧True)∧zaz _ _∧zaz _ _∧True
        simp[zaz, -List.length_flatMap,zay]
      ·rw[if_pos (by simpa using e6)]
       repeat'(first|refine zq (I e1 (I e2 (I e3 (I e4 (I e5 e6))))) ?_|exact zd (I e1 (I e2 (I e3 (I e4 (I e5 e6)))))|refine zc (h1) ?_|refine zg (h1) ?_|refine zc (h2) ?_|refine zg (h2) ?_|refine zc (h3) ?_|refine zg (h3) ?_|refine zc (h4) ?_|refine zg (h4) ?_|refine zc (h5) ?_|refine zg (h5) ?_|(refine zaa ?_ ?_<;>intro hb)|(refine And.intro ?_ ?_;exact zI)|(refine And.intro ?_ ?_<;>intro hg)|exact zC|fail)
       show(zaz _ _∧zaz _ _∧zaz _ _∧zaz _ _∧True)∧zaz _ _∧zaz _ _∧True
       simp[zaz, -List.length_flatMap,zay]
     ·rw[if_pos (by simpa using e5)]
      repeat'(first|refine zq (I e1 (I e2 (I e3 (I e4 e5)))) ?_|exact zd (I e1 (I e2 (I e3 (I e4 e5))))|refine zc (h1) ?_|refine zg (h1) ?_|refine zc (h2) ?_|refine zg (h2) ?_|refine zc (h3) ?_|refine zg (h3) ?_|refine zc (h4) ?_|refine zg (h4) ?_|(refine zaa ?_ ?_<;>intro hb)|(refine And.intro ?_ ?_;exact zI)|(refine And.intro ?_ ?_<;>intro hg)|exact zC|fail)
      show(zaz _ _∧zaz _ _∧zaz _ _∧zaz _ _∧True)∧zaz _ _∧zaz _ _∧True
      simp[zaz, -List.length_flatMap,zay]
    ·rw[if_pos (by simpa using e4)]
     repeat'(first|refine zq (I e1 (I e2 (I e3 e4))) ?_|exact zd (I e1 (I e2 (I e3 e4)))|refine zc (h1) ?_|refine zg (h1) ?_|refine zc (h2) ?_|refine zg (h2) ?_|refine zc (h3) ?_|refine zg (h3) ?_|refine zc (h4) ?_|refine zg (h4) ?_|(refine zaa ?_ ?_<;>intro hb)|(refine And.intro ?_ ?_;exact zI)|(refine And.intro ?_ ?_<;>intro hg)|exact zC|fail)
     show(zaz _ _∧zaz _ _∧zaz _ _∧zaz _ _∧True)∧zaz _ _∧zaz _ _∧True
     simp[zaz, -List.length_flatMap,zay]
   ·rw[if_pos (by simpa using e3)]
    repeat'(first|refine zq (I e1 (I e2 e3)) ?_|exact zd (I e1 (I e2 e3))|refine zc (h1) ?_|refine zg (h1) ?_|refine zc (h2) ?_|refine zg (h2) ?_|refine zc (h3) ?_|refine zg (h3) ?_|(refine zaa ?_ ?_<;>intro hb)|(refine And.intro ?_ ?_;exact zI)|(refine And.intro ?_ ?_<;>intro hg)|exact zC|fail)
    show(zaz _ _∧zaz _ _∧zaz _ _∧zaz _ _∧True)∧zaz _ _∧zaz _ _∧True
    simp[zaz, -List.length_flatMap,zay]
  ·rw[if_pos (by simpa using e2)]
   repeat'(first|refine zq (I e1 e2) ?_|exact zd (I e1 e2)|refine zc (h1) ?_|refine zg (h1) ?_|refine zc (h2) ?_|refine zg (h2) ?_|(refine zaa ?_ ?_<;>intro hb)|(refine And.intro ?_ ?_;exact zI)|(refine And.intro ?_ ?_<;>intro hg)|exact zC|fail)
   show(zaz _ _∧zaz _ _∧zaz _ _∧zaz _ _∧True)∧zaz _ _∧zaz _ _∧True
   simp[zaz, -List.length_flatMap,zay]
 ·rw[if_pos (by simpa using e1)]
  repeat'(first|refine zq e1 ?_|exact zd e1|refine zc (h1) ?_|refine zg (h1) ?_|(refine zaa ?_ ?_<;>intro hb)|(refine And.intro ?_ ?_;exact zI)|(refine And.intro ?_ ?_<;>intro hg)|exact zC|fail)
  show(zaz _ _∧zaz _ _∧zaz _ _∧zaz _ _∧True)∧zaz _ _∧zaz _ _∧True
  simp[zaz, -List.length_flatMap,zay]
abbrev ztc:Memo:=⟨0,0,zrw⟩
def zen (bs:List Int) (p:Int):Memo×Int×Int:=
 if(zaY bs p).2.2≠0 then(ztc,0,(zaY bs p).2.2)else
 let s:=zev bs (zaY bs p).2.1
 if s.2.2≠0 then(ztc,0,s.2.2)else
 let r:=zcO bs s.2.1
 if r.2.2≠0 then(ztc,0,r.2.2)else
 if answerB ⟨(zaY bs p).1,s.1,r.1⟩=false then(ztc,0,4)else(⟨(zaY bs p).1,s.1,r.1⟩,r.2.1,0)
abbrev zt9 (m:Memo):RF:= .agg (m.enc.map RO.d)
theorem zg5 {bs:List Int}:∀{n:Nat} {p:Int} {acc:List Grant},0≤p∧p≤bs.length→0≤(zaU bs n p acc).2.1∧(zaU bs n p acc).2.1≤bs.length
 |0,p,acc,h=>h
 |n+1,p,acc,h=>by
  rw[zaU]
  split
  ·simp only;omega
  ·split
   ·simp only;omega
   ·exact zg5 zeW
theorem zg6 {bs:List Int} (h:BsOk bs) {p:Int}:(0≤(zcO bs p).2.1∧(zcO bs p).2.1≤bs.length)∧zcd (zcO bs p).1:=by
 have hl:=h.l
 have h0:(0≤((zrw,(0:Int),(0:Int)):Reply×Int×Int).2.1∧((zrw,(0:Int),(0:Int)):Reply×Int×Int).2.1≤bs.length)∧zcd zrw:=⟨by simp only;omega,by simp,by simp⟩
 unfold zcO
 simp only
 split
 ·exact h0
 split
 ·exact h0
 split
 ·exact h0
 split
 ·exact h0
 split
 ·exact h0
 rename_i h5
 split
 ·exact h0
 split
 ·exact h0
 ·have hgk:=zgS (bs:=bs) (n:=(zaY bs (zaY bs (zev bs (zaY bs p).2.1).2.1).2.1).1.toNat) (p:=(zaY bs (zaY bs (zev bs (zaY bs p).2.1).2.1).2.1).2.1) (acc:=[]) (by simp)
  simp only[List.length_nil]at hgk
  exact⟨zg5 zdp,by simp only;omega,fun g hg=>by have:=hgk.2 g hg;omega⟩
set_option maxHeartbeats 1000000 in
theorem zg7 (bs:List Int) (p:Int) (h:BsOk bs) (hp:i64 p):
  CallOK Tryz.prog 137 [.f (asl bs.length (zaf bs)), .f (ai p)] (fun r o=>r=[zt9 (zen bs p).1,ri (zen bs p).2.1,ri (zen bs p).2.2]∧o=[]):=by
 refine CallOK.nil ?_
 refine zac zas mixed (T:=Ty) (n:=52) Tryz.func137 (c:=Tryz.f137.body.getD .skip) rfl Tryz.results137 Tryz.ntmps137 Tryz.call137 ?_
 simp only[Tryz.f137,Option.getD]
 have h1:=zfk bs p h hp
 have h2:=ziq bs (zaY bs p).2.1 h (zes h.l zdp)
 have h3:=zmY bs (zev bs (zaY bs p).2.1).2.1 h (zes h.l zeW)
 have hf:=(zg6 h (p:=(zev bs (zaY bs p).2.1).2.1)).2
 unfold zen
 simp only
 obtain⟨b,hb⟩:∃b,b=zaY bs p:=⟨_,rfl⟩
 rw[←hb]at h1 h2 h3 hf⊢
 obtain⟨s,hs⟩:∃s,s=zev bs b.2.1:=⟨_,rfl⟩
 rw[←hs]at h2 h3 hf⊢
 obtain⟨a,ha⟩:∃a,a=zcO bs s.2.1:=⟨_,rfl⟩
 rw[←ha]at h3 hf⊢
 have h4:=zeU ⟨b.1,s.1,a.1⟩ hf
 cases e1:(b.2.2 !=0)
 ·rw[if_neg (by simpa using e1)]
  cases e2:(s.2.2 !=0)
  ·rw[if_neg (by simpa using e2)]
   cases e3:(a.2.2 !=0)
   ·rw[if_neg (by simpa using e3)]
    cases e7:answerB ⟨b.1,s.1,a.1⟩
    ·rw[e7]at h4
     rw[if_pos rfl]
     repeat'(first|refine zq (I e1 (I e2 e3)) ?_|exact zd (I e1 (I e2 e3))|refine zc (h1) ?_|refine zg (h1) ?_|refine zc (h2) ?_|refine zg (h2) ?_|refine zc (h3) ?_|refine zg (h3) ?_|refine zc (h4) ?_|refine zg (h4) ?_|(refine zaa ?_ ?_<;>intro hb)|(refine And.intro ?_ ?_;exact zI)|(refine And.intro ?_ ?_<;>intro hg)|exact zC|fail)
     show(zaz _ _∧zaz _ _∧zaz _ _∧zaz _ _∧zaz _ _∧zaz _ _∧True)∧zaz _ _∧zaz _ _∧True
     simp[zaz]
    ·rw[e7]at h4
     rw[if_neg (by simp)]
     repeat'(first|refine zq (I e1 (I e2 e3)) ?_|exact zd (I e1 (I e2 e3))|refine zc (h1) ?_|refine zg (h1) ?_|refine zc (h2) ?_|refine zg (h2) ?_|refine zc (h3) ?_|refine zg (h3) ?_|refine zc (h4) ?_|refine zg (h4) ?_|(refine zaa ?_ ?_<;>intro hb)|(refine And.intro ?_ ?_;exact zI)|(refine And.intro ?_ ?_<;>intro hg)|exact zC|fail)
     show(zaz _ _∧zaz _ _∧zaz _ _∧zaz _ _∧zaz _ _∧zaz _ _∧True)∧zaz _ _∧zaz _ _∧True
     simp[zaz]
   ·rw[if_pos (by simpa using e3)]
    repeat'(first|refine zq (I e1 (I e2 e3)) ?_|exact zd (I e1 (I e2 e3))|refine zc (h1) ?_|refine zg (h1) ?_|refine zc (h2) ?_|refine zg (h2) ?_|refine zc (h3) ?_|refine zg (h3) ?_|(refine zaa ?_ ?_<;>intro hb)|(refine And.intro ?_ ?_;exact zI)|(refine And.intro ?_ ?_<;>intro hg)|exact zC|fail)
    show(zaz _ _∧zaz _ _∧zaz _ _∧zaz _ _∧zaz _ _∧zaz _ _∧True)∧zaz _ _∧zaz _ _∧True
    simp[zaz]
  ·rw[if_pos (by simpa using e2)]
   repeat'(first|refine zq (I e1 e2) ?_|exact zd (I e1 e2)|refine zc (h1) ?_|refine zg (h1) ?_|refine zc (h2) ?_|refine zg (h2) ?_|(refine zaa ?_ ?_<;>intro hb)|(refine And.intro ?_ ?_;exact zI)|(refine And.intro ?_ ?_<;>intro hg)|exact zC|fail)
   show(zaz _ _∧zaz _ _∧zaz _ _∧zaz _ _∧zaz _ _∧zaz _ _∧True)∧zaz _ _∧zaz _ _∧True
   simp[zaz]
 ·rw[if_pos (by simpa using e1)]
  repeat'(first|refine zq e1 ?_|exact zd e1|refine zc (h1) ?_|refine zg (h1) ?_|(refine zaa ?_ ?_<;>intro hb)|(refine And.intro ?_ ?_;exact zI)|(refine And.intro ?_ ?_<;>intro hg)|exact zC|fail)
  show(zaz _ _∧zaz _ _∧zaz _ _∧zaz _ _∧zaz _ _∧zaz _ _∧True)∧zaz _ _∧zaz _ _∧True
  simp[zaz]
def zeu (s:ByteArray):List Int:=(s.size:Int)::s.data.toList.map fun b=>(b.toNat:Int)
theorem zrr (s:ByteArray):zhd s=zaf (zeu s):=by simp[zhd,zeu,zaf,zv2]
theorem zcM (s:ByteArray):(zeu s).length=1+s.size:=by simp[zeu,zgf,Nat.add_comm]
def zjj (g:Grant):List Int:=zeu g.name++zbV g.token
def zbz (l:List Grant):List Int:=l.flatMap zjj
def zb6 (r:Reply):List Int:=[r.code]++(zbV r.session++([r.ahead,(r.held.length:Int)]++zbz r.held))
def zbn (m:Memo):List Int:=[m.client]++(zbV m.seq++zb6 m.reply)
theorem zaW (n:Int):(zbV n).length=8:=rfl
theorem zo5 (g:Grant):(zjj g).length=9+g.name.size:=by simp[zjj,zcM,zaW];omega
theorem zfP:∀{l:List Grant} {k:Nat},(∀g∈l,g.name.size≤k)→(zbz l).length≤l.length*(9+k)
 |[],k,_=>by simp[zbz]
 |g::l,k,h=>by
  have h1:=zfP (l:=l) (k:=k) fun x hx=>h x (by simp[hx])
  have h2:=h g (by simp)
  rw[zbz,List.flatMap_cons,List.length_append,List.length_cons,zo5,Nat.add_mul]
  unfold zbz at h1
  omega
theorem zvj (b:UInt8):zaK (b.toNat:Int):=⟨by omega,by have:=b.toNat_lt;omega⟩
theorem zo6 (v:Int):zaK (IntKind.u8.wrap v):=by
 have e:IntKind.u8.wrap v=v % 256:=by
  unfold IntKind.wrap
  simp[IntKind.bits,IntKind.signed]
 rw[e];unfold zaK;omega
theorem zer (v:Int):∀x∈zbV v,zaK x:=by
 intro x hx
 obtain⟨k,_,rfl⟩:=List.mem_map.1 hx
 exact zo6 _
theorem zrs (s:ByteArray) (h:s.size≤255):∀x∈zeu s,zaK x:=by
 intro x hx
 rcases List.mem_cons.1 hx with rfl|hx
 ·exact⟨by omega,by omega⟩
 ·obtain⟨b,_,rfl⟩:=List.mem_map.1 hx
  exact zvj b
theorem zrt (v:Int):IntKind.u8.wrap v=v % 256:=by
 unfold IntKind.wrap
 simp[IntKind.bits,IntKind.signed]
theorem zru (v:Int) (k:Nat):zi7 v k=v / (2^(8*(7 - k))) % 256:=by
 rw[zi7,zrt,Int.fdiv_eq_ediv_of_nonneg _ (Int.pow_nonneg (by decide))]
theorem zwc (v:Int) (h:0≤v∧v<4611686018427387904):zg8 (zbV v)=v:=by
 have e:zbV v=[v / 72057594037927936 % 256,v / 281474976710656 % 256,v / 1099511627776 % 256,v / 4294967296 % 256,v / 16777216 % 256,v / 65536 % 256,v / 256 % 256,v % 256]:=by
  show List.map (zi7 v) [0,1,2,3,4,5,6,7]=_
  simp only[List.map_cons,List.map_nil,zru]
  simp
 rw[e]
 simp only[zg8,List.foldl_cons,List.foldl_nil]
 have d1:v / 65536=v / 256 / 256:=by omega
 have d2:v / 16777216=v / 65536 / 256:=by omega
 have d3:v / 4294967296=v / 16777216 / 256:=by omega
 have d4:v / 1099511627776=v / 4294967296 / 256:=by omega
 have d5:v / 281474976710656=v / 1099511627776 / 256:=by omega
 have d6:v / 72057594037927936=v / 281474976710656 / 256:=by omega
 have t0:0*256+v / 72057594037927936 % 256=v / 72057594037927936:=by omega
 have t1:v / 72057594037927936*256+v / 281474976710656 % 256=v / 281474976710656:=by rw[d6];omega
 have t2:v / 281474976710656*256+v / 1099511627776 % 256=v / 1099511627776:=by rw[d5];omega
 have t3:v / 1099511627776*256+v / 4294967296 % 256=v / 4294967296:=by rw[d4];omega
 have t4:v / 4294967296*256+v / 16777216 % 256=v / 16777216:=by rw[d3];omega
 have t5:v / 16777216*256+v / 65536 % 256=v / 65536:=by rw[d2];omega
 have t6:v / 65536*256+v / 256 % 256=v / 256:=by rw[d1];omega
 have t7:v / 256*256+v % 256=v:=by omega
 rw[t0,t1,t2,t3,t4,t5,t6,t7]
theorem zaH {bs a rest:List Int} {p:Nat} (h:bs.drop p=a++rest):bs.drop (p+a.length)=rest:=by
 rw[←List.drop_drop,h,List.drop_left]
theorem zmX {bs a rest:List Int} {p:Nat} (h:bs.drop p=a++rest) (ha:a≠[]):p+a.length≤bs.length:=by
 have:=congrArg List.length h
 rw[List.length_drop,List.length_append]at this
 have:0<a.length:=List.length_pos_iff.2 ha
 omega
theorem short_at {n p k:Nat} (h:p+k≤n):zbw n (p:Int) (k:Int)=false:=by
 unfold zbw
 simp;omega
theorem zgy {bs:List Int} {p:Nat} {x:Int} {rest:List Int} (h:bs.drop p=[x]++rest):zaY bs p=(x,((p+1:Nat):Int),0):=by
 have h1:=zmX h (by simp)
 simp only[List.length_singleton]at h1
 rw[zaY,if_neg (by rw[show(1:Int)=((1:Nat):Int) from rfl,short_at h1];simp),Int.toNat_natCast]
 have:bs.getD p 0=x:=by
  have:=congrArg (fun l=>l[0]?) h
  simp only[List.getElem?_drop,Nat.add_zero,List.singleton_append,List.getElem?_cons_zero]at this
  rw[List.getD_eq_getElem?_getD,this];rfl
 rw[this];simp
theorem zkr {bs:List Int} {p:Nat} {v:Int} {rest:List Int} (h:bs.drop p=zbV v++rest) (hv:0≤v∧v<4611686018427387904):zev bs p=(v,((p+8:Nat):Int),0):=by
 have h1:=zmX h (by intro h;have:=congrArg List.length h;rw[zaW]at this;simp at this)
 rw[zaW]at h1
 have h2:(bs.drop p).take 8=zbV v:=by rw[h];exact List.take_left' (zaW v)
 rw[zev,if_neg (by rw[show(8:Int)=((8:Nat):Int) from rfl,short_at h1];simp),Int.toNat_natCast,h2,zwc v hv,if_pos hv.2];simp
theorem zo7 (s:ByteArray):strOf (s.data.toList.map fun b=>(b.toNat:Int))=s:=by
 unfold strOf
 rw[List.map_map]
 have:(fun n:Int=>UInt8.ofNat n.toNat)∘(fun b:UInt8=>(b.toNat:Int))=id:=by
  funext b;simp
 rw[this,List.map_id]
theorem zn3 {bs:List Int} {p:Nat} {s:ByteArray} {most:Int} {rest:List Int} (h:bs.drop p=zeu s++rest) (hs:(s.size:Int)≤most):zb9 bs p most=(s,((p+(1+s.size):Nat):Int),0):=by
 have h1:=zmX h (by simp[zeu])
 rw[zcM]at h1
 have hg:bs.getD p 0=(s.size:Int):=by
  have:=congrArg (fun l=>l[0]?) h
  simp only[List.getElem?_drop,Nat.add_zero,zeu,List.cons_append,List.getElem?_cons_zero]at this
  rw[List.getD_eq_getElem?_getD,this];rfl
 have h2:(bs.drop (p+1)).take s.size=s.data.toList.map fun b=>(b.toNat:Int):=by
  rw[←List.drop_drop,h,zeu,List.cons_append,List.drop_succ_cons,List.drop_zero]
  exact List.take_left' (by simp[zgf])
 have hs1:=short_at (n:=bs.length) (p:=p) (k:=1) (by omega)
 have hs2:=short_at (n:=bs.length) (p:=p+1) (k:=s.size) (by omega)
 rw[Int.natCast_add]at hs2
 simp only[Int.ofNat_one,Int.natCast_one]at hs1 hs2
 rw[zb9,if_neg (by rw[hs1];simp),Int.toNat_natCast,hg,if_neg (by simpa using hs),if_neg (by rw[hs2];simp),Int.toNat_natCast,h2,zo7]
 simp;omega
theorem zjk {bs:List Int}:∀{l:List Grant} {p:Nat} {acc:List Grant} {rest:List Int},bs.drop p=zbz l++rest→(∀g∈l,g.name.size≤12∧0≤g.token∧g.token<4611686018427387904)→
  zaU bs l.length p acc=(acc++l,((p+(zbz l).length:Nat):Int),0)
 |[],p,acc,rest,h,_=>by simp[zaU,zbz]
 |g::l,p,acc,rest,h,hg=>by
  obtain⟨g1,g2⟩:=hg g (by simp)
  have h1:bs.drop p=zeu g.name++(zbV g.token++(zbz l++rest)):=by rw[h];simp[zbz,zjj]
  have e1:=zn3 h1 (most:=12) (by omega)
  have h2:=zaH h1
  rw[zcM]at h2
  have e2:=zkr h2 g2
  have h3:=zaH h2
  rw[zaW]at h3
  have ih:=zjk (l:=l) (acc:=acc++[g]) h3 fun x hx=>hg x (by simp[hx])
  rw[List.length_cons,zaU,e1]
  simp only
  rw[e2]
  simp only[ne_eq,not_true_eq_false,if_false]
  rw[show({name:=g.name,token:=g.token}:Grant)=g from rfl,ih]
  have:(zbz (g::l)).length=1+g.name.size+8+(zbz l).length:=by simp[zbz,zjj,zcM,zaW];omega
  rw[this,List.append_assoc]
  simp;omega
theorem zcA {r:Reply} (h:zbL r=true):(0≤r.code∧r.code≤12)∧(0≤r.session∧r.session≤2305843009213693952)∧(0≤r.ahead∧r.ahead≤3)∧r.held.length≤4∧zby (zcy r.held) 0 r.held=true:=by
 unfold zbL at h
 have hH:zbB=2305843009213693952:=rfl
 simp only[Bool.and_eq_true,Bool.not_eq_true',Bool.or_eq_false_iff,decide_eq_false_iff_not,hH]at h
 obtain⟨⟨h1,h2⟩,h3⟩:=h
 refine⟨by omega,by omega,by omega,by omega,h3⟩
theorem zjl {α:Type} {q:Nat→α→Bool}:∀{l:List α} {i:Nat},zby q i l=true→∀x∈l,∃k,q k x=true
 |[],_,_,x,hx=>by cases hx
 |a::l,i,h,x,hx=>by
  rw[zby]at h
  split at h
  ·rename_i hq
   rcases List.mem_cons.1 hx with rfl|hx
   ·exact⟨i,hq⟩
   ·exact zjl h x hx
  ·cases h
theorem zcN {r:Reply} (h:zbL r=true):∀g∈r.held,g.name.size≤12∧0≤g.token∧g.token<4611686018427387904:=by
 intro g hg
 obtain⟨k,hk⟩:=zjl (zcA h).2.2.2.2 g hg
 unfold zcy at hk
 have hH:zbB=2305843009213693952:=rfl
 simp only[Bool.not_eq_true',Bool.or_eq_false_iff,decide_eq_false_iff_not,hH,Bool.not_eq_false']at hk
 obtain⟨⟨⟨h1,h2⟩,h3⟩,h4⟩:=hk
 have:nameP g.name=true:=by simpa using h1
 unfold nameP at this
 simp only[Bool.and_eq_true,decide_eq_true_eq]at this
 omega
theorem zrv {bs:List Int} {r:Reply} {p:Nat} {rest:List Int} (h:bs.drop p=zb6 r++rest) (hr:zbL r=true):zcO bs p=(r,((p+(zb6 r).length:Nat):Int),0):=by
 obtain⟨f1,f2,f3,f4,f5⟩:=zcA hr
 have h1:bs.drop p=[r.code]++(zbV r.session++([r.ahead]++([(r.held.length:Int)]++(zbz r.held++rest)))):=by rw[h];simp[zb6]
 have e1:=zgy h1
 have h2:=zaH h1
 have e2:=zkr (p:=p+[r.code].length) h2 (by omega)
 have h3:=zaH h2
 rw[zaW]at h3
 have e3:=zgy h3
 have h4:=zaH h3
 have e4:=zgy h4
 have h5:=zaH h4
 have e5:=zjk (acc:=[]) h5 (zcN hr)
 simp only[List.length_singleton]at e2 e3 e4 e5
 rw[zcO,e1]
 simp only[ne_eq,not_true_eq_false,if_false]
 rw[e2]
 simp only[ne_eq,not_true_eq_false,if_false]
 rw[e3]
 simp only[ne_eq,not_true_eq_false,if_false]
 rw[e4]
 simp only[ne_eq,not_true_eq_false,if_false,Int.toNat_natCast]
 rw[e5]
 simp only[ne_eq,not_true_eq_false,if_false,List.nil_append]
 rw[if_neg (by omega),show(⟨r.code,r.session,r.ahead,r.held⟩:Reply)=r from rfl,if_neg (by rw[hr];simp)]
 have:(zb6 r).length=1+8+1+1+(zbz r.held).length:=by simp[zb6,zaW];omega
 rw[this]
 simp;omega
theorem zcj {m:Memo} (h:answerB m=true):(0≤m.client∧m.client<8)∧(1≤m.seq∧m.seq≤2305843009213693952)∧zbL m.reply=true:=by
 unfold answerB at h
 have hH:zbB=2305843009213693952:=rfl
 simp only[Bool.and_eq_true,decide_eq_true_eq,hH]at h
 exact⟨by omega,by omega,h.2⟩
theorem zo8 {bs:List Int} {m:Memo} {p:Nat} {rest:List Int} (h:bs.drop p=zbn m++rest) (hm:answerB m=true):zen bs p=(m,((p+(zbn m).length:Nat):Int),0):=by
 obtain⟨f1,f2,f3⟩:=zcj hm
 have h1:bs.drop p=[m.client]++(zbV m.seq++(zb6 m.reply++rest)):=by rw[h];simp[zbn]
 have e1:=zgy h1
 have h2:=zaH h1
 have e2:=zkr (p:=p+[m.client].length) h2 (by omega)
 have h3:=zaH h2
 rw[zaW]at h3
 have e3:=zrv h3 f3
 simp only[List.length_singleton]at e2 e3
 rw[zen,e1]
 simp only[ne_eq,not_true_eq_false,if_false]
 rw[e2]
 simp only[ne_eq,not_true_eq_false,if_false]
 rw[e3]
 simp only[ne_eq,not_true_eq_false,if_false]
 rw[show(⟨m.client,m.seq,m.reply⟩:Memo)=m from rfl,if_neg (by rw[hm];simp)]
 have:(zbn m).length=1+8+(zb6 m.reply).length:=by simp[zbn,zaW];omega
 rw[this]
 simp;omega
end Go.Proofs.YtbpmcjeeeiffhaaGreat
