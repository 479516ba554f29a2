import Derived.Test.YtbpmcjeeeiffhaaGreatL2
namespace Go.Proofs.YtbpmcjeeeiffhaaGreat
open Go.Pk
set_option maxRecDepth 100000
set_option linter.unusedSimpArgs false
set_option linter.unusedVariables false
theorem zvV (n:Nat) (ds:List D) (p:Nat) (x:Int) (rest:List D) (hl:ds.length=n) (hn:n<2^62) (hp:p<n) (hat:ds.drop p= .v (.int .u8 x)::rest) (hx:0≤x∧x≤255):
  CallOK Tryz.prog 135 [.f (asl n ds), .f (ai p)] (fun r o=>r=[ri x,ri ((p+1:Nat):Int),ri 0]∧o=[]):=by
 refine zbE zak mixed (T:=Ty) Tryz.func135 rfl Tryz.results135 Tryz.ntmps135 Tryz.call135 Tryz.call175 (ks:=[4,5,6]) rfl rfl rfl rfl rfl rfl (by decide) (by decide)
  (xs:=[asl n ds,ai p]) zjW ziI ⟨[asl n ds,ai p,dd,dd, .one (.ptr ⟨4,0,0⟩ 0), .one (.ptr ⟨5,0,0⟩ 0), .one (.ptr ⟨6,0,0⟩ 0),dd,dd,dd,dd,dd,dd,dd,dd,dd,dd,dd,dd,dd],[(4,{next:=1,l:=[some {e:=0,var:=true,fz:=false,sz:=0,cells:=[di 0]},none]}),(5,{next:=1,l:=[some {e:=0,var:=true,fz:=false,sz:=0,cells:=[di 0]},none]}),(6,{next:=1,l:=[some {e:=0,var:=true,fz:=false,sz:=0,cells:=[di 0]},none]})]⟩ ?_ ?_ rfl ?_
 ·simp only[List.map_cons,List.map_nil]
  repeat'(first|refine zq0 ?_|exact zd0|(refine zaa ?_ ?_<;>intro hb)|(refine And.intro ?_ ?_;exact zI)|(refine And.intro ?_ ?_<;>intro hg)|exact zC|fail)
  exact fun _ _ _ h=>h
 ·exact⟨⟨_,rfl,rfl,rfl,rfl,rfl⟩,⟨_,rfl,rfl,rfl,rfl,rfl⟩,⟨_,rfl,rfl,rfl,rfl,rfl⟩,trivial⟩
 ·have htk:=zpR n ds p 1 hl hn (by omega)
  rw[hat]at htk
  have hw:IntKind.i64.wrap x=x:=wrap64 (by omega) (by omega)
  repeat'(first|refine zq0 ?_|exact zd0|(refine zaa ?_ ?_<;>intro hb)|(refine And.intro ?_ ?_;exact zI)|(refine And.intro ?_ ?_<;>intro hg)|exact zC|fail)
  refine zj (htk) ?_
  repeat'(first|refine zq (I hw @zeh) ?_|exact zd (I hw @zeh)|(refine zaa ?_ ?_<;>intro hb)|(refine And.intro ?_ ?_;exact zI)|(refine And.intro ?_ ?_<;>intro hg)|exact zC|fail)
theorem ztS (n:Nat) (ds:List D) (p:Int) (hl:ds.length=n) (hn:n<2^62) (hp:i64 p) (h:zcd n p 1=true):
  CallOK Tryz.prog 135 [.f (asl n ds), .f (ai p)] (fun r o=>r=[ri 0,ri 0,ri 2]∧o=[]):=by
 refine zbE zak mixed (T:=Ty) Tryz.func135 rfl Tryz.results135 Tryz.ntmps135 Tryz.call135 Tryz.call175 (ks:=[4,5,6]) rfl rfl rfl rfl rfl rfl (by decide) (by decide)
  (xs:=[asl n ds,ai p]) zjW ziI ⟨[asl n ds,ai p,dd,dd, .one (.ptr ⟨4,0,0⟩ 0), .one (.ptr ⟨5,0,0⟩ 0), .one (.ptr ⟨6,0,0⟩ 0),dd,dd,dd,dd,dd,dd,dd,dd,dd,dd,dd,dd,dd],[(4,{next:=1,l:=[some {e:=0,var:=true,fz:=false,sz:=0,cells:=[di 0]},none]}),(5,{next:=1,l:=[some {e:=0,var:=true,fz:=false,sz:=0,cells:=[di 0]},none]}),(6,{next:=1,l:=[some {e:=0,var:=true,fz:=false,sz:=0,cells:=[di 0]},none]})]⟩ ?_ ?_ rfl ?_
 ·simp only[List.map_cons,List.map_nil]
  repeat'(first|refine zq0 ?_|exact zd0|(refine zaa ?_ ?_<;>intro hb)|(refine And.intro ?_ ?_;exact zI)|(refine And.intro ?_ ?_<;>intro hg)|exact zC|fail)
  exact fun _ _ _ h=>h
 ·exact⟨⟨_,rfl,rfl,rfl,rfl,rfl⟩,⟨_,rfl,rfl,rfl,rfl,rfl⟩,⟨_,rfl,rfl,rfl,rfl,rfl⟩,trivial⟩
 ·have htk:=zhK n ds p 1 hl hn hp h
  repeat'(first|refine zq0 ?_|exact zd0|(refine zaa ?_ ?_<;>intro hb)|(refine And.intro ?_ ?_;exact zI)|(refine And.intro ?_ ?_<;>intro hg)|exact zC|fail)
  refine zp (rdr n ds p) (htk) ?_
  simp only[zci,zcj,zch,zc1]
  refine⟨⟨_,rfl⟩,rfl,⟨⟨_,rfl,rfl,rfl,rfl,rfl⟩,⟨_,rfl,rfl,rfl,rfl,rfl⟩,⟨_,rfl,rfl,rfl,rfl,rfl⟩,trivial⟩, ?_⟩
  rw[show zm3 20 [4,5,6] (nw3 (.int .i64 0) (zfH 170 2))=⟨[dd,dd,dd,dd, .one (.ptr ⟨4,0,0⟩ 0), .one (.ptr ⟨5,0,0⟩ 0), .one (.ptr ⟨6,0,0⟩ 0),dd,dd,dd,dd,dd,dd,dd,dd,dd,dd,dd,dd,dd],[(4,{next:=1,l:=[some {e:=0,var:=true,fz:=false,sz:=0,cells:=[di 0]}]}),(5,{next:=1,l:=[some {e:=0,var:=true,fz:=false,sz:=0,cells:=[di 0]}]}),(6,{next:=1,l:=[some {e:=0,var:=true,fz:=false,sz:=0,cells:=[di 2]}]})]⟩ from rfl]
  first|refine zs0 ?_|exact zt0
def zhj (l:List Int):Int:=l.foldl (fun u c=>u*256+c) 0
theorem zse {l:List Int} {c:Int}:zhj (l++[c])=zhj l*256+c:=by unfold zhj;rw[List.foldl_append];rfl
theorem zjU:∀{l:List Int} {a:Int},0≤a→(∀c∈l,za6 c)→0≤l.foldl (fun u c=>u*256+c) a∧l.foldl (fun u c=>u*256+c) a<(a+1)*256^l.length
 |[],a,ha,_=>by simp;omega
 |c::l,a,ha,h=>by
  have h2:=h c (by simp)
  unfold za6 at h2
  obtain⟨h3,h4⟩:=zjU (l:=l) (a:=a*256+c) (by omega) fun x hx=>h x (by simp[hx])
  refine⟨h3,Int.lt_of_lt_of_le h4 ?_⟩
  rw[List.length_cons,Int.pow_succ,Int.mul_comm (256^l.length) 256,←Int.mul_assoc]
  exact Int.mul_le_mul_of_nonneg_right (by omega) (Int.pow_nonneg (by decide))
theorem zjV {l:List Int} (h:∀c∈l,za6 c):0≤zhj l∧zhj l<256^l.length:=by
 have:=zjU (l:=l) (a:=0) (by decide) h
 rw[Int.zero_add,Int.one_mul]at this
 exact this
theorem zzo {i:Nat} (h:i<8):(256:Int)^i≤72057594037927936:=by
 rcases(show i=0∨i=1∨i=2∨i=3∨i=4∨i=5∨i=6∨i=7 by omega)with rfl|rfl|rfl|rfl|rfl|rfl|rfl|rfl<;>decide
theorem zvW {n:Int} (h0:0≤n) (h1:n<18446744073709551616):IntKind.u64.wrap n=n:=by
 have e:IntKind.u64.wrap n=n % 18446744073709551616:=by
  unfold IntKind.wrap
  simp[IntKind.bits,IntKind.signed]
 rw[e]
 omega
theorem zwM {u c:Int} (hu:0≤u∧u<72057594037927936) (hc:0≤c∧c≤255):
  IntKind.u64.wrap (BitVec.ofInt IntKind.u64.bits (u*256)|||BitVec.ofInt IntKind.u64.bits c).toNat=u*256+c:=by
 obtain⟨a,rfl⟩:=Int.eq_ofNat_of_zero_le hu.1
 obtain⟨b,rfl⟩:=Int.eq_ofNat_of_zero_le hc.1
 have hb:IntKind.u64.bits=64:=rfl
 rw[hb]
 have e1:(BitVec.ofInt 64 ((a:Int)*256)|||BitVec.ofInt 64 (b:Int)).toNat=a*256+b:=by
  have h1:((a:Int)*256)=((a*256:Nat):Int):=by omega
  rw[h1,BitVec.ofInt_natCast,BitVec.ofInt_natCast,BitVec.toNat_or,BitVec.toNat_ofNat,BitVec.toNat_ofNat]
  rw[Nat.mod_eq_of_lt (by omega),Nat.mod_eq_of_lt (by omega)]
  have:=Nat.shiftLeft_add_eq_or_of_lt (i:=8) (b:=b) (by omega) a
  rw[Nat.shiftLeft_eq]at this
  exact this.symm
 rw[e1,zvW (by omega) (by omega)]
 omega
theorem zgE {l:List Int} {i:Nat} (hi:i<l.length) (h:∀c∈l,za6 c):za6 (l.getD i 0):=by
 rw[List.getD_eq_getElem?_getD,List.getElem?_eq_getElem hi];exact h _ (List.getElem_mem hi)
theorem zsf {l:List Int} {i:Nat} (hi:i<l.length):zhj (l.take (i+1))=zhj (l.take i)*256+l.getD i 0:=by
 rw[List.take_succ_eq_append_getElem hi,zse,List.getD_eq_getElem?_getD,List.getElem?_eq_getElem hi];rfl
set_option maxHeartbeats 1000000 in
theorem ztT (n:Nat) (ds:List D) (p:Nat) (c:List Int) (hl:ds.length=n) (hn:n<2^62) (hp:p+8≤n) (hat:(ds.drop p).take 8=zao c) (hc8:c.length=8) (hc:∀x∈c,za6 x):
  CallOK Tryz.prog 92 [.f (asl n ds), .f (ai p)] (fun r o=>r=(if zhj c<4611686018427387904 then [ri (zhj c),ri ((p+8:Nat):Int),ri 0]else [ri 0,ri 0,ri 4])∧o=[]):=by
 refine zbE zak mixed (T:=Ty) Tryz.func92 rfl Tryz.results92 Tryz.ntmps92 Tryz.call92 Tryz.call141 (ks:=[4,5,6]) rfl rfl rfl rfl rfl rfl (by decide) (by decide)
  (xs:=[asl n ds,ai p]) zmP zjX ⟨[asl n ds,ai p,dd,dd, .one (.ptr ⟨4,0,0⟩ 0), .one (.ptr ⟨5,0,0⟩ 0), .one (.ptr ⟨6,0,0⟩ 0),dd,dd,dd,dd,dd,dd,dd,dd,dd,dd,dd,dd,dd,dd,dd,dd,dd,dd,dd,dd,dd,dd,dd,dd,dd,dd,dd,dd],[(4,{next:=1,l:=[some {e:=0,var:=true,fz:=false,sz:=0,cells:=[di 0]},none]}),(5,{next:=1,l:=[some {e:=0,var:=true,fz:=false,sz:=0,cells:=[di 0]},none]}),(6,{next:=1,l:=[some {e:=0,var:=true,fz:=false,sz:=0,cells:=[di 0]},none]})]⟩ ?_ ?_ rfl ?_
 ·simp only[List.map_cons,List.map_nil]
  repeat'(first|refine zq0 ?_|exact zd0|(refine zaa ?_ ?_<;>intro hb)|(refine And.intro ?_ ?_;exact zI)|(refine And.intro ?_ ?_<;>intro hg)|exact zC|fail)
  exact fun _ _ _ h=>h
 ·exact⟨⟨_,rfl,rfl,rfl,rfl,rfl⟩,⟨_,rfl,rfl,rfl,rfl,rfl⟩,⟨_,rfl,rfl,rfl,rfl,rfl⟩,trivial⟩
 ·have htk:=zpR n ds p 8 hl hn hp
  rw[hat]at htk
  have hb1:=zjV hc
  rw[hc8]at hb1
  repeat'(first|refine zq0 ?_|exact zd0|(refine zaa ?_ ?_<;>intro hb)|(refine And.intro ?_ ?_;exact zI)|(refine And.intro ?_ ?_<;>intro hg)|exact zC|fail)
  refine zj (htk) ?_
  repeat'(first|refine zq0 ?_|exact zd0|(refine zaa ?_ ?_<;>intro hb)|(refine And.intro ?_ ?_;exact zI)|(refine And.intro ?_ ?_<;>intro hg)|exact zC|fail)
  refine zhB Ty Tryz.prog (τ:=Nat) (fun i=>⟨[dd,dd,dd,dd, .one (.ptr ⟨4,0,0⟩ 0), .one (.ptr ⟨5,0,0⟩ 0), .one (.ptr ⟨6,0,0⟩ 0), .one (.ptr ⟨7,0,1⟩ 0), .one (.d (.v (.int .u64 (zhj (c.take i))))),dd,dd,dd,dd,dd,dd,asl 8 (zao c),ai 8,ai i,dd,dd,dd,dd,dd,dd,dd,dd,dd,dd,dd,dd,dd,dd,dd,dd,dd],[(4,{next:=1,l:=[some {e:=0,var:=true,fz:=false,sz:=0,cells:=[di 0]},none]}),(5,{next:=1,l:=[some {e:=0,var:=true,fz:=false,sz:=0,cells:=[di 0]},none]}),(6,{next:=1,l:=[some {e:=0,var:=true,fz:=false,sz:=0,cells:=[di 0]},none]}),(7,{next:=2,l:=[some {e:=1,var:=true,fz:=false,sz:=0,cells:=[.d (.sl n ds),di ((p+8:Nat):Int)]},none,none]})]⟩)
   (fun i=>i≤8) (fun i=>8 - i) 0 (Gh.canon [4,5,6,7] [] [4,5,6] zK rfl rfl) (Nat.zero_le _) ?_
  intro i hi0 K hK
  refine zw ?_
  refine zaa (fun hlt=> ?_) (fun hge=> ?_)
  ·have hi:i<c.length:=by simp at hlt;omega
   have hat2:=zib hi
   have hw:=zal (i:=i) (n:=8) (by omega) (by omega)
   have hx:=zgE hi hc
   unfold za6 at hx
   have hbi:=zjV (l:=c.take i) fun x hx=>hc x (List.mem_of_mem_take hx)
   have hli:(c.take i).length=i:=by rw[List.length_take];omega
   rw[hli]at hbi
   have hp8:=zzo (i:=i) (by omega)
   have w1:min (Int.toNat 8) IntKind.u64.bits=8:=by decide
   have w2:IntKind.u64.wrap (zhj (c.take i)*2^8)=zhj (c.take i)*256:=zvW (by omega) (by omega)
   have w3:IntKind.u64.wrap (c.getD i 0)=c.getD i 0:=zvW (by omega) (by omega)
   have w4:=zwM (u:=zhj (c.take i)) (c:=c.getD i 0) ⟨hbi.1,by omega⟩ ⟨hx.1,by omega⟩
   have w5:=zsf hi
   have w6:¬((8:Int)<0):=by decide
   repeat'(first|(with_reducible first|refine zab _ _ ?_|refine zaU ?_|refine zaV ?_)|rw[zat]|simp only[hat2,za4,hc8,w1,w2,w3,w4,if_neg w6,zY,Int.reduceEq,Int.reduceBEq,Int.reduceBNe,Nat.reduceSub,Nat.reduceEqDiff,Nat.reduceAdd,Nat.reduceMul,Nat.reduceLeDiff,Nat.reduceLT,Nat.reduceBEq,reduceCtorEq]|refine zay ?_|refine zaa (fun hb=> ?_) (fun hb=> ?_)|(refine And.intro ?_ ?_;exact zI)|refine And.intro (fun hg=> ?_) (fun hg=> ?_)|exact zC|fail)
   exact hK _ (i+1) (Gh.canon [4,5,6,7] [] [4,5,6] (zk (I hw w5)) rfl rfl) (by omega) (by omega)
  ·have hi:i=8:=by
    have:¬(i:Int)<8:=by simpa using hge
    omega
   subst hi
   have ht:c.take 8=c:=List.take_of_length_le (by omega)
   have w7:IntKind.i64.wrap (zhj c)=zhj c∨¬zhj c<4611686018427387904:=by
    by_cases h:zhj c<4611686018427387904
    ·exact .inl (wrap64 (by omega) (by omega))
    ·exact .inr h
   by_cases hlt:zhj c<4611686018427387904
   ·have h1:decide (zhj c≥4611686018427387904)=false:=by simp;omega
    have w7:IntKind.i64.wrap (zhj c)=zhj c:=wrap64 (by omega) (by omega)
    repeat'(first|(with_reducible first|refine zab _ _ ?_|refine zaU ?_|refine zaV ?_)|rw[zat]|simp only[ht,h1,w7,if_pos hlt,zeh,zY,Int.reduceEq,Int.reduceBEq,Int.reduceBNe,Nat.reduceSub,Nat.reduceEqDiff,Nat.reduceAdd,Nat.reduceMul,Nat.reduceLeDiff,Nat.reduceLT,Nat.reduceBEq,reduceCtorEq]|refine zay ?_|refine zaa (fun hb=> ?_) (fun hb=> ?_)|(refine And.intro ?_ ?_;exact zI)|refine And.intro (fun hg=> ?_) (fun hg=> ?_)|exact zC|fail)
   ·have h1:decide (zhj c≥4611686018427387904)=true:=by simp;omega
    repeat'(first|(with_reducible first|refine zab _ _ ?_|refine zaU ?_|refine zaV ?_)|rw[zat]|simp only[ht,h1,if_neg hlt,zY,Int.reduceEq,Int.reduceBEq,Int.reduceBNe,Nat.reduceSub,Nat.reduceEqDiff,Nat.reduceAdd,Nat.reduceMul,Nat.reduceLeDiff,Nat.reduceLT,Nat.reduceBEq,reduceCtorEq]|refine zay ?_|refine zaa (fun hb=> ?_) (fun hb=> ?_)|(refine And.intro ?_ ?_;exact zI)|refine And.intro (fun hg=> ?_) (fun hg=> ?_)|exact zC|fail)
    simp only[zci,zcj,zch,zc1]
    refine⟨⟨_,rfl⟩,rfl,⟨⟨_,rfl,rfl,rfl,rfl,rfl⟩,⟨_,rfl,rfl,rfl,rfl,rfl⟩,⟨_,rfl,rfl,rfl,rfl,rfl⟩,trivial⟩, ?_⟩
    rw[show zm3 35 [4,5,6] (nw3 (.int .i64 0) (zfH 170 4))=⟨[dd,dd,dd,dd, .one (.ptr ⟨4,0,0⟩ 0), .one (.ptr ⟨5,0,0⟩ 0), .one (.ptr ⟨6,0,0⟩ 0),dd,dd,dd,dd,dd,dd,dd,dd,dd,dd,dd,dd,dd,dd,dd,dd,dd,dd,dd,dd,dd,dd,dd,dd,dd,dd,dd,dd],[(4,{next:=1,l:=[some {e:=0,var:=true,fz:=false,sz:=0,cells:=[di 0]}]}),(5,{next:=1,l:=[some {e:=0,var:=true,fz:=false,sz:=0,cells:=[di 0]}]}),(6,{next:=1,l:=[some {e:=0,var:=true,fz:=false,sz:=0,cells:=[di 4]}]})]⟩ from rfl]
    first|refine zs0 ?_|exact zt0
theorem zvX (n:Nat) (ds:List D) (p:Int) (hl:ds.length=n) (hn:n<2^62) (hp:i64 p) (h:zcd n p 8=true):
  CallOK Tryz.prog 92 [.f (asl n ds), .f (ai p)] (fun r o=>r=[ri 0,ri 0,ri 2]∧o=[]):=by
 refine zbE zak mixed (T:=Ty) Tryz.func92 rfl Tryz.results92 Tryz.ntmps92 Tryz.call92 Tryz.call141 (ks:=[4,5,6]) rfl rfl rfl rfl rfl rfl (by decide) (by decide)
  (xs:=[asl n ds,ai p]) zmP zjX ⟨[asl n ds,ai p,dd,dd, .one (.ptr ⟨4,0,0⟩ 0), .one (.ptr ⟨5,0,0⟩ 0), .one (.ptr ⟨6,0,0⟩ 0),dd,dd,dd,dd,dd,dd,dd,dd,dd,dd,dd,dd,dd,dd,dd,dd,dd,dd,dd,dd,dd,dd,dd,dd,dd,dd,dd,dd],[(4,{next:=1,l:=[some {e:=0,var:=true,fz:=false,sz:=0,cells:=[di 0]},none]}),(5,{next:=1,l:=[some {e:=0,var:=true,fz:=false,sz:=0,cells:=[di 0]},none]}),(6,{next:=1,l:=[some {e:=0,var:=true,fz:=false,sz:=0,cells:=[di 0]},none]})]⟩ ?_ ?_ rfl ?_
 ·simp only[List.map_cons,List.map_nil]
  repeat'(first|refine zq0 ?_|exact zd0|(refine zaa ?_ ?_<;>intro hb)|(refine And.intro ?_ ?_;exact zI)|(refine And.intro ?_ ?_<;>intro hg)|exact zC|fail)
  exact fun _ _ _ h=>h
 ·exact⟨⟨_,rfl,rfl,rfl,rfl,rfl⟩,⟨_,rfl,rfl,rfl,rfl,rfl⟩,⟨_,rfl,rfl,rfl,rfl,rfl⟩,trivial⟩
 ·have htk:=zhK n ds p 8 hl hn hp h
  repeat'(first|refine zq0 ?_|exact zd0|(refine zaa ?_ ?_<;>intro hb)|(refine And.intro ?_ ?_;exact zI)|(refine And.intro ?_ ?_<;>intro hg)|exact zC|fail)
  refine zp (rdr n ds p) (htk) ?_
  simp only[zci,zcj,zch,zc1]
  refine⟨⟨_,rfl⟩,rfl,⟨⟨_,rfl,rfl,rfl,rfl,rfl⟩,⟨_,rfl,rfl,rfl,rfl,rfl⟩,⟨_,rfl,rfl,rfl,rfl,rfl⟩,trivial⟩, ?_⟩
  rw[show zm3 35 [4,5,6] (nw3 (.int .i64 0) (zfH 170 2))=⟨[dd,dd,dd,dd, .one (.ptr ⟨4,0,0⟩ 0), .one (.ptr ⟨5,0,0⟩ 0), .one (.ptr ⟨6,0,0⟩ 0),dd,dd,dd,dd,dd,dd,dd,dd,dd,dd,dd,dd,dd,dd,dd,dd,dd,dd,dd,dd,dd,dd,dd,dd,dd,dd,dd,dd],[(4,{next:=1,l:=[some {e:=0,var:=true,fz:=false,sz:=0,cells:=[di 0]}]}),(5,{next:=1,l:=[some {e:=0,var:=true,fz:=false,sz:=0,cells:=[di 0]}]}),(6,{next:=1,l:=[some {e:=0,var:=true,fz:=false,sz:=0,cells:=[di 2]}]})]⟩ from rfl]
  first|refine zs0 ?_|exact zt0
theorem zev:∀l:List Int,bytesOf (zao l)=some (l.map fun n=>UInt8.ofNat n.toNat)
 |[]=>rfl
 |n::l=>by
  have:=zev l
  simp only[zao,List.map_cons,bytesOf]at this⊢
  rw[this]
def strOf (c:List Int):ByteArray:=⟨(c.map fun n=>UInt8.ofNat n.toNat).toArray⟩
theorem zvY (n:Nat) (ds:List D) (p x:Nat) (most:Int) (c:List Int) (rest:List D) (hl:ds.length=n) (hn:n<2^62) (hp:p+1+x≤n) (hat:ds.drop p= .v (.int .u8 (x:Int))::rest) (hx:x≤255) (hm:(x:Int)≤most)
  (hat2:(ds.drop (p+1)).take x=zao c) (hcx:c.length=x):CallOK Tryz.prog 176 [.f (asl n ds), .f (ai p), .f (ai most)] (fun r o=>r=[.one (.d (sD (strOf c))),ri ((p+1+x:Nat):Int),ri 0]∧o=[]):=by
 refine zbE zak mixed (T:=Ty) Tryz.func176 rfl Tryz.results176 Tryz.ntmps176 Tryz.call176 Tryz.call198 (ks:=[6,7,8]) rfl rfl rfl rfl rfl rfl (by decide) (by decide)
  (xs:=[asl n ds,ai p,ai most]) zfv zew ⟨[asl n ds,ai p,ai most,dd,dd,dd, .one (.ptr ⟨6,0,0⟩ 0), .one (.ptr ⟨7,0,0⟩ 0), .one (.ptr ⟨8,0,0⟩ 0),dd,dd,dd,dd,dd,dd,dd,dd,dd,dd,dd,dd,dd,dd,dd,dd,dd,dd,dd,dd,dd],[(6,{next:=1,l:=[some {e:=0,var:=true,fz:=false,sz:=0,cells:=[dS .empty]},none]}),(7,{next:=1,l:=[some {e:=0,var:=true,fz:=false,sz:=0,cells:=[di 0]},none]}),(8,{next:=1,l:=[some {e:=0,var:=true,fz:=false,sz:=0,cells:=[di 0]},none]})]⟩ ?_ ?_ rfl ?_
 ·simp only[List.map_cons,List.map_nil]
  repeat'(first|refine zq0 ?_|exact zd0|(refine zaa ?_ ?_<;>intro hb)|(refine And.intro ?_ ?_;exact zI)|(refine And.intro ?_ ?_<;>intro hg)|exact zC|fail)
  exact fun _ _ _ h=>h
 ·exact⟨⟨_,rfl,rfl,rfl,rfl,rfl⟩,⟨_,rfl,rfl,rfl,rfl,rfl⟩,⟨_,rfl,rfl,rfl,rfl,rfl⟩,trivial⟩
 ·have htk:=zpR n ds p 1 hl hn (by omega)
  rw[hat]at htk
  have htk2:=zpR n ds (p+1) x hl hn (by omega)
  rw[hat2]at htk2
  have hw:IntKind.i64.wrap (x:Int)=(x:Int):=wrap64 (by omega) (by omega)
  have h1:decide ((x:Int)>most)=false:=by simp;omega
  repeat'(first|refine zq0 ?_|exact zd0|(refine zaa ?_ ?_<;>intro hb)|(refine And.intro ?_ ?_;exact zI)|(refine And.intro ?_ ?_<;>intro hg)|exact zC|fail)
  refine zj (htk) ?_
  repeat'(first|refine zq (I hw h1) ?_|exact zd (I hw h1)|(refine zaa ?_ ?_<;>intro hb)|(refine And.intro ?_ ?_;exact zI)|(refine And.intro ?_ ?_<;>intro hg)|exact zC|fail)
  refine zj (htk2) ?_
  repeat'(first|refine zq (I @zev (I @za4 (I hcx @zeh))) ?_|exact zd (I @zev (I @za4 (I hcx @zeh)))|(refine zaa ?_ ?_<;>intro hb)|(refine And.intro ?_ ?_;exact zI)|(refine And.intro ?_ ?_<;>intro hg)|exact zC|fail)
  rfl
theorem zsg (n:Nat) (ds:List D) (p x:Nat) (most:Int) (rest:List D) (hl:ds.length=n) (hn:n<2^62) (hp:p+1≤n) (hat:ds.drop p= .v (.int .u8 (x:Int))::rest) (hx:x≤255) (hm:¬(x:Int)≤most):
  CallOK Tryz.prog 176 [.f (asl n ds), .f (ai p), .f (ai most)] (fun r o=>r=[.one (.d (sD .empty)),ri 0,ri 3]∧o=[]):=by
 refine zbE zak mixed (T:=Ty) Tryz.func176 rfl Tryz.results176 Tryz.ntmps176 Tryz.call176 Tryz.call198 (ks:=[6,7,8]) rfl rfl rfl rfl rfl rfl (by decide) (by decide)
  (xs:=[asl n ds,ai p,ai most]) zfv zew ⟨[asl n ds,ai p,ai most,dd,dd,dd, .one (.ptr ⟨6,0,0⟩ 0), .one (.ptr ⟨7,0,0⟩ 0), .one (.ptr ⟨8,0,0⟩ 0),dd,dd,dd,dd,dd,dd,dd,dd,dd,dd,dd,dd,dd,dd,dd,dd,dd,dd,dd,dd,dd],[(6,{next:=1,l:=[some {e:=0,var:=true,fz:=false,sz:=0,cells:=[dS .empty]},none]}),(7,{next:=1,l:=[some {e:=0,var:=true,fz:=false,sz:=0,cells:=[di 0]},none]}),(8,{next:=1,l:=[some {e:=0,var:=true,fz:=false,sz:=0,cells:=[di 0]},none]})]⟩ ?_ ?_ rfl ?_
 ·simp only[List.map_cons,List.map_nil]
  repeat'(first|refine zq0 ?_|exact zd0|(refine zaa ?_ ?_<;>intro hb)|(refine And.intro ?_ ?_;exact zI)|(refine And.intro ?_ ?_<;>intro hg)|exact zC|fail)
  exact fun _ _ _ h=>h
 ·exact⟨⟨_,rfl,rfl,rfl,rfl,rfl⟩,⟨_,rfl,rfl,rfl,rfl,rfl⟩,⟨_,rfl,rfl,rfl,rfl,rfl⟩,trivial⟩
 ·have htk:=zpR n ds p 1 hl hn (by omega)
  rw[hat]at htk
  have hw:IntKind.i64.wrap (x:Int)=(x:Int):=wrap64 (by omega) (by omega)
  have h1:decide ((x:Int)>most)=true:=by simp;omega
  repeat'(first|refine zq0 ?_|exact zd0|(refine zaa ?_ ?_<;>intro hb)|(refine And.intro ?_ ?_;exact zI)|(refine And.intro ?_ ?_<;>intro hg)|exact zC|fail)
  refine zj (htk) ?_
  repeat'(first|refine zq (I hw h1) ?_|exact zd (I hw h1)|(refine zaa ?_ ?_<;>intro hb)|(refine And.intro ?_ ?_;exact zI)|(refine And.intro ?_ ?_<;>intro hg)|exact zC|fail)
  simp only[zci,zcj,zch,zc1]
  refine⟨⟨_,rfl⟩,rfl,⟨⟨_,rfl,rfl,rfl,rfl,rfl⟩,⟨_,rfl,rfl,rfl,rfl,rfl⟩,⟨_,rfl,rfl,rfl,rfl,rfl⟩,trivial⟩, ?_⟩
  rw[show zm3 30 [6,7,8] (nwT (zfH 170 3))=⟨[dd,dd,dd,dd,dd,dd, .one (.ptr ⟨6,0,0⟩ 0), .one (.ptr ⟨7,0,0⟩ 0), .one (.ptr ⟨8,0,0⟩ 0),dd,dd,dd,dd,dd,dd,dd,dd,dd,dd,dd,dd,dd,dd,dd,dd,dd,dd,dd,dd,dd],[(6,{next:=1,l:=[some {e:=0,var:=true,fz:=false,sz:=0,cells:=[dS .empty]}]}),(7,{next:=1,l:=[some {e:=0,var:=true,fz:=false,sz:=0,cells:=[di 0]}]}),(8,{next:=1,l:=[some {e:=0,var:=true,fz:=false,sz:=0,cells:=[di 3]}]})]⟩ from rfl]
  first|refine zs0 ?_|exact zt0
theorem ztU (n:Nat) (ds:List D) (p most:Int) (hl:ds.length=n) (hn:n<2^62) (hp:i64 p) (h:zcd n p 1=true):
  CallOK Tryz.prog 176 [.f (asl n ds), .f (ai p), .f (ai most)] (fun r o=>r=[.one (.d (sD .empty)),ri 0,ri 2]∧o=[]):=by
 refine zbE zak mixed (T:=Ty) Tryz.func176 rfl Tryz.results176 Tryz.ntmps176 Tryz.call176 Tryz.call198 (ks:=[6,7,8]) rfl rfl rfl rfl rfl rfl (by decide) (by decide)
  (xs:=[asl n ds,ai p,ai most]) zfv zew ⟨[asl n ds,ai p,ai most,dd,dd,dd, .one (.ptr ⟨6,0,0⟩ 0), .one (.ptr ⟨7,0,0⟩ 0), .one (.ptr ⟨8,0,0⟩ 0),dd,dd,dd,dd,dd,dd,dd,dd,dd,dd,dd,dd,dd,dd,dd,dd,dd,dd,dd,dd,dd],[(6,{next:=1,l:=[some {e:=0,var:=true,fz:=false,sz:=0,cells:=[dS .empty]},none]}),(7,{next:=1,l:=[some {e:=0,var:=true,fz:=false,sz:=0,cells:=[di 0]},none]}),(8,{next:=1,l:=[some {e:=0,var:=true,fz:=false,sz:=0,cells:=[di 0]},none]})]⟩ ?_ ?_ rfl ?_
 ·simp only[List.map_cons,List.map_nil]
  repeat'(first|refine zq0 ?_|exact zd0|(refine zaa ?_ ?_<;>intro hb)|(refine And.intro ?_ ?_;exact zI)|(refine And.intro ?_ ?_<;>intro hg)|exact zC|fail)
  exact fun _ _ _ h=>h
 ·exact⟨⟨_,rfl,rfl,rfl,rfl,rfl⟩,⟨_,rfl,rfl,rfl,rfl,rfl⟩,⟨_,rfl,rfl,rfl,rfl,rfl⟩,trivial⟩
 ·have htk:=zhK n ds p 1 hl hn hp h
  repeat'(first|refine zq0 ?_|exact zd0|(refine zaa ?_ ?_<;>intro hb)|(refine And.intro ?_ ?_;exact zI)|(refine And.intro ?_ ?_<;>intro hg)|exact zC|fail)
  refine zp (rdr n ds p) (htk) ?_
  simp only[zci,zcj,zch,zc1]
  refine⟨⟨_,rfl⟩,rfl,⟨⟨_,rfl,rfl,rfl,rfl,rfl⟩,⟨_,rfl,rfl,rfl,rfl,rfl⟩,⟨_,rfl,rfl,rfl,rfl,rfl⟩,trivial⟩, ?_⟩
  rw[show zm3 30 [6,7,8] (nwT (zfH 170 2))=⟨[dd,dd,dd,dd,dd,dd, .one (.ptr ⟨6,0,0⟩ 0), .one (.ptr ⟨7,0,0⟩ 0), .one (.ptr ⟨8,0,0⟩ 0),dd,dd,dd,dd,dd,dd,dd,dd,dd,dd,dd,dd,dd,dd,dd,dd,dd,dd,dd,dd,dd],[(6,{next:=1,l:=[some {e:=0,var:=true,fz:=false,sz:=0,cells:=[dS .empty]}]}),(7,{next:=1,l:=[some {e:=0,var:=true,fz:=false,sz:=0,cells:=[di 0]}]}),(8,{next:=1,l:=[some {e:=0,var:=true,fz:=false,sz:=0,cells:=[di 2]}]})]⟩ from rfl]
  first|refine zs0 ?_|exact zt0
theorem zpQ (n:Nat) (ds:List D) (p x:Nat) (most:Int) (rest:List D) (hl:ds.length=n) (hn:n<2^62) (hp:p+1≤n) (hat:ds.drop p= .v (.int .u8 (x:Int))::rest) (hx:x≤255) (hm:(x:Int)≤most)
  (hs:zcd n ((p+1:Nat):Int) x=true):CallOK Tryz.prog 176 [.f (asl n ds), .f (ai p), .f (ai most)] (fun r o=>r=[.one (.d (sD .empty)),ri 0,ri 2]∧o=[]):=by
 refine zbE zak mixed (T:=Ty) Tryz.func176 rfl Tryz.results176 Tryz.ntmps176 Tryz.call176 Tryz.call198 (ks:=[6,7,8]) rfl rfl rfl rfl rfl rfl (by decide) (by decide)
  (xs:=[asl n ds,ai p,ai most]) zfv zew ⟨[asl n ds,ai p,ai most,dd,dd,dd, .one (.ptr ⟨6,0,0⟩ 0), .one (.ptr ⟨7,0,0⟩ 0), .one (.ptr ⟨8,0,0⟩ 0),dd,dd,dd,dd,dd,dd,dd,dd,dd,dd,dd,dd,dd,dd,dd,dd,dd,dd,dd,dd,dd],[(6,{next:=1,l:=[some {e:=0,var:=true,fz:=false,sz:=0,cells:=[dS .empty]},none]}),(7,{next:=1,l:=[some {e:=0,var:=true,fz:=false,sz:=0,cells:=[di 0]},none]}),(8,{next:=1,l:=[some {e:=0,var:=true,fz:=false,sz:=0,cells:=[di 0]},none]})]⟩ ?_ ?_ rfl ?_
 ·simp only[List.map_cons,List.map_nil]
  repeat'(first|refine zq0 ?_|exact zd0|(refine zaa ?_ ?_<;>intro hb)|(refine And.intro ?_ ?_;exact zI)|(refine And.intro ?_ ?_<;>intro hg)|exact zC|fail)
  exact fun _ _ _ h=>h
 ·exact⟨⟨_,rfl,rfl,rfl,rfl,rfl⟩,⟨_,rfl,rfl,rfl,rfl,rfl⟩,⟨_,rfl,rfl,rfl,rfl,rfl⟩,trivial⟩
 ·have htk:=zpR n ds p 1 hl hn (by omega)
  rw[hat]at htk
  have htk2:=zhK n ds ((p+1:Nat):Int) x hl hn (by unfold i64;omega) hs
  have hw:IntKind.i64.wrap (x:Int)=(x:Int):=wrap64 (by omega) (by omega)
  have h1:decide ((x:Int)>most)=false:=by simp;omega
  repeat'(first|refine zq0 ?_|exact zd0|(refine zaa ?_ ?_<;>intro hb)|(refine And.intro ?_ ?_;exact zI)|(refine And.intro ?_ ?_<;>intro hg)|exact zC|fail)
  refine zj (htk) ?_
  repeat'(first|refine zq (I hw h1) ?_|exact zd (I hw h1)|(refine zaa ?_ ?_<;>intro hb)|(refine And.intro ?_ ?_;exact zI)|(refine And.intro ?_ ?_<;>intro hg)|exact zC|fail)
  refine zp (rdr n ds p) (htk2) ?_
  simp only[zci,zcj,zch,zc1]
  refine⟨⟨_,rfl⟩,rfl,⟨⟨_,rfl,rfl,rfl,rfl,rfl⟩,⟨_,rfl,rfl,rfl,rfl,rfl⟩,⟨_,rfl,rfl,rfl,rfl,rfl⟩,trivial⟩, ?_⟩
  rw[show zm3 30 [6,7,8] (nwT (zfH 170 2))=⟨[dd,dd,dd,dd,dd,dd, .one (.ptr ⟨6,0,0⟩ 0), .one (.ptr ⟨7,0,0⟩ 0), .one (.ptr ⟨8,0,0⟩ 0),dd,dd,dd,dd,dd,dd,dd,dd,dd,dd,dd,dd,dd,dd,dd,dd,dd,dd,dd,dd,dd],[(6,{next:=1,l:=[some {e:=0,var:=true,fz:=false,sz:=0,cells:=[dS .empty]}]}),(7,{next:=1,l:=[some {e:=0,var:=true,fz:=false,sz:=0,cells:=[di 0]}]}),(8,{next:=1,l:=[some {e:=0,var:=true,fz:=false,sz:=0,cells:=[di 2]}]})]⟩ from rfl]
  first|refine zs0 ?_|exact zt0
def zbM (bs:List Int) (p:Int):Int×Int×Int:=if zcd bs.length p 1=true then(0,0,2)else(bs.getD p.toNat 0,p+1,0)
def zfw (bs:List Int) (p:Int):Int×Int×Int:=
 if zcd bs.length p 8=true then(0,0,2)else if zhj ((bs.drop p.toNat).take 8)<4611686018427387904 then(zhj ((bs.drop p.toNat).take 8),p+8,0)else(0,0,4)
def zco (bs:List Int) (p most:Int):ByteArray×Int×Int:=
 if zcd bs.length p 1=true then(.empty,0,2)else if¬bs.getD p.toNat 0≤most then(.empty,0,3)else
 if zcd bs.length (p+1) (bs.getD p.toNat 0)=true then(.empty,0,2)else(strOf ((bs.drop (p.toNat+1)).take (bs.getD p.toNat 0).toNat),p+1+bs.getD p.toNat 0,0)
theorem zdi {n:Nat} {p k:Int} (h:zcd n p k=false):0≤p∧p≤n∧k≤n - p:=by
 unfold zcd at h
 simp at h
 omega
structure BsOk (bs:List Int):Prop where
 l:bs.length<2^60
 b:∀x∈bs,za6 x
theorem zfu (bs:List Int) (p:Int) (h:BsOk bs) (hp:i64 p):CallOK Tryz.prog 135 [.f (asl bs.length (zao bs)), .f (ai p)] (fun r o=>r=[ri (zbM bs p).1,ri (zbM bs p).2.1,ri (zbM bs p).2.2]∧o=[]):=by
 have hl:=h.l
 cases hs:zcd bs.length p 1
 ·obtain⟨h1,h2,h3⟩:=zdi hs
  obtain⟨q,rfl⟩:=Int.eq_ofNat_of_zero_le h1
  have hq:q<bs.length:=by omega
  have hb:=zgE hq h.b
  unfold za6 at hb
  rw[zbM,if_neg (by rw[hs];simp)]
  have:=zvV bs.length (zao bs) q (bs.getD q 0) _ za4 (by omega) hq (zib hq) ⟨hb.1,by omega⟩
  simpa using this
 ·rw[zbM,if_pos hs]
  exact ztS bs.length (zao bs) p za4 (by omega) hp hs
theorem ziH (bs:List Int) (p:Int) (h:BsOk bs) (hp:i64 p):CallOK Tryz.prog 92 [.f (asl bs.length (zao bs)), .f (ai p)] (fun r o=>r=[ri (zfw bs p).1,ri (zfw bs p).2.1,ri (zfw bs p).2.2]∧o=[]):=by
 have hl:=h.l
 cases hs:zcd bs.length p 8
 ·obtain⟨h1,h2,h3⟩:=zdi hs
  obtain⟨q,rfl⟩:=Int.eq_ofNat_of_zero_le h1
  rw[zfw,if_neg (by rw[hs];simp)]
  have:=ztT bs.length (zao bs) q ((bs.drop q).take 8) za4 (by omega) (by omega) (by rw[←List.map_drop,←List.map_take]) (by rw[List.length_take,List.length_drop];omega) (fun x hx=>h.b x (List.mem_of_mem_drop (List.mem_of_mem_take hx)))
  simp only[Int.toNat_natCast]
  split
  ·rename_i hv
   rw[if_pos hv]at this
   exact this
  ·rename_i hv
   rw[if_neg hv]at this
   exact this
 ·rw[zfw,if_pos hs]
  exact zvX bs.length (zao bs) p za4 (by omega) hp hs
theorem zk2 (bs:List Int) (p most:Int) (h:BsOk bs) (hp:i64 p):CallOK Tryz.prog 176 [.f (asl bs.length (zao bs)), .f (ai p), .f (ai most)] (fun r o=>r=[.one (.d (sD (zco bs p most).1)),ri (zco bs p most).2.1,ri (zco bs p most).2.2]∧o=[]):=by
 have hl:=h.l
 cases hs:zcd bs.length p 1
 ·obtain⟨h1,h2,h3⟩:=zdi hs
  obtain⟨q,rfl⟩:=Int.eq_ofNat_of_zero_le h1
  have hq:q<bs.length:=by omega
  have hb:=zgE hq h.b
  unfold za6 at hb
  obtain⟨x,hx⟩:=Int.eq_ofNat_of_zero_le hb.1
  have hat:=zib hq
  rw[hx]at hat
  rw[zco,if_neg (by rw[hs];simp)]
  simp only[Int.toNat_natCast,hx]
  by_cases hm:(x:Int)≤most
  ·rw[if_neg (by simpa using hm)]
   cases hs2:zcd bs.length ((q:Int)+1) (x:Int)
   ·obtain⟨h4,h5,h6⟩:=zdi hs2
    rw[if_neg (by simp)]
    have:=zvY bs.length (zao bs) q x most ((bs.drop (q+1)).take x) _ za4 (by omega) (by omega) hat (by omega) hm (by rw[←List.map_drop,←List.map_take]) (by rw[List.length_take,List.length_drop];omega)
    simpa using this
   ·rw[if_pos rfl]
    exact zpQ bs.length (zao bs) q x most _ za4 (by omega) (by omega) hat (by omega) hm (by simpa using hs2)
  ·rw[if_pos (by simpa using hm)]
   exact zsg bs.length (zao bs) q x most _ za4 (by omega) (by omega) hat (by omega) hm
 ·rw[zco,if_pos hs]
  exact ztU bs.length (zao bs) p most za4 (by omega) hp hs
theorem zdp {bs:List Int} {p:Int}:0≤(zbM bs p).2.1∧(zbM bs p).2.1≤bs.length:=by
 unfold zbM
 cases hs:zcd bs.length p 1
 ·obtain⟨h1,h2,h3⟩:=zdi hs
  rw[if_neg (by simp)];simp only;omega
 ·rw[if_pos rfl];simp only;omega
theorem ze3 {bs:List Int} {p:Int}:0≤(zfw bs p).2.1∧(zfw bs p).2.1≤bs.length:=by
 unfold zfw
 cases hs:zcd bs.length p 8
 ·obtain⟨h1,h2,h3⟩:=zdi hs
  rw[if_neg (by simp)]
  split
  ·simp only;omega
  ·simp only;omega
 ·rw[if_pos rfl];simp only;omega
theorem zjT {bs:List Int} {p most:Int} (h:BsOk bs):0≤(zco bs p most).2.1∧(zco bs p most).2.1≤bs.length:=by
 unfold zco
 cases hs:zcd bs.length p 1
 ·obtain⟨h1,h2,h3⟩:=zdi hs
  rw[if_neg (by simp)]
  have hb:=zgE (i:=p.toNat) (by omega) h.b
  unfold za6 at hb
  split
  ·simp only;omega
  ·cases hs2:zcd bs.length (p+1) (bs.getD p.toNat 0)
   ·obtain⟨h4,h5,h6⟩:=zdi hs2
    rw[if_neg (by simp)];simp only;omega
   ·rw[if_pos rfl];simp only;omega
 ·rw[if_pos rfl];simp only;omega
def zb2 (bs:List Int):Nat→Int→List Grant→List Grant×Int×Int
 |0,p,acc=>(acc,p,0)
 |k+1,p,acc=>
  if(zco bs p 12).2.2≠0 then([],0,(zco bs p 12).2.2)else
  if(zfw bs (zco bs p 12).2.1).2.2≠0 then([],0,(zfw bs (zco bs p 12).2.1).2.2)else
  zb2 bs k (zfw bs (zco bs p 12).2.1).2.1 (acc++[⟨(zco bs p 12).1,(zfw bs (zco bs p 12).2.1).1⟩])
abbrev zxa (l:List Grant):RF:= .one (.own 2 l.length (zaD l) false)
theorem zeA {n:Nat} (hn:n<2^60) {p:Int} (h:0≤p∧p≤n):i64 p:=by unfold i64;omega
set_option maxHeartbeats 1000000 in
theorem zsd (bs:List Int) (p:Int) (n:Nat) (h:BsOk bs) (hp:i64 p) (hn:n<2^20):
  CallOK Tryz.prog 199 [.f (asl bs.length (zao bs)), .f (ai p), .f (ai n)] (fun r o=>r=[zxa (zb2 bs n p []).1,ri (zb2 bs n p []).2.1,ri (zb2 bs n p []).2.2]∧o=[]):=by
 refine CallOK.nil ?_
 refine zac zak mixed (T:=Ty) (n:=45) Tryz.func199 (c:=Tryz.f199.body.getD .skip) rfl Tryz.results199 Tryz.ntmps199 Tryz.call199 ?_
 simp only[Tryz.f199,Option.getD]
 repeat'(first|refine zq0 ?_|exact zd0|(refine zaa ?_ ?_<;>intro hb)|(refine And.intro ?_ ?_;exact zI)|(refine And.intro ?_ ?_<;>intro hg)|exact zC|fail)
 refine zam (τ:=Nat×Int×List Grant) (fun t=>⟨[asl bs.length (zao bs),ai t.2.1,dd,dd,dd,dd,dd,dd,dd, .one (.own ⟨9,1,1⟩ 0 t.2.2.length),dd,dd,ai n,ai t.1,dd,dd,dd,dd,dd,dd,dd,dd,dd,dd,dd,dd,dd,dd,dd,dd,dd,dd,dd,dd,dd,dd,dd,dd,dd,dd,dd,dd,dd,dd,dd],[(9,{next:=2,l:=[none,some {e:=1,var:=false,fz:=false,sz:=2,cells:=(zaD t.2.2).map C.d}]}),(6,⟨2,[]⟩),(10,⟨2,[]⟩),(40,⟨2,[]⟩),(41,⟨2,[]⟩)]⟩)
  (fun t=>t.1≤n∧i64 t.2.1∧t.2.2.length=t.1) (fun t=>zb2 bs (n - t.1) t.2.1 t.2.2) (fun t=>n - t.1) (0,p,[])
  ((Gh.nil (i:=9) (s:=9) (sz:=2) rfl).trans (Gh.canon [9] [6,10,40,41] [] zK rfl rfl)) ⟨Nat.zero_le _,hp,rfl⟩ ?_
 intro⟨i,q,acc⟩ ⟨hi0,hq,ha⟩ hF K hK
 simp only[Nat.sub_zero]at hi0 hq ha hF hK⊢
 refine zw ?_
 refine zaa (fun hlt=> ?_) (fun hge=> ?_)
 ·have hi:i<n:=by simpa using hlt
  have hw:=zal hi (by omega)
  have ht:=zk2 bs q 12 h hq
  have hm:=ziH bs (zco bs q 12).2.1 h (zeA h.l (zjT h))
  have hst:n - i=(n - (i+1))+1:=by omega
  rw[hst,zb2]at hF
  have hle:(acc.length+1≤2^47)=True:=eq_true (by omega)
  cases e1:((zco bs q 12).2.2 !=0)
  ·have e1':(zco bs q 12).2.2=0:=by simpa using e1
   rw[if_neg (by simp[e1'])]at hF
   cases e2:((zfw bs (zco bs q 12).2.1).2.2 !=0)
   ·have e2':(zfw bs (zco bs q 12).2.1).2.2=0:=by simpa using e2
    rw[if_neg (by simp[e2'])]at hF
    repeat'(first|refine zq (I e1 (I e2 hle)) ?_|exact zd (I e1 (I e2 hle))|refine zc (ht) ?_|refine zg (ht) ?_|refine zc (hm) ?_|refine zg (hm) ?_|(refine zaa ?_ ?_<;>intro hb)|(refine And.intro ?_ ?_;exact zI)|(refine And.intro ?_ ?_<;>intro hg)|exact zC|fail)
    refine hK _ (i+1,(zfw bs (zco bs q 12).2.1).2.1,acc++[⟨(zco bs q 12).1,(zfw bs (zco bs q 12).2.1).1⟩]) (Gh.canon [9] [] [] (zk (I hw (I @List.length_append.{0} @List.length_singleton.{0}))) rfl (by simp only[List.length_append,List.length_singleton];rw[zeD];rfl)) ⟨hi,zeA h.l ze3,by simp only[List.length_append,List.length_singleton];omega⟩ ?_ (by simp only;omega)
    simp only
    rw[hst,zb2,if_neg (by simp[e1']),if_neg (by simp[e2'])]
   ·have e2':(zfw bs (zco bs q 12).2.1).2.2≠0:=by simpa using e2
    rw[if_pos e2']at hF
    rw[←hF]
    repeat'(first|refine zq (I e1 e2) ?_|exact zd (I e1 e2)|refine zc (ht) ?_|refine zg (ht) ?_|refine zc (hm) ?_|refine zg (hm) ?_|(refine zaa ?_ ?_<;>intro hb)|(refine And.intro ?_ ?_;exact zI)|(refine And.intro ?_ ?_<;>intro hg)|exact zC|fail)
    show zaA _ _∧zaA _ _∧zaA _ _∧True
    simp[zaA]
  ·have e1':(zco bs q 12).2.2≠0:=by simpa using e1
   rw[if_pos e1']at hF
   rw[←hF]
   repeat'(first|refine zq e1 ?_|exact zd e1|refine zc (ht) ?_|refine zg (ht) ?_|refine zc (hm) ?_|refine zg (hm) ?_|(refine zaa ?_ ?_<;>intro hb)|(refine And.intro ?_ ?_;exact zI)|(refine And.intro ?_ ?_<;>intro hg)|exact zC|fail)
   show zaA _ _∧zaA _ _∧zaA _ _∧True
   simp[zaA]
 ·have hi:i=n:=by
   have:¬(i:Int)<n:=by simpa using hge
   omega
  rw[hi,Nat.sub_self,zb2]at hF
  rw[←hF]
  repeat'(first|refine zq0 ?_|exact zd0|(refine zaa ?_ ?_<;>intro hb)|(refine And.intro ?_ ?_;exact zI)|(refine And.intro ?_ ?_<;>intro hg)|exact zC|fail)
  show zaA _ _∧zaA _ _∧zaA _ _∧True
  simp[zaA]
abbrev zsc:Reply:=⟨0,0,0,[]⟩
def zez (bs:List Int) (p:Int):Reply×Int×Int:=
 if(zbM bs p).2.2≠0 then(zsc,0,(zbM bs p).2.2)else
 let s:=zfw bs (zbM bs p).2.1
 if s.2.2≠0 then(zsc,0,s.2.2)else
 let a:=zbM bs s.2.1
 if a.2.2≠0 then(zsc,0,a.2.2)else
 let n:=zbM bs a.2.1
 if n.2.2≠0 then(zsc,0,n.2.2)else
 if n.1>4 then(zsc,0,4)else
 let g:=zb2 bs n.1.toNat n.2.1 []
 if g.2.2≠0 then(zsc,0,g.2.2)else
 if zbV ⟨(zbM bs p).1,s.1,a.1,g.1⟩=false then(zsc,0,4)else(⟨(zbM bs p).1,s.1,a.1,g.1⟩,g.2.1,0)
theorem ziG {bs:List Int} (h:BsOk bs) {p:Int}:za6 (zbM bs p).1:=by
 unfold zbM
 cases hs:zcd bs.length p 1
 ·obtain⟨h1,h2,h3⟩:=zdi hs
  rw[if_neg (by simp)]
  exact zgE (by omega) h.b
 ·rw[if_pos rfl];exact⟨by decide,by decide⟩
theorem zjS {bs:List Int} {p most:Int}:(zco bs p most).1.size≤bs.length:=by
 unfold zco
 split
 ·simp
 ·split
  ·simp
  ·split
   ·simp
   ·simp only[strOf,ByteArray.size,List.size_toArray,List.length_map,List.length_take,List.length_drop]
    omega
theorem zg3 {bs:List Int}:∀{n:Nat} {p:Int} {acc:List Grant},(∀g∈acc,g.name.size≤bs.length)→(zb2 bs n p acc).1.length≤acc.length+n∧∀g∈(zb2 bs n p acc).1,g.name.size≤bs.length
 |0,p,acc,h=>⟨Nat.le_refl _,h⟩
 |n+1,p,acc,h=>by
  rw[zb2]
  split
  ·exact⟨Nat.zero_le _,by simp⟩
  ·split
   ·exact⟨Nat.zero_le _,by simp⟩
   ·have:=zg3 (bs:=bs) (n:=n) (p:=(zfw bs (zco bs p 12).2.1).2.1) (acc:=acc++[⟨(zco bs p 12).1,(zfw bs (zco bs p 12).2.1).1⟩]) (fun g hg=>by
     rcases List.mem_append.1 hg with hg|hg
     ·exact h g hg
     ·simp at hg;subst hg;exact zjS)
    rw[List.length_append,List.length_singleton]at this
    exact⟨by omega,this.2⟩
set_option maxHeartbeats 1000000 in
theorem znF (bs:List Int) (p:Int) (h:BsOk bs) (hp:i64 p):
  CallOK Tryz.prog 177 [.f (asl bs.length (zao bs)), .f (ai p)] (fun r o=>r=[zrJ (zez bs p).1,ri (zez bs p).2.1,ri (zez bs p).2.2]∧o=[]):=by
 refine CallOK.nil ?_
 refine zac zak mixed (T:=Ty) (n:=82) Tryz.func177 (c:=Tryz.f177.body.getD .skip) rfl Tryz.results177 Tryz.ntmps177 Tryz.call177 ?_
 simp only[Tryz.f177,Option.getD]
 have hl:=h.l
 have h1:=zfu bs p h hp
 have h2:=ziH bs (zbM bs p).2.1 h (zeA h.l zdp)
 have h3:=zfu bs (zfw bs (zbM bs p).2.1).2.1 h (zeA h.l ze3)
 have h4:=zfu bs (zbM bs (zfw bs (zbM bs p).2.1).2.1).2.1 h (zeA h.l zdp)
 unfold zez
 simp only
 obtain⟨b,hb⟩:∃b,b=zbM bs p:=⟨_,rfl⟩
 rw[←hb]at h1 h2 h3 h4⊢
 obtain⟨s,hs⟩:∃s,s=zfw bs b.2.1:=⟨_,rfl⟩
 rw[←hs]at h2 h3 h4⊢
 obtain⟨a,ha⟩:∃a,a=zbM bs s.2.1:=⟨_,rfl⟩
 rw[←ha]at h3 h4⊢
 obtain⟨n,hn⟩:∃n,n=zbM bs a.2.1:=⟨_,rfl⟩
 rw[←hn]at h4⊢
 have hnv:za6 n.1:=by rw[hn];exact ziG h
 have hnn:i64 n.2.1:=by rw[hn];exact zeA h.l zdp
 have hbv:za6 b.1:=by rw[hb];exact ziG h
 unfold za6 at hnv hbv
 have h5:=zsd bs n.2.1 n.1.toNat h hnn (by omega)
 rw[Int.toNat_of_nonneg hnv.1]at h5
 have hgk:=zg3 (bs:=bs) (n:=n.1.toNat) (p:=n.2.1) (acc:=[]) (by simp)
 obtain⟨g,hg⟩:∃g,g=zb2 bs n.1.toNat n.2.1 []:=⟨_,rfl⟩
 rw[←hg]at h5 hgk⊢
 have h6:=zeq ⟨b.1,s.1,a.1,g.1⟩ ⟨by have:=hgk.1;simp only[List.length_nil]at this;simp only;omega,fun x hx=>by have:=hgk.2 x hx;omega⟩
 clear hgk
 cases e1:(b.2.2 !=0)
 ·rw[if_neg (by simpa using e1)]
  cases e2:(s.2.2 !=0)
  ·rw[if_neg (by simpa using e2)]
   cases e3:(a.2.2 !=0)
   ·rw[if_neg (by simpa using e3)]
    cases e4:(n.2.2 !=0)
    ·rw[if_neg (by simpa using e4)]
     cases e5:decide (n.1>4)
     ·rw[if_neg (by simpa using e5)]
      cases e6:(g.2.2 !=0)
      ·rw[if_neg (by simpa using e6)]
       cases e7:zbV ⟨b.1,s.1,a.1,g.1⟩
       ·rw[e7]at h6
        rw[if_pos rfl]
        repeat'(first|refine zq (I e1 (I e2 (I e3 (I e4 (I e5 e6))))) ?_|exact zd (I e1 (I e2 (I e3 (I e4 (I e5 e6)))))|refine zc (h1) ?_|refine zg (h1) ?_|refine zc (h2) ?_|refine zg (h2) ?_|refine zc (h3) ?_|refine zg (h3) ?_|refine zc (h4) ?_|refine zg (h4) ?_|refine zc (h5) ?_|refine zg (h5) ?_|refine zc (h6) ?_|refine zg (h6) ?_|(refine zaa ?_ ?_<;>intro hb)|(refine And.intro ?_ ?_;exact zI)|(refine And.intro ?_ ?_<;>intro hg)|exact zC|fail)
        show(zaA _ _∧zaA _ _∧zaA _ _∧zaA _ _∧True)∧zaA _ _∧zaA _ _∧True
        simp[zaA, -List.length_flatMap,zaC]
       ·rw[e7]at h6
        rw[if_neg (by simp)]
        repeat'(first|refine zq (I e1 (I e2 (I e3 (I e4 (I e5 e6))))) ?_|exact zd (I e1 (I e2 (I e3 (I e4 (I e5 e6)))))|refine zc (h1) ?_|refine zg (h1) ?_|refine zc (h2) ?_|refine zg (h2) ?_|refine zc (h3) ?_|refine zg (h3) ?_|refine zc (h4) ?_|refine zg (h4) ?_|refine zc (h5) ?_|refine zg (h5) ?_|refine zc (h6) ?_|refine zg (h6) ?_|(refine zaa ?_ ?_<;>intro hb)|(refine And.intro ?_ ?_;exact zI)|(refine And.intro ?_ ?_<;>intro hg)|exact zC|fail)
        show(zaA _ _∧zaA _ _∧zaA _ _∧zaA _ _∧True)∧zaA _ _∧zaA _ _∧True
        simp[zaA, -List.length_flatMap,zaC]
      ·rw[if_pos (by simpa using e6)]
       repeat'(first|refine zq (I e1 (I e2 (I e3 (I e4 (I e5 e6))))) ?_|exact zd (I e1 (I e2 (I e3 (I e4 (I e5 e6)))))|refine zc (h1) ?_|refine zg (h1) ?_|refine zc (h2) ?_|refine zg (h2) ?_|refine zc (h3) ?_|refine zg (h3) ?_|refine zc (h4) ?_|refine zg (h4) ?_|refine zc (h5) ?_|refine zg (h5) ?_|(refine zaa ?_ ?_<;>intro hb)|(refine And.intro ?_ ?_;exact zI)|(refine And.intro ?_ ?_<;>intro hg)|exact zC|fail)
       show(zaA _ _∧zaA _ _∧zaA _ _∧zaA _ _∧True)∧zaA _ _∧zaA _ _∧True
       simp[zaA, -List.length_flatMap,zaC]
     ·rw[if_pos (by simpa using e5)]
      repeat'(first|refine zq (I e1 (I e2 (I e3 (I e4 e5)))) ?_|exact zd (I e1 (I e2 (I e3 (I e4 e5))))|refine zc (h1) ?_|refine zg (h1) ?_|refine zc (h2) ?_|refine zg (h2) ?_|refine zc (h3) ?_|refine zg (h3) ?_|refine zc (h4) ?_|refine zg (h4) ?_|(refine zaa ?_ ?_<;>intro hb)|(refine And.intro ?_ ?_;exact zI)|(refine And.intro ?_ ?_<;>intro hg)|exact zC|fail)
      show(zaA _ _∧zaA _ _∧zaA _ _∧zaA _ _∧True)∧zaA _ _∧zaA _ _∧True
      simp[zaA, -List.length_flatMap,zaC]
    ·rw[if_pos (by simpa using e4)]
     repeat'(first|refine zq (I e1 (I e2 (I e3 e4))) ?_|exact zd (I e1 (I e2 (I e3 e4)))|refine zc (h1) ?_|refine zg (h1) ?_|refine zc (h2) ?_|refine zg (h2) ?_|refine zc (h3) ?_|refine zg (h3) ?_|refine zc (h4) ?_|refine zg (h4) ?_|(refine zaa ?_ ?_<;>intro hb)|(refine And.intro ?_ ?_;exact zI)|(refine And.intro ?_ ?_<;>intro hg)|exact zC|fail)
     show(zaA _ _∧zaA _ _∧zaA _ _∧zaA _ _∧True)∧zaA _ _∧zaA _ _∧True
     simp[zaA, -List.length_flatMap,zaC]
   ·rw[if_pos (by simpa using e3)]
    repeat'(first|refine zq (I e1 (I e2 e3)) ?_|exact zd (I e1 (I e2 e3))|refine zc (h1) ?_|refine zg (h1) ?_|refine zc (h2) ?_|refine zg (h2) ?_|refine zc (h3) ?_|refine zg (h3) ?_|(refine zaa ?_ ?_<;>intro hb)|(refine And.intro ?_ ?_;exact zI)|(refine And.intro ?_ ?_<;>intro hg)|exact zC|fail)
    show(zaA _ _∧zaA _ _∧zaA _ _∧zaA _ _∧True)∧zaA _ _∧zaA _ _∧True
    simp[zaA, -List.length_flatMap,zaC]
  ·rw[if_pos (by simpa using e2)]
   repeat'(first|refine zq (I e1 e2) ?_|exact zd (I e1 e2)|refine zc (h1) ?_|refine zg (h1) ?_|refine zc (h2) ?_|refine zg (h2) ?_|(refine zaa ?_ ?_<;>intro hb)|(refine And.intro ?_ ?_;exact zI)|(refine And.intro ?_ ?_<;>intro hg)|exact zC|fail)
   show(zaA _ _∧zaA _ _∧zaA _ _∧zaA _ _∧True)∧zaA _ _∧zaA _ _∧True
   simp[zaA, -List.length_flatMap,zaC]
 ·rw[if_pos (by simpa using e1)]
  repeat'(first|refine zq e1 ?_|exact zd e1|refine zc (h1) ?_|refine zg (h1) ?_|(refine zaa ?_ ?_<;>intro hb)|(refine And.intro ?_ ?_;exact zI)|(refine And.intro ?_ ?_<;>intro hg)|exact zC|fail)
  show(zaA _ _∧zaA _ _∧zaA _ _∧zaA _ _∧True)∧zaA _ _∧zaA _ _∧True
  simp[zaA, -List.length_flatMap,zaC]
abbrev ztR:Memo:=⟨0,0,zsc⟩
def ze2 (bs:List Int) (p:Int):Memo×Int×Int:=
 if(zbM bs p).2.2≠0 then(ztR,0,(zbM bs p).2.2)else
 let s:=zfw bs (zbM bs p).2.1
 if s.2.2≠0 then(ztR,0,s.2.2)else
 let r:=zez bs s.2.1
 if r.2.2≠0 then(ztR,0,r.2.2)else
 if answerB ⟨(zbM bs p).1,s.1,r.1⟩=false then(ztR,0,4)else(⟨(zbM bs p).1,s.1,r.1⟩,r.2.1,0)
abbrev zuL (m:Memo):RF:= .agg (m.enc.map RO.d)
theorem zhg {bs:List Int}:∀{n:Nat} {p:Int} {acc:List Grant},0≤p∧p≤bs.length→0≤(zb2 bs n p acc).2.1∧(zb2 bs n p acc).2.1≤bs.length
 |0,p,acc,h=>h
 |n+1,p,acc,h=>by
  rw[zb2]
  split
  ·simp only;omega
  ·split
   ·simp only;omega
   ·exact zhg ze3
theorem zhh {bs:List Int} (h:BsOk bs) {p:Int}:(0≤(zez bs p).2.1∧(zez bs p).2.1≤bs.length)∧zb1 (zez bs p).1:=by
 have hl:=h.l
 have h0:(0≤((zsc,(0:Int),(0:Int)):Reply×Int×Int).2.1∧((zsc,(0:Int),(0:Int)):Reply×Int×Int).2.1≤bs.length)∧zb1 zsc:=⟨by simp only;omega,by simp,by simp⟩
 unfold zez
 simp only
 split
 ·exact h0
 split
 ·exact h0
 split
 ·exact h0
 split
 ·exact h0
 split
 ·exact h0
 rename_i h5
 split
 ·exact h0
 split
 ·exact h0
 ·have hgk:=zg3 (bs:=bs) (n:=(zbM bs (zbM bs (zfw bs (zbM bs p).2.1).2.1).2.1).1.toNat) (p:=(zbM bs (zbM bs (zfw bs (zbM bs p).2.1).2.1).2.1).2.1) (acc:=[]) (by simp)
  simp only[List.length_nil]at hgk
  exact⟨zhg zdp,by simp only;omega,fun g hg=>by have:=hgk.2 g hg;omega⟩
set_option maxHeartbeats 1000000 in
theorem zhi (bs:List Int) (p:Int) (h:BsOk bs) (hp:i64 p):
  CallOK Tryz.prog 137 [.f (asl bs.length (zao bs)), .f (ai p)] (fun r o=>r=[zuL (ze2 bs p).1,ri (ze2 bs p).2.1,ri (ze2 bs p).2.2]∧o=[]):=by
 refine CallOK.nil ?_
 refine zac zak mixed (T:=Ty) (n:=52) Tryz.func137 (c:=Tryz.f137.body.getD .skip) rfl Tryz.results137 Tryz.ntmps137 Tryz.call137 ?_
 simp only[Tryz.f137,Option.getD]
 have h1:=zfu bs p h hp
 have h2:=ziH bs (zbM bs p).2.1 h (zeA h.l zdp)
 have h3:=znF bs (zfw bs (zbM bs p).2.1).2.1 h (zeA h.l ze3)
 have hf:=(zhh h (p:=(zfw bs (zbM bs p).2.1).2.1)).2
 unfold ze2
 simp only
 obtain⟨b,hb⟩:∃b,b=zbM bs p:=⟨_,rfl⟩
 rw[←hb]at h1 h2 h3 hf⊢
 obtain⟨s,hs⟩:∃s,s=zfw bs b.2.1:=⟨_,rfl⟩
 rw[←hs]at h2 h3 hf⊢
 obtain⟨a,ha⟩:∃a,a=zez bs s.2.1:=⟨_,rfl⟩
 rw[←ha]at h3 hf⊢
 have h4:=zdM ⟨b.1,s.1,a.1⟩ hf
 cases e1:(b.2.2 !=0)
 ·rw[if_neg (by simpa using e1)]
  cases e2:(s.2.2 !=0)
  ·rw[if_neg (by simpa using e2)]
   cases e3:(a.2.2 !=0)
   ·rw[if_neg (by simpa using e3)]
    cases e7:answerB ⟨b.1,s.1,a.1⟩
    ·rw[e7]at h4
     rw[if_pos rfl]
     repeat'(first|refine zq (I e1 (I e2 e3)) ?_|exact zd (I e1 (I e2 e3))|refine zc (h1) ?_|refine zg (h1) ?_|refine zc (h2) ?_|refine zg (h2) ?_|refine zc (h3) ?_|refine zg (h3) ?_|refine zc (h4) ?_|refine zg (h4) ?_|(refine zaa ?_ ?_<;>intro hb)|(refine And.intro ?_ ?_;exact zI)|(refine And.intro ?_ ?_<;>intro hg)|exact zC|fail)
     show(zaA _ _∧zaA _ _∧zaA _ _∧zaA _ _∧zaA _ _∧zaA _ _∧True)∧zaA _ _∧zaA _ _∧True
     simp[zaA]
    ·rw[e7]at h4
     rw[if_neg (by simp)]
     repeat'(first|refine zq (I e1 (I e2 e3)) ?_|exact zd (I e1 (I e2 e3))|refine zc (h1) ?_|refine zg (h1) ?_|refine zc (h2) ?_|refine zg (h2) ?_|refine zc (h3) ?_|refine zg (h3) ?_|refine zc (h4) ?_|refine zg (h4) ?_|(refine zaa ?_ ?_<;>intro hb)|(refine And.intro ?_ ?_;exact zI)|(refine And.intro ?_ ?_<;>intro hg)|exact zC|fail)
     show(zaA _ _∧zaA _ _∧zaA _ _∧zaA _ _∧zaA _ _∧zaA _ _∧True)∧zaA _ _∧zaA _ _∧True
     simp[zaA]
   ·rw[if_pos (by simpa using e3)]
    repeat'(first|refine zq (I e1 (I e2 e3)) ?_|exact zd (I e1 (I e2 e3))|refine zc (h1) ?_|refine zg (h1) ?_|refine zc (h2) ?_|refine zg (h2) ?_|refine zc (h3) ?_|refine zg (h3) ?_|(refine zaa ?_ ?_<;>intro hb)|(refine And.intro ?_ ?_;exact zI)|(refine And.intro ?_ ?_<;>intro hg)|exact zC|fail)
    show(zaA _ _∧zaA _ _∧zaA _ _∧zaA _ _∧zaA _ _∧zaA _ _∧True)∧zaA _ _∧zaA _ _∧True
    simp[zaA]
  ·rw[if_pos (by simpa using e2)]
   repeat'(first|refine zq (I e1 e2) ?_|exact zd (I e1 e2)|refine zc (h1) ?_|refine zg (h1) ?_|refine zc (h2) ?_|refine zg (h2) ?_|(refine zaa ?_ ?_<;>intro hb)|(refine And.intro ?_ ?_;exact zI)|(refine And.intro ?_ ?_<;>intro hg)|exact zC|fail)
   show(zaA _ _∧zaA _ _∧zaA _ _∧zaA _ _∧zaA _ _∧zaA _ _∧True)∧zaA _ _∧zaA _ _∧True
   simp[zaA]
 ·rw[if_pos (by simpa using e1)]
  repeat'(first|refine zq e1 ?_|exact zd e1|refine zc (h1) ?_|refine zg (h1) ?_|(refine zaa ?_ ?_<;>intro hb)|(refine And.intro ?_ ?_;exact zI)|(refine And.intro ?_ ?_<;>intro hg)|exact zC|fail)
  show(zaA _ _∧zaA _ _∧zaA _ _∧zaA _ _∧zaA _ _∧zaA _ _∧True)∧zaA _ _∧zaA _ _∧True
  simp[zaA]
def zeC (s:ByteArray):List Int:=(s.size:Int)::s.data.toList.map fun b=>(b.toNat:Int)
theorem zr7 (s:ByteArray):zhp s=zao (zeC s):=by simp[zhp,zeC,zao,zwC]
theorem zcP (s:ByteArray):(zeC s).length=1+s.size:=by simp[zeC,zgm,Nat.add_comm]
def zjP (g:Grant):List Int:=zeC g.name++zcp g.token
def zbA (l:List Grant):List Int:=l.flatMap zjP
def zb7 (r:Reply):List Int:=[r.code]++(zcp r.session++([r.ahead,(r.held.length:Int)]++zbA r.held))
def zbm (m:Memo):List Int:=[m.client]++(zcp m.seq++zb7 m.reply)
theorem zby (n:Int):(zcp n).length=8:=rfl
theorem zpM (g:Grant):(zjP g).length=9+g.name.size:=by simp[zjP,zcP,zby];omega
theorem zfX:∀{l:List Grant} {k:Nat},(∀g∈l,g.name.size≤k)→(zbA l).length≤l.length*(9+k)
 |[],k,_=>by simp[zbA]
 |g::l,k,h=>by
  have h1:=zfX (l:=l) (k:=k) fun x hx=>h x (by simp[hx])
  have h2:=h g (by simp)
  rw[zbA,List.flatMap_cons,List.length_append,List.length_cons,zpM,Nat.add_mul]
  unfold zbA at h1
  omega
theorem zvU (b:UInt8):za6 (b.toNat:Int):=⟨by omega,by have:=b.toNat_lt;omega⟩
theorem zpN (v:Int):za6 (IntKind.u8.wrap v):=by
 have e:IntKind.u8.wrap v=v % 256:=by
  unfold IntKind.wrap
  simp[IntKind.bits,IntKind.signed]
 rw[e];unfold za6;omega
theorem zgC (v:Int):∀x∈zcp v,za6 x:=by
 intro x hx
 obtain⟨k,_,rfl⟩:=List.mem_map.1 hx
 exact zpN _
theorem zr8 (s:ByteArray) (h:s.size≤255):∀x∈zeC s,za6 x:=by
 intro x hx
 rcases List.mem_cons.1 hx with rfl|hx
 ·exact⟨by omega,by omega⟩
 ·obtain⟨b,_,rfl⟩:=List.mem_map.1 hx
  exact zvU b
theorem zr9 (v:Int):IntKind.u8.wrap v=v % 256:=by
 unfold IntKind.wrap
 simp[IntKind.bits,IntKind.signed]
theorem zsa (v:Int) (k:Nat):zjt v k=v / (2^(8*(7 - k))) % 256:=by
 rw[zjt,zr9,Int.fdiv_eq_ediv_of_nonneg _ (Int.pow_nonneg (by decide))]
theorem zwL (v:Int) (h:0≤v∧v<4611686018427387904):zhj (zcp v)=v:=by
 have e:zcp v=[v / 72057594037927936 % 256,v / 281474976710656 % 256,v / 1099511627776 % 256,v / 4294967296 % 256,v / 16777216 % 256,v / 65536 % 256,v / 256 % 256,v % 256]:=by
  show List.map (zjt v) [0,1,2,3,4,5,6,7]=_
  simp only[List.map_cons,List.map_nil,zsa]
  simp
 rw[e]
 simp only[zhj,List.foldl_cons,List.foldl_nil]
 have d1:v / 65536=v / 256 / 256:=by omega
 have d2:v / 16777216=v / 65536 / 256:=by omega
 have d3:v / 4294967296=v / 16777216 / 256:=by omega
 have d4:v / 1099511627776=v / 4294967296 / 256:=by omega
 have d5:v / 281474976710656=v / 1099511627776 / 256:=by omega
 have d6:v / 72057594037927936=v / 281474976710656 / 256:=by omega
 have t0:0*256+v / 72057594037927936 % 256=v / 72057594037927936:=by omega
 have t1:v / 72057594037927936*256+v / 281474976710656 % 256=v / 281474976710656:=by rw[d6];omega
 have t2:v / 281474976710656*256+v / 1099511627776 % 256=v / 1099511627776:=by rw[d5];omega
 have t3:v / 1099511627776*256+v / 4294967296 % 256=v / 4294967296:=by rw[d4];omega
 have t4:v / 4294967296*256+v / 16777216 % 256=v / 16777216:=by rw[d3];omega
 have t5:v / 16777216*256+v / 65536 % 256=v / 65536:=by rw[d2];omega
 have t6:v / 65536*256+v / 256 % 256=v / 256:=by rw[d1];omega
 have t7:v / 256*256+v % 256=v:=by omega
 rw[t0,t1,t2,t3,t4,t5,t6,t7]
theorem zaT {bs a rest:List Int} {p:Nat} (h:bs.drop p=a++rest):bs.drop (p+a.length)=rest:=by
 rw[←List.drop_drop,h,List.drop_left]
theorem znE {bs a rest:List Int} {p:Nat} (h:bs.drop p=a++rest) (ha:a≠[]):p+a.length≤bs.length:=by
 have:=congrArg List.length h
 rw[List.length_drop,List.length_append]at this
 have:0<a.length:=List.length_pos_iff.2 ha
 omega
theorem short_at {n p k:Nat} (h:p+k≤n):zcd n (p:Int) (k:Int)=false:=by
 unfold zcd
 simp;omega
theorem zgD {bs:List Int} {p:Nat} {x:Int} {rest:List Int} (h:bs.drop p=[x]++rest):zbM bs p=(x,((p+1:Nat):Int),0):=by
 have h1:=znE h (by simp)
 simp only[List.length_singleton]at h1
 rw[zbM,if_neg (by rw[show(1:Int)=((1:Nat):Int) from rfl,short_at h1];simp),Int.toNat_natCast]
 have:bs.getD p 0=x:=by
  have:=congrArg (fun l=>l[0]?) h
  simp only[List.getElem?_drop,Nat.add_zero,List.singleton_append,List.getElem?_cons_zero]at this
  rw[List.getD_eq_getElem?_getD,this];rfl
 rw[this];simp
theorem zk1 {bs:List Int} {p:Nat} {v:Int} {rest:List Int} (h:bs.drop p=zcp v++rest) (hv:0≤v∧v<4611686018427387904):zfw bs p=(v,((p+8:Nat):Int),0):=by
 have h1:=znE h (by intro h;have:=congrArg List.length h;rw[zby]at this;simp at this)
 rw[zby]at h1
 have h2:(bs.drop p).take 8=zcp v:=by rw[h];exact List.take_left' (zby v)
 rw[zfw,if_neg (by rw[show(8:Int)=((8:Nat):Int) from rfl,short_at h1];simp),Int.toNat_natCast,h2,zwL v hv,if_pos hv.2];simp
theorem zpO (s:ByteArray):strOf (s.data.toList.map fun b=>(b.toNat:Int))=s:=by
 unfold strOf
 rw[List.map_map]
 have:(fun n:Int=>UInt8.ofNat n.toNat)∘(fun b:UInt8=>(b.toNat:Int))=id:=by
  funext b;simp
 rw[this,List.map_id]
theorem zoM {bs:List Int} {p:Nat} {s:ByteArray} {most:Int} {rest:List Int} (h:bs.drop p=zeC s++rest) (hs:(s.size:Int)≤most):zco bs p most=(s,((p+(1+s.size):Nat):Int),0):=by
 have h1:=znE h (by simp[zeC])
 rw[zcP]at h1
 have hg:bs.getD p 0=(s.size:Int):=by
  have:=congrArg (fun l=>l[0]?) h
  simp only[List.getElem?_drop,Nat.add_zero,zeC,List.cons_append,List.getElem?_cons_zero]at this
  rw[List.getD_eq_getElem?_getD,this];rfl
 have h2:(bs.drop (p+1)).take s.size=s.data.toList.map fun b=>(b.toNat:Int):=by
  rw[←List.drop_drop,h,zeC,List.cons_append,List.drop_succ_cons,List.drop_zero]
  exact List.take_left' (by simp[zgm])
 have hs1:=short_at (n:=bs.length) (p:=p) (k:=1) (by omega)
 have hs2:=short_at (n:=bs.length) (p:=p+1) (k:=s.size) (by omega)
 rw[Int.natCast_add]at hs2
 simp only[Int.ofNat_one,Int.natCast_one]at hs1 hs2
 rw[zco,if_neg (by rw[hs1];simp),Int.toNat_natCast,hg,if_neg (by simpa using hs),if_neg (by rw[hs2];simp),Int.toNat_natCast,h2,zpO]
 simp;omega
theorem zjQ {bs:List Int}:∀{l:List Grant} {p:Nat} {acc:List Grant} {rest:List Int},bs.drop p=zbA l++rest→(∀g∈l,g.name.size≤12∧0≤g.token∧g.token<4611686018427387904)→
  zb2 bs l.length p acc=(acc++l,((p+(zbA l).length:Nat):Int),0)
 |[],p,acc,rest,h,_=>by simp[zb2,zbA]
 |g::l,p,acc,rest,h,hg=>by
  obtain⟨g1,g2⟩:=hg g (by simp)
  have h1:bs.drop p=zeC g.name++(zcp g.token++(zbA l++rest)):=by rw[h];simp[zbA,zjP]
  have e1:=zoM h1 (most:=12) (by omega)
  have h2:=zaT h1
  rw[zcP]at h2
  have e2:=zk1 h2 g2
  have h3:=zaT h2
  rw[zby]at h3
  have ih:=zjQ (l:=l) (acc:=acc++[g]) h3 fun x hx=>hg x (by simp[hx])
  rw[List.length_cons,zb2,e1]
  simp only
  rw[e2]
  simp only[ne_eq,not_true_eq_false,if_false]
  rw[show({name:=g.name,token:=g.token}:Grant)=g from rfl,ih]
  have:(zbA (g::l)).length=1+g.name.size+8+(zbA l).length:=by simp[zbA,zjP,zcP,zby];omega
  rw[this,List.append_assoc]
  simp;omega
theorem zcB {r:Reply} (h:zbV r=true):(0≤r.code∧r.code≤12)∧(0≤r.session∧r.session≤2305843009213693952)∧(0≤r.ahead∧r.ahead≤3)∧r.held.length≤4∧zbx (zcA r.held) 0 r.held=true:=by
 unfold zbV at h
 have hH:zbg=2305843009213693952:=rfl
 simp only[Bool.and_eq_true,Bool.not_eq_true',Bool.or_eq_false_iff,decide_eq_false_iff_not,hH]at h
 obtain⟨⟨h1,h2⟩,h3⟩:=h
 refine⟨by omega,by omega,by omega,by omega,h3⟩
theorem zjR {α:Type} {q:Nat→α→Bool}:∀{l:List α} {i:Nat},zbx q i l=true→∀x∈l,∃k,q k x=true
 |[],_,_,x,hx=>by cases hx
 |a::l,i,h,x,hx=>by
  rw[zbx]at h
  split at h
  ·rename_i hq
   rcases List.mem_cons.1 hx with rfl|hx
   ·exact⟨i,hq⟩
   ·exact zjR h x hx
  ·cases h
theorem zcQ {r:Reply} (h:zbV r=true):∀g∈r.held,g.name.size≤12∧0≤g.token∧g.token<4611686018427387904:=by
 intro g hg
 obtain⟨k,hk⟩:=zjR (zcB h).2.2.2.2 g hg
 unfold zcA at hk
 have hH:zbg=2305843009213693952:=rfl
 simp only[Bool.not_eq_true',Bool.or_eq_false_iff,decide_eq_false_iff_not,hH,Bool.not_eq_false']at hk
 obtain⟨⟨⟨h1,h2⟩,h3⟩,h4⟩:=hk
 have:nameP g.name=true:=by simpa using h1
 unfold nameP at this
 simp only[Bool.and_eq_true,decide_eq_true_eq]at this
 omega
theorem zsb {bs:List Int} {r:Reply} {p:Nat} {rest:List Int} (h:bs.drop p=zb7 r++rest) (hr:zbV r=true):zez bs p=(r,((p+(zb7 r).length:Nat):Int),0):=by
 obtain⟨f1,f2,f3,f4,f5⟩:=zcB hr
 have h1:bs.drop p=[r.code]++(zcp r.session++([r.ahead]++([(r.held.length:Int)]++(zbA r.held++rest)))):=by rw[h];simp[zb7]
 have e1:=zgD h1
 have h2:=zaT h1
 have e2:=zk1 (p:=p+[r.code].length) h2 (by omega)
 have h3:=zaT h2
 rw[zby]at h3
 have e3:=zgD h3
 have h4:=zaT h3
 have e4:=zgD h4
 have h5:=zaT h4
 have e5:=zjQ (acc:=[]) h5 (zcQ hr)
 simp only[List.length_singleton]at e2 e3 e4 e5
 rw[zez,e1]
 simp only[ne_eq,not_true_eq_false,if_false]
 rw[e2]
 simp only[ne_eq,not_true_eq_false,if_false]
 rw[e3]
 simp only[ne_eq,not_true_eq_false,if_false]
 rw[e4]
 simp only[ne_eq,not_true_eq_false,if_false,Int.toNat_natCast]
 rw[e5]
 simp only[ne_eq,not_true_eq_false,if_false,List.nil_append]
 rw[if_neg (by omega),show(⟨r.code,r.session,r.ahead,r.held⟩:Reply)=r from rfl,if_neg (by rw[hr];simp)]
 have:(zb7 r).length=1+8+1+1+(zbA r.held).length:=by simp[zb7,zby];omega
 rw[this]
 simp;omega
theorem zcl {m:Memo} (h:answerB m=true):(0≤m.client∧m.client<8)∧(1≤m.seq∧m.seq≤2305843009213693952)∧zbV m.reply=true:=by
 unfold answerB at h
 have hH:zbg=2305843009213693952:=rfl
 simp only[Bool.and_eq_true,decide_eq_true_eq,hH]at h
 exact⟨by omega,by omega,h.2⟩
theorem zpP {bs:List Int} {m:Memo} {p:Nat} {rest:List Int} (h:bs.drop p=zbm m++rest) (hm:answerB m=true):ze2 bs p=(m,((p+(zbm m).length:Nat):Int),0):=by
 obtain⟨f1,f2,f3⟩:=zcl hm
 have h1:bs.drop p=[m.client]++(zcp m.seq++(zb7 m.reply++rest)):=by rw[h];simp[zbm]
 have e1:=zgD h1
 have h2:=zaT h1
 have e2:=zk1 (p:=p+[m.client].length) h2 (by omega)
 have h3:=zaT h2
 rw[zby]at h3
 have e3:=zsb h3 f3
 simp only[List.length_singleton]at e2 e3
 rw[ze2,e1]
 simp only[ne_eq,not_true_eq_false,if_false]
 rw[e2]
 simp only[ne_eq,not_true_eq_false,if_false]
 rw[e3]
 simp only[ne_eq,not_true_eq_false,if_false]
 rw[show(⟨m.client,m.seq,m.reply⟩:Memo)=m from rfl,if_neg (by rw[hm];simp)]
 have:(zbm m).length=1+8+(zb7 m.reply).length:=by simp[zbm,zby];omega
 rw[this]
 simp;omega
end Go.Proofs.YtbpmcjeeeiffhaaGreat
