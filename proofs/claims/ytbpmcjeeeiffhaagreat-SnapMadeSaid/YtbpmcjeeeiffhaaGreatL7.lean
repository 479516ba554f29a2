import Derived.Test.YtbpmcjeeeiffhaaGreatL2
namespace Go.Proofs.YtbpmcjeeeiffhaaGreat
open Go.Pk
set_option maxRecDepth 100000
set_option linter.unusedSimpArgs false
set_option linter.unusedVariables false
theorem zwf (n:Nat) (ds:List D) (p:Nat) (x:Int) (rest:List D) (hl:ds.length=n) (hn:n<2^62) (hp:p<n) (hat:ds.drop p= .v (.int .u8 x)::rest) (hx:0≤x∧x≤255):
  CallOK Tryz.prog 135 [.f (asl n ds), .f (ai p)] (fun r o=>r=[ri x,ri ((p+1:Nat):Int),ri 0]∧o=[]):=by
 refine zbx zao mixed (T:=Ty) Tryz.func135 rfl Tryz.results135 Tryz.ntmps135 Tryz.call135 Tryz.call175 (ks:=[4,5,6]) rfl rfl rfl rfl rfl rfl (by decide) (by decide)
  (xs:=[asl n ds,ai p]) zkj zjh ⟨[asl n ds,ai p,dd,dd, .one (.ptr ⟨4,0,0⟩ 0), .one (.ptr ⟨5,0,0⟩ 0), .one (.ptr ⟨6,0,0⟩ 0),dd,dd,dd,dd,dd,dd,dd,dd,dd,dd,dd,dd,dd],[(4,{next:=1,l:=[some {e:=0,var:=true,fz:=false,sz:=0,cells:=[di 0]},none]}),(5,{next:=1,l:=[some {e:=0,var:=true,fz:=false,sz:=0,cells:=[di 0]},none]}),(6,{next:=1,l:=[some {e:=0,var:=true,fz:=false,sz:=0,cells:=[di 0]},none]})]⟩ ?_ ?_ rfl ?_
 ·simp only[List.map_cons,List.map_nil]
  repeat'(first|refine zq0 ?_|exact zd0|(refine zaa ?_ ?_<;>intro hb)|(refine And.intro ?_ ?_;exact zI)|(refine And.intro ?_ ?_<;>intro hg)|exact zC|fail)
  exact fun _ _ _ h=>h
 ·exact⟨⟨_,rfl,rfl,rfl,rfl,rfl⟩,⟨_,rfl,rfl,rfl,rfl,rfl⟩,⟨_,rfl,rfl,rfl,rfl,rfl⟩,trivial⟩
 ·have htk:=zpZ n ds p 1 hl hn (by omega)
  rw[hat]at htk
  have hw:IntKind.i64.wrap x=x:=wrap64 (by omega) (by omega)
  repeat'(first|refine zq0 ?_|exact zd0|(refine zaa ?_ ?_<;>intro hb)|(refine And.intro ?_ ?_;exact zI)|(refine And.intro ?_ ?_<;>intro hg)|exact zC|fail)
  refine zj (htk) ?_
  repeat'(first|refine zq (I hw @zdA) ?_|exact zd (I hw @zdA)|(refine zaa ?_ ?_<;>intro hb)|(refine And.intro ?_ ?_;exact zI)|(refine And.intro ?_ ?_<;>intro hg)|exact zC|fail)
theorem zt8 (n:Nat) (ds:List D) (p:Int) (hl:ds.length=n) (hn:n<2^62) (hp:i64 p) (h:shortP n p 1=true):
  CallOK Tryz.prog 135 [.f (asl n ds), .f (ai p)] (fun r o=>r=[ri 0,ri 0,ri 2]∧o=[]):=by
 refine zbx zao mixed (T:=Ty) Tryz.func135 rfl Tryz.results135 Tryz.ntmps135 Tryz.call135 Tryz.call175 (ks:=[4,5,6]) rfl rfl rfl rfl rfl rfl (by decide) (by decide)
  (xs:=[asl n ds,ai p]) zkj zjh ⟨[asl n ds,ai p,dd,dd, .one (.ptr ⟨4,0,0⟩ 0), .one (.ptr ⟨5,0,0⟩ 0), .one (.ptr ⟨6,0,0⟩ 0),dd,dd,dd,dd,dd,dd,dd,dd,dd,dd,dd,dd,dd],[(4,{next:=1,l:=[some {e:=0,var:=true,fz:=false,sz:=0,cells:=[di 0]},none]}),(5,{next:=1,l:=[some {e:=0,var:=true,fz:=false,sz:=0,cells:=[di 0]},none]}),(6,{next:=1,l:=[some {e:=0,var:=true,fz:=false,sz:=0,cells:=[di 0]},none]})]⟩ ?_ ?_ rfl ?_
 ·simp only[List.map_cons,List.map_nil]
  repeat'(first|refine zq0 ?_|exact zd0|(refine zaa ?_ ?_<;>intro hb)|(refine And.intro ?_ ?_;exact zI)|(refine And.intro ?_ ?_<;>intro hg)|exact zC|fail)
  exact fun _ _ _ h=>h
 ·exact⟨⟨_,rfl,rfl,rfl,rfl,rfl⟩,⟨_,rfl,rfl,rfl,rfl,rfl⟩,⟨_,rfl,rfl,rfl,rfl,rfl⟩,trivial⟩
 ·have htk:=zik n ds p 1 hl hn hp h
  repeat'(first|refine zq0 ?_|exact zd0|(refine zaa ?_ ?_<;>intro hb)|(refine And.intro ?_ ?_;exact zI)|(refine And.intro ?_ ?_<;>intro hg)|exact zC|fail)
  refine zp (rdr n ds p) (htk) ?_
  simp only[zbl,zbm,zbk,zbK]
  refine⟨⟨_,rfl⟩,rfl,⟨⟨_,rfl,rfl,rfl,rfl,rfl⟩,⟨_,rfl,rfl,rfl,rfl,rfl⟩,⟨_,rfl,rfl,rfl,rfl,rfl⟩,trivial⟩, ?_⟩
  rw[show zmW 20 [4,5,6] (nw3 (.int .i64 0) (zfx 170 2))=⟨[dd,dd,dd,dd, .one (.ptr ⟨4,0,0⟩ 0), .one (.ptr ⟨5,0,0⟩ 0), .one (.ptr ⟨6,0,0⟩ 0),dd,dd,dd,dd,dd,dd,dd,dd,dd,dd,dd,dd,dd],[(4,{next:=1,l:=[some {e:=0,var:=true,fz:=false,sz:=0,cells:=[di 0]}]}),(5,{next:=1,l:=[some {e:=0,var:=true,fz:=false,sz:=0,cells:=[di 0]}]}),(6,{next:=1,l:=[some {e:=0,var:=true,fz:=false,sz:=0,cells:=[di 2]}]})]⟩ from rfl]
  first|refine zs0 ?_|exact zt0
def ze0 (l:List Int):Int:=l.foldl (fun u c=>u*256+c) 0
theorem zsm {l:List Int} {c:Int}:ze0 (l++[c])=ze0 l*256+c:=by unfold ze0;rw[List.foldl_append];rfl
theorem zfZ:∀{l:List Int} {a:Int},0≤a→(∀c∈l,zaN c)→0≤l.foldl (fun u c=>u*256+c) a∧l.foldl (fun u c=>u*256+c) a<(a+1)*256^l.length
 |[],a,ha,_=>by simp;omega
 |c::l,a,ha,h=>by
  have h2:=h c (by simp)
  unfold zaN at h2
  obtain⟨h3,h4⟩:=zfZ (l:=l) (a:=a*256+c) (by omega) fun x hx=>h x (by simp[hx])
  refine⟨h3,Int.lt_of_lt_of_le h4 ?_⟩
  rw[List.length_cons,Int.pow_succ,Int.mul_comm (256^l.length) 256,←Int.mul_assoc]
  exact Int.mul_le_mul_of_nonneg_right (by omega) (Int.pow_nonneg (by decide))
theorem zhD {l:List Int} (h:∀c∈l,zaN c):0≤ze0 l∧ze0 l<256^l.length:=by
 have:=zfZ (l:=l) (a:=0) (by decide) h
 rw[Int.zero_add,Int.one_mul]at this
 exact this
theorem zz1 {i:Nat} (h:i<8):(256:Int)^i≤72057594037927936:=by
 rcases(show i=0∨i=1∨i=2∨i=3∨i=4∨i=5∨i=6∨i=7 by omega)with rfl|rfl|rfl|rfl|rfl|rfl|rfl|rfl<;>decide
theorem zt9 {n:Int} (h0:0≤n) (h1:n<18446744073709551616):IntKind.u64.wrap n=n:=by
 have e:IntKind.u64.wrap n=n % 18446744073709551616:=by
  unfold IntKind.wrap
  simp[IntKind.bits,IntKind.signed]
 rw[e]
 omega
theorem zu8 {u c:Int} (hu:0≤u∧u<72057594037927936) (hc:0≤c∧c≤255):
  IntKind.u64.wrap (BitVec.ofInt IntKind.u64.bits (u*256)|||BitVec.ofInt IntKind.u64.bits c).toNat=u*256+c:=by
 obtain⟨a,rfl⟩:=Int.eq_ofNat_of_zero_le hu.1
 obtain⟨b,rfl⟩:=Int.eq_ofNat_of_zero_le hc.1
 have hb:IntKind.u64.bits=64:=rfl
 rw[hb]
 have e1:(BitVec.ofInt 64 ((a:Int)*256)|||BitVec.ofInt 64 (b:Int)).toNat=a*256+b:=by
  have h1:((a:Int)*256)=((a*256:Nat):Int):=by omega
  rw[h1,BitVec.ofInt_natCast,BitVec.ofInt_natCast,BitVec.toNat_or,BitVec.toNat_ofNat,BitVec.toNat_ofNat]
  rw[Nat.mod_eq_of_lt (by omega),Nat.mod_eq_of_lt (by omega)]
  have:=Nat.shiftLeft_add_eq_or_of_lt (i:=8) (b:=b) (by omega) a
  rw[Nat.shiftLeft_eq]at this
  exact this.symm
 rw[e1,zt9 (by omega) (by omega)]
 omega
theorem zea {l:List Int} {i:Nat} (hi:i<l.length) (h:∀c∈l,zaN c):zaN (l.getD i 0):=by
 rw[List.getD_eq_getElem?_getD,List.getElem?_eq_getElem hi];exact h _ (List.getElem_mem hi)
theorem zmH {l:List Int} {i:Nat} (hi:i<l.length):ze0 (l.take (i+1))=ze0 (l.take i)*256+l.getD i 0:=by
 rw[List.take_succ_eq_append_getElem hi,zsm,List.getD_eq_getElem?_getD,List.getElem?_eq_getElem hi];rfl
set_option maxHeartbeats 1000000 in
theorem zua (n:Nat) (ds:List D) (p:Nat) (c:List Int) (hl:ds.length=n) (hn:n<2^62) (hp:p+8≤n) (hat:(ds.drop p).take 8=zad c) (hc8:c.length=8) (hc:∀x∈c,zaN x):
  CallOK Tryz.prog 92 [.f (asl n ds), .f (ai p)] (fun r o=>r=(if ze0 c<4611686018427387904 then [ri (ze0 c),ri ((p+8:Nat):Int),ri 0]else [ri 0,ri 0,ri 4])∧o=[]):=by
 refine zbx zao mixed (T:=Ty) Tryz.func92 rfl Tryz.results92 Tryz.ntmps92 Tryz.call92 Tryz.call141 (ks:=[4,5,6]) rfl rfl rfl rfl rfl rfl (by decide) (by decide)
  (xs:=[asl n ds,ai p]) zmI zkk ⟨[asl n ds,ai p,dd,dd, .one (.ptr ⟨4,0,0⟩ 0), .one (.ptr ⟨5,0,0⟩ 0), .one (.ptr ⟨6,0,0⟩ 0),dd,dd,dd,dd,dd,dd,dd,dd,dd,dd,dd,dd,dd,dd,dd,dd,dd,dd,dd,dd,dd,dd,dd,dd,dd,dd,dd,dd],[(4,{next:=1,l:=[some {e:=0,var:=true,fz:=false,sz:=0,cells:=[di 0]},none]}),(5,{next:=1,l:=[some {e:=0,var:=true,fz:=false,sz:=0,cells:=[di 0]},none]}),(6,{next:=1,l:=[some {e:=0,var:=true,fz:=false,sz:=0,cells:=[di 0]},none]})]⟩ ?_ ?_ rfl ?_
 ·simp only[List.map_cons,List.map_nil]
  repeat'(first|refine zq0 ?_|exact zd0|(refine zaa ?_ ?_<;>intro hb)|(refine And.intro ?_ ?_;exact zI)|(refine And.intro ?_ ?_<;>intro hg)|exact zC|fail)
  exact fun _ _ _ h=>h
 ·exact⟨⟨_,rfl,rfl,rfl,rfl,rfl⟩,⟨_,rfl,rfl,rfl,rfl,rfl⟩,⟨_,rfl,rfl,rfl,rfl,rfl⟩,trivial⟩
 ·have htk:=zpZ n ds p 8 hl hn hp
  rw[hat]at htk
  have hb1:=zhD hc
  rw[hc8]at hb1
  repeat'(first|refine zq0 ?_|exact zd0|(refine zaa ?_ ?_<;>intro hb)|(refine And.intro ?_ ?_;exact zI)|(refine And.intro ?_ ?_<;>intro hg)|exact zC|fail)
  refine zj (htk) ?_
  repeat'(first|refine zq0 ?_|exact zd0|(refine zaa ?_ ?_<;>intro hb)|(refine And.intro ?_ ?_;exact zI)|(refine And.intro ?_ ?_<;>intro hg)|exact zC|fail)
  refine zgU Ty Tryz.prog (τ:=Nat) (fun i=>⟨[dd,dd,dd,dd, .one (.ptr ⟨4,0,0⟩ 0), .one (.ptr ⟨5,0,0⟩ 0), .one (.ptr ⟨6,0,0⟩ 0), .one (.ptr ⟨7,0,1⟩ 0), .one (.d (.v (.int .u64 (ze0 (c.take i))))),dd,dd,dd,dd,dd,dd,asl 8 (zad c),ai 8,ai i,dd,dd,dd,dd,dd,dd,dd,dd,dd,dd,dd,dd,dd,dd,dd,dd,dd],[(4,{next:=1,l:=[some {e:=0,var:=true,fz:=false,sz:=0,cells:=[di 0]},none]}),(5,{next:=1,l:=[some {e:=0,var:=true,fz:=false,sz:=0,cells:=[di 0]},none]}),(6,{next:=1,l:=[some {e:=0,var:=true,fz:=false,sz:=0,cells:=[di 0]},none]}),(7,{next:=2,l:=[some {e:=1,var:=true,fz:=false,sz:=0,cells:=[.d (.sl n ds),di ((p+8:Nat):Int)]},none,none]})]⟩)
   (fun i=>i≤8) (fun i=>8 - i) 0 (Gh.canon [4,5,6,7] [] [4,5,6] zK rfl rfl) (Nat.zero_le _) ?_
  intro i hi0 K hK
  refine zw ?_
  refine zaa (fun hlt=> ?_) (fun hge=> ?_)
  ·have hi:i<c.length:=by simp at hlt;omega
   have hat2:=zew hi
   have hw:=zak (i:=i) (n:=8) (by omega) (by omega)
   have hx:=zea hi hc
   unfold zaN at hx
   have hbi:=zhD (l:=c.take i) fun x hx=>hc x (List.mem_of_mem_take hx)
   have hli:(c.take i).length=i:=by rw[List.length_take];omega
   rw[hli]at hbi
   have hp8:=zz1 (i:=i) (by omega)
   have w1:min (Int.toNat 8) IntKind.u64.bits=8:=by decide
   have w2:IntKind.u64.wrap (ze0 (c.take i)*2^8)=ze0 (c.take i)*256:=zt9 (by omega) (by omega)
   have w3:IntKind.u64.wrap (c.getD i 0)=c.getD i 0:=zt9 (by omega) (by omega)
   have w4:=zu8 (u:=ze0 (c.take i)) (c:=c.getD i 0) ⟨hbi.1,by omega⟩ ⟨hx.1,by omega⟩
   have w5:=zmH hi
   have w6:¬((8:Int)<0):=by decide
   repeat'(first|(with_reducible first|refine zab _ _ ?_|refine zaF ?_|refine zaG ?_)|rw[zay]|simp only[hat2,zaH,hc8,w1,w2,w3,w4,if_neg w6,zY,Int.reduceEq,Int.reduceBEq,Int.reduceBNe,Nat.reduceSub,Nat.reduceEqDiff,Nat.reduceAdd,Nat.reduceMul,Nat.reduceLeDiff,Nat.reduceLT,Nat.reduceBEq,reduceCtorEq]|refine zav ?_|refine zaa (fun hb=> ?_) (fun hb=> ?_)|(refine And.intro ?_ ?_;exact zI)|refine And.intro (fun hg=> ?_) (fun hg=> ?_)|exact zC|fail)
   exact hK _ (i+1) (Gh.canon [4,5,6,7] [] [4,5,6] (zk (I hw w5)) rfl rfl) (by omega) (by omega)
  ·have hi:i=8:=by
    have:¬(i:Int)<8:=by simpa using hge
    omega
   subst hi
   have ht:c.take 8=c:=List.take_of_length_le (by omega)
   have w7:IntKind.i64.wrap (ze0 c)=ze0 c∨¬ze0 c<4611686018427387904:=by
    by_cases h:ze0 c<4611686018427387904
    ·exact .inl (wrap64 (by omega) (by omega))
    ·exact .inr h
   by_cases hlt:ze0 c<4611686018427387904
   ·have h1:decide (ze0 c≥4611686018427387904)=false:=by simp;omega
    have w7:IntKind.i64.wrap (ze0 c)=ze0 c:=wrap64 (by omega) (by omega)
    repeat'(first|(with_reducible first|refine zab _ _ ?_|refine zaF ?_|refine zaG ?_)|rw[zay]|simp only[ht,h1,w7,if_pos hlt,zdA,zY,Int.reduceEq,Int.reduceBEq,Int.reduceBNe,Nat.reduceSub,Nat.reduceEqDiff,Nat.reduceAdd,Nat.reduceMul,Nat.reduceLeDiff,Nat.reduceLT,Nat.reduceBEq,reduceCtorEq]|refine zav ?_|refine zaa (fun hb=> ?_) (fun hb=> ?_)|(refine And.intro ?_ ?_;exact zI)|refine And.intro (fun hg=> ?_) (fun hg=> ?_)|exact zC|fail)
   ·have h1:decide (ze0 c≥4611686018427387904)=true:=by simp;omega
    repeat'(first|(with_reducible first|refine zab _ _ ?_|refine zaF ?_|refine zaG ?_)|rw[zay]|simp only[ht,h1,if_neg hlt,zY,Int.reduceEq,Int.reduceBEq,Int.reduceBNe,Nat.reduceSub,Nat.reduceEqDiff,Nat.reduceAdd,Nat.reduceMul,Nat.reduceLeDiff,Nat.reduceLT,Nat.reduceBEq,reduceCtorEq]|refine zav ?_|refine zaa (fun hb=> ?_) (fun hb=> ?_)|(refine And.intro ?_ ?_;exact zI)|refine And.intro (fun hg=> ?_) (fun hg=> ?_)|exact zC|fail)
    simp only[zbl,zbm,zbk,zbK]
    refine⟨⟨_,rfl⟩,rfl,⟨⟨_,rfl,rfl,rfl,rfl,rfl⟩,⟨_,rfl,rfl,rfl,rfl,rfl⟩,⟨_,rfl,rfl,rfl,rfl,rfl⟩,trivial⟩, ?_⟩
    rw[show zmW 35 [4,5,6] (nw3 (.int .i64 0) (zfx 170 4))=⟨[dd,dd,dd,dd, .one (.ptr ⟨4,0,0⟩ 0), .one (.ptr ⟨5,0,0⟩ 0), .one (.ptr ⟨6,0,0⟩ 0),dd,dd,dd,dd,dd,dd,dd,dd,dd,dd,dd,dd,dd,dd,dd,dd,dd,dd,dd,dd,dd,dd,dd,dd,dd,dd,dd,dd],[(4,{next:=1,l:=[some {e:=0,var:=true,fz:=false,sz:=0,cells:=[di 0]}]}),(5,{next:=1,l:=[some {e:=0,var:=true,fz:=false,sz:=0,cells:=[di 0]}]}),(6,{next:=1,l:=[some {e:=0,var:=true,fz:=false,sz:=0,cells:=[di 4]}]})]⟩ from rfl]
    first|refine zs0 ?_|exact zt0
theorem zwg (n:Nat) (ds:List D) (p:Int) (hl:ds.length=n) (hn:n<2^62) (hp:i64 p) (h:shortP n p 8=true):
  CallOK Tryz.prog 92 [.f (asl n ds), .f (ai p)] (fun r o=>r=[ri 0,ri 0,ri 2]∧o=[]):=by
 refine zbx zao mixed (T:=Ty) Tryz.func92 rfl Tryz.results92 Tryz.ntmps92 Tryz.call92 Tryz.call141 (ks:=[4,5,6]) rfl rfl rfl rfl rfl rfl (by decide) (by decide)
  (xs:=[asl n ds,ai p]) zmI zkk ⟨[asl n ds,ai p,dd,dd, .one (.ptr ⟨4,0,0⟩ 0), .one (.ptr ⟨5,0,0⟩ 0), .one (.ptr ⟨6,0,0⟩ 0),dd,dd,dd,dd,dd,dd,dd,dd,dd,dd,dd,dd,dd,dd,dd,dd,dd,dd,dd,dd,dd,dd,dd,dd,dd,dd,dd,dd],[(4,{next:=1,l:=[some {e:=0,var:=true,fz:=false,sz:=0,cells:=[di 0]},none]}),(5,{next:=1,l:=[some {e:=0,var:=true,fz:=false,sz:=0,cells:=[di 0]},none]}),(6,{next:=1,l:=[some {e:=0,var:=true,fz:=false,sz:=0,cells:=[di 0]},none]})]⟩ ?_ ?_ rfl ?_
 ·simp only[List.map_cons,List.map_nil]
  repeat'(first|refine zq0 ?_|exact zd0|(refine zaa ?_ ?_<;>intro hb)|(refine And.intro ?_ ?_;exact zI)|(refine And.intro ?_ ?_<;>intro hg)|exact zC|fail)
  exact fun _ _ _ h=>h
 ·exact⟨⟨_,rfl,rfl,rfl,rfl,rfl⟩,⟨_,rfl,rfl,rfl,rfl,rfl⟩,⟨_,rfl,rfl,rfl,rfl,rfl⟩,trivial⟩
 ·have htk:=zik n ds p 8 hl hn hp h
  repeat'(first|refine zq0 ?_|exact zd0|(refine zaa ?_ ?_<;>intro hb)|(refine And.intro ?_ ?_;exact zI)|(refine And.intro ?_ ?_<;>intro hg)|exact zC|fail)
  refine zp (rdr n ds p) (htk) ?_
  simp only[zbl,zbm,zbk,zbK]
  refine⟨⟨_,rfl⟩,rfl,⟨⟨_,rfl,rfl,rfl,rfl,rfl⟩,⟨_,rfl,rfl,rfl,rfl,rfl⟩,⟨_,rfl,rfl,rfl,rfl,rfl⟩,trivial⟩, ?_⟩
  rw[show zmW 35 [4,5,6] (nw3 (.int .i64 0) (zfx 170 2))=⟨[dd,dd,dd,dd, .one (.ptr ⟨4,0,0⟩ 0), .one (.ptr ⟨5,0,0⟩ 0), .one (.ptr ⟨6,0,0⟩ 0),dd,dd,dd,dd,dd,dd,dd,dd,dd,dd,dd,dd,dd,dd,dd,dd,dd,dd,dd,dd,dd,dd,dd,dd,dd,dd,dd,dd],[(4,{next:=1,l:=[some {e:=0,var:=true,fz:=false,sz:=0,cells:=[di 0]}]}),(5,{next:=1,l:=[some {e:=0,var:=true,fz:=false,sz:=0,cells:=[di 0]}]}),(6,{next:=1,l:=[some {e:=0,var:=true,fz:=false,sz:=0,cells:=[di 2]}]})]⟩ from rfl]
  first|refine zs0 ?_|exact zt0
theorem zc5:∀l:List Int,bytesOf (zad l)=some (l.map fun n=>UInt8.ofNat n.toNat)
 |[]=>rfl
 |n::l=>by
  have:=zc5 l
  simp only[zad,List.map_cons,bytesOf]at this⊢
  rw[this]
def strOf (c:List Int):ByteArray:=⟨(c.map fun n=>UInt8.ofNat n.toNat).toArray⟩
theorem zwh (n:Nat) (ds:List D) (p x:Nat) (most:Int) (c:List Int) (rest:List D) (hl:ds.length=n) (hn:n<2^62) (hp:p+1+x≤n) (hat:ds.drop p= .v (.int .u8 (x:Int))::rest) (hx:x≤255) (hm:(x:Int)≤most)
  (hat2:(ds.drop (p+1)).take x=zad c) (hcx:c.length=x):CallOK Tryz.prog 176 [.f (asl n ds), .f (ai p), .f (ai most)] (fun r o=>r=[.one (.d (sD (strOf c))),ri ((p+1+x:Nat):Int),ri 0]∧o=[]):=by
 refine zbx zao mixed (T:=Ty) Tryz.func176 rfl Tryz.results176 Tryz.ntmps176 Tryz.call176 Tryz.call198 (ks:=[6,7,8]) rfl rfl rfl rfl rfl rfl (by decide) (by decide)
  (xs:=[asl n ds,ai p,ai most]) zf1 zeU ⟨[asl n ds,ai p,ai most,dd,dd,dd, .one (.ptr ⟨6,0,0⟩ 0), .one (.ptr ⟨7,0,0⟩ 0), .one (.ptr ⟨8,0,0⟩ 0),dd,dd,dd,dd,dd,dd,dd,dd,dd,dd,dd,dd,dd,dd,dd,dd,dd,dd,dd,dd,dd],[(6,{next:=1,l:=[some {e:=0,var:=true,fz:=false,sz:=0,cells:=[dS .empty]},none]}),(7,{next:=1,l:=[some {e:=0,var:=true,fz:=false,sz:=0,cells:=[di 0]},none]}),(8,{next:=1,l:=[some {e:=0,var:=true,fz:=false,sz:=0,cells:=[di 0]},none]})]⟩ ?_ ?_ rfl ?_
 ·simp only[List.map_cons,List.map_nil]
  repeat'(first|refine zq0 ?_|exact zd0|(refine zaa ?_ ?_<;>intro hb)|(refine And.intro ?_ ?_;exact zI)|(refine And.intro ?_ ?_<;>intro hg)|exact zC|fail)
  exact fun _ _ _ h=>h
 ·exact⟨⟨_,rfl,rfl,rfl,rfl,rfl⟩,⟨_,rfl,rfl,rfl,rfl,rfl⟩,⟨_,rfl,rfl,rfl,rfl,rfl⟩,trivial⟩
 ·have htk:=zpZ n ds p 1 hl hn (by omega)
  rw[hat]at htk
  have htk2:=zpZ n ds (p+1) x hl hn (by omega)
  rw[hat2]at htk2
  have hw:IntKind.i64.wrap (x:Int)=(x:Int):=wrap64 (by omega) (by omega)
  have h1:decide ((x:Int)>most)=false:=by simp;omega
  repeat'(first|refine zq0 ?_|exact zd0|(refine zaa ?_ ?_<;>intro hb)|(refine And.intro ?_ ?_;exact zI)|(refine And.intro ?_ ?_<;>intro hg)|exact zC|fail)
  refine zj (htk) ?_
  repeat'(first|refine zq (I hw h1) ?_|exact zd (I hw h1)|(refine zaa ?_ ?_<;>intro hb)|(refine And.intro ?_ ?_;exact zI)|(refine And.intro ?_ ?_<;>intro hg)|exact zC|fail)
  refine zj (htk2) ?_
  repeat'(first|refine zq (I @zc5 (I @zaH (I hcx @zdA))) ?_|exact zd (I @zc5 (I @zaH (I hcx @zdA)))|(refine zaa ?_ ?_<;>intro hb)|(refine And.intro ?_ ?_;exact zI)|(refine And.intro ?_ ?_<;>intro hg)|exact zC|fail)
  rfl
theorem zsn (n:Nat) (ds:List D) (p x:Nat) (most:Int) (rest:List D) (hl:ds.length=n) (hn:n<2^62) (hp:p+1≤n) (hat:ds.drop p= .v (.int .u8 (x:Int))::rest) (hx:x≤255) (hm:¬(x:Int)≤most):
  CallOK Tryz.prog 176 [.f (asl n ds), .f (ai p), .f (ai most)] (fun r o=>r=[.one (.d (sD .empty)),ri 0,ri 3]∧o=[]):=by
 refine zbx zao mixed (T:=Ty) Tryz.func176 rfl Tryz.results176 Tryz.ntmps176 Tryz.call176 Tryz.call198 (ks:=[6,7,8]) rfl rfl rfl rfl rfl rfl (by decide) (by decide)
  (xs:=[asl n ds,ai p,ai most]) zf1 zeU ⟨[asl n ds,ai p,ai most,dd,dd,dd, .one (.ptr ⟨6,0,0⟩ 0), .one (.ptr ⟨7,0,0⟩ 0), .one (.ptr ⟨8,0,0⟩ 0),dd,dd,dd,dd,dd,dd,dd,dd,dd,dd,dd,dd,dd,dd,dd,dd,dd,dd,dd,dd,dd],[(6,{next:=1,l:=[some {e:=0,var:=true,fz:=false,sz:=0,cells:=[dS .empty]},none]}),(7,{next:=1,l:=[some {e:=0,var:=true,fz:=false,sz:=0,cells:=[di 0]},none]}),(8,{next:=1,l:=[some {e:=0,var:=true,fz:=false,sz:=0,cells:=[di 0]},none]})]⟩ ?_ ?_ rfl ?_
 ·simp only[List.map_cons,List.map_nil]
  repeat'(first|refine zq0 ?_|exact zd0|(refine zaa ?_ ?_<;>intro hb)|(refine And.intro ?_ ?_;exact zI)|(refine And.intro ?_ ?_<;>intro hg)|exact zC|fail)
  exact fun _ _ _ h=>h
 ·exact⟨⟨_,rfl,rfl,rfl,rfl,rfl⟩,⟨_,rfl,rfl,rfl,rfl,rfl⟩,⟨_,rfl,rfl,rfl,rfl,rfl⟩,trivial⟩
 ·have htk:=zpZ n ds p 1 hl hn (by omega)
  rw[hat]at htk
  have hw:IntKind.i64.wrap (x:Int)=(x:Int):=wrap64 (by omega) (by omega)
  have h1:decide ((x:Int)>most)=true:=by simp;omega
  repeat'(first|refine zq0 ?_|exact zd0|(refine zaa ?_ ?_<;>intro hb)|(refine And.intro ?_ ?_;exact zI)|(refine And.intro ?_ ?_<;>intro hg)|exact zC|fail)
  refine zj (htk) ?_
  repeat'(first|refine zq (I hw h1) ?_|exact zd (I hw h1)|(refine zaa ?_ ?_<;>intro hb)|(refine And.intro ?_ ?_;exact zI)|(refine And.intro ?_ ?_<;>intro hg)|exact zC|fail)
  simp only[zbl,zbm,zbk,zbK]
  refine⟨⟨_,rfl⟩,rfl,⟨⟨_,rfl,rfl,rfl,rfl,rfl⟩,⟨_,rfl,rfl,rfl,rfl,rfl⟩,⟨_,rfl,rfl,rfl,rfl,rfl⟩,trivial⟩, ?_⟩
  rw[show zmW 30 [6,7,8] (nwT (zfx 170 3))=⟨[dd,dd,dd,dd,dd,dd, .one (.ptr ⟨6,0,0⟩ 0), .one (.ptr ⟨7,0,0⟩ 0), .one (.ptr ⟨8,0,0⟩ 0),dd,dd,dd,dd,dd,dd,dd,dd,dd,dd,dd,dd,dd,dd,dd,dd,dd,dd,dd,dd,dd],[(6,{next:=1,l:=[some {e:=0,var:=true,fz:=false,sz:=0,cells:=[dS .empty]}]}),(7,{next:=1,l:=[some {e:=0,var:=true,fz:=false,sz:=0,cells:=[di 0]}]}),(8,{next:=1,l:=[some {e:=0,var:=true,fz:=false,sz:=0,cells:=[di 3]}]})]⟩ from rfl]
  first|refine zs0 ?_|exact zt0
theorem zue (n:Nat) (ds:List D) (p most:Int) (hl:ds.length=n) (hn:n<2^62) (hp:i64 p) (h:shortP n p 1=true):
  CallOK Tryz.prog 176 [.f (asl n ds), .f (ai p), .f (ai most)] (fun r o=>r=[.one (.d (sD .empty)),ri 0,ri 2]∧o=[]):=by
 refine zbx zao mixed (T:=Ty) Tryz.func176 rfl Tryz.results176 Tryz.ntmps176 Tryz.call176 Tryz.call198 (ks:=[6,7,8]) rfl rfl rfl rfl rfl rfl (by decide) (by decide)
  (xs:=[asl n ds,ai p,ai most]) zf1 zeU ⟨[asl n ds,ai p,ai most,dd,dd,dd, .one (.ptr ⟨6,0,0⟩ 0), .one (.ptr ⟨7,0,0⟩ 0), .one (.ptr ⟨8,0,0⟩ 0),dd,dd,dd,dd,dd,dd,dd,dd,dd,dd,dd,dd,dd,dd,dd,dd,dd,dd,dd,dd,dd],[(6,{next:=1,l:=[some {e:=0,var:=true,fz:=false,sz:=0,cells:=[dS .empty]},none]}),(7,{next:=1,l:=[some {e:=0,var:=true,fz:=false,sz:=0,cells:=[di 0]},none]}),(8,{next:=1,l:=[some {e:=0,var:=true,fz:=false,sz:=0,cells:=[di 0]},none]})]⟩ ?_ ?_ rfl ?_
 ·simp only[List.map_cons,List.map_nil]
  repeat'(first|refine zq0 ?_|exact zd0|(refine zaa ?_ ?_<;>intro hb)|(refine And.intro ?_ ?_;exact zI)|(refine And.intro ?_ ?_<;>intro hg)|exact zC|fail)
  exact fun _ _ _ h=>h
 ·exact⟨⟨_,rfl,rfl,rfl,rfl,rfl⟩,⟨_,rfl,rfl,rfl,rfl,rfl⟩,⟨_,rfl,rfl,rfl,rfl,rfl⟩,trivial⟩
 ·have htk:=zik n ds p 1 hl hn hp h
  repeat'(first|refine zq0 ?_|exact zd0|(refine zaa ?_ ?_<;>intro hb)|(refine And.intro ?_ ?_;exact zI)|(refine And.intro ?_ ?_<;>intro hg)|exact zC|fail)
  refine zp (rdr n ds p) (htk) ?_
  simp only[zbl,zbm,zbk,zbK]
  refine⟨⟨_,rfl⟩,rfl,⟨⟨_,rfl,rfl,rfl,rfl,rfl⟩,⟨_,rfl,rfl,rfl,rfl,rfl⟩,⟨_,rfl,rfl,rfl,rfl,rfl⟩,trivial⟩, ?_⟩
  rw[show zmW 30 [6,7,8] (nwT (zfx 170 2))=⟨[dd,dd,dd,dd,dd,dd, .one (.ptr ⟨6,0,0⟩ 0), .one (.ptr ⟨7,0,0⟩ 0), .one (.ptr ⟨8,0,0⟩ 0),dd,dd,dd,dd,dd,dd,dd,dd,dd,dd,dd,dd,dd,dd,dd,dd,dd,dd,dd,dd,dd],[(6,{next:=1,l:=[some {e:=0,var:=true,fz:=false,sz:=0,cells:=[dS .empty]}]}),(7,{next:=1,l:=[some {e:=0,var:=true,fz:=false,sz:=0,cells:=[di 0]}]}),(8,{next:=1,l:=[some {e:=0,var:=true,fz:=false,sz:=0,cells:=[di 2]}]})]⟩ from rfl]
  first|refine zs0 ?_|exact zt0
theorem zpY (n:Nat) (ds:List D) (p x:Nat) (most:Int) (rest:List D) (hl:ds.length=n) (hn:n<2^62) (hp:p+1≤n) (hat:ds.drop p= .v (.int .u8 (x:Int))::rest) (hx:x≤255) (hm:(x:Int)≤most)
  (hs:shortP n ((p+1:Nat):Int) x=true):CallOK Tryz.prog 176 [.f (asl n ds), .f (ai p), .f (ai most)] (fun r o=>r=[.one (.d (sD .empty)),ri 0,ri 2]∧o=[]):=by
 refine zbx zao mixed (T:=Ty) Tryz.func176 rfl Tryz.results176 Tryz.ntmps176 Tryz.call176 Tryz.call198 (ks:=[6,7,8]) rfl rfl rfl rfl rfl rfl (by decide) (by decide)
  (xs:=[asl n ds,ai p,ai most]) zf1 zeU ⟨[asl n ds,ai p,ai most,dd,dd,dd, .one (.ptr ⟨6,0,0⟩ 0), .one (.ptr ⟨7,0,0⟩ 0), .one (.ptr ⟨8,0,0⟩ 0),dd,dd,dd,dd,dd,dd,dd,dd,dd,dd,dd,dd,dd,dd,dd,dd,dd,dd,dd,dd,dd],[(6,{next:=1,l:=[some {e:=0,var:=true,fz:=false,sz:=0,cells:=[dS .empty]},none]}),(7,{next:=1,l:=[some {e:=0,var:=true,fz:=false,sz:=0,cells:=[di 0]},none]}),(8,{next:=1,l:=[some {e:=0,var:=true,fz:=false,sz:=0,cells:=[di 0]},none]})]⟩ ?_ ?_ rfl ?_
 ·simp only[List.map_cons,List.map_nil]
  repeat'(first|refine zq0 ?_|exact zd0|(refine zaa ?_ ?_<;>intro hb)|(refine And.intro ?_ ?_;exact zI)|(refine And.intro ?_ ?_<;>intro hg)|exact zC|fail)
  exact fun _ _ _ h=>h
 ·exact⟨⟨_,rfl,rfl,rfl,rfl,rfl⟩,⟨_,rfl,rfl,rfl,rfl,rfl⟩,⟨_,rfl,rfl,rfl,rfl,rfl⟩,trivial⟩
 ·have htk:=zpZ n ds p 1 hl hn (by omega)
  rw[hat]at htk
  have htk2:=zik n ds ((p+1:Nat):Int) x hl hn (by unfold i64;omega) hs
  have hw:IntKind.i64.wrap (x:Int)=(x:Int):=wrap64 (by omega) (by omega)
  have h1:decide ((x:Int)>most)=false:=by simp;omega
  repeat'(first|refine zq0 ?_|exact zd0|(refine zaa ?_ ?_<;>intro hb)|(refine And.intro ?_ ?_;exact zI)|(refine And.intro ?_ ?_<;>intro hg)|exact zC|fail)
  refine zj (htk) ?_
  repeat'(first|refine zq (I hw h1) ?_|exact zd (I hw h1)|(refine zaa ?_ ?_<;>intro hb)|(refine And.intro ?_ ?_;exact zI)|(refine And.intro ?_ ?_<;>intro hg)|exact zC|fail)
  refine zp (rdr n ds p) (htk2) ?_
  simp only[zbl,zbm,zbk,zbK]
  refine⟨⟨_,rfl⟩,rfl,⟨⟨_,rfl,rfl,rfl,rfl,rfl⟩,⟨_,rfl,rfl,rfl,rfl,rfl⟩,⟨_,rfl,rfl,rfl,rfl,rfl⟩,trivial⟩, ?_⟩
  rw[show zmW 30 [6,7,8] (nwT (zfx 170 2))=⟨[dd,dd,dd,dd,dd,dd, .one (.ptr ⟨6,0,0⟩ 0), .one (.ptr ⟨7,0,0⟩ 0), .one (.ptr ⟨8,0,0⟩ 0),dd,dd,dd,dd,dd,dd,dd,dd,dd,dd,dd,dd,dd,dd,dd,dd,dd,dd,dd,dd,dd],[(6,{next:=1,l:=[some {e:=0,var:=true,fz:=false,sz:=0,cells:=[dS .empty]}]}),(7,{next:=1,l:=[some {e:=0,var:=true,fz:=false,sz:=0,cells:=[di 0]}]}),(8,{next:=1,l:=[some {e:=0,var:=true,fz:=false,sz:=0,cells:=[di 2]}]})]⟩ from rfl]
  first|refine zs0 ?_|exact zt0
def zaY (bs:List Int) (p:Int):Int×Int×Int:=if shortP bs.length p 1=true then(0,0,2)else(bs.getD p.toNat 0,p+1,0)
def zc8 (bs:List Int) (p:Int):Int×Int×Int:=
 if shortP bs.length p 8=true then(0,0,2)else if ze0 ((bs.drop p.toNat).take 8)<4611686018427387904 then(ze0 ((bs.drop p.toNat).take 8),p+8,0)else(0,0,4)
def zbw (bs:List Int) (p most:Int):ByteArray×Int×Int:=
 if shortP bs.length p 1=true then(.empty,0,2)else if¬bs.getD p.toNat 0≤most then(.empty,0,3)else
 if shortP bs.length (p+1) (bs.getD p.toNat 0)=true then(.empty,0,2)else(strOf ((bs.drop (p.toNat+1)).take (bs.getD p.toNat 0).toNat),p+1+bs.getD p.toNat 0,0)
theorem zcx {n:Nat} {p k:Int} (h:shortP n p k=false):0≤p∧p≤n∧k≤n - p:=by
 unfold shortP at h
 simp at h
 omega
structure BsOk (bs:List Int):Prop where
 l:bs.length<2^60
 b:∀x∈bs,zaN x
theorem zfX (bs:List Int) (p:Int) (h:BsOk bs) (hp:i64 p):CallOK Tryz.prog 135 [.f (asl bs.length (zad bs)), .f (ai p)] (fun r o=>r=[ri (zaY bs p).1,ri (zaY bs p).2.1,ri (zaY bs p).2.2]∧o=[]):=by
 have hl:=h.l
 cases hs:shortP bs.length p 1
 ·obtain⟨h1,h2,h3⟩:=zcx hs
  obtain⟨q,rfl⟩:=Int.eq_ofNat_of_zero_le h1
  have hq:q<bs.length:=by omega
  have hb:=zea hq h.b
  unfold zaN at hb
  rw[zaY,if_neg (by rw[hs];simp)]
  have:=zwf bs.length (zad bs) q (bs.getD q 0) _ zaH (by omega) hq (zew hq) ⟨hb.1,by omega⟩
  simpa using this
 ·rw[zaY,if_pos hs]
  exact zt8 bs.length (zad bs) p zaH (by omega) hp hs
theorem zje (bs:List Int) (p:Int) (h:BsOk bs) (hp:i64 p):CallOK Tryz.prog 92 [.f (asl bs.length (zad bs)), .f (ai p)] (fun r o=>r=[ri (zc8 bs p).1,ri (zc8 bs p).2.1,ri (zc8 bs p).2.2]∧o=[]):=by
 have hl:=h.l
 cases hs:shortP bs.length p 8
 ·obtain⟨h1,h2,h3⟩:=zcx hs
  obtain⟨q,rfl⟩:=Int.eq_ofNat_of_zero_le h1
  rw[zc8,if_neg (by rw[hs];simp)]
  have:=zua bs.length (zad bs) q ((bs.drop q).take 8) zaH (by omega) (by omega) (by rw[←List.map_drop,←List.map_take]) (by rw[List.length_take,List.length_drop];omega) (fun x hx=>h.b x (List.mem_of_mem_drop (List.mem_of_mem_take hx)))
  simp only[Int.toNat_natCast]
  split
  ·rename_i hv
   rw[if_pos hv]at this
   exact this
  ·rename_i hv
   rw[if_neg hv]at this
   exact this
 ·rw[zc8,if_pos hs]
  exact zwg bs.length (zad bs) p zaH (by omega) hp hs
theorem zll (bs:List Int) (p most:Int) (h:BsOk bs) (hp:i64 p):CallOK Tryz.prog 176 [.f (asl bs.length (zad bs)), .f (ai p), .f (ai most)] (fun r o=>r=[.one (.d (sD (zbw bs p most).1)),ri (zbw bs p most).2.1,ri (zbw bs p most).2.2]∧o=[]):=by
 have hl:=h.l
 cases hs:shortP bs.length p 1
 ·obtain⟨h1,h2,h3⟩:=zcx hs
  obtain⟨q,rfl⟩:=Int.eq_ofNat_of_zero_le h1
  have hq:q<bs.length:=by omega
  have hb:=zea hq h.b
  unfold zaN at hb
  obtain⟨x,hx⟩:=Int.eq_ofNat_of_zero_le hb.1
  have hat:=zew hq
  rw[hx]at hat
  rw[zbw,if_neg (by rw[hs];simp)]
  simp only[Int.toNat_natCast,hx]
  by_cases hm:(x:Int)≤most
  ·rw[if_neg (by simpa using hm)]
   cases hs2:shortP bs.length ((q:Int)+1) (x:Int)
   ·obtain⟨h4,h5,h6⟩:=zcx hs2
    rw[if_neg (by simp)]
    have:=zwh bs.length (zad bs) q x most ((bs.drop (q+1)).take x) _ zaH (by omega) (by omega) hat (by omega) hm (by rw[←List.map_drop,←List.map_take]) (by rw[List.length_take,List.length_drop];omega)
    simpa using this
   ·rw[if_pos rfl]
    exact zpY bs.length (zad bs) q x most _ zaH (by omega) (by omega) hat (by omega) hm (by simpa using hs2)
  ·rw[if_pos (by simpa using hm)]
   exact zsn bs.length (zad bs) q x most _ zaH (by omega) (by omega) hat (by omega) hm
 ·rw[zbw,if_pos hs]
  exact zue bs.length (zad bs) p most zaH (by omega) hp hs
theorem zb4 {bs:List Int} {p:Int}:0≤(zaY bs p).2.1∧(zaY bs p).2.1≤bs.length:=by
 unfold zaY
 cases hs:shortP bs.length p 1
 ·obtain⟨h1,h2,h3⟩:=zcx hs
  rw[if_neg (by simp)];simp only;omega
 ·rw[if_pos rfl];simp only;omega
theorem zc4 {bs:List Int} {p:Int}:0≤(zc8 bs p).2.1∧(zc8 bs p).2.1≤bs.length:=by
 unfold zc8
 cases hs:shortP bs.length p 8
 ·obtain⟨h1,h2,h3⟩:=zcx hs
  rw[if_neg (by simp)]
  split
  ·simp only;omega
  ·simp only;omega
 ·rw[if_pos rfl];simp only;omega
theorem zfY {bs:List Int} {p most:Int} (h:BsOk bs):0≤(zbw bs p most).2.1∧(zbw bs p most).2.1≤bs.length:=by
 unfold zbw
 cases hs:shortP bs.length p 1
 ·obtain⟨h1,h2,h3⟩:=zcx hs
  rw[if_neg (by simp)]
  have hb:=zea (i:=p.toNat) (by omega) h.b
  unfold zaN at hb
  split
  ·simp only;omega
  ·cases hs2:shortP bs.length (p+1) (bs.getD p.toNat 0)
   ·obtain⟨h4,h5,h6⟩:=zcx hs2
    rw[if_neg (by simp)];simp only;omega
   ·rw[if_pos rfl];simp only;omega
 ·rw[if_pos rfl];simp only;omega
def zbH (bs:List Int):Nat→Int→List Grant→List Grant×Int×Int
 |0,p,acc=>(acc,p,0)
 |k+1,p,acc=>
  if(zbw bs p 12).2.2≠0 then([],0,(zbw bs p 12).2.2)else
  if(zc8 bs (zbw bs p 12).2.1).2.2≠0 then([],0,(zc8 bs (zbw bs p 12).2.1).2.2)else
  zbH bs k (zc8 bs (zbw bs p 12).2.1).2.1 (acc++[⟨(zbw bs p 12).1,(zc8 bs (zbw bs p 12).2.1).1⟩])
abbrev zxG (l:List Grant):RF:= .one (.own 2 l.length (zaL l) false)
theorem zcn {n:Nat} (hn:n<2^60) {p:Int} (h:0≤p∧p≤n):i64 p:=by unfold i64;omega
set_option maxHeartbeats 1000000 in
theorem zsl (bs:List Int) (p:Int) (n:Nat) (h:BsOk bs) (hp:i64 p) (hn:n<2^20):
  CallOK Tryz.prog 199 [.f (asl bs.length (zad bs)), .f (ai p), .f (ai n)] (fun r o=>r=[zxG (zbH bs n p []).1,ri (zbH bs n p []).2.1,ri (zbH bs n p []).2.2]∧o=[]):=by
 refine CallOK.nil ?_
 refine zac zao mixed (T:=Ty) (n:=45) Tryz.func199 (c:=Tryz.f199.body.getD .skip) rfl Tryz.results199 Tryz.ntmps199 Tryz.call199 ?_
 simp only[Tryz.f199,Option.getD]
 repeat'(first|refine zq0 ?_|exact zd0|(refine zaa ?_ ?_<;>intro hb)|(refine And.intro ?_ ?_;exact zI)|(refine And.intro ?_ ?_<;>intro hg)|exact zC|fail)
 refine zai (τ:=Nat×Int×List Grant) (fun t=>⟨[asl bs.length (zad bs),ai t.2.1,dd,dd,dd,dd,dd,dd,dd, .one (.own ⟨9,1,1⟩ 0 t.2.2.length),dd,dd,ai n,ai t.1,dd,dd,dd,dd,dd,dd,dd,dd,dd,dd,dd,dd,dd,dd,dd,dd,dd,dd,dd,dd,dd,dd,dd,dd,dd,dd,dd,dd,dd,dd,dd],[(9,{next:=2,l:=[none,some {e:=1,var:=false,fz:=false,sz:=2,cells:=(zaL t.2.2).map C.d}]}),(6,⟨2,[]⟩),(10,⟨2,[]⟩),(40,⟨2,[]⟩),(41,⟨2,[]⟩)]⟩)
  (fun t=>t.1≤n∧i64 t.2.1∧t.2.2.length=t.1) (fun t=>zbH bs (n - t.1) t.2.1 t.2.2) (fun t=>n - t.1) (0,p,[])
  ((Gh.nil (i:=9) (s:=9) (sz:=2) rfl).trans (Gh.canon [9] [6,10,40,41] [] zK rfl rfl)) ⟨Nat.zero_le _,hp,rfl⟩ ?_
 intro⟨i,q,acc⟩ ⟨hi0,hq,ha⟩ hF K hK
 simp only[Nat.sub_zero]at hi0 hq ha hF hK⊢
 refine zw ?_
 refine zaa (fun hlt=> ?_) (fun hge=> ?_)
 ·have hi:i<n:=by simpa using hlt
  have hw:=zak hi (by omega)
  have ht:=zll bs q 12 h hq
  have hm:=zje bs (zbw bs q 12).2.1 h (zcn h.l (zfY h))
  have hst:n - i=(n - (i+1))+1:=by omega
  rw[hst,zbH]at hF
  have hle:(acc.length+1≤2^47)=True:=eq_true (by omega)
  cases e1:((zbw bs q 12).2.2 !=0)
  ·have e1':(zbw bs q 12).2.2=0:=by simpa using e1
   rw[if_neg (by simp[e1'])]at hF
   cases e2:((zc8 bs (zbw bs q 12).2.1).2.2 !=0)
   ·have e2':(zc8 bs (zbw bs q 12).2.1).2.2=0:=by simpa using e2
    rw[if_neg (by simp[e2'])]at hF
    repeat'(first|refine zq (I e1 (I e2 hle)) ?_|exact zd (I e1 (I e2 hle))|refine zc (ht) ?_|refine zg (ht) ?_|refine zc (hm) ?_|refine zg (hm) ?_|(refine zaa ?_ ?_<;>intro hb)|(refine And.intro ?_ ?_;exact zI)|(refine And.intro ?_ ?_<;>intro hg)|exact zC|fail)
    refine hK _ (i+1,(zc8 bs (zbw bs q 12).2.1).2.1,acc++[⟨(zbw bs q 12).1,(zc8 bs (zbw bs q 12).2.1).1⟩]) (Gh.canon [9] [] [] (zk (I hw (I @List.length_append.{0} @List.length_singleton.{0}))) rfl (by simp only[List.length_append,List.length_singleton];rw[ze3];rfl)) ⟨hi,zcn h.l zc4,by simp only[List.length_append,List.length_singleton];omega⟩ ?_ (by simp only;omega)
    simp only
    rw[hst,zbH,if_neg (by simp[e1']),if_neg (by simp[e2'])]
   ·have e2':(zc8 bs (zbw bs q 12).2.1).2.2≠0:=by simpa using e2
    rw[if_pos e2']at hF
    rw[←hF]
    repeat'(first|refine zq (I e1 e2) ?_|exact zd (I e1 e2)|refine zc (ht) ?_|refine zg (ht) ?_|refine zc (hm) ?_|refine zg (hm) ?_|(refine zaa ?_ ?_<;>intro hb)|(refine And.intro ?_ ?_;exact zI)|(refine And.intro ?_ ?_<;>intro hg)|exact zC|fail)
    show zar _ _∧zar _ _∧zar _ _∧True
    simp[zar]
  ·have e1':(zbw bs q 12).2.2≠0:=by simpa using e1
   rw[if_pos e1']at hF
   rw[←hF]
   repeat'(first|refine zq e1 ?_|exact zd e1|refine zc (ht) ?_|refine zg (ht) ?_|refine zc (hm) ?_|refine zg (hm) ?_|(refine zaa ?_ ?_<;>intro hb)|(refine And.intro ?_ ?_;exact zI)|(refine And.intro ?_ ?_<;>intro hg)|exact zC|fail)
   show zar _ _∧zar _ _∧zar _ _∧True
   simp[zar]
 ·have hi:i=n:=by
   have:¬(i:Int)<n:=by simpa using hge
   omega
  rw[hi,Nat.sub_self,zbH]at hF
  rw[←hF]
  repeat'(first|refine zq0 ?_|exact zd0|(refine zaa ?_ ?_<;>intro hb)|(refine And.intro ?_ ?_;exact zI)|(refine And.intro ?_ ?_<;>intro hg)|exact zC|fail)
  show zar _ _∧zar _ _∧zar _ _∧True
  simp[zar]
abbrev zsj:Reply:=⟨0,0,0,[]⟩
def zdp (bs:List Int) (p:Int):Reply×Int×Int:=
 if(zaY bs p).2.2≠0 then(zsj,0,(zaY bs p).2.2)else
 let s:=zc8 bs (zaY bs p).2.1
 if s.2.2≠0 then(zsj,0,s.2.2)else
 let a:=zaY bs s.2.1
 if a.2.2≠0 then(zsj,0,a.2.2)else
 let n:=zaY bs a.2.1
 if n.2.2≠0 then(zsj,0,n.2.2)else
 if n.1>4 then(zsj,0,4)else
 let g:=zbH bs n.1.toNat n.2.1 []
 if g.2.2≠0 then(zsj,0,g.2.2)else
 if zbI ⟨(zaY bs p).1,s.1,a.1,g.1⟩=false then(zsj,0,4)else(⟨(zaY bs p).1,s.1,a.1,g.1⟩,g.2.1,0)
theorem zeD {bs:List Int} (h:BsOk bs) {p:Int}:zaN (zaY bs p).1:=by
 unfold zaY
 cases hs:shortP bs.length p 1
 ·obtain⟨h1,h2,h3⟩:=zcx hs
  rw[if_neg (by simp)]
  exact zea (by omega) h.b
 ·rw[if_pos rfl];exact⟨by decide,by decide⟩
theorem zhC {bs:List Int} {p most:Int}:(zbw bs p most).1.size≤bs.length:=by
 unfold zbw
 split
 ·simp
 ·split
  ·simp
  ·split
   ·simp
   ·simp only[strOf,ByteArray.size,List.size_toArray,List.length_map,List.length_take,List.length_drop]
    omega
theorem zfW {bs:List Int}:∀{n:Nat} {p:Int} {acc:List Grant},(∀g∈acc,g.name.size≤bs.length)→(zbH bs n p acc).1.length≤acc.length+n∧∀g∈(zbH bs n p acc).1,g.name.size≤bs.length
 |0,p,acc,h=>⟨Nat.le_refl _,h⟩
 |n+1,p,acc,h=>by
  rw[zbH]
  split
  ·exact⟨Nat.zero_le _,by simp⟩
  ·split
   ·exact⟨Nat.zero_le _,by simp⟩
   ·have:=zfW (bs:=bs) (n:=n) (p:=(zc8 bs (zbw bs p 12).2.1).2.1) (acc:=acc++[⟨(zbw bs p 12).1,(zc8 bs (zbw bs p 12).2.1).1⟩]) (fun g hg=>by
     rcases List.mem_append.1 hg with hg|hg
     ·exact h g hg
     ·simp at hg;subst hg;exact zhC)
    rw[List.length_append,List.length_singleton]at this
    exact⟨by omega,this.2⟩
set_option maxHeartbeats 1000000 in
theorem znL (bs:List Int) (p:Int) (h:BsOk bs) (hp:i64 p):
  CallOK Tryz.prog 177 [.f (asl bs.length (zad bs)), .f (ai p)] (fun r o=>r=[znB (zdp bs p).1,ri (zdp bs p).2.1,ri (zdp bs p).2.2]∧o=[]):=by
 refine CallOK.nil ?_
 refine zac zao mixed (T:=Ty) (n:=82) Tryz.func177 (c:=Tryz.f177.body.getD .skip) rfl Tryz.results177 Tryz.ntmps177 Tryz.call177 ?_
 simp only[Tryz.f177,Option.getD]
 have hl:=h.l
 have h1:=zfX bs p h hp
 have h2:=zje bs (zaY bs p).2.1 h (zcn h.l zb4)
 have h3:=zfX bs (zc8 bs (zaY bs p).2.1).2.1 h (zcn h.l zc4)
 have h4:=zfX bs (zaY bs (zc8 bs (zaY bs p).2.1).2.1).2.1 h (zcn h.l zb4)
 unfold zdp
 simp only
 obtain⟨b,hb⟩:∃b,b=zaY bs p:=⟨_,rfl⟩
 rw[←hb]at h1 h2 h3 h4⊢
 obtain⟨s,hs⟩:∃s,s=zc8 bs b.2.1:=⟨_,rfl⟩
 rw[←hs]at h2 h3 h4⊢
 obtain⟨a,ha⟩:∃a,a=zaY bs s.2.1:=⟨_,rfl⟩
 rw[←ha]at h3 h4⊢
 obtain⟨n,hn⟩:∃n,n=zaY bs a.2.1:=⟨_,rfl⟩
 rw[←hn]at h4⊢
 have hnv:zaN n.1:=by rw[hn];exact zeD h
 have hnn:i64 n.2.1:=by rw[hn];exact zcn h.l zb4
 have hbv:zaN b.1:=by rw[hb];exact zeD h
 unfold zaN at hnv hbv
 have h5:=zsl bs n.2.1 n.1.toNat h hnn (by omega)
 rw[Int.toNat_of_nonneg hnv.1]at h5
 have hgk:=zfW (bs:=bs) (n:=n.1.toNat) (p:=n.2.1) (acc:=[]) (by simp)
 obtain⟨g,hg⟩:∃g,g=zbH bs n.1.toNat n.2.1 []:=⟨_,rfl⟩
 rw[←hg]at h5 hgk⊢
 have h6:=zeN ⟨b.1,s.1,a.1,g.1⟩ ⟨by have:=hgk.1;simp only[List.length_nil]at this;simp only;omega,fun x hx=>by have:=hgk.2 x hx;omega⟩
 clear hgk
 cases e1:(b.2.2 !=0)
 ·rw[if_neg (by simpa using e1)]
  cases e2:(s.2.2 !=0)
  ·rw[if_neg (by simpa using e2)]
   cases e3:(a.2.2 !=0)
   ·rw[if_neg (by simpa using e3)]
    cases e4:(n.2.2 !=0)
    ·rw[if_neg (by simpa using e4)]
     cases e5:decide (n.1>4)
     ·rw[if_neg (by simpa using e5)]
      cases e6:(g.2.2 !=0)
      ·rw[if_neg (by simpa using e6)]
       cases e7:zbI ⟨b.1,s.1,a.1,g.1⟩
       ·rw[e7]at h6
        rw[if_pos rfl]
        repeat'(first|refine zq (I e1 (I e2 (I e3 (I e4 (I e5 e6))))) ?_|exact zd (I e1 (I e2 (I e3 (I e4 (I e5 e6)))))|refine zc (h1) ?_|refine zg (h1) ?_|refine zc (h2) ?_|refine zg (h2) ?_|refine zc (h3) ?_|refine zg (h3) ?_|refine zc (h4) ?_|refine zg (h4) ?_|refine zc (h5) ?_|refine zg (h5) ?_|refine zc (h6) ?_|refine zg (h6) ?_|(refine zaa ?_ ?_<;>intro hb)|(refine And.intro ?_ ?_;exact zI)|(refine And.intro ?_ ?_<;>intro hg)|exact zC|fail)
        show(zar _ _∧zar _ _∧zar _ _∧zar _ _∧True)∧zar _ _∧zar _ _∧True
        simp[zar, -List.length_flatMap,zaB]
       ·rw[e7]at h6
        rw[if_neg (by simp)]
        repeat'(first|refine zq (I e1 (I e2 (I e3 (I e4 (I e5 e6))))) ?_|exact zd (I e1 (I e2 (I e3 (I e4 (I e5 e6)))))|refine zc (h1) ?_|refine zg (h1) ?_|refine zc (h2) ?_|refine zg (h2) ?_|refine zc (h3) ?_|refine zg (h3) ?_|refine zc (h4) ?_|refine zg (h4) ?_|refine zc (h5) ?_|refine zg (h5) ?_|refine zc (h6) ?_|refine zg (h6) ?_|(refine zaa ?_ ?_<;>intro hb)|(refine And.intro ?_ ?_;exact zI)|(refine And.intro ?_ ?_<;>intro hg)|exact zC|fail)
        show(zar _ _∧zar _ _∧zar _ _∧zar _ _∧True)∧zar _ _∧zar _ _∧True
        simp[zar, -List.length_flatMap,zaB]
      ·rw[if_pos (by simpa using e6)]
       repeat'(first|refine zq (I e1 (I e2 (I e3 (I e4 (I e5 e6))))) ?_|exact zd (I e1 (I e2 (I e3 (I e4 (I e5 e6)))))|refine zc (h1) ?_|refine zg (h1) ?_|refine zc (h2) ?_|refine zg (h2) ?_|refine zc (h3) ?_|refine zg (h3) ?_|refine zc (h4) ?_|refine zg (h4) ?_|refine zc (h5) ?_|refine zg (h5) ?_|(refine zaa ?_ ?_<;>intro hb)|(refine And.intro ?_ ?_;exact zI)|(refine And.intro ?_ ?_<;>intro hg)|exact zC|fail)
       show(zar _ _∧zar _ _∧zar _ _∧zar _ _∧True)∧zar _ _∧zar _ _∧True
       simp[zar, -List.length_flatMap,zaB]
     ·rw[if_pos (by simpa using e5)]
      repeat'(first|refine zq (I e1 (I e2 (I e3 (I e4 e5)))) ?_|exact zd (I e1 (I e2 (I e3 (I e4 e5))))|refine zc (h1) ?_|refine zg (h1) ?_|refine zc (h2) ?_|refine zg (h2) ?_|refine zc (h3) ?_|refine zg (h3) ?_|refine zc (h4) ?_|refine zg (h4) ?_|(refine zaa ?_ ?_<;>intro hb)|(refine And.intro ?_ ?_;exact zI)|(refine And.intro ?_ ?_<;>intro hg)|exact zC|fail)
      show(zar _ _∧zar _ _∧zar _ _∧zar _ _∧True)∧zar _ _∧zar _ _∧True
      simp[zar, -List.length_flatMap,zaB]
    ·rw[if_pos (by simpa using e4)]
     repeat'(first|refine zq (I e1 (I e2 (I e3 e4))) ?_|exact zd (I e1 (I e2 (I e3 e4)))|refine zc (h1) ?_|refine zg (h1) ?_|refine zc (h2) ?_|refine zg (h2) ?_|refine zc (h3) ?_|refine zg (h3) ?_|refine zc (h4) ?_|refine zg (h4) ?_|(refine zaa ?_ ?_<;>intro hb)|(refine And.intro ?_ ?_;exact zI)|(refine And.intro ?_ ?_<;>intro hg)|exact zC|fail)
     show(zar _ _∧zar _ _∧zar _ _∧zar _ _∧True)∧zar _ _∧zar _ _∧True
     simp[zar, -List.length_flatMap,zaB]
   ·rw[if_pos (by simpa using e3)]
    repeat'(first|refine zq (I e1 (I e2 e3)) ?_|exact zd (I e1 (I e2 e3))|refine zc (h1) ?_|refine zg (h1) ?_|refine zc (h2) ?_|refine zg (h2) ?_|refine zc (h3) ?_|refine zg (h3) ?_|(refine zaa ?_ ?_<;>intro hb)|(refine And.intro ?_ ?_;exact zI)|(refine And.intro ?_ ?_<;>intro hg)|exact zC|fail)
    show(zar _ _∧zar _ _∧zar _ _∧zar _ _∧True)∧zar _ _∧zar _ _∧True
    simp[zar, -List.length_flatMap,zaB]
  ·rw[if_pos (by simpa using e2)]
   repeat'(first|refine zq (I e1 e2) ?_|exact zd (I e1 e2)|refine zc (h1) ?_|refine zg (h1) ?_|refine zc (h2) ?_|refine zg (h2) ?_|(refine zaa ?_ ?_<;>intro hb)|(refine And.intro ?_ ?_;exact zI)|(refine And.intro ?_ ?_<;>intro hg)|exact zC|fail)
   show(zar _ _∧zar _ _∧zar _ _∧zar _ _∧True)∧zar _ _∧zar _ _∧True
   simp[zar, -List.length_flatMap,zaB]
 ·rw[if_pos (by simpa using e1)]
  repeat'(first|refine zq e1 ?_|exact zd e1|refine zc (h1) ?_|refine zg (h1) ?_|(refine zaa ?_ ?_<;>intro hb)|(refine And.intro ?_ ?_;exact zI)|(refine And.intro ?_ ?_<;>intro hg)|exact zC|fail)
  show(zar _ _∧zar _ _∧zar _ _∧zar _ _∧True)∧zar _ _∧zar _ _∧True
  simp[zar, -List.length_flatMap,zaB]
abbrev memo0:Memo:=⟨0,0,zsj⟩
def za0 (bs:List Int) (p:Int):Memo×Int×Int:=
 if(zaY bs p).2.2≠0 then(memo0,0,(zaY bs p).2.2)else
 let s:=zc8 bs (zaY bs p).2.1
 if s.2.2≠0 then(memo0,0,s.2.2)else
 let r:=zdp bs s.2.1
 if r.2.2≠0 then(memo0,0,r.2.2)else
 if answerB ⟨(zaY bs p).1,s.1,r.1⟩=false then(memo0,0,4)else(⟨(zaY bs p).1,s.1,r.1⟩,r.2.1,0)
abbrev zsk (m:Memo):RF:= .agg (m.enc.map RO.d)
theorem zhR {bs:List Int}:∀{n:Nat} {p:Int} {acc:List Grant},0≤p∧p≤bs.length→0≤(zbH bs n p acc).2.1∧(zbH bs n p acc).2.1≤bs.length
 |0,p,acc,h=>h
 |n+1,p,acc,h=>by
  rw[zbH]
  split
  ·simp only;omega
  ·split
   ·simp only;omega
   ·exact zhR zc4
theorem zdq {bs:List Int} (h:BsOk bs) {p:Int}:(0≤(zdp bs p).2.1∧(zdp bs p).2.1≤bs.length)∧zbG (zdp bs p).1:=by
 have hl:=h.l
 have h0:(0≤((zsj,(0:Int),(0:Int)):Reply×Int×Int).2.1∧((zsj,(0:Int),(0:Int)):Reply×Int×Int).2.1≤bs.length)∧zbG zsj:=⟨by simp only;omega,by simp,by simp⟩
 unfold zdp
 simp only
 split
 ·exact h0
 split
 ·exact h0
 split
 ·exact h0
 split
 ·exact h0
 split
 ·exact h0
 rename_i h5
 split
 ·exact h0
 split
 ·exact h0
 ·have hgk:=zfW (bs:=bs) (n:=(zaY bs (zaY bs (zc8 bs (zaY bs p).2.1).2.1).2.1).1.toNat) (p:=(zaY bs (zaY bs (zc8 bs (zaY bs p).2.1).2.1).2.1).2.1) (acc:=[]) (by simp)
  simp only[List.length_nil]at hgk
  exact⟨zhR zb4,by simp only;omega,fun g hg=>by have:=hgk.2 g hg;omega⟩
set_option maxHeartbeats 1000000 in
theorem zhS (bs:List Int) (p:Int) (h:BsOk bs) (hp:i64 p):
  CallOK Tryz.prog 137 [.f (asl bs.length (zad bs)), .f (ai p)] (fun r o=>r=[zsk (za0 bs p).1,ri (za0 bs p).2.1,ri (za0 bs p).2.2]∧o=[]):=by
 refine CallOK.nil ?_
 refine zac zao mixed (T:=Ty) (n:=52) Tryz.func137 (c:=Tryz.f137.body.getD .skip) rfl Tryz.results137 Tryz.ntmps137 Tryz.call137 ?_
 simp only[Tryz.f137,Option.getD]
 have h1:=zfX bs p h hp
 have h2:=zje bs (zaY bs p).2.1 h (zcn h.l zb4)
 have h3:=znL bs (zc8 bs (zaY bs p).2.1).2.1 h (zcn h.l zc4)
 have hf:=(zdq h (p:=(zc8 bs (zaY bs p).2.1).2.1)).2
 unfold za0
 simp only
 obtain⟨b,hb⟩:∃b,b=zaY bs p:=⟨_,rfl⟩
 rw[←hb]at h1 h2 h3 hf⊢
 obtain⟨s,hs⟩:∃s,s=zc8 bs b.2.1:=⟨_,rfl⟩
 rw[←hs]at h2 h3 hf⊢
 obtain⟨a,ha⟩:∃a,a=zdp bs s.2.1:=⟨_,rfl⟩
 rw[←ha]at h3 hf⊢
 have h4:=zft ⟨b.1,s.1,a.1⟩ hf
 cases e1:(b.2.2 !=0)
 ·rw[if_neg (by simpa using e1)]
  cases e2:(s.2.2 !=0)
  ·rw[if_neg (by simpa using e2)]
   cases e3:(a.2.2 !=0)
   ·rw[if_neg (by simpa using e3)]
    cases e7:answerB ⟨b.1,s.1,a.1⟩
    ·rw[e7]at h4
     rw[if_pos rfl]
     repeat'(first|refine zq (I e1 (I e2 e3)) ?_|exact zd (I e1 (I e2 e3))|refine zc (h1) ?_|refine zg (h1) ?_|refine zc (h2) ?_|refine zg (h2) ?_|refine zc (h3) ?_|refine zg (h3) ?_|refine zc (h4) ?_|refine zg (h4) ?_|(refine zaa ?_ ?_<;>intro hb)|(refine And.intro ?_ ?_;exact zI)|(refine And.intro ?_ ?_<;>intro hg)|exact zC|fail)
     show(zar _ _∧zar _ _∧zar _ _∧zar _ _∧zar _ _∧zar _ _∧True)∧zar _ _∧zar _ _∧True
     simp[zar]
    ·rw[e7]at h4
     rw[if_neg (by simp)]
     repeat'(first|refine zq (I e1 (I e2 e3)) ?_|exact zd (I e1 (I e2 e3))|refine zc (h1) ?_|refine zg (h1) ?_|refine zc (h2) ?_|refine zg (h2) ?_|refine zc (h3) ?_|refine zg (h3) ?_|refine zc (h4) ?_|refine zg (h4) ?_|(refine zaa ?_ ?_<;>intro hb)|(refine And.intro ?_ ?_;exact zI)|(refine And.intro ?_ ?_<;>intro hg)|exact zC|fail)
     show(zar _ _∧zar _ _∧zar _ _∧zar _ _∧zar _ _∧zar _ _∧True)∧zar _ _∧zar _ _∧True
     simp[zar]
   ·rw[if_pos (by simpa using e3)]
    repeat'(first|refine zq (I e1 (I e2 e3)) ?_|exact zd (I e1 (I e2 e3))|refine zc (h1) ?_|refine zg (h1) ?_|refine zc (h2) ?_|refine zg (h2) ?_|refine zc (h3) ?_|refine zg (h3) ?_|(refine zaa ?_ ?_<;>intro hb)|(refine And.intro ?_ ?_;exact zI)|(refine And.intro ?_ ?_<;>intro hg)|exact zC|fail)
    show(zar _ _∧zar _ _∧zar _ _∧zar _ _∧zar _ _∧zar _ _∧True)∧zar _ _∧zar _ _∧True
    simp[zar]
  ·rw[if_pos (by simpa using e2)]
   repeat'(first|refine zq (I e1 e2) ?_|exact zd (I e1 e2)|refine zc (h1) ?_|refine zg (h1) ?_|refine zc (h2) ?_|refine zg (h2) ?_|(refine zaa ?_ ?_<;>intro hb)|(refine And.intro ?_ ?_;exact zI)|(refine And.intro ?_ ?_<;>intro hg)|exact zC|fail)
   show(zar _ _∧zar _ _∧zar _ _∧zar _ _∧zar _ _∧zar _ _∧True)∧zar _ _∧zar _ _∧True
   simp[zar]
 ·rw[if_pos (by simpa using e1)]
  repeat'(first|refine zq e1 ?_|exact zd e1|refine zc (h1) ?_|refine zg (h1) ?_|(refine zaa ?_ ?_<;>intro hb)|(refine And.intro ?_ ?_;exact zI)|(refine And.intro ?_ ?_<;>intro hg)|exact zC|fail)
  show(zar _ _∧zar _ _∧zar _ _∧zar _ _∧zar _ _∧zar _ _∧True)∧zar _ _∧zar _ _∧True
  simp[zar]
def zeC (s:ByteArray):List Int:=(s.size:Int)::s.data.toList.map fun b=>(b.toNat:Int)
theorem zse (s:ByteArray):zhV s=zad (zeC s):=by simp[zhV,zeC,zad,zjs]
theorem zcD (s:ByteArray):(zeC s).length=1+s.size:=by simp[zeC,zcY,Nat.add_comm]
def zkf (g:Grant):List Int:=zeC g.name++za8 g.token
def zbJ (l:List Grant):List Int:=l.flatMap zkf
def zby (r:Reply):List Int:=[r.code]++(za8 r.session++([r.ahead,(r.held.length:Int)]++zbJ r.held))
def za3 (m:Memo):List Int:=[m.client]++(za8 m.seq++zby m.reply)
theorem zaR (n:Int):(za8 n).length=8:=rfl
theorem zpV (g:Grant):(zkf g).length=9+g.name.size:=by simp[zkf,zcD,zaR];omega
theorem zeT:∀{l:List Grant} {k:Nat},(∀g∈l,g.name.size≤k)→(zbJ l).length≤l.length*(9+k)
 |[],k,_=>by simp[zbJ]
 |g::l,k,h=>by
  have h1:=zeT (l:=l) (k:=k) fun x hx=>h x (by simp[hx])
  have h2:=h g (by simp)
  rw[zbJ,List.flatMap_cons,List.length_append,List.length_cons,zpV,Nat.add_mul]
  unfold zbJ at h1
  omega
theorem zwe (b:UInt8):zaN (b.toNat:Int):=⟨by omega,by have:=b.toNat_lt;omega⟩
theorem zkg (v:Int):zaN (IntKind.u8.wrap v):=by
 have e:IntKind.u8.wrap v=v % 256:=by
  unfold IntKind.wrap
  simp[IntKind.bits,IntKind.signed]
 rw[e];unfold zaN;omega
theorem zeY (v:Int):∀x∈za8 v,zaN x:=by
 intro x hx
 obtain⟨k,_,rfl⟩:=List.mem_map.1 hx
 exact zkg _
theorem zsf (s:ByteArray) (h:s.size≤255):∀x∈zeC s,zaN x:=by
 intro x hx
 rcases List.mem_cons.1 hx with rfl|hx
 ·exact⟨by omega,by omega⟩
 ·obtain⟨b,_,rfl⟩:=List.mem_map.1 hx
  exact zwe b
theorem zsg (v:Int):IntKind.u8.wrap v=v % 256:=by
 unfold IntKind.wrap
 simp[IntKind.bits,IntKind.signed]
theorem zsh (v:Int) (k:Nat):zfp v k=v / (2^(8*(7 - k))) % 256:=by
 rw[zfp,zsg,Int.fdiv_eq_ediv_of_nonneg _ (Int.pow_nonneg (by decide))]
theorem zxd (v:Int) (h:0≤v∧v<4611686018427387904):ze0 (za8 v)=v:=by
 have e:za8 v=[v / 72057594037927936 % 256,v / 281474976710656 % 256,v / 1099511627776 % 256,v / 4294967296 % 256,v / 16777216 % 256,v / 65536 % 256,v / 256 % 256,v % 256]:=by
  show List.map (zfp v) [0,1,2,3,4,5,6,7]=_
  simp only[List.map_cons,List.map_nil,zsh]
  simp
 rw[e]
 simp only[ze0,List.foldl_cons,List.foldl_nil]
 have d1:v / 65536=v / 256 / 256:=by omega
 have d2:v / 16777216=v / 65536 / 256:=by omega
 have d3:v / 4294967296=v / 16777216 / 256:=by omega
 have d4:v / 1099511627776=v / 4294967296 / 256:=by omega
 have d5:v / 281474976710656=v / 1099511627776 / 256:=by omega
 have d6:v / 72057594037927936=v / 281474976710656 / 256:=by omega
 have t0:0*256+v / 72057594037927936 % 256=v / 72057594037927936:=by omega
 have t1:v / 72057594037927936*256+v / 281474976710656 % 256=v / 281474976710656:=by rw[d6];omega
 have t2:v / 281474976710656*256+v / 1099511627776 % 256=v / 1099511627776:=by rw[d5];omega
 have t3:v / 1099511627776*256+v / 4294967296 % 256=v / 4294967296:=by rw[d4];omega
 have t4:v / 4294967296*256+v / 16777216 % 256=v / 16777216:=by rw[d3];omega
 have t5:v / 16777216*256+v / 65536 % 256=v / 65536:=by rw[d2];omega
 have t6:v / 65536*256+v / 256 % 256=v / 256:=by rw[d1];omega
 have t7:v / 256*256+v % 256=v:=by omega
 rw[t0,t1,t2,t3,t4,t5,t6,t7]
theorem zaV {bs a rest:List Int} {p:Nat} (h:bs.drop p=a++rest):bs.drop (p+a.length)=rest:=by
 rw[←List.drop_drop,h,List.drop_left]
theorem znK {bs a rest:List Int} {p:Nat} (h:bs.drop p=a++rest) (ha:a≠[]):p+a.length≤bs.length:=by
 have:=congrArg List.length h
 rw[List.length_drop,List.length_append]at this
 have:0<a.length:=List.length_pos_iff.2 ha
 omega
theorem short_at {n p k:Nat} (h:p+k≤n):shortP n (p:Int) (k:Int)=false:=by
 unfold shortP
 simp;omega
theorem zhj {bs:List Int} {p:Nat} {x:Int} {rest:List Int} (h:bs.drop p=[x]++rest):zaY bs p=(x,((p+1:Nat):Int),0):=by
 have h1:=znK h (by simp)
 simp only[List.length_singleton]at h1
 rw[zaY,if_neg (by rw[show(1:Int)=((1:Nat):Int) from rfl,short_at h1];simp),Int.toNat_natCast]
 have:bs.getD p 0=x:=by
  have:=congrArg (fun l=>l[0]?) h
  simp only[List.getElem?_drop,Nat.add_zero,List.singleton_append,List.getElem?_cons_zero]at this
  rw[List.getD_eq_getElem?_getD,this];rfl
 rw[this];simp
theorem zlk {bs:List Int} {p:Nat} {v:Int} {rest:List Int} (h:bs.drop p=za8 v++rest) (hv:0≤v∧v<4611686018427387904):zc8 bs p=(v,((p+8:Nat):Int),0):=by
 have h1:=znK h (by intro h;have:=congrArg List.length h;rw[zaR]at this;simp at this)
 rw[zaR]at h1
 have h2:(bs.drop p).take 8=za8 v:=by rw[h];exact List.take_left' (zaR v)
 rw[zc8,if_neg (by rw[show(8:Int)=((8:Nat):Int) from rfl,short_at h1];simp),Int.toNat_natCast,h2,zxd v hv,if_pos hv.2];simp
theorem zpW (s:ByteArray):strOf (s.data.toList.map fun b=>(b.toNat:Int))=s:=by
 unfold strOf
 rw[List.map_map]
 have:(fun n:Int=>UInt8.ofNat n.toNat)∘(fun b:UInt8=>(b.toNat:Int))=id:=by
  funext b;simp
 rw[this,List.map_id]
theorem zoO {bs:List Int} {p:Nat} {s:ByteArray} {most:Int} {rest:List Int} (h:bs.drop p=zeC s++rest) (hs:(s.size:Int)≤most):zbw bs p most=(s,((p+(1+s.size):Nat):Int),0):=by
 have h1:=znK h (by simp[zeC])
 rw[zcD]at h1
 have hg:bs.getD p 0=(s.size:Int):=by
  have:=congrArg (fun l=>l[0]?) h
  simp only[List.getElem?_drop,Nat.add_zero,zeC,List.cons_append,List.getElem?_cons_zero]at this
  rw[List.getD_eq_getElem?_getD,this];rfl
 have h2:(bs.drop (p+1)).take s.size=s.data.toList.map fun b=>(b.toNat:Int):=by
  rw[←List.drop_drop,h,zeC,List.cons_append,List.drop_succ_cons,List.drop_zero]
  exact List.take_left' (by simp[zcY])
 have hs1:=short_at (n:=bs.length) (p:=p) (k:=1) (by omega)
 have hs2:=short_at (n:=bs.length) (p:=p+1) (k:=s.size) (by omega)
 rw[Int.natCast_add]at hs2
 simp only[Int.ofNat_one,Int.natCast_one]at hs1 hs2
 rw[zbw,if_neg (by rw[hs1];simp),Int.toNat_natCast,hg,if_neg (by simpa using hs),if_neg (by rw[hs2];simp),Int.toNat_natCast,h2,zpW]
 simp;omega
theorem zkh {bs:List Int}:∀{l:List Grant} {p:Nat} {acc:List Grant} {rest:List Int},bs.drop p=zbJ l++rest→(∀g∈l,g.name.size≤12∧0≤g.token∧g.token<4611686018427387904)→
  zbH bs l.length p acc=(acc++l,((p+(zbJ l).length:Nat):Int),0)
 |[],p,acc,rest,h,_=>by simp[zbH,zbJ]
 |g::l,p,acc,rest,h,hg=>by
  obtain⟨g1,g2⟩:=hg g (by simp)
  have h1:bs.drop p=zeC g.name++(za8 g.token++(zbJ l++rest)):=by rw[h];simp[zbJ,zkf]
  have e1:=zoO h1 (most:=12) (by omega)
  have h2:=zaV h1
  rw[zcD]at h2
  have e2:=zlk h2 g2
  have h3:=zaV h2
  rw[zaR]at h3
  have ih:=zkh (l:=l) (acc:=acc++[g]) h3 fun x hx=>hg x (by simp[hx])
  rw[List.length_cons,zbH,e1]
  simp only
  rw[e2]
  simp only[ne_eq,not_true_eq_false,if_false]
  rw[show({name:=g.name,token:=g.token}:Grant)=g from rfl,ih]
  have:(zbJ (g::l)).length=1+g.name.size+8+(zbJ l).length:=by simp[zbJ,zkf,zcD,zaR];omega
  rw[this,List.append_assoc]
  simp;omega
theorem zb6 {r:Reply} (h:zbI r=true):(0≤r.code∧r.code≤12)∧(0≤r.session∧r.session≤2305843009213693952)∧(0≤r.ahead∧r.ahead≤3)∧r.held.length≤4∧zbb (zcO r.held) 0 r.held=true:=by
 unfold zbI at h
 have hH:zbD=2305843009213693952:=rfl
 simp only[Bool.and_eq_true,Bool.not_eq_true',Bool.or_eq_false_iff,decide_eq_false_iff_not,hH]at h
 obtain⟨⟨h1,h2⟩,h3⟩:=h
 refine⟨by omega,by omega,by omega,by omega,h3⟩
theorem zki {α:Type} {q:Nat→α→Bool}:∀{l:List α} {i:Nat},zbb q i l=true→∀x∈l,∃k,q k x=true
 |[],_,_,x,hx=>by cases hx
 |a::l,i,h,x,hx=>by
  rw[zbb]at h
  split at h
  ·rename_i hq
   rcases List.mem_cons.1 hx with rfl|hx
   ·exact⟨i,hq⟩
   ·exact zki h x hx
  ·cases h
theorem zcb {r:Reply} (h:zbI r=true):∀g∈r.held,g.name.size≤12∧0≤g.token∧g.token<4611686018427387904:=by
 intro g hg
 obtain⟨k,hk⟩:=zki (zb6 h).2.2.2.2 g hg
 unfold zcO at hk
 have hH:zbD=2305843009213693952:=rfl
 simp only[Bool.not_eq_true',Bool.or_eq_false_iff,decide_eq_false_iff_not,hH,Bool.not_eq_false']at hk
 obtain⟨⟨⟨h1,h2⟩,h3⟩,h4⟩:=hk
 have:nameP g.name=true:=by simpa using h1
 unfold nameP at this
 simp only[Bool.and_eq_true,decide_eq_true_eq]at this
 omega
theorem zsi {bs:List Int} {r:Reply} {p:Nat} {rest:List Int} (h:bs.drop p=zby r++rest) (hr:zbI r=true):zdp bs p=(r,((p+(zby r).length:Nat):Int),0):=by
 obtain⟨f1,f2,f3,f4,f5⟩:=zb6 hr
 have h1:bs.drop p=[r.code]++(za8 r.session++([r.ahead]++([(r.held.length:Int)]++(zbJ r.held++rest)))):=by rw[h];simp[zby]
 have e1:=zhj h1
 have h2:=zaV h1
 have e2:=zlk (p:=p+[r.code].length) h2 (by omega)
 have h3:=zaV h2
 rw[zaR]at h3
 have e3:=zhj h3
 have h4:=zaV h3
 have e4:=zhj h4
 have h5:=zaV h4
 have e5:=zkh (acc:=[]) h5 (zcb hr)
 simp only[List.length_singleton]at e2 e3 e4 e5
 rw[zdp,e1]
 simp only[ne_eq,not_true_eq_false,if_false]
 rw[e2]
 simp only[ne_eq,not_true_eq_false,if_false]
 rw[e3]
 simp only[ne_eq,not_true_eq_false,if_false]
 rw[e4]
 simp only[ne_eq,not_true_eq_false,if_false,Int.toNat_natCast]
 rw[e5]
 simp only[ne_eq,not_true_eq_false,if_false,List.nil_append]
 rw[if_neg (by omega),show(⟨r.code,r.session,r.ahead,r.held⟩:Reply)=r from rfl,if_neg (by rw[hr];simp)]
 have:(zby r).length=1+8+1+1+(zbJ r.held).length:=by simp[zby,zaR];omega
 rw[this]
 simp;omega
theorem zcc {m:Memo} (h:answerB m=true):(0≤m.client∧m.client<8)∧(1≤m.seq∧m.seq≤2305843009213693952)∧zbI m.reply=true:=by
 unfold answerB at h
 have hH:zbD=2305843009213693952:=rfl
 simp only[Bool.and_eq_true,decide_eq_true_eq,hH]at h
 exact⟨by omega,by omega,h.2⟩
theorem zpX {bs:List Int} {m:Memo} {p:Nat} {rest:List Int} (h:bs.drop p=za3 m++rest) (hm:answerB m=true):za0 bs p=(m,((p+(za3 m).length:Nat):Int),0):=by
 obtain⟨f1,f2,f3⟩:=zcc hm
 have h1:bs.drop p=[m.client]++(za8 m.seq++(zby m.reply++rest)):=by rw[h];simp[za3]
 have e1:=zhj h1
 have h2:=zaV h1
 have e2:=zlk (p:=p+[m.client].length) h2 (by omega)
 have h3:=zaV h2
 rw[zaR]at h3
 have e3:=zsi h3 f3
 simp only[List.length_singleton]at e2 e3
 rw[za0,e1]
 simp only[ne_eq,not_true_eq_false,if_false]
 rw[e2]
 simp only[ne_eq,not_true_eq_false,if_false]
 rw[e3]
 simp only[ne_eq,not_true_eq_false,if_false]
 rw[show(⟨m.client,m.seq,m.reply⟩:Memo)=m from rfl,if_neg (by rw[hm];simp)]
 have:(za3 m).length=1+8+(zby m.reply).length:=by simp[za3,zaR];omega
 rw[this]
 simp;omega
end Go.Proofs.YtbpmcjeeeiffhaaGreat
