import Derived.Test.YtliimajkpggbhaaGreatL1
namespace Go.Proofs.YtliimajkpggbhaaGreat
open Go.Pk Tryz
set_option maxRecDepth 100000
set_option linter.unusedSimpArgs false
set_option linter.unusedVariables false
def codeOf:Value→Value
 | .iface _ (.agg ⟨[c]⟩)=>c
 |_=>undef
abbrev zeA (t:Nat) (n:Int):Value:= .iface t (.agg #[.int .i64 n])
def ziy (t:Nat) (x:Value):Prop:=∃n,x=zeA t n
def nw3 (z:Value) (x:Value) (k:Nat):List Value:=if k=4 then [z]else if k=5 then [.int .i64 0]else [codeOf x]
def nwT (x:Value) (k:Nat):List Value:=if k=6 then [.string .empty]else if k=7 then [.int .i64 0]else [codeOf x]
def sz3 (_:Nat):Nat:=1
theorem zvL {l:List Value} (h:l.length=1):∃a,l=[a]:=by
 match l,h with
 |[a],_=>exact⟨a,rfl⟩
theorem cells3 {ks:List Nat} {ls:List (List Value)} (hk:ks.length=3) (h:ls.length=ks.length) (hs:∀(i k:Nat) (l:List Value),ks[i]? =some k→ls[i]? =some l→l.length=sz3 k):∃a b c,ls=[[a],[b],[c]]:=by
 rw[hk]at h
 match ls,h with
 |[x,y,z],_=>
  obtain⟨a,rfl⟩:=zvL (hs 0 ks[0] x (List.getElem?_eq_getElem (by omega)) rfl)
  obtain⟨b,rfl⟩:=zvL (hs 1 ks[1] y (List.getElem?_eq_getElem (by omega)) rfl)
  obtain⟨c,rfl⟩:=zvL (hs 2 ks[2] z (List.getElem?_eq_getElem (by omega)) rfl)
  exact⟨a,b,c,rfl⟩
theorem ziz {P:Program} {t:Nat} {z:Value} (h:(P.info? t).bind (·.zero)=some z) (w:World):(zeroValue t).run P w= .ok z w:=by
 cases hi:P.info? t with
 |none=>rw[hi]at h;cases h
 |some i=>rw[hi]at h;simp[zeroValue,typeInfo,hi,show i.zero=some z from h]
theorem zgY:(prog.info? 206).bind (·.zero)=some (.agg #[.int .i64 0]):=by kernel_rfl
theorem ziA:zh3 prog 172 [4,5,6] sz3 (nw3 (.int .i64 0)) (ziy 206):=by
 refine zeG zco mixed (T:=Ty) func172 rfl rfl ntmps172 rfl rfl rfl rfl rfl rfl rfl (by decide) (by decide) (by decide) ?_
 rintro x ⟨n,rfl⟩ ls hl hs
 obtain⟨a,b,c,rfl⟩:=cells3 rfl hl hs
 refine⟨.tuple #[.agg #[.int .i64 n], .bool true], .tup [.agg [di n],ab true], ?_, ?_,rfl, ?_⟩
 ·intro w
  simp[Instr.typeAssert,Tryz.underlying206]
 ·intro cx w r β
  simp[ReA,ReAs,ReC,ReCs,Rd,flat]
 ·simp only[zbi,plainO,List.map_cons,List.map_nil]
  first|refine zs0 ?_|exact zt0
  refine zL0 trivial ?_
  rfl
theorem zjJ:zmH prog 172 3:=by
 refine zdw zco mixed (T:=Ty) func172 rfl rfl ntmps172 rfl rfl rfl rfl rfl rfl rfl (by decide) (y7:= .tuple #[.agg #[.int .i64 0], .bool false]) (V7:= .tup [.agg [di 0],ab false]) ?_ ?_ (by decide) rfl ?_
 ·intro w
  simp[Instr.typeAssert,Tryz.underlying206,ziz (zgY) w]
 ·intro cx w r β
  simp[ReA,ReAs,ReC,ReCs,Rd,flat]
 ·simp only[List.replicate]
  first|refine zs0 ?_|exact zt0
  exact zW0 trivial
theorem zjK:zh3 prog 174 [4,5,6] sz3 (nw3 (.int .i64 0)) (ziy 206):=by
 refine zeG zco mixed (T:=Ty) func174 rfl rfl ntmps174 rfl rfl rfl rfl rfl rfl rfl (by decide) (by decide) (by decide) ?_
 rintro x ⟨n,rfl⟩ ls hl hs
 obtain⟨a,b,c,rfl⟩:=cells3 rfl hl hs
 refine⟨.tuple #[.agg #[.int .i64 n], .bool true], .tup [.agg [di n],ab true], ?_, ?_,rfl, ?_⟩
 ·intro w
  simp[Instr.typeAssert,Tryz.underlying206]
 ·intro cx w r β
  simp[ReA,ReAs,ReC,ReCs,Rd,flat]
 ·simp only[zbi,plainO,List.map_cons,List.map_nil]
  first|refine zs0 ?_|exact zt0
  refine zL0 trivial ?_
  rfl
theorem zl5:zmH prog 174 3:=by
 refine zdw zco mixed (T:=Ty) func174 rfl rfl ntmps174 rfl rfl rfl rfl rfl rfl rfl (by decide) (y7:= .tuple #[.agg #[.int .i64 0], .bool false]) (V7:= .tup [.agg [di 0],ab false]) ?_ ?_ (by decide) rfl ?_
 ·intro w
  simp[Instr.typeAssert,Tryz.underlying206,ziz (zgY) w]
 ·intro cx w r β
  simp[ReA,ReAs,ReC,ReCs,Rd,flat]
 ·simp only[List.replicate]
  first|refine zs0 ?_|exact zt0
  exact zW0 trivial
theorem zew:zh3 prog 198 [6,7,8] sz3 (nwT) (ziy 206):=by
 refine zeG zco mixed (T:=Ty) func198 rfl rfl ntmps198 rfl rfl rfl rfl rfl rfl rfl (by decide) (by decide) (by decide) ?_
 rintro x ⟨n,rfl⟩ ls hl hs
 obtain⟨a,b,c,rfl⟩:=cells3 rfl hl hs
 refine⟨.tuple #[.agg #[.int .i64 n], .bool true], .tup [.agg [di n],ab true], ?_, ?_,rfl, ?_⟩
 ·intro w
  simp[Instr.typeAssert,Tryz.underlying206]
 ·intro cx w r β
  simp[ReA,ReAs,ReC,ReCs,Rd,flat]
 ·simp only[zbi,plainO,List.map_cons,List.map_nil]
  first|refine zs0 ?_|exact zt0
  refine zL0 trivial ?_
  rfl
theorem zfy:zmH prog 198 3:=by
 refine zdw zco mixed (T:=Ty) func198 rfl rfl ntmps198 rfl rfl rfl rfl rfl rfl rfl (by decide) (y7:= .tuple #[.agg #[.int .i64 0], .bool false]) (V7:= .tup [.agg [di 0],ab false]) ?_ ?_ (by decide) rfl ?_
 ·intro w
  simp[Instr.typeAssert,Tryz.underlying206,ziz (zgY) w]
 ·intro cx w r β
  simp[ReA,ReAs,ReC,ReCs,Rd,flat]
 ·simp only[List.replicate]
  first|refine zs0 ?_|exact zt0
  exact zW0 trivial
abbrev asl (n:Nat) (ds:List D):AV:= .one (.d (.sl n ds))
abbrev rdr (n:Nat) (ds:List D) (p:Int):List RO:=[.d (.sl n ds), .d (iD p)]
theorem zoX (n:Nat) (ds:List D) (p k:Nat) (hl:ds.length=n) (hn:n<2^62) (h:p+k≤n):
  CallOK prog 173 [.obj (rdr n ds p), .f (ai k)] (fun r o=>r=[.one (.d (.sl k ((ds.drop p).take k)))]∧o=[rdr n ds ((p+k:Nat):Int)]):=by
 refine zh func173 results173 ntmps173 call173 ?_
 simp only[f173,Option.getD]
 have h1:decide ((p:Int)<0)=false:=by simp
 have h2:decide ((p:Int)>(n:Int))=false:=by simp;omega
 have h3:IntKind.i64.wrap ((n:Int) - (p:Int))=(n:Int) - p:=wrap64 (by omega) (by omega)
 have h4:decide ((n:Int) - (p:Int)<(k:Int))=false:=by simp;omega
 have h5:IntKind.i64.wrap ((p:Int)+(k:Int))=((p+k:Nat):Int):=by rw[wrap64 (by omega) (by omega)];omega
 have h6:p+k - p=k:=by omega
 exact zW0 (I h1 (I h2 (I h3 (I h4 (I h5 (I h6 (I @Int.toNat_natCast hl)))))))
def zcq (n:Nat) (p k:Int):Bool:=decide (p<0)||decide (p>(n:Int))||decide ((n:Int) - p<k)
theorem zhI (n:Nat) (ds:List D) (p k:Int) (hl:ds.length=n) (hn:n<2^62) (hp:i64 p) (h:zcq n p k=true):
  zbE prog 173 [.obj (rdr n ds p), .f (ai k)] (zeA 206 2):=by
 refine zhy func173 ntmps173 call173 ?_
 simp only[f173,Option.getD]
 unfold zcq at h
 cases h1:decide (p<0)
 ·cases h2:decide (p>(n:Int))
  ·have h4:decide ((n:Int) - p<k)=true:=by rw[h1,h2]at h;simpa using h
   have h3:IntKind.i64.wrap ((n:Int) - p)=(n:Int) - p:=by
    simp at h1 h2
    exact wrap64 (by omega) (by omega)
   exact zW0 (I h1 (I h2 (I h3 (I h4 (I @zac hl)))))
  ·exact zW0 (I h1 (I h2 (I @zac hl)))
 ·exact zW0 (I h1 (I @zac hl))
theorem zu9 (n:Nat) (ds:List D) (p:Nat) (x:Int) (rest:List D) (hl:ds.length=n) (hn:n<2^62) (hp:p<n) (hat:ds.drop p= .v (.int .u8 x)::rest) (hx:0≤x∧x≤255):
  CallOK prog 138 [.f (asl n ds), .f (ai p)] (fun r o=>r=[ri x,ri ((p+1:Nat):Int),ri 0]∧o=[]):=by
 refine zbt zco mixed (T:=Ty) func138 rfl results138 ntmps138 call138 call172 (ks:=[4,5,6]) rfl rfl rfl rfl rfl rfl (by decide) (by decide)
  (xs:=[asl n ds,ai p]) zjJ ziA ⟨(asl n ds::ai p::dq2 (.one (.ptr ⟨4,0,0⟩ 0):: .one (.ptr ⟨5,0,0⟩ 0):: .one (.ptr ⟨6,0,0⟩ 0)::zrv [])),[(4,{next:=1,l:=[obq 0 [di 0],none]}),(5,{next:=1,l:=[obq 0 [di 0],none]}),(6,{next:=1,l:=[obq 0 [di 0],none]})]⟩ ?_ ?_ rfl ?_
 ·simp only[List.map_cons,List.map_nil]
  refine zL0 trivial ?_
  exact fun _ _ _ h=>h
 ·exact⟨⟨_,rfl,rfl,rfl,rfl,rfl⟩,⟨_,rfl,rfl,rfl,rfl,rfl⟩,⟨_,rfl,rfl,rfl,rfl,rfl⟩,trivial⟩
 ·have htk:=zoX n ds p 1 hl hn (by omega)
  rw[hat]at htk
  have hw:IntKind.i64.wrap x=x:=wrap64 (by omega) (by omega)
  refine zL0 trivial ?_
  refine zj (htk) ?_
  exact zW0 (I hw @zfk)
theorem zsM (n:Nat) (ds:List D) (p:Int) (hl:ds.length=n) (hn:n<2^62) (hp:i64 p) (h:zcq n p 1=true):
  CallOK prog 138 [.f (asl n ds), .f (ai p)] (fun r o=>r=[ri 0,ri 0,ri 2]∧o=[]):=by
 refine zbt zco mixed (T:=Ty) func138 rfl results138 ntmps138 call138 call172 (ks:=[4,5,6]) rfl rfl rfl rfl rfl rfl (by decide) (by decide)
  (xs:=[asl n ds,ai p]) zjJ ziA ⟨(asl n ds::ai p::dq2 (.one (.ptr ⟨4,0,0⟩ 0):: .one (.ptr ⟨5,0,0⟩ 0):: .one (.ptr ⟨6,0,0⟩ 0)::zrv [])),[(4,{next:=1,l:=[obq 0 [di 0],none]}),(5,{next:=1,l:=[obq 0 [di 0],none]}),(6,{next:=1,l:=[obq 0 [di 0],none]})]⟩ ?_ ?_ rfl ?_
 ·simp only[List.map_cons,List.map_nil]
  refine zL0 trivial ?_
  exact fun _ _ _ h=>h
 ·exact⟨⟨_,rfl,rfl,rfl,rfl,rfl⟩,⟨_,rfl,rfl,rfl,rfl,rfl⟩,⟨_,rfl,rfl,rfl,rfl,rfl⟩,trivial⟩
 ·have htk:=zhI n ds p 1 hl hn hp h
  refine zL0 trivial ?_
  refine zp (rdr n ds p) (htk) ?_
  simp only[zaT,zaU,zaS,za2]
  refine⟨⟨_,rfl⟩,rfl,⟨⟨_,rfl,rfl,rfl,rfl,rfl⟩,⟨_,rfl,rfl,rfl,rfl,rfl⟩,⟨_,rfl,rfl,rfl,rfl,rfl⟩,trivial⟩, ?_⟩
  rw[show zmr 20 [4,5,6] (nw3 (.int .i64 0) (zeA 206 2))=⟨(dq4 (.one (.ptr ⟨4,0,0⟩ 0):: .one (.ptr ⟨5,0,0⟩ 0):: .one (.ptr ⟨6,0,0⟩ 0)::zrv [])),[(4,{next:=1,l:=[obq 0 [di 0]]}),(5,{next:=1,l:=[obq 0 [di 0]]}),(6,{next:=1,l:=[obq 0 [di 2]]})]⟩ from rfl]
  first|refine zs0 ?_|exact zt0
def zhH (l:List Int):Int:=l.foldl (fun u c=>u*256+c) 0
theorem zqN {l:List Int} {c:Int}:zhH (l++[c])=zhH l*256+c:=by unfold zhH;rw[List.foldl_append];rfl
theorem zjI:∀{l:List Int} {a:Int},0≤a→(∀c∈l,zdi c)→0≤l.foldl (fun u c=>u*256+c) a∧l.foldl (fun u c=>u*256+c) a<(a+1)*256^l.length
 |[],a,ha,_=>by simp;omega
 |c::l,a,ha,h=>by
  have h2:=h c (by simp)
  unfold zdi at h2
  obtain⟨h3,h4⟩:=zjI (l:=l) (a:=a*256+c) (by omega) fun x hx=>h x (by simp[hx])
  refine⟨h3,Int.lt_of_lt_of_le h4 ?_⟩
  rw[List.length_cons,Int.pow_succ,Int.mul_comm (256^l.length) 256,←Int.mul_assoc]
  exact Int.mul_le_mul_of_nonneg_right (by omega) (Int.pow_nonneg (by decide))
theorem zgX {l:List Int} (h:∀c∈l,zdi c):0≤zhH l∧zhH l<256^l.length:=by
 have:=zjI (l:=l) (a:=0) (by decide) h
 rw[Int.zero_add,Int.one_mul]at this
 exact this
theorem zA4 {i:Nat} (h:i<8):(256:Int)^i≤72057594037927936:=by
 rcases(show i=0∨i=1∨i=2∨i=3∨i=4∨i=5∨i=6∨i=7 by omega)with rfl|rfl|rfl|rfl|rfl|rfl|rfl|rfl<;>decide
theorem zva {n:Int} (h0:0≤n) (h1:n<18446744073709551616):IntKind.u64.wrap n=n:=by
 have e:IntKind.u64.wrap n=n % 18446744073709551616:=by
  unfold IntKind.wrap
  simp[IntKind.bits,IntKind.signed]
 rw[e]
 omega
theorem zwQ {u c:Int} (hu:0≤u∧u<72057594037927936) (hc:0≤c∧c≤255):
  IntKind.u64.wrap (BitVec.ofInt IntKind.u64.bits (u*256)|||BitVec.ofInt IntKind.u64.bits c).toNat=u*256+c:=by
 obtain⟨a,rfl⟩:=Int.eq_ofNat_of_zero_le hu.1
 obtain⟨b,rfl⟩:=Int.eq_ofNat_of_zero_le hc.1
 have hb:IntKind.u64.bits=64:=rfl
 rw[hb]
 have e1:(BitVec.ofInt 64 ((a:Int)*256)|||BitVec.ofInt 64 (b:Int)).toNat=a*256+b:=by
  have h1:((a:Int)*256)=((a*256:Nat):Int):=by omega
  rw[h1,BitVec.ofInt_natCast,BitVec.ofInt_natCast,BitVec.toNat_or,BitVec.toNat_ofNat,BitVec.toNat_ofNat]
  rw[Nat.mod_eq_of_lt (by omega),Nat.mod_eq_of_lt (by omega)]
  have:=Nat.shiftLeft_add_eq_or_of_lt (i:=8) (b:=b) (by omega) a
  rw[Nat.shiftLeft_eq]at this
  exact this.symm
 rw[e1,zva (by omega) (by omega)]
 omega
theorem zgu {l:List Int} {i:Nat} (hi:i<l.length) (h:∀c∈l,zdi c):zdi (l.getD i 0):=by
 rw[List.getD_eq_getElem?_getD,List.getElem?_eq_getElem hi];exact h _ (List.getElem_mem hi)
theorem zqO {l:List Int} {i:Nat} (hi:i<l.length):zhH (l.take (i+1))=zhH (l.take i)*256+l.getD i 0:=by
 rw[List.take_succ_eq_append_getElem hi,zqN,List.getD_eq_getElem?_getD,List.getElem?_eq_getElem hi];rfl
set_option maxHeartbeats 1000000 in
theorem zsN (n:Nat) (ds:List D) (p:Nat) (c:List Int) (hl:ds.length=n) (hn:n<2^62) (hp:p+8≤n) (hat:(ds.drop p).take 8=zaa c) (hc8:c.length=8) (hc:∀x∈c,zdi x):
  CallOK prog 139 [.f (asl n ds), .f (ai p)] (fun r o=>r=(if zhH c<4611686018427387904 then [ri (zhH c),ri ((p+8:Nat):Int),ri 0]else [ri 0,ri 0,ri 4])∧o=[]):=by
 refine zbt zco mixed (T:=Ty) func139 rfl results139 ntmps139 call139 call174 (ks:=[4,5,6]) rfl rfl rfl rfl rfl rfl (by decide) (by decide)
  (xs:=[asl n ds,ai p]) zl5 zjK ⟨(asl n ds::ai p::dq2 (.one (.ptr ⟨4,0,0⟩ 0):: .one (.ptr ⟨5,0,0⟩ 0):: .one (.ptr ⟨6,0,0⟩ 0)::ztp [])),[(4,{next:=1,l:=[obq 0 [di 0],none]}),(5,{next:=1,l:=[obq 0 [di 0],none]}),(6,{next:=1,l:=[obq 0 [di 0],none]})]⟩ ?_ ?_ rfl ?_
 ·simp only[List.map_cons,List.map_nil]
  refine zL0 trivial ?_
  exact fun _ _ _ h=>h
 ·exact⟨⟨_,rfl,rfl,rfl,rfl,rfl⟩,⟨_,rfl,rfl,rfl,rfl,rfl⟩,⟨_,rfl,rfl,rfl,rfl,rfl⟩,trivial⟩
 ·have htk:=zoX n ds p 8 hl hn hp
  rw[hat]at htk
  have hb1:=zgX hc
  rw[hc8]at hb1
  refine zL0 trivial ?_
  refine zj (htk) ?_
  refine zL0 trivial ?_
  refine zhz Ty prog (τ:=Nat) (fun i=>⟨(dq4 (.one (.ptr ⟨4,0,0⟩ 0):: .one (.ptr ⟨5,0,0⟩ 0):: .one (.ptr ⟨6,0,0⟩ 0)::ptq 7:: .one (.d (.v (.int .u64 (zhH (c.take i)))))::dq6 (asl 8 (zaa c)::ai 8::ai i::zto []))),[(4,{next:=1,l:=[obq 0 [di 0],none]}),(5,{next:=1,l:=[obq 0 [di 0],none]}),(6,{next:=1,l:=[obq 0 [di 0],none]}),(7,⟨2,[obq 1 [.d (.sl n ds),di ((p+8:Nat):Int)],none,none]⟩)]⟩)
   (fun i=>i≤8) (fun i=>8 - i) 0 (Gh.canon [4,5,6,7] [] [4,5,6] zK rfl rfl) (Nat.zero_le _) ?_
  intro i hi0 K hK
  refine zw ?_
  refine zab (fun hlt=> ?_) (fun hge=> ?_)
  ·have hi:i<c.length:=by simp at hlt;omega
   have hat2:=ziC hi
   have hw:=zai (i:=i) (n:=8) (by omega) (by omega)
   have hx:=zgu hi hc
   unfold zdi at hx
   have hbi:=zgX (l:=c.take i) fun x hx=>hc x (List.mem_of_mem_take hx)
   have hli:(c.take i).length=i:=by rw[List.length_take];omega
   rw[hli]at hbi
   have hp8:=zA4 (i:=i) (by omega)
   have w1:min (Int.toNat 8) IntKind.u64.bits=8:=by decide
   have w2:IntKind.u64.wrap (zhH (c.take i)*2^8)=zhH (c.take i)*256:=zva (by omega) (by omega)
   have w3:IntKind.u64.wrap (c.getD i 0)=c.getD i 0:=zva (by omega) (by omega)
   have w4:=zwQ (u:=zhH (c.take i)) (c:=c.getD i 0) ⟨hbi.1,by omega⟩ ⟨hx.1,by omega⟩
   have w5:=zqO hi
   have w6:¬((8:Int)<0):=by decide
   repeat'(first|(with_reducible first|refine zae _ _ ?_|refine zaX ?_|refine zaY ?_)|rw[zaP]|simp only[hat2,zba,hc8,w1,w2,w3,w4,if_neg w6,zY,Int.reduceEq,Int.reduceBEq,Int.reduceBNe,Nat.reduceSub,Nat.reduceEqDiff,Nat.reduceAdd,Nat.reduceMul,Nat.reduceLeDiff,Nat.reduceLT,Nat.reduceBEq,reduceCtorEq]|refine zaG ?_|refine zab (fun hb=> ?_) (fun hb=> ?_)|(refine And.intro ?_ ?_;exact zI)|refine And.intro (fun hg=> ?_) (fun hg=> ?_)|exact zC|fail)
   exact hK _ (i+1) (Gh.canon [4,5,6,7] [] [4,5,6] (zk (I hw w5)) rfl rfl) (by omega) (by omega)
  ·have hi:i=8:=by
    have:¬(i:Int)<8:=by simpa using hge
    omega
   subst hi
   have ht:c.take 8=c:=List.take_of_length_le (by omega)
   have w7:IntKind.i64.wrap (zhH c)=zhH c∨¬zhH c<4611686018427387904:=by
    by_cases h:zhH c<4611686018427387904
    ·exact .inl (wrap64 (by omega) (by omega))
    ·exact .inr h
   by_cases hlt:zhH c<4611686018427387904
   ·have h1:decide (zhH c≥4611686018427387904)=false:=by simp;omega
    have w7:IntKind.i64.wrap (zhH c)=zhH c:=wrap64 (by omega) (by omega)
    repeat'(first|(with_reducible first|refine zae _ _ ?_|refine zaX ?_|refine zaY ?_)|rw[zaP]|simp only[ht,h1,w7,if_pos hlt,zfk,zY,Int.reduceEq,Int.reduceBEq,Int.reduceBNe,Nat.reduceSub,Nat.reduceEqDiff,Nat.reduceAdd,Nat.reduceMul,Nat.reduceLeDiff,Nat.reduceLT,Nat.reduceBEq,reduceCtorEq]|refine zaG ?_|refine zab (fun hb=> ?_) (fun hb=> ?_)|(refine And.intro ?_ ?_;exact zI)|refine And.intro (fun hg=> ?_) (fun hg=> ?_)|exact zC|fail)
   ·have h1:decide (zhH c≥4611686018427387904)=true:=by simp;omega
    repeat'(first|(with_reducible first|refine zae _ _ ?_|refine zaX ?_|refine zaY ?_)|rw[zaP]|simp only[ht,h1,if_neg hlt,zY,Int.reduceEq,Int.reduceBEq,Int.reduceBNe,Nat.reduceSub,Nat.reduceEqDiff,Nat.reduceAdd,Nat.reduceMul,Nat.reduceLeDiff,Nat.reduceLT,Nat.reduceBEq,reduceCtorEq]|refine zaG ?_|refine zab (fun hb=> ?_) (fun hb=> ?_)|(refine And.intro ?_ ?_;exact zI)|refine And.intro (fun hg=> ?_) (fun hg=> ?_)|exact zC|fail)
    simp only[zaT,zaU,zaS,za2]
    refine⟨⟨_,rfl⟩,rfl,⟨⟨_,rfl,rfl,rfl,rfl,rfl⟩,⟨_,rfl,rfl,rfl,rfl,rfl⟩,⟨_,rfl,rfl,rfl,rfl,rfl⟩,trivial⟩, ?_⟩
    rw[show zmr 35 [4,5,6] (nw3 (.int .i64 0) (zeA 206 4))=⟨(dq4 (.one (.ptr ⟨4,0,0⟩ 0):: .one (.ptr ⟨5,0,0⟩ 0):: .one (.ptr ⟨6,0,0⟩ 0)::ztp [])),[(4,{next:=1,l:=[obq 0 [di 0]]}),(5,{next:=1,l:=[obq 0 [di 0]]}),(6,{next:=1,l:=[obq 0 [di 4]]})]⟩ from rfl]
    first|refine zs0 ?_|exact zt0
theorem zvb (n:Nat) (ds:List D) (p:Int) (hl:ds.length=n) (hn:n<2^62) (hp:i64 p) (h:zcq n p 8=true):
  CallOK prog 139 [.f (asl n ds), .f (ai p)] (fun r o=>r=[ri 0,ri 0,ri 2]∧o=[]):=by
 refine zbt zco mixed (T:=Ty) func139 rfl results139 ntmps139 call139 call174 (ks:=[4,5,6]) rfl rfl rfl rfl rfl rfl (by decide) (by decide)
  (xs:=[asl n ds,ai p]) zl5 zjK ⟨(asl n ds::ai p::dq2 (.one (.ptr ⟨4,0,0⟩ 0):: .one (.ptr ⟨5,0,0⟩ 0):: .one (.ptr ⟨6,0,0⟩ 0)::ztp [])),[(4,{next:=1,l:=[obq 0 [di 0],none]}),(5,{next:=1,l:=[obq 0 [di 0],none]}),(6,{next:=1,l:=[obq 0 [di 0],none]})]⟩ ?_ ?_ rfl ?_
 ·simp only[List.map_cons,List.map_nil]
  refine zL0 trivial ?_
  exact fun _ _ _ h=>h
 ·exact⟨⟨_,rfl,rfl,rfl,rfl,rfl⟩,⟨_,rfl,rfl,rfl,rfl,rfl⟩,⟨_,rfl,rfl,rfl,rfl,rfl⟩,trivial⟩
 ·have htk:=zhI n ds p 8 hl hn hp h
  refine zL0 trivial ?_
  refine zp (rdr n ds p) (htk) ?_
  simp only[zaT,zaU,zaS,za2]
  refine⟨⟨_,rfl⟩,rfl,⟨⟨_,rfl,rfl,rfl,rfl,rfl⟩,⟨_,rfl,rfl,rfl,rfl,rfl⟩,⟨_,rfl,rfl,rfl,rfl,rfl⟩,trivial⟩, ?_⟩
  rw[show zmr 35 [4,5,6] (nw3 (.int .i64 0) (zeA 206 2))=⟨(dq4 (.one (.ptr ⟨4,0,0⟩ 0):: .one (.ptr ⟨5,0,0⟩ 0):: .one (.ptr ⟨6,0,0⟩ 0)::ztp [])),[(4,{next:=1,l:=[obq 0 [di 0]]}),(5,{next:=1,l:=[obq 0 [di 0]]}),(6,{next:=1,l:=[obq 0 [di 2]]})]⟩ from rfl]
  first|refine zs0 ?_|exact zt0
theorem zdm:∀l:List Int,bytesOf (zaa l)=some (l.map fun n=>UInt8.ofNat n.toNat)
 |[]=>rfl
 |n::l=>by
  have:=zdm l
  simp only[zaa,List.map_cons,bytesOf]at this⊢
  rw[this]
def strOf (c:List Int):ByteArray:=⟨(c.map fun n=>UInt8.ofNat n.toNat).toArray⟩
theorem zvc (n:Nat) (ds:List D) (p x:Nat) (most:Int) (c:List Int) (rest:List D) (hl:ds.length=n) (hn:n<2^62) (hp:p+1+x≤n) (hat:ds.drop p= .v (.int .u8 (x:Int))::rest) (hx:x≤255) (hm:(x:Int)≤most)
  (hat2:(ds.drop (p+1)).take x=zaa c) (hcx:c.length=x):CallOK prog 175 [.f (asl n ds), .f (ai p), .f (ai most)] (fun r o=>r=[.one (.d (sD (strOf c))),ri ((p+1+x:Nat):Int),ri 0]∧o=[]):=by
 refine zbt zco mixed (T:=Ty) func175 rfl results175 ntmps175 call175 call198 (ks:=[6,7,8]) rfl rfl rfl rfl rfl rfl (by decide) (by decide)
  (xs:=[asl n ds,ai p,ai most]) zfy zew ⟨(asl n ds::ai p::ai most::dq3 (.one (.ptr ⟨6,0,0⟩ 0):: .one (.ptr ⟨7,0,0⟩ 0):: .one (.ptr ⟨8,0,0⟩ 0)::zpa [])),[(6,{next:=1,l:=[obq 0 [dS .empty],none]}),(7,{next:=1,l:=[obq 0 [di 0],none]}),(8,{next:=1,l:=[obq 0 [di 0],none]})]⟩ ?_ ?_ rfl ?_
 ·simp only[List.map_cons,List.map_nil]
  refine zL0 trivial ?_
  exact fun _ _ _ h=>h
 ·exact⟨⟨_,rfl,rfl,rfl,rfl,rfl⟩,⟨_,rfl,rfl,rfl,rfl,rfl⟩,⟨_,rfl,rfl,rfl,rfl,rfl⟩,trivial⟩
 ·have htk:=zoX n ds p 1 hl hn (by omega)
  rw[hat]at htk
  have htk2:=zoX n ds (p+1) x hl hn (by omega)
  rw[hat2]at htk2
  have hw:IntKind.i64.wrap (x:Int)=(x:Int):=wrap64 (by omega) (by omega)
  have h1:decide ((x:Int)>most)=false:=by simp;omega
  refine zL0 trivial ?_
  refine zj (htk) ?_
  refine zL0 (I hw h1) ?_
  refine zj (htk2) ?_
  refine zL0 (I @zdm (I @zba (I hcx @zfk))) ?_
  rfl
theorem zqP (n:Nat) (ds:List D) (p x:Nat) (most:Int) (rest:List D) (hl:ds.length=n) (hn:n<2^62) (hp:p+1≤n) (hat:ds.drop p= .v (.int .u8 (x:Int))::rest) (hx:x≤255) (hm:¬(x:Int)≤most):
  CallOK prog 175 [.f (asl n ds), .f (ai p), .f (ai most)] (fun r o=>r=[.one (.d (sD .empty)),ri 0,ri 3]∧o=[]):=by
 refine zbt zco mixed (T:=Ty) func175 rfl results175 ntmps175 call175 call198 (ks:=[6,7,8]) rfl rfl rfl rfl rfl rfl (by decide) (by decide)
  (xs:=[asl n ds,ai p,ai most]) zfy zew ⟨(asl n ds::ai p::ai most::dq3 (.one (.ptr ⟨6,0,0⟩ 0):: .one (.ptr ⟨7,0,0⟩ 0):: .one (.ptr ⟨8,0,0⟩ 0)::zpa [])),[(6,{next:=1,l:=[obq 0 [dS .empty],none]}),(7,{next:=1,l:=[obq 0 [di 0],none]}),(8,{next:=1,l:=[obq 0 [di 0],none]})]⟩ ?_ ?_ rfl ?_
 ·simp only[List.map_cons,List.map_nil]
  refine zL0 trivial ?_
  exact fun _ _ _ h=>h
 ·exact⟨⟨_,rfl,rfl,rfl,rfl,rfl⟩,⟨_,rfl,rfl,rfl,rfl,rfl⟩,⟨_,rfl,rfl,rfl,rfl,rfl⟩,trivial⟩
 ·have htk:=zoX n ds p 1 hl hn (by omega)
  rw[hat]at htk
  have hw:IntKind.i64.wrap (x:Int)=(x:Int):=wrap64 (by omega) (by omega)
  have h1:decide ((x:Int)>most)=true:=by simp;omega
  refine zL0 trivial ?_
  refine zj (htk) ?_
  refine zL0 (I hw h1) ?_
  simp only[zaT,zaU,zaS,za2]
  refine⟨⟨_,rfl⟩,rfl,⟨⟨_,rfl,rfl,rfl,rfl,rfl⟩,⟨_,rfl,rfl,rfl,rfl,rfl⟩,⟨_,rfl,rfl,rfl,rfl,rfl⟩,trivial⟩, ?_⟩
  rw[show zmr 30 [6,7,8] (nwT (zeA 206 3))=⟨(dq6 (.one (.ptr ⟨6,0,0⟩ 0):: .one (.ptr ⟨7,0,0⟩ 0):: .one (.ptr ⟨8,0,0⟩ 0)::zpa [])),[(6,{next:=1,l:=[obq 0 [dS .empty]]}),(7,{next:=1,l:=[obq 0 [di 0]]}),(8,{next:=1,l:=[obq 0 [di 3]]})]⟩ from rfl]
  first|refine zs0 ?_|exact zt0
theorem zsO (n:Nat) (ds:List D) (p most:Int) (hl:ds.length=n) (hn:n<2^62) (hp:i64 p) (h:zcq n p 1=true):
  CallOK prog 175 [.f (asl n ds), .f (ai p), .f (ai most)] (fun r o=>r=[.one (.d (sD .empty)),ri 0,ri 2]∧o=[]):=by
 refine zbt zco mixed (T:=Ty) func175 rfl results175 ntmps175 call175 call198 (ks:=[6,7,8]) rfl rfl rfl rfl rfl rfl (by decide) (by decide)
  (xs:=[asl n ds,ai p,ai most]) zfy zew ⟨(asl n ds::ai p::ai most::dq3 (.one (.ptr ⟨6,0,0⟩ 0):: .one (.ptr ⟨7,0,0⟩ 0):: .one (.ptr ⟨8,0,0⟩ 0)::zpa [])),[(6,{next:=1,l:=[obq 0 [dS .empty],none]}),(7,{next:=1,l:=[obq 0 [di 0],none]}),(8,{next:=1,l:=[obq 0 [di 0],none]})]⟩ ?_ ?_ rfl ?_
 ·simp only[List.map_cons,List.map_nil]
  refine zL0 trivial ?_
  exact fun _ _ _ h=>h
 ·exact⟨⟨_,rfl,rfl,rfl,rfl,rfl⟩,⟨_,rfl,rfl,rfl,rfl,rfl⟩,⟨_,rfl,rfl,rfl,rfl,rfl⟩,trivial⟩
 ·have htk:=zhI n ds p 1 hl hn hp h
  refine zL0 trivial ?_
  refine zp (rdr n ds p) (htk) ?_
  simp only[zaT,zaU,zaS,za2]
  refine⟨⟨_,rfl⟩,rfl,⟨⟨_,rfl,rfl,rfl,rfl,rfl⟩,⟨_,rfl,rfl,rfl,rfl,rfl⟩,⟨_,rfl,rfl,rfl,rfl,rfl⟩,trivial⟩, ?_⟩
  rw[show zmr 30 [6,7,8] (nwT (zeA 206 2))=⟨(dq6 (.one (.ptr ⟨6,0,0⟩ 0):: .one (.ptr ⟨7,0,0⟩ 0):: .one (.ptr ⟨8,0,0⟩ 0)::zpa [])),[(6,{next:=1,l:=[obq 0 [dS .empty]]}),(7,{next:=1,l:=[obq 0 [di 0]]}),(8,{next:=1,l:=[obq 0 [di 2]]})]⟩ from rfl]
  first|refine zs0 ?_|exact zt0
theorem zoW (n:Nat) (ds:List D) (p x:Nat) (most:Int) (rest:List D) (hl:ds.length=n) (hn:n<2^62) (hp:p+1≤n) (hat:ds.drop p= .v (.int .u8 (x:Int))::rest) (hx:x≤255) (hm:(x:Int)≤most)
  (hs:zcq n ((p+1:Nat):Int) x=true):CallOK prog 175 [.f (asl n ds), .f (ai p), .f (ai most)] (fun r o=>r=[.one (.d (sD .empty)),ri 0,ri 2]∧o=[]):=by
 refine zbt zco mixed (T:=Ty) func175 rfl results175 ntmps175 call175 call198 (ks:=[6,7,8]) rfl rfl rfl rfl rfl rfl (by decide) (by decide)
  (xs:=[asl n ds,ai p,ai most]) zfy zew ⟨(asl n ds::ai p::ai most::dq3 (.one (.ptr ⟨6,0,0⟩ 0):: .one (.ptr ⟨7,0,0⟩ 0):: .one (.ptr ⟨8,0,0⟩ 0)::zpa [])),[(6,{next:=1,l:=[obq 0 [dS .empty],none]}),(7,{next:=1,l:=[obq 0 [di 0],none]}),(8,{next:=1,l:=[obq 0 [di 0],none]})]⟩ ?_ ?_ rfl ?_
 ·simp only[List.map_cons,List.map_nil]
  refine zL0 trivial ?_
  exact fun _ _ _ h=>h
 ·exact⟨⟨_,rfl,rfl,rfl,rfl,rfl⟩,⟨_,rfl,rfl,rfl,rfl,rfl⟩,⟨_,rfl,rfl,rfl,rfl,rfl⟩,trivial⟩
 ·have htk:=zoX n ds p 1 hl hn (by omega)
  rw[hat]at htk
  have htk2:=zhI n ds ((p+1:Nat):Int) x hl hn (by unfold i64;omega) hs
  have hw:IntKind.i64.wrap (x:Int)=(x:Int):=wrap64 (by omega) (by omega)
  have h1:decide ((x:Int)>most)=false:=by simp;omega
  refine zL0 trivial ?_
  refine zj (htk) ?_
  refine zL0 (I hw h1) ?_
  refine zp (rdr n ds p) (htk2) ?_
  simp only[zaT,zaU,zaS,za2]
  refine⟨⟨_,rfl⟩,rfl,⟨⟨_,rfl,rfl,rfl,rfl,rfl⟩,⟨_,rfl,rfl,rfl,rfl,rfl⟩,⟨_,rfl,rfl,rfl,rfl,rfl⟩,trivial⟩, ?_⟩
  rw[show zmr 30 [6,7,8] (nwT (zeA 206 2))=⟨(dq6 (.one (.ptr ⟨6,0,0⟩ 0):: .one (.ptr ⟨7,0,0⟩ 0):: .one (.ptr ⟨8,0,0⟩ 0)::zpa [])),[(6,{next:=1,l:=[obq 0 [dS .empty]]}),(7,{next:=1,l:=[obq 0 [di 0]]}),(8,{next:=1,l:=[obq 0 [di 2]]})]⟩ from rfl]
  first|refine zs0 ?_|exact zt0
def zbG (bs:List Int) (p:Int):Int×Int×Int:=if zcq bs.length p 1=true then(0,0,2)else(bs.getD p.toNat 0,p+1,0)
def ze8 (bs:List Int) (p:Int):Int×Int×Int:=
 if zcq bs.length p 8=true then(0,0,2)else if zhH ((bs.drop p.toNat).take 8)<4611686018427387904 then(zhH ((bs.drop p.toNat).take 8),p+8,0)else(0,0,4)
def zci (bs:List Int) (p most:Int):ByteArray×Int×Int:=
 if zcq bs.length p 1=true then(.empty,0,2)else if¬bs.getD p.toNat 0≤most then(.empty,0,3)else
 if zcq bs.length (p+1) (bs.getD p.toNat 0)=true then(.empty,0,2)else(strOf ((bs.drop (p.toNat+1)).take (bs.getD p.toNat 0).toNat),p+1+bs.getD p.toNat 0,0)
theorem zdl {n:Nat} {p k:Int} (h:zcq n p k=false):0≤p∧p≤n∧k≤n - p:=by
 unfold zcq at h
 simp at h
 omega
structure BsOk (bs:List Int):Prop where
 l:bs.length<2^60
 b:∀x∈bs,zdi x
theorem zc4 (bs:List Int) (p:Int) (h:BsOk bs) (hp:i64 p):CallOK prog 138 [.f (asl bs.length (zaa bs)), .f (ai p)] (fun r o=>r=[ri (zbG bs p).1,ri (zbG bs p).2.1,ri (zbG bs p).2.2]∧o=[]):=by
 have hl:=h.l
 cases hs:zcq bs.length p 1
 ·obtain⟨h1,h2,h3⟩:=zdl hs
  obtain⟨q,rfl⟩:=Int.eq_ofNat_of_zero_le h1
  have hq:q<bs.length:=by omega
  have hb:=zgu hq h.b
  unfold zdi at hb
  rw[zbG,if_neg (by rw[hs];simp)]
  have:=zu9 bs.length (zaa bs) q (bs.getD q 0) _ zba (by omega) hq (ziC hq) ⟨hb.1,by omega⟩
  simpa using this
 ·rw[zbG,if_pos hs]
  exact zsM bs.length (zaa bs) p zba (by omega) hp hs
theorem zev (bs:List Int) (p:Int) (h:BsOk bs) (hp:i64 p):CallOK prog 139 [.f (asl bs.length (zaa bs)), .f (ai p)] (fun r o=>r=[ri (ze8 bs p).1,ri (ze8 bs p).2.1,ri (ze8 bs p).2.2]∧o=[]):=by
 have hl:=h.l
 cases hs:zcq bs.length p 8
 ·obtain⟨h1,h2,h3⟩:=zdl hs
  obtain⟨q,rfl⟩:=Int.eq_ofNat_of_zero_le h1
  rw[ze8,if_neg (by rw[hs];simp)]
  have:=zsN bs.length (zaa bs) q ((bs.drop q).take 8) zba (by omega) (by omega) (by rw[←List.map_drop,←List.map_take]) (by rw[List.length_take,List.length_drop];omega) (fun x hx=>h.b x (List.mem_of_mem_drop (List.mem_of_mem_take hx)))
  simp only[Int.toNat_natCast]
  split
  ·rename_i hv
   rw[if_pos hv]at this
   exact this
  ·rename_i hv
   rw[if_neg hv]at this
   exact this
 ·rw[ze8,if_pos hs]
  exact zvb bs.length (zaa bs) p zba (by omega) hp hs
theorem zgt (bs:List Int) (p most:Int) (h:BsOk bs) (hp:i64 p):CallOK prog 175 [.f (asl bs.length (zaa bs)), .f (ai p), .f (ai most)] (fun r o=>r=[.one (.d (sD (zci bs p most).1)),ri (zci bs p most).2.1,ri (zci bs p most).2.2]∧o=[]):=by
 have hl:=h.l
 cases hs:zcq bs.length p 1
 ·obtain⟨h1,h2,h3⟩:=zdl hs
  obtain⟨q,rfl⟩:=Int.eq_ofNat_of_zero_le h1
  have hq:q<bs.length:=by omega
  have hb:=zgu hq h.b
  unfold zdi at hb
  obtain⟨x,hx⟩:=Int.eq_ofNat_of_zero_le hb.1
  have hat:=ziC hq
  rw[hx]at hat
  rw[zci,if_neg (by rw[hs];simp)]
  simp only[Int.toNat_natCast,hx]
  by_cases hm:(x:Int)≤most
  ·rw[if_neg (by simpa using hm)]
   cases hs2:zcq bs.length ((q:Int)+1) (x:Int)
   ·obtain⟨h4,h5,h6⟩:=zdl hs2
    rw[if_neg (by simp)]
    have:=zvc bs.length (zaa bs) q x most ((bs.drop (q+1)).take x) _ zba (by omega) (by omega) hat (by omega) hm (by rw[←List.map_drop,←List.map_take]) (by rw[List.length_take,List.length_drop];omega)
    simpa using this
   ·rw[if_pos rfl]
    exact zoW bs.length (zaa bs) q x most _ zba (by omega) (by omega) hat (by omega) hm (by simpa using hs2)
  ·rw[if_pos (by simpa using hm)]
   exact zqP bs.length (zaa bs) q x most _ zba (by omega) (by omega) hat (by omega) hm
 ·rw[zci,if_pos hs]
  exact zsO bs.length (zaa bs) p most zba (by omega) hp hs
theorem zdr {bs:List Int} {p:Int}:0≤(zbG bs p).2.1∧(zbG bs p).2.1≤bs.length:=by
 unfold zbG
 cases hs:zcq bs.length p 1
 ·obtain⟨h1,h2,h3⟩:=zdl hs
  rw[if_neg (by simp)];simp only;omega
 ·rw[if_pos rfl];simp only;omega
theorem ze9 {bs:List Int} {p:Int}:0≤(ze8 bs p).2.1∧(ze8 bs p).2.1≤bs.length:=by
 unfold ze8
 cases hs:zcq bs.length p 8
 ·obtain⟨h1,h2,h3⟩:=zdl hs
  rw[if_neg (by simp)]
  split
  ·simp only;omega
  ·simp only;omega
 ·rw[if_pos rfl];simp only;omega
theorem zjH {bs:List Int} {p most:Int} (h:BsOk bs):0≤(zci bs p most).2.1∧(zci bs p most).2.1≤bs.length:=by
 unfold zci
 cases hs:zcq bs.length p 1
 ·obtain⟨h1,h2,h3⟩:=zdl hs
  rw[if_neg (by simp)]
  have hb:=zgu (i:=p.toNat) (by omega) h.b
  unfold zdi at hb
  split
  ·simp only;omega
  ·cases hs2:zcq bs.length (p+1) (bs.getD p.toNat 0)
   ·obtain⟨h4,h5,h6⟩:=zdl hs2
    rw[if_neg (by simp)];simp only;omega
   ·rw[if_pos rfl];simp only;omega
 ·rw[if_pos rfl];simp only;omega
def zcc (bs:List Int):Nat→Int→List Grant→List Grant×Int×Int
 |0,p,acc=>(acc,p,0)
 |k+1,p,acc=>
  if(zci bs p 12).2.2≠0 then([],0,(zci bs p 12).2.2)else
  if(ze8 bs (zci bs p 12).2.1).2.2≠0 then([],0,(ze8 bs (zci bs p 12).2.1).2.2)else
  zcc bs k (ze8 bs (zci bs p 12).2.1).2.1 (acc++[⟨(zci bs p 12).1,(ze8 bs (zci bs p 12).2.1).1⟩])
abbrev zxP (l:List Grant):RF:= .one (.own 2 l.length (zaO l) false)
theorem zez {n:Nat} (hn:n<2^60) {p:Int} (h:0≤p∧p≤n):i64 p:=by unfold i64;omega
set_option maxHeartbeats 1000000 in
theorem zqM (bs:List Int) (p:Int) (n:Nat) (h:BsOk bs) (hp:i64 p) (hn:n<2^20):
  CallOK prog 176 [.f (asl bs.length (zaa bs)), .f (ai p), .f (ai n)] (fun r o=>r=[zxP (zcc bs n p []).1,ri (zcc bs n p []).2.1,ri (zcc bs n p []).2.2]∧o=[]):=by
 refine CallOK.nil ?_
 refine zh func176 results176 ntmps176 call176 ?_
 simp only[f176,Option.getD]
 refine zL0 trivial ?_
 refine zaf (τ:=Nat×Int×List Grant) (fun t=>⟨(asl bs.length (zaa bs)::ai t.2.1::dq7 (.one (.own ⟨9,1,1⟩ 0 t.2.2.length)::dq2 (ai n::ai t.1::zvH []))),[(9,⟨2,[none,roq 1 2 (zaO t.2.2)]⟩),(6,⟨2,[]⟩),(10,⟨2,[]⟩),(40,⟨2,[]⟩),(41,⟨2,[]⟩)]⟩)
  (fun t=>t.1≤n∧i64 t.2.1∧t.2.2.length=t.1) (fun t=>zcc bs (n - t.1) t.2.1 t.2.2) (fun t=>n - t.1) (0,p,[])
  ((Gh.nil (i:=9) (s:=9) (sz:=2) rfl).trans (Gh.canon [9] [6,10,40,41] [] zK rfl rfl)) ⟨Nat.zero_le _,hp,rfl⟩ ?_
 intro⟨i,q,acc⟩ ⟨hi0,hq,ha⟩ hF K hK
 simp only[Nat.sub_zero]at hi0 hq ha hF hK⊢
 refine zw ?_
 refine zab (fun hlt=> ?_) (fun hge=> ?_)
 ·have hi:i<n:=by simpa using hlt
  have hw:=zai hi (by omega)
  have ht:=zgt bs q 12 h hq
  have hm:=zev bs (zci bs q 12).2.1 h (zez h.l (zjH h))
  have hst:n - i=(n - (i+1))+1:=by omega
  rw[hst,zcc]at hF
  have hle:(acc.length+1≤2^47)=True:=eq_true (by omega)
  cases e1:((zci bs q 12).2.2 !=0)
  ·have e1':(zci bs q 12).2.2=0:=by simpa using e1
   rw[if_neg (by simp[e1'])]at hF
   cases e2:((ze8 bs (zci bs q 12).2.1).2.2 !=0)
   ·have e2':(ze8 bs (zci bs q 12).2.1).2.2=0:=by simpa using e2
    rw[if_neg (by simp[e2'])]at hF
    refine zL (I e1 (I e2 hle)) (I (ht) (hm)) ?_
    refine hK _ (i+1,(ze8 bs (zci bs q 12).2.1).2.1,acc++[⟨(zci bs q 12).1,(ze8 bs (zci bs q 12).2.1).1⟩]) (Gh.canon [9] [] [] (zk (I hw (I @List.length_append.{0} @List.length_singleton.{0}))) rfl (by simp only[List.length_append,List.length_singleton];rw[zlh];rfl)) ⟨hi,zez h.l ze9,by simp only[List.length_append,List.length_singleton];omega⟩ ?_ (by simp only;omega)
    simp only
    rw[hst,zcc,if_neg (by simp[e1']),if_neg (by simp[e2'])]
   ·have e2':(ze8 bs (zci bs q 12).2.1).2.2≠0:=by simpa using e2
    rw[if_pos e2']at hF
    rw[←hF]
    refine zL (I e1 e2) (I (ht) (hm)) ?_
    show zaH _ _∧zaH _ _∧zaH _ _∧True
    simp[zaH]
  ·have e1':(zci bs q 12).2.2≠0:=by simpa using e1
   rw[if_pos e1']at hF
   rw[←hF]
   refine zL e1 (I (ht) (hm)) ?_
   show zaH _ _∧zaH _ _∧zaH _ _∧True
   simp[zaH]
 ·have hi:i=n:=by
   have:¬(i:Int)<n:=by simpa using hge
   omega
  rw[hi,Nat.sub_self,zcc]at hF
  rw[←hF]
  refine zL0 trivial ?_
  show zaH _ _∧zaH _ _∧zaH _ _∧True
  simp[zaH]
abbrev zqL:Reply:=⟨0,0,0,[]⟩
def zfI (bs:List Int) (p:Int):Reply×Int×Int:=
 if(zbG bs p).2.2≠0 then(zqL,0,(zbG bs p).2.2)else
 let s:=ze8 bs (zbG bs p).2.1
 if s.2.2≠0 then(zqL,0,s.2.2)else
 let a:=zbG bs s.2.1
 if a.2.2≠0 then(zqL,0,a.2.2)else
 let n:=zbG bs a.2.1
 if n.2.2≠0 then(zqL,0,n.2.2)else
 if n.1>4 then(zqL,0,4)else
 let g:=zcc bs n.1.toNat n.2.1 []
 if g.2.2≠0 then(zqL,0,g.2.2)else
 if zb2 ⟨(zbG bs p).1,s.1,a.1,g.1⟩=false then(zqL,0,4)else(⟨(zbG bs p).1,s.1,a.1,g.1⟩,g.2.1,0)
theorem zix {bs:List Int} (h:BsOk bs) {p:Int}:zdi (zbG bs p).1:=by
 unfold zbG
 cases hs:zcq bs.length p 1
 ·obtain⟨h1,h2,h3⟩:=zdl hs
  rw[if_neg (by simp)]
  exact zgu (by omega) h.b
 ·rw[if_pos rfl];exact⟨by decide,by decide⟩
theorem zjG {bs:List Int} {p most:Int}:(zci bs p most).1.size≤bs.length:=by
 unfold zci
 split
 ·simp
 ·split
  ·simp
  ·split
   ·simp
   ·simp only[strOf,ByteArray.size,List.size_toArray,List.length_map,List.length_take,List.length_drop]
    omega
theorem zgW {bs:List Int}:∀{n:Nat} {p:Int} {acc:List Grant},(∀g∈acc,g.name.size≤bs.length)→(zcc bs n p acc).1.length≤acc.length+n∧∀g∈(zcc bs n p acc).1,g.name.size≤bs.length
 |0,p,acc,h=>⟨Nat.le_refl _,h⟩
 |n+1,p,acc,h=>by
  rw[zcc]
  split
  ·exact⟨Nat.zero_le _,by simp⟩
  ·split
   ·exact⟨Nat.zero_le _,by simp⟩
   ·have:=zgW (bs:=bs) (n:=n) (p:=(ze8 bs (zci bs p 12).2.1).2.1) (acc:=acc++[⟨(zci bs p 12).1,(ze8 bs (zci bs p 12).2.1).1⟩]) (fun g hg=>by
     rcases List.mem_append.1 hg with hg|hg
     ·exact h g hg
     ·simp at hg;subst hg;exact zjG)
    rw[List.length_append,List.length_singleton]at this
    exact⟨by omega,this.2⟩
set_option maxHeartbeats 1000000 in
theorem zm1 (bs:List Int) (p:Int) (h:BsOk bs) (hp:i64 p):
  CallOK prog 141 [.f (asl bs.length (zaa bs)), .f (ai p)] (fun r o=>r=[zu8 (zfI bs p).1,ri (zfI bs p).2.1,ri (zfI bs p).2.2]∧o=[]):=by
 refine CallOK.nil ?_
 refine zh func141 results141 ntmps141 call141 ?_
 simp only[f141,Option.getD]
 have hl:=h.l
 have h1:=zc4 bs p h hp
 have h2:=zev bs (zbG bs p).2.1 h (zez h.l zdr)
 have h3:=zc4 bs (ze8 bs (zbG bs p).2.1).2.1 h (zez h.l ze9)
 have h4:=zc4 bs (zbG bs (ze8 bs (zbG bs p).2.1).2.1).2.1 h (zez h.l zdr)
 unfold zfI
 simp only
 obtain⟨b,hb⟩:∃b,b=zbG bs p:=⟨_,rfl⟩
 rw[←hb]at h1 h2 h3 h4⊢
 obtain⟨s,hs⟩:∃s,s=ze8 bs b.2.1:=⟨_,rfl⟩
 rw[←hs]at h2 h3 h4⊢
 obtain⟨a,ha⟩:∃a,a=zbG bs s.2.1:=⟨_,rfl⟩
 rw[←ha]at h3 h4⊢
 obtain⟨n,hn⟩:∃n,n=zbG bs a.2.1:=⟨_,rfl⟩
 rw[←hn]at h4⊢
 have hnv:zdi n.1:=by rw[hn];exact zix h
 have hnn:i64 n.2.1:=by rw[hn];exact zez h.l zdr
 have hbv:zdi b.1:=by rw[hb];exact zix h
 unfold zdi at hnv hbv
 have h5:=zqM bs n.2.1 n.1.toNat h hnn (by omega)
 rw[Int.toNat_of_nonneg hnv.1]at h5
 have hgk:=zgW (bs:=bs) (n:=n.1.toNat) (p:=n.2.1) (acc:=[]) (by simp)
 obtain⟨g,hg⟩:∃g,g=zcc bs n.1.toNat n.2.1 []:=⟨_,rfl⟩
 rw[←hg]at h5 hgk⊢
 have h6:=zfT ⟨b.1,s.1,a.1,g.1⟩ ⟨by have:=hgk.1;simp only[List.length_nil]at this;simp only;omega,fun x hx=>by have:=hgk.2 x hx;omega⟩
 clear hgk
 cases e1:(b.2.2 !=0)
 ·rw[if_neg (by simpa using e1)]
  cases e2:(s.2.2 !=0)
  ·rw[if_neg (by simpa using e2)]
   cases e3:(a.2.2 !=0)
   ·rw[if_neg (by simpa using e3)]
    cases e4:(n.2.2 !=0)
    ·rw[if_neg (by simpa using e4)]
     cases e5:decide (n.1>4)
     ·rw[if_neg (by simpa using e5)]
      cases e6:(g.2.2 !=0)
      ·rw[if_neg (by simpa using e6)]
       cases e7:zb2 ⟨b.1,s.1,a.1,g.1⟩
       ·rw[e7]at h6
        rw[if_pos rfl]
        refine zL (I e1 (I e2 (I e3 (I e4 (I e5 e6))))) (I (h1) (I (h2) (I (h3) (I (h4) (I (h5) (h6)))))) ?_
        show(zaH _ _∧zaH _ _∧zaH _ _∧zaH _ _∧True)∧zaH _ _∧zaH _ _∧True
        simp[zaH, -List.length_flatMap,zam]
       ·rw[e7]at h6
        rw[if_neg (by simp)]
        refine zL (I e1 (I e2 (I e3 (I e4 (I e5 e6))))) (I (h1) (I (h2) (I (h3) (I (h4) (I (h5) (h6)))))) ?_
        show(zaH _ _∧zaH _ _∧zaH _ _∧zaH _ _∧True)∧zaH _ _∧zaH _ _∧True
        simp[zaH, -List.length_flatMap,zam]
      ·rw[if_pos (by simpa using e6)]
       refine zL (I e1 (I e2 (I e3 (I e4 (I e5 e6))))) (I (h1) (I (h2) (I (h3) (I (h4) (h5))))) ?_
       show(zaH _ _∧zaH _ _∧zaH _ _∧zaH _ _∧True)∧zaH _ _∧zaH _ _∧True
       simp[zaH, -List.length_flatMap,zam]
     ·rw[if_pos (by simpa using e5)]
      refine zL (I e1 (I e2 (I e3 (I e4 e5)))) (I (h1) (I (h2) (I (h3) (h4)))) ?_
      show(zaH _ _∧zaH _ _∧zaH _ _∧zaH _ _∧True)∧zaH _ _∧zaH _ _∧True
      simp[zaH, -List.length_flatMap,zam]
    ·rw[if_pos (by simpa using e4)]
     refine zL (I e1 (I e2 (I e3 e4))) (I (h1) (I (h2) (I (h3) (h4)))) ?_
     show(zaH _ _∧zaH _ _∧zaH _ _∧zaH _ _∧True)∧zaH _ _∧zaH _ _∧True
     simp[zaH, -List.length_flatMap,zam]
   ·rw[if_pos (by simpa using e3)]
    refine zL (I e1 (I e2 e3)) (I (h1) (I (h2) (h3))) ?_
    show(zaH _ _∧zaH _ _∧zaH _ _∧zaH _ _∧True)∧zaH _ _∧zaH _ _∧True
    simp[zaH, -List.length_flatMap,zam]
  ·rw[if_pos (by simpa using e2)]
   refine zL (I e1 e2) (I (h1) (h2)) ?_
   show(zaH _ _∧zaH _ _∧zaH _ _∧zaH _ _∧True)∧zaH _ _∧zaH _ _∧True
   simp[zaH, -List.length_flatMap,zam]
 ·rw[if_pos (by simpa using e1)]
  refine zL e1 (h1) ?_
  show(zaH _ _∧zaH _ _∧zaH _ _∧zaH _ _∧True)∧zaH _ _∧zaH _ _∧True
  simp[zaH, -List.length_flatMap,zam]
abbrev zdk:Memo:=⟨0,0,zqL⟩
def zeu (bs:List Int) (p:Int):Memo×Int×Int:=
 if(zbG bs p).2.2≠0 then(zdk,0,(zbG bs p).2.2)else
 let s:=ze8 bs (zbG bs p).2.1
 if s.2.2≠0 then(zdk,0,s.2.2)else
 let r:=zfI bs s.2.1
 if r.2.2≠0 then(zdk,0,r.2.2)else
 if answerB ⟨(zbG bs p).1,s.1,r.1⟩=false then(zdk,0,4)else(⟨(zbG bs p).1,s.1,r.1⟩,r.2.1,0)
abbrev zt2 (m:Memo):RF:= .agg (m.enc.map RO.d)
theorem zhh {bs:List Int}:∀{n:Nat} {p:Int} {acc:List Grant},0≤p∧p≤bs.length→0≤(zcc bs n p acc).2.1∧(zcc bs n p acc).2.1≤bs.length
 |0,p,acc,h=>h
 |n+1,p,acc,h=>by
  rw[zcc]
  split
  ·simp only;omega
  ·split
   ·simp only;omega
   ·exact zhh ze9
theorem zhi {bs:List Int} (h:BsOk bs) {p:Int}:(0≤(zfI bs p).2.1∧(zfI bs p).2.1≤bs.length)∧zcl (zfI bs p).1:=by
 have hl:=h.l
 have h0:(0≤((zqL,(0:Int),(0:Int)):Reply×Int×Int).2.1∧((zqL,(0:Int),(0:Int)):Reply×Int×Int).2.1≤bs.length)∧zcl zqL:=⟨by simp only;omega,by simp,by simp⟩
 unfold zfI
 simp only
 split
 ·exact h0
 split
 ·exact h0
 split
 ·exact h0
 split
 ·exact h0
 split
 ·exact h0
 rename_i h5
 split
 ·exact h0
 split
 ·exact h0
 ·have hgk:=zgW (bs:=bs) (n:=(zbG bs (zbG bs (ze8 bs (zbG bs p).2.1).2.1).2.1).1.toNat) (p:=(zbG bs (zbG bs (ze8 bs (zbG bs p).2.1).2.1).2.1).2.1) (acc:=[]) (by simp)
  simp only[List.length_nil]at hgk
  exact⟨zhh zdr,by simp only;omega,fun g hg=>by have:=hgk.2 g hg;omega⟩
set_option maxHeartbeats 1000000 in
theorem ze7 (bs:List Int) (p:Int) (h:BsOk bs) (hp:i64 p):
  CallOK prog 91 [.f (asl bs.length (zaa bs)), .f (ai p)] (fun r o=>r=[zt2 (zeu bs p).1,ri (zeu bs p).2.1,ri (zeu bs p).2.2]∧o=[]):=by
 refine CallOK.nil ?_
 refine zh func91 results91 ntmps91 call91 ?_
 simp only[f91,Option.getD]
 have h1:=zc4 bs p h hp
 have h2:=zev bs (zbG bs p).2.1 h (zez h.l zdr)
 have h3:=zm1 bs (ze8 bs (zbG bs p).2.1).2.1 h (zez h.l ze9)
 have hf:=(zhi h (p:=(ze8 bs (zbG bs p).2.1).2.1)).2
 unfold zeu
 simp only
 obtain⟨b,hb⟩:∃b,b=zbG bs p:=⟨_,rfl⟩
 rw[←hb]at h1 h2 h3 hf⊢
 obtain⟨s,hs⟩:∃s,s=ze8 bs b.2.1:=⟨_,rfl⟩
 rw[←hs]at h2 h3 hf⊢
 obtain⟨a,ha⟩:∃a,a=zfI bs s.2.1:=⟨_,rfl⟩
 rw[←ha]at h3 hf⊢
 have h4:=zdU ⟨b.1,s.1,a.1⟩ hf
 cases e1:(b.2.2 !=0)
 ·rw[if_neg (by simpa using e1)]
  cases e2:(s.2.2 !=0)
  ·rw[if_neg (by simpa using e2)]
   cases e3:(a.2.2 !=0)
   ·rw[if_neg (by simpa using e3)]
    cases e7:answerB ⟨b.1,s.1,a.1⟩
    ·rw[e7]at h4
     rw[if_pos rfl]
     refine zL (I e1 (I e2 e3)) (I (h1) (I (h2) (I (h3) (h4)))) ?_
     show(zaH _ _∧zaH _ _∧zaH _ _∧zaH _ _∧zaH _ _∧zaH _ _∧True)∧zaH _ _∧zaH _ _∧True
     simp[zaH]
    ·rw[e7]at h4
     rw[if_neg (by simp)]
     refine zL (I e1 (I e2 e3)) (I (h1) (I (h2) (I (h3) (h4)))) ?_
     show(zaH _ _∧zaH _ _∧zaH _ _∧zaH _ _∧zaH _ _∧zaH _ _∧True)∧zaH _ _∧zaH _ _∧True
     simp[zaH]
   ·rw[if_pos (by simpa using e3)]
    refine zL (I e1 (I e2 e3)) (I (h1) (I (h2) (h3))) ?_
    show(zaH _ _∧zaH _ _∧zaH _ _∧zaH _ _∧zaH _ _∧zaH _ _∧True)∧zaH _ _∧zaH _ _∧True
    simp[zaH]
  ·rw[if_pos (by simpa using e2)]
   refine zL (I e1 e2) (I (h1) (h2)) ?_
   show(zaH _ _∧zaH _ _∧zaH _ _∧zaH _ _∧zaH _ _∧zaH _ _∧True)∧zaH _ _∧zaH _ _∧True
   simp[zaH]
 ·rw[if_pos (by simpa using e1)]
  refine zL e1 (h1) ?_
  show(zaH _ _∧zaH _ _∧zaH _ _∧zaH _ _∧zaH _ _∧zaH _ _∧True)∧zaH _ _∧zaH _ _∧True
  simp[zaH]
def zes (s:ByteArray):List Int:=(s.size:Int)::s.data.toList.map fun b=>(b.toNat:Int)
theorem zm0 (s:ByteArray):zho s=zaa (zes s):=by simp[zho,zes,zaa,zi3]
theorem zcp (s:ByteArray):(zes s).length=1+s.size:=by simp[zes,zdn,Nat.add_comm]
def zn1 (g:Grant):List Int:=zes g.name++zaK g.token
def zde (l:List Grant):List Int:=l.flatMap zn1
def zcb (r:Reply):List Int:=[r.code]++(zaK r.session++([r.ahead,(r.held.length:Int)]++zde r.held))
def za9 (m:Memo):List Int:=[m.client]++(zaK m.seq++zcb m.reply)
theorem zaz (n:Int):(zaK n).length=8:=rfl
theorem zoV (g:Grant):(zn1 g).length=9+g.name.size:=by simp[zn1,zcp,zaz];omega
theorem zet:∀{l:List Grant} {k:Nat},(∀g∈l,g.name.size≤k)→(zde l).length≤l.length*(9+k)
 |[],k,_=>by simp[zde]
 |g::l,k,h=>by
  have h1:=zet (l:=l) (k:=k) fun x hx=>h x (by simp[hx])
  have h2:=h g (by simp)
  rw[zde,List.flatMap_cons,List.length_append,List.length_cons,zoV,Nat.add_mul]
  unfold zde at h1
  omega
theorem zcF {r:Reply} (h:zb2 r=true):(0≤r.code∧r.code≤12)∧(0≤r.session∧r.session≤2305843009213693952)∧(0≤r.ahead∧r.ahead≤3)∧r.held.length≤4∧zbb (zcS r.held) 0 r.held=true:=by
 unfold zb2 at h
 have hH:zcT=2305843009213693952:=rfl
 simp only[Bool.and_eq_true,Bool.not_eq_true',Bool.or_eq_false_iff,decide_eq_false_iff_not,hH]at h
 obtain⟨⟨h1,h2⟩,h3⟩:=h
 refine⟨by omega,by omega,by omega,by omega,h3⟩
theorem zjF {α:Type} {q:Nat→α→Bool}:∀{l:List α} {i:Nat},zbb q i l=true→∀x∈l,∃k,q k x=true
 |[],_,_,x,hx=>by cases hx
 |a::l,i,h,x,hx=>by
  rw[zbb]at h
  split at h
  ·rename_i hq
   rcases List.mem_cons.1 hx with rfl|hx
   ·exact⟨i,hq⟩
   ·exact zjF h x hx
  ·cases h
theorem zcO {r:Reply} (h:zb2 r=true):∀g∈r.held,g.name.size≤12∧0≤g.token∧g.token<4611686018427387904:=by
 intro g hg
 obtain⟨k,hk⟩:=zjF (zcF h).2.2.2.2 g hg
 unfold zcS at hk
 have hH:zcT=2305843009213693952:=rfl
 simp only[Bool.not_eq_true',Bool.or_eq_false_iff,decide_eq_false_iff_not,hH,Bool.not_eq_false']at hk
 obtain⟨⟨⟨h1,h2⟩,h3⟩,h4⟩:=hk
 have:nameP g.name=true:=by simpa using h1
 unfold nameP at this
 simp only[Bool.and_eq_true,decide_eq_true_eq]at this
 omega
theorem zcP {m:Memo} (h:answerB m=true):(0≤m.client∧m.client<8)∧(1≤m.seq∧m.seq≤2305843009213693952)∧zb2 m.reply=true:=by
 unfold answerB at h
 have hH:zcT=2305843009213693952:=rfl
 simp only[Bool.and_eq_true,decide_eq_true_eq,hH]at h
 exact⟨by omega,by omega,h.2⟩
theorem zoU {l:List Grant} {i:Nat} (hi:i<l.length):zde (l.take (i+1))=zde (l.take i)++(zes l[i].name++zaK l[i].token):=by
 rw[List.take_succ_eq_append_getElem hi,zde,List.flatMap_append];simp[zde,zn1]
def zkC (r:Reply):List Int:=[r.code]++(zaK r.session++[r.ahead,(r.held.length:Int)])
def zeg (r:Reply) (i:Nat):List Int:=zkC r++zde (r.held.take i)
theorem zgr {r:Reply} {i:Nat} (hi:i<r.held.length):zeg r (i+1)=(zeg r i++zes r.held[i].name)++zaK r.held[i].token:=by
 rw[zeg,zoU hi,zeg];simp
theorem zgs {r:Reply}:zeg r 0=zkC r:=by simp[zeg,zde]
theorem zn0 {r:Reply}:zeg r r.held.length=zcb r:=by simp[zeg,zkC,zcb]
theorem ze6 (r:Reply):(zkC r).length=11:=by simp[zkC,zaz]
set_option maxHeartbeats 1000000 in
theorem zmZ (r:Reply) (h:zb2 r=true):CallOK prog 67 [.f (.agg r.lent)] (fun x o=>x=[.one (.own 1 (zcb r).length (zaa (zcb r)) false),ri 0]∧o=[]):=by
 obtain⟨f1,f2,f3,f4,f5⟩:=zcF h
 have hgr:=zcO h
 refine zh func67 results67 ntmps67 call67 ?_
 simp only[f67,Option.getD]
 have hmy:=zfT r ⟨by omega,fun g hg=>by have:=(hgr g hg).1;omega⟩
 rw[h]at hmy
 have hpn:=zc8 r.session (by omega)
 have w1:IntKind.u8.wrap r.code=r.code:=zbf (by omega) (by omega)
 have w2:IntKind.u8.wrap r.ahead=r.ahead:=zbf (by omega) (by omega)
 have w3:IntKind.u8.wrap (r.held.length:Int)=r.held.length:=zbf (by omega) (by omega)
 have hcc:CallOK prog 66 [.f (al 3 [.sl 1 (zaa [r.code]), .sl 8 (zaa (zaK r.session)), .sl 2 (zaa [r.ahead,(r.held.length:Int)])])] (fun x o=>x=[.one (.own 1 11 (zaa (zkC r)) false)]∧o=[]):=by
  have hc:=ziB [zaa [r.code],zaa (zaK r.session),zaa [r.ahead,(r.held.length:Int)]] (by simp) (fun l hl=>by
   simp only[List.mem_cons,List.not_mem_nil,or_false]at hl
   rcases hl with rfl|rfl|rfl
   ·simp
   ·rw[zcj];decide
   ·simp)
  rw[show [zaa [r.code],zaa (zaK r.session),zaa [r.ahead,(r.held.length:Int)]].flatten=zaa (zkC r) from by simp[zkC,zaa]]at hc
  rw[show(zaa (zkC r)).length=11 from by rw[List.length_map,ze6]]at hc
  exact hc
 have t1:(zaa (zaK r.session)).take 8=zaa (zaK r.session):=List.take_of_length_le (by rw[zcj];decide)
 have t2:toDs (sub 0 2 1 [C.d (uD r.ahead),C.d (uD (r.held.length:Int))])=some [uD r.ahead,uD (r.held.length:Int)]:=rfl
 refine zL (I t1 (I t2 (I w1 (I w2 w3)))) (I (hmy) (I (hpn) (hcc))) ?_
 refine zaf (τ:=Nat) (fun i=>⟨(dd::ptq 1::dq4 (.one (.own ⟨6,1,1⟩ 0 (zeg r i).length)::zvH (al r.held.length (zaO r.held)::ai r.held.length::ai i::zv8 []))),[(1,⟨2,[obq 1 [di r.code,di r.session,di r.ahead, .lent r.held.length (zaO r.held)],none,none,none,none]⟩),(19,⟨2,[]⟩),(4,⟨2,[]⟩),(25,⟨2,[]⟩),(34,⟨2,[]⟩),(35,⟨2,[]⟩),(36,⟨2,[]⟩),(6,⟨2,[none,roq 1 1 (zaa (zeg r i))]⟩),(8,⟨2,[]⟩),(9,⟨2,[]⟩),(11,⟨2,[]⟩),(47,⟨2,[]⟩),(53,⟨2,[]⟩),(58,⟨2,[]⟩),(60,⟨2,[]⟩)]⟩)
  (fun i=>i≤r.held.length) (fun _=>()) (fun i=>r.held.length - i) 0
  (Gh.canon [1,6] [8,9,11,47,53,58,60] [] (zk (I @zgs @ze6)) rfl (by rw[zgs];rfl)) (Nat.zero_le _) ?_
 intro i hi0 hF K hK
 refine zw ?_
 refine zab (fun hlt=> ?_) (fun hge=> ?_)
 ·have hi:i<r.held.length:=by simpa using hlt
  have hat:=zb3 hi
  have hw:=zai hi (by omega)
  have hg:=hgr _ (List.getElem_mem hi)
  have hpt:=zgZ r.held[i].name (by omega)
  have hpm:=zc8 r.held[i].token hg.2
  have hlb:(zeg r i).length≤11+4*21:=by
   rw[zeg,List.length_append,ze6]
   have:=zet (l:=r.held.take i) (k:=12) fun g hx=>(hgr g (List.mem_of_mem_take hx)).1
   have:(r.held.take i).length≤4:=by rw[List.length_take];omega
   omega
  have hle:((zeg r i).length+(1+r.held[i].name.size)≤2^47)=True:=eq_true (by omega)
  have hle2:((zeg r i).length+(1+r.held[i].name.size)+8≤2^47)=True:=eq_true (by omega)
  have k1:(zho r.held[i].name).take (1+r.held[i].name.size)=zho r.held[i].name:=List.take_of_length_le (by rw[zgv];exact Nat.le_refl _)
  have k2:(zaa (zaK r.held[i].token)).take 8=zaa (zaK r.held[i].token):=List.take_of_length_le (by rw[zcj];decide)
  have k3:(zaa (zeg r i)).take (zeg r i).length=zaa (zeg r i):=List.take_of_length_le (by rw[List.length_map];exact Nat.le_refl _)
  have k4:(zaa (zeg r i)++zho r.held[i].name).take ((zeg r i).length+(1+r.held[i].name.size))=zaa (zeg r i)++zho r.held[i].name:=List.take_of_length_le (by rw[List.length_append,List.length_map,zgv];exact Nat.le_refl _)
  have hsl:(zeg r (i+1)).length=(zeg r i).length+(1+r.held[i].name.size)+8:=by rw[zgr hi,List.length_append,List.length_append,zcp,zaz]
  refine zL (I hat (I @zam (I hle (I hle2 (I k1 (I k2 (I k3 (I k4 (I @zgv (I @List.length_map.{0,0} (I @zaz zca))))))))))) (I (hpt) (hpm)) ?_
  exact hK _ (i+1) (Gh.canon [1,6] [] [] (zk (I hw hsl)) rfl (by rw[zgr hi,zm0];simp only[roq,zaa,List.map_append];rfl)) hi rfl (by omega)
 ·have hi:i=r.held.length:=by
   have:¬(i:Int)<r.held.length:=by simpa using hge
   omega
  subst hi
  refine zL0 trivial ?_
  rw[zn0]
theorem zgV {r:Reply} (h:zb2 r=true):(zcb r).length≤95:=by
 have hgr:=zcO h
 have hf:=(zcF h).2.2.2.1
 have:=zet (l:=r.held) (k:=12) fun g hg=>(hgr g hg).1
 have e:(zcb r).length=11+(zde r.held).length:=by simp[zcb,zaz];omega
 omega
theorem zer {m:Memo} (h:answerB m=true):(za9 m).length≤104:=by
 have:=zgV (zcP h).2.2
 have e:(za9 m).length=9+(zcb m.reply).length:=by simp[za9,zaz];omega
 omega
theorem ziw {m:Memo} (h:answerB m=true):zcl m.reply:=by
 have hgr:=zcO (zcP h).2.2
 have hf:=(zcF (zcP h).2.2).2.2.2.1
 exact⟨by omega,fun g hg=>by have:=(hgr g hg).1;omega⟩
theorem zhg (m:Memo) (h:answerB m=true):CallOK prog 23 [.f (.agg m.lent)] (fun x o=>x=[.one (.own 1 (za9 m).length (zaa (za9 m)) false),ri 0]∧o=[]):=by
 refine zh func23 results23 ntmps23 call23 ?_
 simp only[f23,Option.getD]
 obtain⟨f1,f2,f3⟩:=zcP h
 have hmy:=zdU m (ziw h)
 rw[h]at hmy
 have hpn:=zc8 m.seq (by omega)
 have hpr:=zmZ m.reply f3
 have hrl:=zgV f3
 have w1:IntKind.u8.wrap m.client=m.client:=zbf (by omega) (by omega)
 have hcc:CallOK prog 66 [.f (al 3 [.sl 1 (zaa [m.client]), .sl 8 (zaa (zaK m.seq)), .sl (zcb m.reply).length (zaa (zcb m.reply))])] (fun x o=>x=[.one (.own 1 (za9 m).length (zaa (za9 m)) false)]∧o=[]):=by
  have hc:=ziB [zaa [m.client],zaa (zaK m.seq),zaa (zcb m.reply)] (by simp) (fun l hl=>by
   simp only[List.mem_cons,List.not_mem_nil,or_false]at hl
   rcases hl with rfl|rfl|rfl
   ·simp
   ·rw[zcj];decide
   ·rw[List.length_map];omega)
  rw[show [zaa [m.client],zaa (zaK m.seq),zaa (zcb m.reply)].flatten=zaa (za9 m) from by simp[za9,zaa]]at hc
  simp only[zry,List.map_cons,List.map_nil,List.length_map,List.length_cons,List.length_nil,zaz]at hc
  exact hc
 have t1:(zaa (zaK m.seq)).take 8=zaa (zaK m.seq):=List.take_of_length_le (by rw[zcj];decide)
 have t2:(zaa (zcb m.reply)).take (zcb m.reply).length=zaa (zcb m.reply):=List.take_of_length_le (by rw[List.length_map];exact Nat.le_refl _)
 exact zW (I t1 (I t2 w1)) (I (hmy) (I (hpn) (I (hpr) (hcc))))
end Go.Proofs.YtliimajkpggbhaaGreat
