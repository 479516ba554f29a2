import Derived.Test.YtliimajkpggbhaaGreatK9
import Derived.Test.YtliimajkpggbhaaGreatVI
namespace Go.Proofs.YtliimajkpggbhaaGreat
open Go.Pk
set_option maxRecDepth 100000
set_option linter.unusedSimpArgs false
set_option linter.unusedVariables false
abbrev zad (l:List Int):List D:=l.map uD
def zsN (v:Int) (k:Nat):Int:=IntKind.u8.wrap (v.fdiv (2^(8*(7 - k))))
def zcl (v:Int):List Int:=(List.range 8).map (zsN v)
abbrev zzp (v:Int) (i:Nat):List D:=(List.range 8).map fun k=>uD (if k<i then zsN v k else 0)
theorem zdF {v:Int} (h0:0≤v) (h1:v≤255):IntKind.u8.wrap v=v:=by
 have e:IntKind.u8.wrap v=v % 256:=by
  unfold IntKind.wrap
  simp[IntKind.bits,IntKind.signed]
 rw[e]
 omega
theorem zvt (v:Int) (i:Nat) (hi:i<8):(zzp v i).set i (uD (zsN v i))=zzp v (i+1):=by
 apply List.ext_getElem
 ·simp
 ·intro k h1 h2
  simp only[List.length_set,List.length_map,List.length_range]at h1
  rw[List.getElem_set]
  simp only[List.getElem_map,List.getElem_range]
  split
  ·rename_i e;subst e;rw[if_pos (by omega)]
  ·rename_i e
   by_cases h:k<i
   ·rw[if_pos h,if_pos (by omega)]
   ·rw[if_neg h,if_neg (by omega)]
theorem zkJ (v:Int) (h:0≤v∧v≤255):CallOK Tryz.prog 63 [.f (ai v)] (fun r o=>r=[.one (.own 1 1 (zad [v]) false),ri 0]∧o=[]):=by
 refine zh Tryz.func63 Tryz.results63 Tryz.ntmps63 Tryz.call63 ?_
 simp only[Tryz.f63,Option.getD]
 have h1:decide (v<0)=false:=by simp;omega
 have h2:decide (v>255)=false:=by simp;omega
 have hw:IntKind.u8.wrap v=v:=zdF h.1 h.2
 repeat'(first|exact zC|refine zq (I h1 (I h2 hw)) ?_|(apply zaa<;>intro hb)|(apply I;exact zI)|(apply I<;>intro hg))
theorem zdw (v:Int) (h:0≤v∧v<4611686018427387904):CallOK Tryz.prog 64 [.f (ai v)] (fun r o=>r=[.one (.own 1 8 (zad (zcl v)) false),ri 0]∧o=[]):=by
 refine zh Tryz.func64 Tryz.results64 Tryz.ntmps64 Tryz.call64 ?_
 simp only[Tryz.f64,Option.getD]
 have h1:decide (v<0)=false:=by simp;omega
 have h2:decide (v≥4611686018427387904)=false:=by simp;omega
 repeat'(first|exact zC|refine zq (I h1 h2) ?_|(apply zaa<;>intro hb)|(apply I;exact zI)|(apply I<;>intro hg))
 refine zaf (τ:=Nat) (fun i=>⟨(ai v::dq3 (.one (.own ⟨4,1,1⟩ 0 8)::dq9 (ai 8::ai i::zrx []))),[(12,⟨2,[]⟩),(4,⟨2,[none,roq 1 1 (zzp v i)]⟩)]⟩)
  (fun i=>i≤8) (fun _=>()) (fun i=>8 - i) 0
  (Gh.canon [4] [] [] zK rfl rfl) (Nat.zero_le _) ?_
 intro i hi0 hF K hK
 refine zw ?_
 refine zaa (fun hlt=> ?_) (fun hge=> ?_)
 ·have hi:i<8:=by simp at hlt;omega
  have w1:IntKind.i64.wrap (7 - (i:Int))=7 - i:=wrap64 (by omega) (by omega)
  have w2:IntKind.i64.wrap (8*(7 - (i:Int)))=((8*(7 - i):Nat):Int):=by rw[wrap64 (by omega) (by omega)];omega
  have w3:¬(((8*(7 - i):Nat):Int)<0):=by omega
  have w4:min (8*(7 - i)) IntKind.i64.bits=8*(7 - i):=by have:IntKind.i64.bits=64:=rfl;omega
  have hw:IntKind.i64.wrap ((i:Int)+1)=((i+1:Nat):Int):=by rw[wrap64 (by omega) (by omega)];omega
  have hset:((zzp v i).map C.d).set i (C.d (D.v (Value.int IntKind.u8 (IntKind.u8.wrap (v.fdiv (2^(8*(7 - i))))))))=(zzp v (i+1)).map C.d:=by
   have:=zvt v i hi
   rw[←this,List.map_set];rfl
  have hle:(i+1≤8)=True:=eq_true (by omega)
  repeat'(first|(with_reducible first|refine zae _ _ ?_|refine zb8 ?_|refine zb9 ?_)|rw[zbD]|simp only[w1,w2,if_neg w3,Int.toNat_natCast,w4,hset,List.length_range,hle,zY,Int.reduceEq,Int.reduceBEq,Int.reduceBNe,Nat.reduceSub,Nat.reduceEqDiff,Nat.reduceAdd,Nat.reduceMul,Nat.reduceLeDiff,Nat.reduceLT,Nat.reduceBEq,reduceCtorEq]|refine za1 ?_|refine zaa (fun hb=> ?_) (fun hb=> ?_)|(refine And.intro ?_ ?_;exact zI)|refine And.intro (fun hg=> ?_) (fun hg=> ?_)|exact zC|fail)
  exact hK _ (i+1) (Gh.canon [4] [] [] (zk hw) rfl rfl) hi rfl (by omega)
 ·have hi:i=8:=by
   have:¬(i:Int)<8:=by simpa using hge
   omega
  subst hi
  repeat'(first|exact zC|refine zq0 ?_|(apply zaa<;>intro hb)|(apply I;exact zI)|(apply I<;>intro hg))
  rfl
theorem zls (s:ByteArray):s.data.toList.length=s.size:=by rw[Array.length_toList];rfl
abbrev zzq (s:ByteArray):List D:=s.data.toList.map fun b=>uD b.toNat
def zie (s:ByteArray):List D:=uD s.size::zzq s
theorem zhc (s:ByteArray):(zie s).length=1+s.size:=by simp[zie,zls,Nat.add_comm]
theorem zhM (s:ByteArray) (h:s.size≤255):CallOK Tryz.prog 111 [.f (ast s)] (fun r o=>r=[.one (.own 1 (1+s.size) (zie s) false),ri 0]∧o=[]):=by
 refine zh Tryz.func111 Tryz.results111 Tryz.ntmps111 Tryz.call111 ?_
 simp only[Tryz.f111,Option.getD]
 have h1:decide ((s.size:Int)>255)=false:=by simp;omega
 have hw:IntKind.u8.wrap (s.size:Int)=s.size:=zdF (by omega) (by omega)
 have hle:(1+s.size≤2^47)=True:=eq_true (by omega)
 repeat'(first|exact zC|refine zq (I h1 (I hw (I @zls hle))) ?_|(apply zaa<;>intro hb)|(apply I;exact zI)|(apply I<;>intro hg))
 rfl
theorem zxR (n:Nat) (h:n<2^40):CallOK Tryz.prog 112 [.f (.one (.d (.v (.slice none 0 0)))), .f (ai n)] (fun r o=>r=[.one (.own 1 0 (zfz [.int .u8 0] n) false)]∧o=[]):=by
 refine zkg zcI mixed (T:=Ty) (n:=27) Tryz.func112 (c:=Tryz.f112.body.getD .skip) rfl Tryz.results112 Tryz.ntmps112 Tryz.call112
  (fun _=>⟨(openG 27 [.f (.one (.d (.v (.slice none 0 0)))), .f (ai n)]).v.set 0 (.one (.gap ⟨0,1,0⟩ 0 0 0)),[(0,⟨1,[none,some {e:=0,var:=false,fz:=false,sz:=1,cells:=[]}]⟩)]⟩)
  (fun _=>True) (fun cx a w hh=>⟨0,trivial,Gh.nilG (i:=0) (s:=0) (sz:=1) rfl cx a w hh⟩) ?_
 intro k _
 simp only[Tryz.f112,Option.getD]
 have h1:decide ((n:Int)<0)=false:=by simp
 have hw:IntKind.i64.wrap ((n:Int) - IntKind.i64.wrap (((0:Nat):Int) - ((0:Nat):Int)))=n:=by
  rw[show IntKind.i64.wrap (((0:Nat):Int) - ((0:Nat):Int))=0 from by decide,Int.sub_zero,wrap64 (by omega) (by omega)]
 cases h2:decide ((n:Int)>0)
 ·have:n=0:=by simp at h2;omega
  subst this
  repeat'(first|exact zC|refine zq (I h1 (I hw h2)) ?_|(apply zaa<;>intro hb)|(apply I;exact zI)|(apply I<;>intro hg))
  rfl
 ·have h3:0<n:=by simp at h2;omega
  have hc1:(0≤(n:Int)∧(n:Int)<2^62∧0<n∧n≤2^47)=True:=eq_true (by omega)
  repeat'(first|exact zC|refine zq (I h1 (I hw (I h2 (I hc1 @Int.toNat_natCast)))) ?_|(apply zaa<;>intro hb)|(apply I;exact zI)|(apply I<;>intro hg))
def zxS (ls:List (List D)) (i:Nat):List D:=if i=0 then zfz [.int .u8 0] ls.flatten.length else(ls.take i).flatten
theorem zsO (ls:List (List D)) (i:Nat):(zxS ls i).take (ls.take i).flatten.length=(ls.take i).flatten:=by
 unfold zxS
 split
 ·rename_i h;subst h;simp
 ·rw[List.take_length]
theorem zhd {ls:List (List D)} {i:Nat} (hi:i<ls.length):(ls.take (i+1)).flatten=(ls.take i).flatten++ls[i]:=by
 rw[List.take_succ_eq_append_getElem hi,List.flatten_append];simp
theorem zol {ls:List (List D)} {m:Nat} (hs:∀l∈ls,l.length≤m):∀i,(ls.take i).flatten.length≤i*m
 |0=>by simp
 |i+1=>by
  by_cases hi:i<ls.length
  ·rw[zhd hi,List.length_append]
   have:=zol hs i
   have:=hs _ (List.getElem_mem hi)
   rw[Nat.add_mul];omega
  ·have h1:ls.take (i+1)=ls:=List.take_of_length_le (by omega)
   have h2:ls.take i=ls:=List.take_of_length_le (by omega)
   rw[h1,←h2]
   have:=zol hs i
   rw[Nat.add_mul];omega
theorem zsP {ls:List (List D)} {i:Nat} (hi:i<ls.length):zxS ls (i+1)=(ls.take i).flatten++ls[i]:=by
 unfold zxS
 rw[if_neg (by omega),zhd hi]
theorem zvu (ls:List (List D)):zxS ls ls.length=ls.flatten:=by
 unfold zxS
 cases ls with
 |nil=>rfl
 |cons a l=>rw[if_neg (by simp),List.take_length]
abbrev zuh (ls:List (List D)):List D:=ls.map fun l=> .sl l.length l
theorem zwL {ls:List (List D)} {i:Nat} (hi:i<ls.length):(zuh ls).drop i= .sl ls[i].length ls[i]::zuh (ls.drop (i+1)):=by
 rw[←List.map_drop,List.drop_eq_getElem_cons hi];rfl
theorem zsQ {ls:List (List D)}:(zuh ls).length=ls.length:=by simp
theorem zjm (ls:List (List D)) (hl:ls.length<2^10) (hs:∀l∈ls,l.length≤2^12):
  CallOK Tryz.prog 66 [.f (al ls.length (zuh ls))] (fun r o=>r=[.one (.own 1 ls.flatten.length ls.flatten false)]∧o=[]):=by
 refine zh Tryz.func66 Tryz.results66 Tryz.ntmps66 Tryz.call66 ?_
 simp only[Tryz.f66,Option.getD]
 have hfl:=zol hs
 repeat'(first|exact zC|refine zq0 ?_|(apply zaa<;>intro hb)|(apply I;exact zI)|(apply I<;>intro hg))
 refine zaf (τ:=Nat) (fun i=>⟨(al ls.length (zuh ls)::dq2 (ai (ls.take i).flatten.length::dq5 (al ls.length (zuh ls)::ai ls.length::ai i::zyt []))),[(5,⟨2,[]⟩)]⟩)
  (fun i=>i≤ls.length) (fun _=>()) (fun i=>ls.length - i) 0
  (Gh.canon [] [5] [] (zk (I @List.take_zero.{0} (I @List.flatten_nil.{0} @List.length_nil.{0}))) rfl rfl) (Nat.zero_le _) ?_
 intro i hi0 hF K hK
 refine zw ?_
 refine zaa (fun hlt=> ?_) (fun hge=> ?_)
 ·have hi:i<ls.length:=by simpa using hlt
  have hat:=zwL hi
  have hw:=zai hi (by omega)
  have hb:=hfl i
  have hb2:=hfl (i+1)
  have hil:i*2^12≤2^10*2^12:=Nat.mul_le_mul_right _ (by omega)
  have hil2:(i+1)*2^12≤2^10*2^12:=Nat.mul_le_mul_right _ (by omega)
  have hfs:(ls.take (i+1)).flatten.length=(ls.take i).flatten.length+ls[i].length:=by rw[zhd hi,List.length_append]
  have hws:IntKind.i64.wrap (((ls.take i).flatten.length:Int)+(ls[i].length:Int))=((ls.take (i+1)).flatten.length:Int):=by rw[wrap64 (by omega) (by omega),hfs];omega
  have hn:decide (((ls.take (i+1)).flatten.length:Int)<0)=false:=by simp
  repeat'(first|exact zC|refine zq (I hat (I hws (I hn @zsQ))) ?_|(apply zaa<;>intro hb)|(apply I;exact zI)|(apply I<;>intro hg))
  exact hK _ (i+1) (Gh.canon [] [] [] (zk hw) rfl rfl) hi rfl (by omega)
 ·have hi:i=ls.length:=by
   have:¬(i:Int)<ls.length:=by simpa using hge
   omega
  subst hi
  have hb:=hfl ls.length
  have hil:ls.length*2^12≤2^10*2^12:=Nat.mul_le_mul_right _ (by omega)
  rw[List.take_length]at*
  have hgr:=zxR ls.flatten.length (by omega)
  clear hK
  repeat'(first|exact zC|refine zq0 ?_|refine zx (hgr) ?_|(apply zaa<;>intro hb)|(apply I;exact zI)|(apply I<;>intro hg))
  refine zaf (τ:=Nat) (fun i=>⟨(dq6 (.one (.own ⟨6,1,1⟩ 0 (ls.take i).flatten.length)::zug (al ls.length (zuh ls)::ai ls.length::ai i::dq8 []))),[(5,⟨2,[]⟩),(24,⟨2,[]⟩),(6,⟨2,[none,roq 1 1 (zxS ls i)]⟩),(8,⟨2,[]⟩),(33,⟨2,[]⟩)]⟩)
   (fun i=>i≤ls.length) (fun _=>()) (fun i=>ls.length - i) 0
   (Gh.canon [6] [8,33] [] (zk (I @List.take_zero.{0} (I @List.flatten_nil.{0} @List.length_nil.{0}))) rfl rfl) (Nat.zero_le _) ?_
  intro i hi0 hF K hK
  refine zw ?_
  refine zaa (fun hlt=> ?_) (fun hge=> ?_)
  ·have hi:i<ls.length:=by simpa using hlt
   have hat:=zwL hi
   have hw:=zai hi (by omega)
   have hb:=hfl i
   have hb2:=hfl (i+1)
   have hil:i*2^12≤2^10*2^12:=Nat.mul_le_mul_right _ (by omega)
   have hil2:(i+1)*2^12≤2^10*2^12:=Nat.mul_le_mul_right _ (by omega)
   have hfs:(ls.take (i+1)).flatten.length=(ls.take i).flatten.length+ls[i].length:=by rw[zhd hi,List.length_append]
   have hle:((ls.take i).flatten.length+ls[i].length≤2^47)=True:=eq_true (by omega)
   repeat'(first|exact zC|refine zq (I hat (I @zsQ (I @zC2 (I @zsO (I hle @zbl))))) ?_|(apply zaa<;>intro hb)|(apply I;exact zI)|(apply I<;>intro hg))
   exact hK _ (i+1) (Gh.canon [6] [] [] (zk (I hw hfs)) rfl (by rw[zsP hi];rfl)) hi rfl (by omega)
  ·have hi:i=ls.length:=by
    have:¬(i:Int)<ls.length:=by simpa using hge
    omega
   subst hi
   repeat'(first|exact zC|refine zq0 ?_|(apply zaa<;>intro hb)|(apply I;exact zI)|(apply I<;>intro hg))
   rw[List.take_length,zvu]
theorem zeh (n:Int):(zad (zcl n)).length=8:=rfl
theorem zdx {l:List Int} {i:Nat} (hi:i<l.length):(zad l).drop i=uD (l.getD i 0)::zad (l.drop (i+1)):=by
 rw[←List.map_drop,List.drop_eq_getElem_cons hi,List.getD_eq_getElem?_getD,List.getElem?_eq_getElem hi];rfl
theorem zaY {l:List Int}:(zad l).length=l.length:=by simp
def codeOf:Value→Value
 | .iface _ (.agg ⟨[c]⟩)=>c
 |_=>undef
abbrev ze6 (t:Nat) (n:Int):Value:= .iface t (.agg #[.int .i64 n])
def zjj (t:Nat) (x:Value):Prop:=∃n,x=ze6 t n
def nw3 (z:Value) (x:Value) (k:Nat):List Value:=if k=4 then [z]else if k=5 then [.int .i64 0]else [codeOf x]
def nwT (x:Value) (k:Nat):List Value:=if k=6 then [.string .empty]else if k=7 then [.int .i64 0]else [codeOf x]
def sz3 (_:Nat):Nat:=1
theorem zyy {l:List Value} (h:l.length=1):∃a,l=[a]:=by
 match l,h with
 |[a],_=>exact⟨a,rfl⟩
theorem cells3 {ks:List Nat} {ls:List (List Value)} (hk:ks.length=3) (h:ls.length=ks.length) (hs:∀(i k:Nat) (l:List Value),ks[i]? =some k→ls[i]? =some l→l.length=sz3 k):∃a b c,ls=[[a],[b],[c]]:=by
 rw[hk]at h
 match ls,h with
 |[x,y,z],_=>
  obtain⟨a,rfl⟩:=zyy (hs 0 ks[0] x (List.getElem?_eq_getElem (by omega)) rfl)
  obtain⟨b,rfl⟩:=zyy (hs 1 ks[1] y (List.getElem?_eq_getElem (by omega)) rfl)
  obtain⟨c,rfl⟩:=zyy (hs 2 ks[2] z (List.getElem?_eq_getElem (by omega)) rfl)
  exact⟨a,b,c,rfl⟩
theorem zjk {P:Program} {t:Nat} {z:Value} (h:(P.info? t).bind (·.zero)=some z) (w:World):(zeroValue t).run P w= .ok z w:=by
 cases hi:P.info? t with
 |none=>rw[hi]at h;cases h
 |some i=>rw[hi]at h;simp[zeroValue,typeInfo,hi,show i.zero=some z from h]
theorem zhL:(Tryz.prog.info? 206).bind (·.zero)=some (.agg #[.int .i64 0]):=by kernel_rfl
theorem zjl:ziY Tryz.prog 172 [4,5,6] sz3 (nw3 (.int .i64 0)) (zjj 206):=by
 refine zfe zcI mixed (T:=Ty) Tryz.func172 rfl rfl Tryz.ntmps172 rfl rfl rfl rfl rfl rfl rfl (by decide) (by decide) (by decide) ?_
 rintro x ⟨n,rfl⟩ ls hl hs
 obtain⟨a,b,c,rfl⟩:=cells3 rfl hl hs
 refine⟨.tuple #[.agg #[.int .i64 n], .bool true], .tup [.agg [di n],ab true], ?_, ?_,rfl, ?_⟩
 ·intro w
  simp[Instr.typeAssert,Tryz.underlying206]
 ·intro cx w r β
  simp[ReA,ReAs,ReC,ReCs,Rd,flat]
 ·simp only[zbr,plainO,List.map_cons,List.map_nil]
  first|refine zs0 ?_|exact zt0
  repeat'(first|exact zC|refine zq0 ?_|(apply zaa<;>intro hb)|(apply I;exact zI)|(apply I<;>intro hg))
  rfl
theorem zkH:zn1 Tryz.prog 172 3:=by
 refine zd2 zcI mixed (T:=Ty) Tryz.func172 rfl rfl Tryz.ntmps172 rfl rfl rfl rfl rfl rfl rfl (by decide) (y7:= .tuple #[.agg #[.int .i64 0], .bool false]) (V7:= .tup [.agg [di 0],ab false]) ?_ ?_ (by decide) rfl ?_
 ·intro w
  simp[Instr.typeAssert,Tryz.underlying206,zjk (zhL) w]
 ·intro cx w r β
  simp[ReA,ReAs,ReC,ReCs,Rd,flat]
 ·simp only[List.replicate]
  first|refine zs0 ?_|exact zt0
  repeat'(first|exact zC|refine zq0 ?_|(apply zaa<;>intro hb)|(apply I;exact zI)|(apply I<;>intro hg))
theorem zkI:ziY Tryz.prog 174 [4,5,6] sz3 (nw3 (.int .i64 0)) (zjj 206):=by
 refine zfe zcI mixed (T:=Ty) Tryz.func174 rfl rfl Tryz.ntmps174 rfl rfl rfl rfl rfl rfl rfl (by decide) (by decide) (by decide) ?_
 rintro x ⟨n,rfl⟩ ls hl hs
 obtain⟨a,b,c,rfl⟩:=cells3 rfl hl hs
 refine⟨.tuple #[.agg #[.int .i64 n], .bool true], .tup [.agg [di n],ab true], ?_, ?_,rfl, ?_⟩
 ·intro w
  simp[Instr.typeAssert,Tryz.underlying206]
 ·intro cx w r β
  simp[ReA,ReAs,ReC,ReCs,Rd,flat]
 ·simp only[zbr,plainO,List.map_cons,List.map_nil]
  first|refine zs0 ?_|exact zt0
  repeat'(first|exact zC|refine zq0 ?_|(apply zaa<;>intro hb)|(apply I;exact zI)|(apply I<;>intro hg))
  rfl
theorem zm3:zn1 Tryz.prog 174 3:=by
 refine zd2 zcI mixed (T:=Ty) Tryz.func174 rfl rfl Tryz.ntmps174 rfl rfl rfl rfl rfl rfl rfl (by decide) (y7:= .tuple #[.agg #[.int .i64 0], .bool false]) (V7:= .tup [.agg [di 0],ab false]) ?_ ?_ (by decide) rfl ?_
 ·intro w
  simp[Instr.typeAssert,Tryz.underlying206,zjk (zhL) w]
 ·intro cx w r β
  simp[ReA,ReAs,ReC,ReCs,Rd,flat]
 ·simp only[List.replicate]
  first|refine zs0 ?_|exact zt0
  repeat'(first|exact zC|refine zq0 ?_|(apply zaa<;>intro hb)|(apply I;exact zI)|(apply I<;>intro hg))
theorem zeW:ziY Tryz.prog 198 [6,7,8] sz3 (nwT) (zjj 206):=by
 refine zfe zcI mixed (T:=Ty) Tryz.func198 rfl rfl Tryz.ntmps198 rfl rfl rfl rfl rfl rfl rfl (by decide) (by decide) (by decide) ?_
 rintro x ⟨n,rfl⟩ ls hl hs
 obtain⟨a,b,c,rfl⟩:=cells3 rfl hl hs
 refine⟨.tuple #[.agg #[.int .i64 n], .bool true], .tup [.agg [di n],ab true], ?_, ?_,rfl, ?_⟩
 ·intro w
  simp[Instr.typeAssert,Tryz.underlying206]
 ·intro cx w r β
  simp[ReA,ReAs,ReC,ReCs,Rd,flat]
 ·simp only[zbr,plainO,List.map_cons,List.map_nil]
  first|refine zs0 ?_|exact zt0
  repeat'(first|exact zC|refine zq0 ?_|(apply zaa<;>intro hb)|(apply I;exact zI)|(apply I<;>intro hg))
  rfl
theorem zf2:zn1 Tryz.prog 198 3:=by
 refine zd2 zcI mixed (T:=Ty) Tryz.func198 rfl rfl Tryz.ntmps198 rfl rfl rfl rfl rfl rfl rfl (by decide) (y7:= .tuple #[.agg #[.int .i64 0], .bool false]) (V7:= .tup [.agg [di 0],ab false]) ?_ ?_ (by decide) rfl ?_
 ·intro w
  simp[Instr.typeAssert,Tryz.underlying206,zjk (zhL) w]
 ·intro cx w r β
  simp[ReA,ReAs,ReC,ReCs,Rd,flat]
 ·simp only[List.replicate]
  first|refine zs0 ?_|exact zt0
  repeat'(first|exact zC|refine zq0 ?_|(apply zaa<;>intro hb)|(apply I;exact zI)|(apply I<;>intro hg))
abbrev asl (n:Nat) (ds:List D):AV:= .one (.d (.sl n ds))
abbrev rdr (n:Nat) (ds:List D) (p:Int):List RO:=[.d (.sl n ds), .d (iD p)]
theorem zqD (n:Nat) (ds:List D) (p k:Nat) (hl:ds.length=n) (hn:n<2^62) (h:p+k≤n):
  CallOK Tryz.prog 173 [.obj (rdr n ds p), .f (ai k)] (fun r o=>r=[.one (.d (.sl k ((ds.drop p).take k)))]∧o=[rdr n ds ((p+k:Nat):Int)]):=by
 refine zh Tryz.func173 Tryz.results173 Tryz.ntmps173 Tryz.call173 ?_
 simp only[Tryz.f173,Option.getD]
 have h1:decide ((p:Int)<0)=false:=by simp
 have h2:decide ((p:Int)>(n:Int))=false:=by simp;omega
 have h3:IntKind.i64.wrap ((n:Int) - (p:Int))=(n:Int) - p:=wrap64 (by omega) (by omega)
 have h4:decide ((n:Int) - (p:Int)<(k:Int))=false:=by simp;omega
 have h5:IntKind.i64.wrap ((p:Int)+(k:Int))=((p+k:Nat):Int):=by rw[wrap64 (by omega) (by omega)];omega
 have h6:p+k - p=k:=by omega
 repeat'(first|exact zC|refine zq (I h1 (I h2 (I h3 (I h4 (I h5 (I h6 (I @Int.toNat_natCast hl))))))) ?_|(apply zaa<;>intro hb)|(apply I;exact zI)|(apply I<;>intro hg))
def zcG (n:Nat) (p k:Int):Bool:=decide (p<0)||decide (p>(n:Int))||decide ((n:Int) - p<k)
theorem ziv (n:Nat) (ds:List D) (p k:Int) (hl:ds.length=n) (hn:n<2^62) (hp:i64 p) (h:zcG n p k=true):
  zbL Tryz.prog 173 [.obj (rdr n ds p), .f (ai k)] (ze6 206 2):=by
 refine zhy Tryz.func173 Tryz.ntmps173 Tryz.call173 ?_
 simp only[Tryz.f173,Option.getD]
 unfold zcG at h
 cases h1:decide (p<0)
 ·cases h2:decide (p>(n:Int))
  ·have h4:decide ((n:Int) - p<k)=true:=by rw[h1,h2]at h;simpa using h
   have h3:IntKind.i64.wrap ((n:Int) - p)=(n:Int) - p:=by
    simp at h1 h2
    exact wrap64 (by omega) (by omega)
   repeat'(first|exact zC|refine zq (I h1 (I h2 (I h3 (I h4 (I @zab hl))))) ?_|(apply zaa<;>intro hb)|(apply I;exact zI)|(apply I<;>intro hg))
  ·repeat'(first|exact zC|refine zq (I h1 (I h2 (I @zab hl))) ?_|(apply zaa<;>intro hb)|(apply I;exact zI)|(apply I<;>intro hg))
 ·repeat'(first|exact zC|refine zq (I h1 (I @zab hl)) ?_|(apply zaa<;>intro hb)|(apply I;exact zI)|(apply I<;>intro hg))
theorem zxN (n:Nat) (ds:List D) (p:Nat) (x:Int) (rest:List D) (hl:ds.length=n) (hn:n<2^62) (hp:p<n) (hat:ds.drop p= .v (.int .u8 x)::rest) (hx:0≤x∧x≤255):
  CallOK Tryz.prog 138 [.f (asl n ds), .f (ai p)] (fun r o=>r=[ri x,ri ((p+1:Nat):Int),ri 0]∧o=[]):=by
 refine zbz zcI mixed (T:=Ty) Tryz.func138 rfl Tryz.results138 Tryz.ntmps138 Tryz.call138 Tryz.call172 (ks:=[4,5,6]) rfl rfl rfl rfl rfl rfl (by decide) (by decide)
  (xs:=[asl n ds,ai p]) zkH zjl ⟨(asl n ds::ai p::dq2 (.one (.ptr ⟨4,0,0⟩ 0):: .one (.ptr ⟨5,0,0⟩ 0):: .one (.ptr ⟨6,0,0⟩ 0)::zrx [])),[(4,{next:=1,l:=[obq 0 [di 0],none]}),(5,{next:=1,l:=[obq 0 [di 0],none]}),(6,{next:=1,l:=[obq 0 [di 0],none]})]⟩ ?_ ?_ rfl ?_
 ·simp only[List.map_cons,List.map_nil]
  repeat'(first|exact zC|refine zq0 ?_|(apply zaa<;>intro hb)|(apply I;exact zI)|(apply I<;>intro hg))
  exact fun _ _ _ h=>h
 ·exact⟨⟨_,rfl,rfl,rfl,rfl,rfl⟩,⟨_,rfl,rfl,rfl,rfl,rfl⟩,⟨_,rfl,rfl,rfl,rfl,rfl⟩,trivial⟩
 ·have htk:=zqD n ds p 1 hl hn (by omega)
  rw[hat]at htk
  have hw:IntKind.i64.wrap x=x:=wrap64 (by omega) (by omega)
  repeat'(first|exact zC|refine zq0 ?_|(apply zaa<;>intro hb)|(apply I;exact zI)|(apply I<;>intro hg))
  refine zj (htk) ?_
  repeat'(first|exact zC|refine zq (I hw @zfO) ?_|(apply zaa<;>intro hb)|(apply I;exact zI)|(apply I<;>intro hg))
theorem zvq (n:Nat) (ds:List D) (p:Int) (hl:ds.length=n) (hn:n<2^62) (hp:i64 p) (h:zcG n p 1=true):
  CallOK Tryz.prog 138 [.f (asl n ds), .f (ai p)] (fun r o=>r=[ri 0,ri 0,ri 2]∧o=[]):=by
 refine zbz zcI mixed (T:=Ty) Tryz.func138 rfl Tryz.results138 Tryz.ntmps138 Tryz.call138 Tryz.call172 (ks:=[4,5,6]) rfl rfl rfl rfl rfl rfl (by decide) (by decide)
  (xs:=[asl n ds,ai p]) zkH zjl ⟨(asl n ds::ai p::dq2 (.one (.ptr ⟨4,0,0⟩ 0):: .one (.ptr ⟨5,0,0⟩ 0):: .one (.ptr ⟨6,0,0⟩ 0)::zrx [])),[(4,{next:=1,l:=[obq 0 [di 0],none]}),(5,{next:=1,l:=[obq 0 [di 0],none]}),(6,{next:=1,l:=[obq 0 [di 0],none]})]⟩ ?_ ?_ rfl ?_
 ·simp only[List.map_cons,List.map_nil]
  repeat'(first|exact zC|refine zq0 ?_|(apply zaa<;>intro hb)|(apply I;exact zI)|(apply I<;>intro hg))
  exact fun _ _ _ h=>h
 ·exact⟨⟨_,rfl,rfl,rfl,rfl,rfl⟩,⟨_,rfl,rfl,rfl,rfl,rfl⟩,⟨_,rfl,rfl,rfl,rfl,rfl⟩,trivial⟩
 ·have htk:=ziv n ds p 1 hl hn hp h
  repeat'(first|exact zC|refine zq0 ?_|(apply zaa<;>intro hb)|(apply I;exact zI)|(apply I<;>intro hg))
  refine zp (rdr n ds p) (htk) ?_
  simp only[zaV,zaW,zaU,za3]
  refine⟨⟨_,rfl⟩,rfl,⟨⟨_,rfl,rfl,rfl,rfl,rfl⟩,⟨_,rfl,rfl,rfl,rfl,rfl⟩,⟨_,rfl,rfl,rfl,rfl,rfl⟩,trivial⟩, ?_⟩
  rw[show znL 20 [4,5,6] (nw3 (.int .i64 0) (ze6 206 2))=⟨(dq4 (.one (.ptr ⟨4,0,0⟩ 0):: .one (.ptr ⟨5,0,0⟩ 0):: .one (.ptr ⟨6,0,0⟩ 0)::zrx [])),[(4,{next:=1,l:=[obq 0 [di 0]]}),(5,{next:=1,l:=[obq 0 [di 0]]}),(6,{next:=1,l:=[obq 0 [di 2]]})]⟩ from rfl]
  first|refine zs0 ?_|exact zt0
def ziu (l:List Int):Int:=l.foldl (fun u c=>u*256+c) 0
theorem zsK {l:List Int} {c:Int}:ziu (l++[c])=ziu l*256+c:=by unfold ziu;rw[List.foldl_append];rfl
theorem zkG:∀{l:List Int} {a:Int},0≤a→(∀c∈l,zaN c)→0≤l.foldl (fun u c=>u*256+c) a∧l.foldl (fun u c=>u*256+c) a<(a+1)*256^l.length
 |[],a,ha,_=>by simp;omega
 |c::l,a,ha,h=>by
  have h2:=h c (by simp)
  unfold zaN at h2
  obtain⟨h3,h4⟩:=zkG (l:=l) (a:=a*256+c) (by omega) fun x hx=>h x (by simp[hx])
  refine⟨h3,Int.lt_of_lt_of_le h4 ?_⟩
  rw[List.length_cons,Int.pow_succ,Int.mul_comm (256^l.length) 256,←Int.mul_assoc]
  exact Int.mul_le_mul_of_nonneg_right (by omega) (Int.pow_nonneg (by decide))
theorem zhK {l:List Int} (h:∀c∈l,zaN c):0≤ziu l∧ziu l<256^l.length:=by
 have:=zkG (l:=l) (a:=0) (by decide) h
 rw[Int.zero_add,Int.one_mul]at this
 exact this
theorem zC4 {i:Nat} (h:i<8):(256:Int)^i≤72057594037927936:=by
 rcases(show i=0∨i=1∨i=2∨i=3∨i=4∨i=5∨i=6∨i=7 by omega)with rfl|rfl|rfl|rfl|rfl|rfl|rfl|rfl<;>decide
theorem zxO {n:Int} (h0:0≤n) (h1:n<18446744073709551616):IntKind.u64.wrap n=n:=by
 have e:IntKind.u64.wrap n=n % 18446744073709551616:=by
  unfold IntKind.wrap
  simp[IntKind.bits,IntKind.signed]
 rw[e]
 omega
theorem zzo {u c:Int} (hu:0≤u∧u<72057594037927936) (hc:0≤c∧c≤255):
  IntKind.u64.wrap (BitVec.ofInt IntKind.u64.bits (u*256)|||BitVec.ofInt IntKind.u64.bits c).toNat=u*256+c:=by
 obtain⟨a,rfl⟩:=Int.eq_ofNat_of_zero_le hu.1
 obtain⟨b,rfl⟩:=Int.eq_ofNat_of_zero_le hc.1
 have hb:IntKind.u64.bits=64:=rfl
 rw[hb]
 have e1:(BitVec.ofInt 64 ((a:Int)*256)|||BitVec.ofInt 64 (b:Int)).toNat=a*256+b:=by
  have h1:((a:Int)*256)=((a*256:Nat):Int):=by omega
  rw[h1,BitVec.ofInt_natCast,BitVec.ofInt_natCast,BitVec.toNat_or,BitVec.toNat_ofNat,BitVec.toNat_ofNat]
  rw[Nat.mod_eq_of_lt (by omega),Nat.mod_eq_of_lt (by omega)]
  have:=Nat.shiftLeft_add_eq_or_of_lt (i:=8) (b:=b) (by omega) a
  rw[Nat.shiftLeft_eq]at this
  exact this.symm
 rw[e1,zxO (by omega) (by omega)]
 omega
theorem zf1 {l:List Int} {i:Nat} (hi:i<l.length) (h:∀c∈l,zaN c):zaN (l.getD i 0):=by
 rw[List.getD_eq_getElem?_getD,List.getElem?_eq_getElem hi];exact h _ (List.getElem_mem hi)
theorem zsL {l:List Int} {i:Nat} (hi:i<l.length):ziu (l.take (i+1))=ziu (l.take i)*256+l.getD i 0:=by
 rw[List.take_succ_eq_append_getElem hi,zsK,List.getD_eq_getElem?_getD,List.getElem?_eq_getElem hi];rfl
set_option maxHeartbeats 1000000 in
theorem zvr (n:Nat) (ds:List D) (p:Nat) (c:List Int) (hl:ds.length=n) (hn:n<2^62) (hp:p+8≤n) (hat:(ds.drop p).take 8=zad c) (hc8:c.length=8) (hc:∀x∈c,zaN x):
  CallOK Tryz.prog 139 [.f (asl n ds), .f (ai p)] (fun r o=>r=(if ziu c<4611686018427387904 then [ri (ziu c),ri ((p+8:Nat):Int),ri 0]else [ri 0,ri 0,ri 4])∧o=[]):=by
 refine zbz zcI mixed (T:=Ty) Tryz.func139 rfl Tryz.results139 Tryz.ntmps139 Tryz.call139 Tryz.call174 (ks:=[4,5,6]) rfl rfl rfl rfl rfl rfl (by decide) (by decide)
  (xs:=[asl n ds,ai p]) zm3 zkI ⟨(asl n ds::ai p::dq2 (.one (.ptr ⟨4,0,0⟩ 0):: .one (.ptr ⟨5,0,0⟩ 0):: .one (.ptr ⟨6,0,0⟩ 0)::zuu [])),[(4,{next:=1,l:=[obq 0 [di 0],none]}),(5,{next:=1,l:=[obq 0 [di 0],none]}),(6,{next:=1,l:=[obq 0 [di 0],none]})]⟩ ?_ ?_ rfl ?_
 ·simp only[List.map_cons,List.map_nil]
  repeat'(first|exact zC|refine zq0 ?_|(apply zaa<;>intro hb)|(apply I;exact zI)|(apply I<;>intro hg))
  exact fun _ _ _ h=>h
 ·exact⟨⟨_,rfl,rfl,rfl,rfl,rfl⟩,⟨_,rfl,rfl,rfl,rfl,rfl⟩,⟨_,rfl,rfl,rfl,rfl,rfl⟩,trivial⟩
 ·have htk:=zqD n ds p 8 hl hn hp
  rw[hat]at htk
  have hb1:=zhK hc
  rw[hc8]at hb1
  repeat'(first|exact zC|refine zq0 ?_|(apply zaa<;>intro hb)|(apply I;exact zI)|(apply I<;>intro hg))
  refine zj (htk) ?_
  repeat'(first|exact zC|refine zq0 ?_|(apply zaa<;>intro hb)|(apply I;exact zI)|(apply I<;>intro hg))
  refine zit Ty Tryz.prog (τ:=Nat) (fun i=>⟨(dq4 (.one (.ptr ⟨4,0,0⟩ 0):: .one (.ptr ⟨5,0,0⟩ 0):: .one (.ptr ⟨6,0,0⟩ 0)::ptq 7:: .one (.d (.v (.int .u64 (ziu (c.take i)))))::dq6 (asl 8 (zad c)::ai 8::ai i::zw2 []))),[(4,{next:=1,l:=[obq 0 [di 0],none]}),(5,{next:=1,l:=[obq 0 [di 0],none]}),(6,{next:=1,l:=[obq 0 [di 0],none]}),(7,⟨2,[obq 1 [.d (.sl n ds),di ((p+8:Nat):Int)],none,none]⟩)]⟩)
   (fun i=>i≤8) (fun i=>8 - i) 0 (Gh.canon [4,5,6,7] [] [4,5,6] zK rfl rfl) (Nat.zero_le _) ?_
  intro i hi0 K hK
  refine zw ?_
  refine zaa (fun hlt=> ?_) (fun hge=> ?_)
  ·have hi:i<c.length:=by simp at hlt;omega
   have hat2:=zdx hi
   have hw:=zai (i:=i) (n:=8) (by omega) (by omega)
   have hx:=zf1 hi hc
   unfold zaN at hx
   have hbi:=zhK (l:=c.take i) fun x hx=>hc x (List.mem_of_mem_take hx)
   have hli:(c.take i).length=i:=by rw[List.length_take];omega
   rw[hli]at hbi
   have hp8:=zC4 (i:=i) (by omega)
   have w1:min (Int.toNat 8) IntKind.u64.bits=8:=by decide
   have w2:IntKind.u64.wrap (ziu (c.take i)*2^8)=ziu (c.take i)*256:=zxO (by omega) (by omega)
   have w3:IntKind.u64.wrap (c.getD i 0)=c.getD i 0:=zxO (by omega) (by omega)
   have w4:=zzo (u:=ziu (c.take i)) (c:=c.getD i 0) ⟨hbi.1,by omega⟩ ⟨hx.1,by omega⟩
   have w5:=zsL hi
   have w6:¬((8:Int)<0):=by decide
   repeat'(first|(with_reducible first|refine zae _ _ ?_|refine zb8 ?_|refine zb9 ?_)|rw[zbD]|simp only[hat2,zaY,hc8,w1,w2,w3,w4,if_neg w6,zY,Int.reduceEq,Int.reduceBEq,Int.reduceBNe,Nat.reduceSub,Nat.reduceEqDiff,Nat.reduceAdd,Nat.reduceMul,Nat.reduceLeDiff,Nat.reduceLT,Nat.reduceBEq,reduceCtorEq]|refine za1 ?_|refine zaa (fun hb=> ?_) (fun hb=> ?_)|(refine And.intro ?_ ?_;exact zI)|refine And.intro (fun hg=> ?_) (fun hg=> ?_)|exact zC|fail)
   exact hK _ (i+1) (Gh.canon [4,5,6,7] [] [4,5,6] (zk (I hw w5)) rfl rfl) (by omega) (by omega)
  ·have hi:i=8:=by
    have:¬(i:Int)<8:=by simpa using hge
    omega
   subst hi
   have ht:c.take 8=c:=List.take_of_length_le (by omega)
   have w7:IntKind.i64.wrap (ziu c)=ziu c∨¬ziu c<4611686018427387904:=by
    by_cases h:ziu c<4611686018427387904
    ·exact .inl (wrap64 (by omega) (by omega))
    ·exact .inr h
   by_cases hlt:ziu c<4611686018427387904
   ·have h1:decide (ziu c≥4611686018427387904)=false:=by simp;omega
    have w7:IntKind.i64.wrap (ziu c)=ziu c:=wrap64 (by omega) (by omega)
    repeat'(first|(with_reducible first|refine zae _ _ ?_|refine zb8 ?_|refine zb9 ?_)|rw[zbD]|simp only[ht,h1,w7,if_pos hlt,zfO,zY,Int.reduceEq,Int.reduceBEq,Int.reduceBNe,Nat.reduceSub,Nat.reduceEqDiff,Nat.reduceAdd,Nat.reduceMul,Nat.reduceLeDiff,Nat.reduceLT,Nat.reduceBEq,reduceCtorEq]|refine za1 ?_|refine zaa (fun hb=> ?_) (fun hb=> ?_)|(refine And.intro ?_ ?_;exact zI)|refine And.intro (fun hg=> ?_) (fun hg=> ?_)|exact zC|fail)
   ·have h1:decide (ziu c≥4611686018427387904)=true:=by simp;omega
    repeat'(first|(with_reducible first|refine zae _ _ ?_|refine zb8 ?_|refine zb9 ?_)|rw[zbD]|simp only[ht,h1,if_neg hlt,zY,Int.reduceEq,Int.reduceBEq,Int.reduceBNe,Nat.reduceSub,Nat.reduceEqDiff,Nat.reduceAdd,Nat.reduceMul,Nat.reduceLeDiff,Nat.reduceLT,Nat.reduceBEq,reduceCtorEq]|refine za1 ?_|refine zaa (fun hb=> ?_) (fun hb=> ?_)|(refine And.intro ?_ ?_;exact zI)|refine And.intro (fun hg=> ?_) (fun hg=> ?_)|exact zC|fail)
    simp only[zaV,zaW,zaU,za3]
    refine⟨⟨_,rfl⟩,rfl,⟨⟨_,rfl,rfl,rfl,rfl,rfl⟩,⟨_,rfl,rfl,rfl,rfl,rfl⟩,⟨_,rfl,rfl,rfl,rfl,rfl⟩,trivial⟩, ?_⟩
    rw[show znL 35 [4,5,6] (nw3 (.int .i64 0) (ze6 206 4))=⟨(dq4 (.one (.ptr ⟨4,0,0⟩ 0):: .one (.ptr ⟨5,0,0⟩ 0):: .one (.ptr ⟨6,0,0⟩ 0)::zuu [])),[(4,{next:=1,l:=[obq 0 [di 0]]}),(5,{next:=1,l:=[obq 0 [di 0]]}),(6,{next:=1,l:=[obq 0 [di 4]]})]⟩ from rfl]
    first|refine zs0 ?_|exact zt0
theorem zxP (n:Nat) (ds:List D) (p:Int) (hl:ds.length=n) (hn:n<2^62) (hp:i64 p) (h:zcG n p 8=true):
  CallOK Tryz.prog 139 [.f (asl n ds), .f (ai p)] (fun r o=>r=[ri 0,ri 0,ri 2]∧o=[]):=by
 refine zbz zcI mixed (T:=Ty) Tryz.func139 rfl Tryz.results139 Tryz.ntmps139 Tryz.call139 Tryz.call174 (ks:=[4,5,6]) rfl rfl rfl rfl rfl rfl (by decide) (by decide)
  (xs:=[asl n ds,ai p]) zm3 zkI ⟨(asl n ds::ai p::dq2 (.one (.ptr ⟨4,0,0⟩ 0):: .one (.ptr ⟨5,0,0⟩ 0):: .one (.ptr ⟨6,0,0⟩ 0)::zuu [])),[(4,{next:=1,l:=[obq 0 [di 0],none]}),(5,{next:=1,l:=[obq 0 [di 0],none]}),(6,{next:=1,l:=[obq 0 [di 0],none]})]⟩ ?_ ?_ rfl ?_
 ·simp only[List.map_cons,List.map_nil]
  repeat'(first|exact zC|refine zq0 ?_|(apply zaa<;>intro hb)|(apply I;exact zI)|(apply I<;>intro hg))
  exact fun _ _ _ h=>h
 ·exact⟨⟨_,rfl,rfl,rfl,rfl,rfl⟩,⟨_,rfl,rfl,rfl,rfl,rfl⟩,⟨_,rfl,rfl,rfl,rfl,rfl⟩,trivial⟩
 ·have htk:=ziv n ds p 8 hl hn hp h
  repeat'(first|exact zC|refine zq0 ?_|(apply zaa<;>intro hb)|(apply I;exact zI)|(apply I<;>intro hg))
  refine zp (rdr n ds p) (htk) ?_
  simp only[zaV,zaW,zaU,za3]
  refine⟨⟨_,rfl⟩,rfl,⟨⟨_,rfl,rfl,rfl,rfl,rfl⟩,⟨_,rfl,rfl,rfl,rfl,rfl⟩,⟨_,rfl,rfl,rfl,rfl,rfl⟩,trivial⟩, ?_⟩
  rw[show znL 35 [4,5,6] (nw3 (.int .i64 0) (ze6 206 2))=⟨(dq4 (.one (.ptr ⟨4,0,0⟩ 0):: .one (.ptr ⟨5,0,0⟩ 0):: .one (.ptr ⟨6,0,0⟩ 0)::zuu [])),[(4,{next:=1,l:=[obq 0 [di 0]]}),(5,{next:=1,l:=[obq 0 [di 0]]}),(6,{next:=1,l:=[obq 0 [di 2]]})]⟩ from rfl]
  first|refine zs0 ?_|exact zt0
theorem zeV:∀l:List Int,bytesOf (zad l)=some (l.map fun n=>UInt8.ofNat n.toNat)
 |[]=>rfl
 |n::l=>by
  have:=zeV l
  simp only[zad,List.map_cons,bytesOf]at this⊢
  rw[this]
def strOf (c:List Int):ByteArray:=⟨(c.map fun n=>UInt8.ofNat n.toNat).toArray⟩
theorem zxQ (n:Nat) (ds:List D) (p x:Nat) (most:Int) (c:List Int) (rest:List D) (hl:ds.length=n) (hn:n<2^62) (hp:p+1+x≤n) (hat:ds.drop p= .v (.int .u8 (x:Int))::rest) (hx:x≤255) (hm:(x:Int)≤most)
  (hat2:(ds.drop (p+1)).take x=zad c) (hcx:c.length=x):CallOK Tryz.prog 175 [.f (asl n ds), .f (ai p), .f (ai most)] (fun r o=>r=[.one (.d (sD (strOf c))),ri ((p+1+x:Nat):Int),ri 0]∧o=[]):=by
 refine zbz zcI mixed (T:=Ty) Tryz.func175 rfl Tryz.results175 Tryz.ntmps175 Tryz.call175 Tryz.call198 (ks:=[6,7,8]) rfl rfl rfl rfl rfl rfl (by decide) (by decide)
  (xs:=[asl n ds,ai p,ai most]) zf2 zeW ⟨(asl n ds::ai p::ai most::dq3 (.one (.ptr ⟨6,0,0⟩ 0):: .one (.ptr ⟨7,0,0⟩ 0):: .one (.ptr ⟨8,0,0⟩ 0)::znX [])),[(6,{next:=1,l:=[obq 0 [dS .empty],none]}),(7,{next:=1,l:=[obq 0 [di 0],none]}),(8,{next:=1,l:=[obq 0 [di 0],none]})]⟩ ?_ ?_ rfl ?_
 ·simp only[List.map_cons,List.map_nil]
  repeat'(first|exact zC|refine zq0 ?_|(apply zaa<;>intro hb)|(apply I;exact zI)|(apply I<;>intro hg))
  exact fun _ _ _ h=>h
 ·exact⟨⟨_,rfl,rfl,rfl,rfl,rfl⟩,⟨_,rfl,rfl,rfl,rfl,rfl⟩,⟨_,rfl,rfl,rfl,rfl,rfl⟩,trivial⟩
 ·have htk:=zqD n ds p 1 hl hn (by omega)
  rw[hat]at htk
  have htk2:=zqD n ds (p+1) x hl hn (by omega)
  rw[hat2]at htk2
  have hw:IntKind.i64.wrap (x:Int)=(x:Int):=wrap64 (by omega) (by omega)
  have h1:decide ((x:Int)>most)=false:=by simp;omega
  repeat'(first|exact zC|refine zq0 ?_|(apply zaa<;>intro hb)|(apply I;exact zI)|(apply I<;>intro hg))
  refine zj (htk) ?_
  repeat'(first|exact zC|refine zq (I hw h1) ?_|(apply zaa<;>intro hb)|(apply I;exact zI)|(apply I<;>intro hg))
  refine zj (htk2) ?_
  repeat'(first|exact zC|refine zq (I @zeV (I @zaY (I hcx @zfO))) ?_|(apply zaa<;>intro hb)|(apply I;exact zI)|(apply I<;>intro hg))
  rfl
theorem zsM (n:Nat) (ds:List D) (p x:Nat) (most:Int) (rest:List D) (hl:ds.length=n) (hn:n<2^62) (hp:p+1≤n) (hat:ds.drop p= .v (.int .u8 (x:Int))::rest) (hx:x≤255) (hm:¬(x:Int)≤most):
  CallOK Tryz.prog 175 [.f (asl n ds), .f (ai p), .f (ai most)] (fun r o=>r=[.one (.d (sD .empty)),ri 0,ri 3]∧o=[]):=by
 refine zbz zcI mixed (T:=Ty) Tryz.func175 rfl Tryz.results175 Tryz.ntmps175 Tryz.call175 Tryz.call198 (ks:=[6,7,8]) rfl rfl rfl rfl rfl rfl (by decide) (by decide)
  (xs:=[asl n ds,ai p,ai most]) zf2 zeW ⟨(asl n ds::ai p::ai most::dq3 (.one (.ptr ⟨6,0,0⟩ 0):: .one (.ptr ⟨7,0,0⟩ 0):: .one (.ptr ⟨8,0,0⟩ 0)::znX [])),[(6,{next:=1,l:=[obq 0 [dS .empty],none]}),(7,{next:=1,l:=[obq 0 [di 0],none]}),(8,{next:=1,l:=[obq 0 [di 0],none]})]⟩ ?_ ?_ rfl ?_
 ·simp only[List.map_cons,List.map_nil]
  repeat'(first|exact zC|refine zq0 ?_|(apply zaa<;>intro hb)|(apply I;exact zI)|(apply I<;>intro hg))
  exact fun _ _ _ h=>h
 ·exact⟨⟨_,rfl,rfl,rfl,rfl,rfl⟩,⟨_,rfl,rfl,rfl,rfl,rfl⟩,⟨_,rfl,rfl,rfl,rfl,rfl⟩,trivial⟩
 ·have htk:=zqD n ds p 1 hl hn (by omega)
  rw[hat]at htk
  have hw:IntKind.i64.wrap (x:Int)=(x:Int):=wrap64 (by omega) (by omega)
  have h1:decide ((x:Int)>most)=true:=by simp;omega
  repeat'(first|exact zC|refine zq0 ?_|(apply zaa<;>intro hb)|(apply I;exact zI)|(apply I<;>intro hg))
  refine zj (htk) ?_
  repeat'(first|exact zC|refine zq (I hw h1) ?_|(apply zaa<;>intro hb)|(apply I;exact zI)|(apply I<;>intro hg))
  simp only[zaV,zaW,zaU,za3]
  refine⟨⟨_,rfl⟩,rfl,⟨⟨_,rfl,rfl,rfl,rfl,rfl⟩,⟨_,rfl,rfl,rfl,rfl,rfl⟩,⟨_,rfl,rfl,rfl,rfl,rfl⟩,trivial⟩, ?_⟩
  rw[show znL 30 [6,7,8] (nwT (ze6 206 3))=⟨(dq6 (.one (.ptr ⟨6,0,0⟩ 0):: .one (.ptr ⟨7,0,0⟩ 0):: .one (.ptr ⟨8,0,0⟩ 0)::znX [])),[(6,{next:=1,l:=[obq 0 [dS .empty]]}),(7,{next:=1,l:=[obq 0 [di 0]]}),(8,{next:=1,l:=[obq 0 [di 3]]})]⟩ from rfl]
  first|refine zs0 ?_|exact zt0
theorem zvs (n:Nat) (ds:List D) (p most:Int) (hl:ds.length=n) (hn:n<2^62) (hp:i64 p) (h:zcG n p 1=true):
  CallOK Tryz.prog 175 [.f (asl n ds), .f (ai p), .f (ai most)] (fun r o=>r=[.one (.d (sD .empty)),ri 0,ri 2]∧o=[]):=by
 refine zbz zcI mixed (T:=Ty) Tryz.func175 rfl Tryz.results175 Tryz.ntmps175 Tryz.call175 Tryz.call198 (ks:=[6,7,8]) rfl rfl rfl rfl rfl rfl (by decide) (by decide)
  (xs:=[asl n ds,ai p,ai most]) zf2 zeW ⟨(asl n ds::ai p::ai most::dq3 (.one (.ptr ⟨6,0,0⟩ 0):: .one (.ptr ⟨7,0,0⟩ 0):: .one (.ptr ⟨8,0,0⟩ 0)::znX [])),[(6,{next:=1,l:=[obq 0 [dS .empty],none]}),(7,{next:=1,l:=[obq 0 [di 0],none]}),(8,{next:=1,l:=[obq 0 [di 0],none]})]⟩ ?_ ?_ rfl ?_
 ·simp only[List.map_cons,List.map_nil]
  repeat'(first|exact zC|refine zq0 ?_|(apply zaa<;>intro hb)|(apply I;exact zI)|(apply I<;>intro hg))
  exact fun _ _ _ h=>h
 ·exact⟨⟨_,rfl,rfl,rfl,rfl,rfl⟩,⟨_,rfl,rfl,rfl,rfl,rfl⟩,⟨_,rfl,rfl,rfl,rfl,rfl⟩,trivial⟩
 ·have htk:=ziv n ds p 1 hl hn hp h
  repeat'(first|exact zC|refine zq0 ?_|(apply zaa<;>intro hb)|(apply I;exact zI)|(apply I<;>intro hg))
  refine zp (rdr n ds p) (htk) ?_
  simp only[zaV,zaW,zaU,za3]
  refine⟨⟨_,rfl⟩,rfl,⟨⟨_,rfl,rfl,rfl,rfl,rfl⟩,⟨_,rfl,rfl,rfl,rfl,rfl⟩,⟨_,rfl,rfl,rfl,rfl,rfl⟩,trivial⟩, ?_⟩
  rw[show znL 30 [6,7,8] (nwT (ze6 206 2))=⟨(dq6 (.one (.ptr ⟨6,0,0⟩ 0):: .one (.ptr ⟨7,0,0⟩ 0):: .one (.ptr ⟨8,0,0⟩ 0)::znX [])),[(6,{next:=1,l:=[obq 0 [dS .empty]]}),(7,{next:=1,l:=[obq 0 [di 0]]}),(8,{next:=1,l:=[obq 0 [di 2]]})]⟩ from rfl]
  first|refine zs0 ?_|exact zt0
theorem zqC (n:Nat) (ds:List D) (p x:Nat) (most:Int) (rest:List D) (hl:ds.length=n) (hn:n<2^62) (hp:p+1≤n) (hat:ds.drop p= .v (.int .u8 (x:Int))::rest) (hx:x≤255) (hm:(x:Int)≤most)
  (hs:zcG n ((p+1:Nat):Int) x=true):CallOK Tryz.prog 175 [.f (asl n ds), .f (ai p), .f (ai most)] (fun r o=>r=[.one (.d (sD .empty)),ri 0,ri 2]∧o=[]):=by
 refine zbz zcI mixed (T:=Ty) Tryz.func175 rfl Tryz.results175 Tryz.ntmps175 Tryz.call175 Tryz.call198 (ks:=[6,7,8]) rfl rfl rfl rfl rfl rfl (by decide) (by decide)
  (xs:=[asl n ds,ai p,ai most]) zf2 zeW ⟨(asl n ds::ai p::ai most::dq3 (.one (.ptr ⟨6,0,0⟩ 0):: .one (.ptr ⟨7,0,0⟩ 0):: .one (.ptr ⟨8,0,0⟩ 0)::znX [])),[(6,{next:=1,l:=[obq 0 [dS .empty],none]}),(7,{next:=1,l:=[obq 0 [di 0],none]}),(8,{next:=1,l:=[obq 0 [di 0],none]})]⟩ ?_ ?_ rfl ?_
 ·simp only[List.map_cons,List.map_nil]
  repeat'(first|exact zC|refine zq0 ?_|(apply zaa<;>intro hb)|(apply I;exact zI)|(apply I<;>intro hg))
  exact fun _ _ _ h=>h
 ·exact⟨⟨_,rfl,rfl,rfl,rfl,rfl⟩,⟨_,rfl,rfl,rfl,rfl,rfl⟩,⟨_,rfl,rfl,rfl,rfl,rfl⟩,trivial⟩
 ·have htk:=zqD n ds p 1 hl hn (by omega)
  rw[hat]at htk
  have htk2:=ziv n ds ((p+1:Nat):Int) x hl hn (by unfold i64;omega) hs
  have hw:IntKind.i64.wrap (x:Int)=(x:Int):=wrap64 (by omega) (by omega)
  have h1:decide ((x:Int)>most)=false:=by simp;omega
  repeat'(first|exact zC|refine zq0 ?_|(apply zaa<;>intro hb)|(apply I;exact zI)|(apply I<;>intro hg))
  refine zj (htk) ?_
  repeat'(first|exact zC|refine zq (I hw h1) ?_|(apply zaa<;>intro hb)|(apply I;exact zI)|(apply I<;>intro hg))
  refine zp (rdr n ds p) (htk2) ?_
  simp only[zaV,zaW,zaU,za3]
  refine⟨⟨_,rfl⟩,rfl,⟨⟨_,rfl,rfl,rfl,rfl,rfl⟩,⟨_,rfl,rfl,rfl,rfl,rfl⟩,⟨_,rfl,rfl,rfl,rfl,rfl⟩,trivial⟩, ?_⟩
  rw[show znL 30 [6,7,8] (nwT (ze6 206 2))=⟨(dq6 (.one (.ptr ⟨6,0,0⟩ 0):: .one (.ptr ⟨7,0,0⟩ 0):: .one (.ptr ⟨8,0,0⟩ 0)::znX [])),[(6,{next:=1,l:=[obq 0 [dS .empty]]}),(7,{next:=1,l:=[obq 0 [di 0]]}),(8,{next:=1,l:=[obq 0 [di 2]]})]⟩ from rfl]
  first|refine zs0 ?_|exact zt0
def zbT (bs:List Int) (p:Int):Int×Int×Int:=if zcG bs.length p 1=true then(0,0,2)else(bs.getD p.toNat 0,p+1,0)
def zfZ (bs:List Int) (p:Int):Int×Int×Int:=
 if zcG bs.length p 8=true then(0,0,2)else if ziu ((bs.drop p.toNat).take 8)<4611686018427387904 then(ziu ((bs.drop p.toNat).take 8),p+8,0)else(0,0,4)
def zcE (bs:List Int) (p most:Int):ByteArray×Int×Int:=
 if zcG bs.length p 1=true then(.empty,0,2)else if¬bs.getD p.toNat 0≤most then(.empty,0,3)else
 if zcG bs.length (p+1) (bs.getD p.toNat 0)=true then(.empty,0,2)else(strOf ((bs.drop (p.toNat+1)).take (bs.getD p.toNat 0).toNat),p+1+bs.getD p.toNat 0,0)
theorem zdL {n:Nat} {p k:Int} (h:zcG n p k=false):0≤p∧p≤n∧k≤n - p:=by
 unfold zcG at h
 simp at h
 omega
structure BsOk (bs:List Int):Prop where
 l:bs.length<2^60
 b:∀x∈bs,zaN x
theorem zds (bs:List Int) (p:Int) (h:BsOk bs) (hp:i64 p):CallOK Tryz.prog 138 [.f (asl bs.length (zad bs)), .f (ai p)] (fun r o=>r=[ri (zbT bs p).1,ri (zbT bs p).2.1,ri (zbT bs p).2.2]∧o=[]):=by
 have hl:=h.l
 cases hs:zcG bs.length p 1
 ·obtain⟨h1,h2,h3⟩:=zdL hs
  obtain⟨q,rfl⟩:=Int.eq_ofNat_of_zero_le h1
  have hq:q<bs.length:=by omega
  have hb:=zf1 hq h.b
  unfold zaN at hb
  rw[zbT,if_neg (by rw[hs];simp)]
  have:=zxN bs.length (zad bs) q (bs.getD q 0) _ zaY (by omega) hq (zdx hq) ⟨hb.1,by omega⟩
  simpa using this
 ·rw[zbT,if_pos hs]
  exact zvq bs.length (zad bs) p zaY (by omega) hp hs
theorem zeU (bs:List Int) (p:Int) (h:BsOk bs) (hp:i64 p):CallOK Tryz.prog 139 [.f (asl bs.length (zad bs)), .f (ai p)] (fun r o=>r=[ri (zfZ bs p).1,ri (zfZ bs p).2.1,ri (zfZ bs p).2.2]∧o=[]):=by
 have hl:=h.l
 cases hs:zcG bs.length p 8
 ·obtain⟨h1,h2,h3⟩:=zdL hs
  obtain⟨q,rfl⟩:=Int.eq_ofNat_of_zero_le h1
  rw[zfZ,if_neg (by rw[hs];simp)]
  have:=zvr bs.length (zad bs) q ((bs.drop q).take 8) zaY (by omega) (by omega) (by rw[←List.map_drop,←List.map_take]) (by rw[List.length_take,List.length_drop];omega) (fun x hx=>h.b x (List.mem_of_mem_drop (List.mem_of_mem_take hx)))
  simp only[Int.toNat_natCast]
  split
  ·rename_i hv
   rw[if_pos hv]at this
   exact this
  ·rename_i hv
   rw[if_neg hv]at this
   exact this
 ·rw[zfZ,if_pos hs]
  exact zxP bs.length (zad bs) p zaY (by omega) hp hs
theorem zha (bs:List Int) (p most:Int) (h:BsOk bs) (hp:i64 p):CallOK Tryz.prog 175 [.f (asl bs.length (zad bs)), .f (ai p), .f (ai most)] (fun r o=>r=[.one (.d (sD (zcE bs p most).1)),ri (zcE bs p most).2.1,ri (zcE bs p most).2.2]∧o=[]):=by
 have hl:=h.l
 cases hs:zcG bs.length p 1
 ·obtain⟨h1,h2,h3⟩:=zdL hs
  obtain⟨q,rfl⟩:=Int.eq_ofNat_of_zero_le h1
  have hq:q<bs.length:=by omega
  have hb:=zf1 hq h.b
  unfold zaN at hb
  obtain⟨x,hx⟩:=Int.eq_ofNat_of_zero_le hb.1
  have hat:=zdx hq
  rw[hx]at hat
  rw[zcE,if_neg (by rw[hs];simp)]
  simp only[Int.toNat_natCast,hx]
  by_cases hm:(x:Int)≤most
  ·rw[if_neg (by simpa using hm)]
   cases hs2:zcG bs.length ((q:Int)+1) (x:Int)
   ·obtain⟨h4,h5,h6⟩:=zdL hs2
    rw[if_neg (by simp)]
    have:=zxQ bs.length (zad bs) q x most ((bs.drop (q+1)).take x) _ zaY (by omega) (by omega) hat (by omega) hm (by rw[←List.map_drop,←List.map_take]) (by rw[List.length_take,List.length_drop];omega)
    simpa using this
   ·rw[if_pos rfl]
    exact zqC bs.length (zad bs) q x most _ zaY (by omega) (by omega) hat (by omega) hm (by simpa using hs2)
  ·rw[if_pos (by simpa using hm)]
   exact zsM bs.length (zad bs) q x most _ zaY (by omega) (by omega) hat (by omega) hm
 ·rw[zcE,if_pos hs]
  exact zvs bs.length (zad bs) p most zaY (by omega) hp hs
theorem zdU {bs:List Int} {p:Int}:0≤(zbT bs p).2.1∧(zbT bs p).2.1≤bs.length:=by
 unfold zbT
 cases hs:zcG bs.length p 1
 ·obtain⟨h1,h2,h3⟩:=zdL hs
  rw[if_neg (by simp)];simp only;omega
 ·rw[if_pos rfl];simp only;omega
theorem zfC {bs:List Int} {p:Int}:0≤(zfZ bs p).2.1∧(zfZ bs p).2.1≤bs.length:=by
 unfold zfZ
 cases hs:zcG bs.length p 8
 ·obtain⟨h1,h2,h3⟩:=zdL hs
  rw[if_neg (by simp)]
  split
  ·simp only;omega
  ·simp only;omega
 ·rw[if_pos rfl];simp only;omega
theorem zkF {bs:List Int} {p most:Int} (h:BsOk bs):0≤(zcE bs p most).2.1∧(zcE bs p most).2.1≤bs.length:=by
 unfold zcE
 cases hs:zcG bs.length p 1
 ·obtain⟨h1,h2,h3⟩:=zdL hs
  rw[if_neg (by simp)]
  have hb:=zf1 (i:=p.toNat) (by omega) h.b
  unfold zaN at hb
  split
  ·simp only;omega
  ·cases hs2:zcG bs.length (p+1) (bs.getD p.toNat 0)
   ·obtain⟨h4,h5,h6⟩:=zdL hs2
    rw[if_neg (by simp)];simp only;omega
   ·rw[if_pos rfl];simp only;omega
 ·rw[if_pos rfl];simp only;omega
def zcr (bs:List Int):Nat→Int→List Grant→List Grant×Int×Int
 |0,p,acc=>(acc,p,0)
 |k+1,p,acc=>
  if(zcE bs p 12).2.2≠0 then([],0,(zcE bs p 12).2.2)else
  if(zfZ bs (zcE bs p 12).2.1).2.2≠0 then([],0,(zfZ bs (zcE bs p 12).2.1).2.2)else
  zcr bs k (zfZ bs (zcE bs p 12).2.1).2.1 (acc++[⟨(zcE bs p 12).1,(zfZ bs (zcE bs p 12).2.1).1⟩])
abbrev zz8 (l:List Grant):RF:= .one (.own 2 l.length (zaE l) false)
theorem ze5 {n:Nat} (hn:n<2^60) {p:Int} (h:0≤p∧p≤n):i64 p:=by unfold i64;omega
set_option maxHeartbeats 1000000 in
theorem zsJ (bs:List Int) (p:Int) (n:Nat) (h:BsOk bs) (hp:i64 p) (hn:n<2^20):
  CallOK Tryz.prog 176 [.f (asl bs.length (zad bs)), .f (ai p), .f (ai n)] (fun r o=>r=[zz8 (zcr bs n p []).1,ri (zcr bs n p []).2.1,ri (zcr bs n p []).2.2]∧o=[]):=by
 refine CallOK.nil ?_
 refine zh Tryz.func176 Tryz.results176 Tryz.ntmps176 Tryz.call176 ?_
 simp only[Tryz.f176,Option.getD]
 repeat'(first|exact zC|refine zq0 ?_|(apply zaa<;>intro hb)|(apply I;exact zI)|(apply I<;>intro hg))
 refine zaf (τ:=Nat×Int×List Grant) (fun t=>⟨(asl bs.length (zad bs)::ai t.2.1::dq7 (.one (.own ⟨9,1,1⟩ 0 t.2.2.length)::dq2 (ai n::ai t.1::zyU []))),[(9,⟨2,[none,roq 1 2 (zaE t.2.2)]⟩),(6,⟨2,[]⟩),(10,⟨2,[]⟩),(40,⟨2,[]⟩),(41,⟨2,[]⟩)]⟩)
  (fun t=>t.1≤n∧i64 t.2.1∧t.2.2.length=t.1) (fun t=>zcr bs (n - t.1) t.2.1 t.2.2) (fun t=>n - t.1) (0,p,[])
  ((Gh.nil (i:=9) (s:=9) (sz:=2) rfl).trans (Gh.canon [9] [6,10,40,41] [] zK rfl rfl)) ⟨Nat.zero_le _,hp,rfl⟩ ?_
 intro⟨i,q,acc⟩ ⟨hi0,hq,ha⟩ hF K hK
 simp only[Nat.sub_zero]at hi0 hq ha hF hK⊢
 refine zw ?_
 refine zaa (fun hlt=> ?_) (fun hge=> ?_)
 ·have hi:i<n:=by simpa using hlt
  have hw:=zai hi (by omega)
  have ht:=zha bs q 12 h hq
  have hm:=zeU bs (zcE bs q 12).2.1 h (ze5 h.l (zkF h))
  have hst:n - i=(n - (i+1))+1:=by omega
  rw[hst,zcr]at hF
  have hle:(acc.length+1≤2^47)=True:=eq_true (by omega)
  cases e1:((zcE bs q 12).2.2 !=0)
  ·have e1':(zcE bs q 12).2.2=0:=by simpa using e1
   rw[if_neg (by simp[e1'])]at hF
   cases e2:((zfZ bs (zcE bs q 12).2.1).2.2 !=0)
   ·have e2':(zfZ bs (zcE bs q 12).2.1).2.2=0:=by simpa using e2
    rw[if_neg (by simp[e2'])]at hF
    repeat'(first|exact zC|refine zq (I e1 (I e2 hle)) ?_|refine zx (ht) ?_|refine zx (hm) ?_|(apply zaa<;>intro hb)|(apply I;exact zI)|(apply I<;>intro hg))
    refine hK _ (i+1,(zfZ bs (zcE bs q 12).2.1).2.1,acc++[⟨(zcE bs q 12).1,(zfZ bs (zcE bs q 12).2.1).1⟩]) (Gh.canon [9] [] [] (zk (I hw (I @List.length_append.{0} @List.length_singleton.{0}))) rfl (by simp only[List.length_append,List.length_singleton];rw[zfd];rfl)) ⟨hi,ze5 h.l zfC,by simp only[List.length_append,List.length_singleton];omega⟩ ?_ (by simp only;omega)
    simp only
    rw[hst,zcr,if_neg (by simp[e1']),if_neg (by simp[e2'])]
   ·have e2':(zfZ bs (zcE bs q 12).2.1).2.2≠0:=by simpa using e2
    rw[if_pos e2']at hF
    rw[←hF]
    repeat'(first|exact zC|refine zq (I e1 e2) ?_|refine zx (ht) ?_|refine zx (hm) ?_|(apply zaa<;>intro hb)|(apply I;exact zI)|(apply I<;>intro hg))
    show zaw _ _∧zaw _ _∧zaw _ _∧True
    simp[zaw]
  ·have e1':(zcE bs q 12).2.2≠0:=by simpa using e1
   rw[if_pos e1']at hF
   rw[←hF]
   repeat'(first|exact zC|refine zq e1 ?_|refine zx (ht) ?_|refine zx (hm) ?_|(apply zaa<;>intro hb)|(apply I;exact zI)|(apply I<;>intro hg))
   show zaw _ _∧zaw _ _∧zaw _ _∧True
   simp[zaw]
 ·have hi:i=n:=by
   have:¬(i:Int)<n:=by simpa using hge
   omega
  rw[hi,Nat.sub_self,zcr]at hF
  rw[←hF]
  repeat'(first|exact zC|refine zq0 ?_|(apply zaa<;>intro hb)|(apply I;exact zI)|(apply I<;>intro hg))
  show zaw _ _∧zaw _ _∧zaw _ _∧True
  simp[zaw]
abbrev zsG:Reply:=⟨0,0,0,[]⟩
def zgi (bs:List Int) (p:Int):Reply×Int×Int:=
 if(zbT bs p).2.2≠0 then(zsG,0,(zbT bs p).2.2)else
 let s:=zfZ bs (zbT bs p).2.1
 if s.2.2≠0 then(zsG,0,s.2.2)else
 let a:=zbT bs s.2.1
 if a.2.2≠0 then(zsG,0,a.2.2)else
 let n:=zbT bs a.2.1
 if n.2.2≠0 then(zsG,0,n.2.2)else
 if n.1>4 then(zsG,0,4)else
 let g:=zcr bs n.1.toNat n.2.1 []
 if g.2.2≠0 then(zsG,0,g.2.2)else
 if zbU ⟨(zbT bs p).1,s.1,a.1,g.1⟩=false then(zsG,0,4)else(⟨(zbT bs p).1,s.1,a.1,g.1⟩,g.2.1,0)
theorem zji {bs:List Int} (h:BsOk bs) {p:Int}:zaN (zbT bs p).1:=by
 unfold zbT
 cases hs:zcG bs.length p 1
 ·obtain⟨h1,h2,h3⟩:=zdL hs
  rw[if_neg (by simp)]
  exact zf1 (by omega) h.b
 ·rw[if_pos rfl];exact⟨by decide,by decide⟩
theorem zkE {bs:List Int} {p most:Int}:(zcE bs p most).1.size≤bs.length:=by
 unfold zcE
 split
 ·simp
 ·split
  ·simp
  ·split
   ·simp
   ·simp only[strOf,ByteArray.size,List.size_toArray,List.length_map,List.length_take,List.length_drop]
    omega
theorem zhI {bs:List Int}:∀{n:Nat} {p:Int} {acc:List Grant},(∀g∈acc,g.name.size≤bs.length)→(zcr bs n p acc).1.length≤acc.length+n∧∀g∈(zcr bs n p acc).1,g.name.size≤bs.length
 |0,p,acc,h=>⟨Nat.le_refl _,h⟩
 |n+1,p,acc,h=>by
  rw[zcr]
  split
  ·exact⟨Nat.zero_le _,by simp⟩
  ·split
   ·exact⟨Nat.zero_le _,by simp⟩
   ·have:=zhI (bs:=bs) (n:=n) (p:=(zfZ bs (zcE bs p 12).2.1).2.1) (acc:=acc++[⟨(zcE bs p 12).1,(zfZ bs (zcE bs p 12).2.1).1⟩]) (fun g hg=>by
     rcases List.mem_append.1 hg with hg|hg
     ·exact h g hg
     ·simp at hg;subst hg;exact zkE)
    rw[List.length_append,List.length_singleton]at this
    exact⟨by omega,this.2⟩
set_option maxHeartbeats 1000000 in
theorem zok (bs:List Int) (p:Int) (h:BsOk bs) (hp:i64 p):
  CallOK Tryz.prog 141 [.f (asl bs.length (zad bs)), .f (ai p)] (fun r o=>r=[ztt (zgi bs p).1,ri (zgi bs p).2.1,ri (zgi bs p).2.2]∧o=[]):=by
 refine CallOK.nil ?_
 refine zh Tryz.func141 Tryz.results141 Tryz.ntmps141 Tryz.call141 ?_
 simp only[Tryz.f141,Option.getD]
 have hl:=h.l
 have h1:=zds bs p h hp
 have h2:=zeU bs (zbT bs p).2.1 h (ze5 h.l zdU)
 have h3:=zds bs (zfZ bs (zbT bs p).2.1).2.1 h (ze5 h.l zfC)
 have h4:=zds bs (zbT bs (zfZ bs (zbT bs p).2.1).2.1).2.1 h (ze5 h.l zdU)
 unfold zgi
 simp only
 obtain⟨b,hb⟩:∃b,b=zbT bs p:=⟨_,rfl⟩
 rw[←hb]at h1 h2 h3 h4⊢
 obtain⟨s,hs⟩:∃s,s=zfZ bs b.2.1:=⟨_,rfl⟩
 rw[←hs]at h2 h3 h4⊢
 obtain⟨a,ha⟩:∃a,a=zbT bs s.2.1:=⟨_,rfl⟩
 rw[←ha]at h3 h4⊢
 obtain⟨n,hn⟩:∃n,n=zbT bs a.2.1:=⟨_,rfl⟩
 rw[←hn]at h4⊢
 have hnv:zaN n.1:=by rw[hn];exact zji h
 have hnn:i64 n.2.1:=by rw[hn];exact ze5 h.l zdU
 have hbv:zaN b.1:=by rw[hb];exact zji h
 unfold zaN at hnv hbv
 have h5:=zsJ bs n.2.1 n.1.toNat h hnn (by omega)
 rw[Int.toNat_of_nonneg hnv.1]at h5
 have hgk:=zhI (bs:=bs) (n:=n.1.toNat) (p:=n.2.1) (acc:=[]) (by simp)
 obtain⟨g,hg⟩:∃g,g=zcr bs n.1.toNat n.2.1 []:=⟨_,rfl⟩
 rw[←hg]at h5 hgk⊢
 have h6:=zgA ⟨b.1,s.1,a.1,g.1⟩ ⟨by have:=hgk.1;simp only[List.length_nil]at this;simp only;omega,fun x hx=>by have:=hgk.2 x hx;omega⟩
 clear hgk
 cases e1:(b.2.2 !=0)
 ·rw[if_neg (by simpa using e1)]
  cases e2:(s.2.2 !=0)
  ·rw[if_neg (by simpa using e2)]
   cases e3:(a.2.2 !=0)
   ·rw[if_neg (by simpa using e3)]
    cases e4:(n.2.2 !=0)
    ·rw[if_neg (by simpa using e4)]
     cases e5:decide (n.1>4)
     ·rw[if_neg (by simpa using e5)]
      cases e6:(g.2.2 !=0)
      ·rw[if_neg (by simpa using e6)]
       cases e7:zbU ⟨b.1,s.1,a.1,g.1⟩
       ·rw[e7]at h6
        rw[if_pos rfl]
        repeat'(first|exact zC|refine zq (I e1 (I e2 (I e3 (I e4 (I e5 e6))))) ?_|refine zx (h1) ?_|refine zx (h2) ?_|refine zx (h3) ?_|refine zx (h4) ?_|refine zx (h5) ?_|refine zx (h6) ?_|(apply zaa<;>intro hb)|(apply I;exact zI)|(apply I<;>intro hg))
        show(zaw _ _∧zaw _ _∧zaw _ _∧zaw _ _∧True)∧zaw _ _∧zaw _ _∧True
        simp[zaw, -List.length_flatMap,zaq]
       ·rw[e7]at h6
        rw[if_neg (by simp)]
        repeat'(first|exact zC|refine zq (I e1 (I e2 (I e3 (I e4 (I e5 e6))))) ?_|refine zx (h1) ?_|refine zx (h2) ?_|refine zx (h3) ?_|refine zx (h4) ?_|refine zx (h5) ?_|refine zx (h6) ?_|(apply zaa<;>intro hb)|(apply I;exact zI)|(apply I<;>intro hg))
        show(zaw _ _∧zaw _ _∧zaw _ _∧zaw _ _∧True)∧zaw _ _∧zaw _ _∧True
        simp[zaw, -List.length_flatMap,zaq]
      ·rw[if_pos (by simpa using e6)]
       repeat'(first|exact zC|refine zq (I e1 (I e2 (I e3 (I e4 (I e5 e6))))) ?_|refine zx (h1) ?_|refine zx (h2) ?_|refine zx (h3) ?_|refine zx (h4) ?_|refine zx (h5) ?_|(apply zaa<;>intro hb)|(apply I;exact zI)|(apply I<;>intro hg))
       show(zaw _ _∧zaw _ _∧zaw _ _∧zaw _ _∧True)∧zaw _ _∧zaw _ _∧True
       simp[zaw, -List.length_flatMap,zaq]
     ·rw[if_pos (by simpa using e5)]
      repeat'(first|exact zC|refine zq (I e1 (I e2 (I e3 (I e4 e5)))) ?_|refine zx (h1) ?_|refine zx (h2) ?_|refine zx (h3) ?_|refine zx (h4) ?_|(apply zaa<;>intro hb)|(apply I;exact zI)|(apply I<;>intro hg))
      show(zaw _ _∧zaw _ _∧zaw _ _∧zaw _ _∧True)∧zaw _ _∧zaw _ _∧True
      simp[zaw, -List.length_flatMap,zaq]
    ·rw[if_pos (by simpa using e4)]
     repeat'(first|exact zC|refine zq (I e1 (I e2 (I e3 e4))) ?_|refine zx (h1) ?_|refine zx (h2) ?_|refine zx (h3) ?_|refine zx (h4) ?_|(apply zaa<;>intro hb)|(apply I;exact zI)|(apply I<;>intro hg))
     show(zaw _ _∧zaw _ _∧zaw _ _∧zaw _ _∧True)∧zaw _ _∧zaw _ _∧True
     simp[zaw, -List.length_flatMap,zaq]
   ·rw[if_pos (by simpa using e3)]
    repeat'(first|exact zC|refine zq (I e1 (I e2 e3)) ?_|refine zx (h1) ?_|refine zx (h2) ?_|refine zx (h3) ?_|(apply zaa<;>intro hb)|(apply I;exact zI)|(apply I<;>intro hg))
    show(zaw _ _∧zaw _ _∧zaw _ _∧zaw _ _∧True)∧zaw _ _∧zaw _ _∧True
    simp[zaw, -List.length_flatMap,zaq]
  ·rw[if_pos (by simpa using e2)]
   repeat'(first|exact zC|refine zq (I e1 e2) ?_|refine zx (h1) ?_|refine zx (h2) ?_|(apply zaa<;>intro hb)|(apply I;exact zI)|(apply I<;>intro hg))
   show(zaw _ _∧zaw _ _∧zaw _ _∧zaw _ _∧True)∧zaw _ _∧zaw _ _∧True
   simp[zaw, -List.length_flatMap,zaq]
 ·rw[if_pos (by simpa using e1)]
  repeat'(first|exact zC|refine zq e1 ?_|refine zx (h1) ?_|(apply zaa<;>intro hb)|(apply I;exact zI)|(apply I<;>intro hg))
  show(zaw _ _∧zaw _ _∧zaw _ _∧zaw _ _∧True)∧zaw _ _∧zaw _ _∧True
  simp[zaw, -List.length_flatMap,zaq]
abbrev zsH:Memo:=⟨0,0,zsG⟩
def zhJ (bs:List Int) (p:Int):Memo×Int×Int:=
 if(zbT bs p).2.2≠0 then(zsH,0,(zbT bs p).2.2)else
 let s:=zfZ bs (zbT bs p).2.1
 if s.2.2≠0 then(zsH,0,s.2.2)else
 let r:=zgi bs s.2.1
 if r.2.2≠0 then(zsH,0,r.2.2)else
 if answerB ⟨(zbT bs p).1,s.1,r.1⟩=false then(zsH,0,4)else(⟨(zbT bs p).1,s.1,r.1⟩,r.2.1,0)
abbrev zsI (m:Memo):RF:= .agg (m.enc.map RO.d)
theorem zh5 {bs:List Int}:∀{n:Nat} {p:Int} {acc:List Grant},0≤p∧p≤bs.length→0≤(zcr bs n p acc).2.1∧(zcr bs n p acc).2.1≤bs.length
 |0,p,acc,h=>h
 |n+1,p,acc,h=>by
  rw[zcr]
  split
  ·simp only;omega
  ·split
   ·simp only;omega
   ·exact zh5 zfC
theorem zh6 {bs:List Int} (h:BsOk bs) {p:Int}:(0≤(zgi bs p).2.1∧(zgi bs p).2.1≤bs.length)∧zcf (zgi bs p).1:=by
 have hl:=h.l
 have h0:(0≤((zsG,(0:Int),(0:Int)):Reply×Int×Int).2.1∧((zsG,(0:Int),(0:Int)):Reply×Int×Int).2.1≤bs.length)∧zcf zsG:=⟨by simp only;omega,by simp,by simp⟩
 unfold zgi
 simp only
 split
 ·exact h0
 split
 ·exact h0
 split
 ·exact h0
 split
 ·exact h0
 split
 ·exact h0
 rename_i h5
 split
 ·exact h0
 split
 ·exact h0
 ·have hgk:=zhI (bs:=bs) (n:=(zbT bs (zbT bs (zfZ bs (zbT bs p).2.1).2.1).2.1).1.toNat) (p:=(zbT bs (zbT bs (zfZ bs (zbT bs p).2.1).2.1).2.1).2.1) (acc:=[]) (by simp)
  simp only[List.length_nil]at hgk
  exact⟨zh5 zdU,by simp only;omega,fun g hg=>by have:=hgk.2 g hg;omega⟩
set_option maxHeartbeats 1000000 in
theorem zfB (bs:List Int) (p:Int) (h:BsOk bs) (hp:i64 p):
  CallOK Tryz.prog 91 [.f (asl bs.length (zad bs)), .f (ai p)] (fun r o=>r=[zsI (zhJ bs p).1,ri (zhJ bs p).2.1,ri (zhJ bs p).2.2]∧o=[]):=by
 refine CallOK.nil ?_
 refine zh Tryz.func91 Tryz.results91 Tryz.ntmps91 Tryz.call91 ?_
 simp only[Tryz.f91,Option.getD]
 have h1:=zds bs p h hp
 have h2:=zeU bs (zbT bs p).2.1 h (ze5 h.l zdU)
 have h3:=zok bs (zfZ bs (zbT bs p).2.1).2.1 h (ze5 h.l zfC)
 have hf:=(zh6 h (p:=(zfZ bs (zbT bs p).2.1).2.1)).2
 unfold zhJ
 simp only
 obtain⟨b,hb⟩:∃b,b=zbT bs p:=⟨_,rfl⟩
 rw[←hb]at h1 h2 h3 hf⊢
 obtain⟨s,hs⟩:∃s,s=zfZ bs b.2.1:=⟨_,rfl⟩
 rw[←hs]at h2 h3 hf⊢
 obtain⟨a,ha⟩:∃a,a=zgi bs s.2.1:=⟨_,rfl⟩
 rw[←ha]at h3 hf⊢
 have h4:=zel ⟨b.1,s.1,a.1⟩ hf
 cases e1:(b.2.2 !=0)
 ·rw[if_neg (by simpa using e1)]
  cases e2:(s.2.2 !=0)
  ·rw[if_neg (by simpa using e2)]
   cases e3:(a.2.2 !=0)
   ·rw[if_neg (by simpa using e3)]
    cases e7:answerB ⟨b.1,s.1,a.1⟩
    ·rw[e7]at h4
     rw[if_pos rfl]
     repeat'(first|exact zC|refine zq (I e1 (I e2 e3)) ?_|refine zx (h1) ?_|refine zx (h2) ?_|refine zx (h3) ?_|refine zx (h4) ?_|(apply zaa<;>intro hb)|(apply I;exact zI)|(apply I<;>intro hg))
     show(zaw _ _∧zaw _ _∧zaw _ _∧zaw _ _∧zaw _ _∧zaw _ _∧True)∧zaw _ _∧zaw _ _∧True
     simp[zaw]
    ·rw[e7]at h4
     rw[if_neg (by simp)]
     repeat'(first|exact zC|refine zq (I e1 (I e2 e3)) ?_|refine zx (h1) ?_|refine zx (h2) ?_|refine zx (h3) ?_|refine zx (h4) ?_|(apply zaa<;>intro hb)|(apply I;exact zI)|(apply I<;>intro hg))
     show(zaw _ _∧zaw _ _∧zaw _ _∧zaw _ _∧zaw _ _∧zaw _ _∧True)∧zaw _ _∧zaw _ _∧True
     simp[zaw]
   ·rw[if_pos (by simpa using e3)]
    repeat'(first|exact zC|refine zq (I e1 (I e2 e3)) ?_|refine zx (h1) ?_|refine zx (h2) ?_|refine zx (h3) ?_|(apply zaa<;>intro hb)|(apply I;exact zI)|(apply I<;>intro hg))
    show(zaw _ _∧zaw _ _∧zaw _ _∧zaw _ _∧zaw _ _∧zaw _ _∧True)∧zaw _ _∧zaw _ _∧True
    simp[zaw]
  ·rw[if_pos (by simpa using e2)]
   repeat'(first|exact zC|refine zq (I e1 e2) ?_|refine zx (h1) ?_|refine zx (h2) ?_|(apply zaa<;>intro hb)|(apply I;exact zI)|(apply I<;>intro hg))
   show(zaw _ _∧zaw _ _∧zaw _ _∧zaw _ _∧zaw _ _∧zaw _ _∧True)∧zaw _ _∧zaw _ _∧True
   simp[zaw]
 ·rw[if_pos (by simpa using e1)]
  repeat'(first|exact zC|refine zq e1 ?_|refine zx (h1) ?_|(apply zaa<;>intro hb)|(apply I;exact zI)|(apply I<;>intro hg))
  show(zaw _ _∧zaw _ _∧zaw _ _∧zaw _ _∧zaw _ _∧zaw _ _∧True)∧zaw _ _∧zaw _ _∧True
  simp[zaw]
end Go.Proofs.YtliimajkpggbhaaGreat
