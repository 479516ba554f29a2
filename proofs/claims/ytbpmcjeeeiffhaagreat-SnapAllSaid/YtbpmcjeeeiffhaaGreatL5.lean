import Derived.Test.YtbpmcjeeeiffhaaGreatK8
import Derived.Test.YtbpmcjeeeiffhaaGreatVI
namespace Go.Proofs.YtbpmcjeeeiffhaaGreat
open Go.Pk
set_option maxRecDepth 100000
set_option linter.unusedSimpArgs false
set_option linter.unusedVariables false
abbrev zab (l:List Int):List D:=l.map uD
def zeC (v:Int) (k:Nat):Int:=IntKind.u8.wrap (v.fdiv (2^(8*(7 - k))))
def zaX (v:Int):List Int:=(List.range 8).map (zeC v)
abbrev zue (v:Int) (i:Nat):List D:=(List.range 8).map fun k=>uD (if k<i then zeC v k else 0)
theorem zcU {v:Int} (h0:0≤v) (h1:v≤255):IntKind.u8.wrap v=v:=by
 have e:IntKind.u8.wrap v=v % 256:=by
  unfold IntKind.wrap
  simp[IntKind.bits,IntKind.signed]
 rw[e]
 omega
theorem zrh (v:Int) (i:Nat) (hi:i<8):(zue v i).set i (uD (zeC v i))=zue v (i+1):=by
 apply List.ext_getElem
 ·simp
 ·intro k h1 h2
  simp only[List.length_set,List.length_map,List.length_range]at h1
  rw[List.getElem_set]
  simp only[List.getElem_map,List.getElem_range]
  split
  ·rename_i e;subst e;rw[if_pos (by omega)]
  ·rename_i e
   by_cases h:k<i
   ·rw[if_pos h,if_pos (by omega)]
   ·rw[if_neg h,if_neg (by omega)]
theorem zga (v:Int) (h:0≤v∧v<4611686018427387904):CallOK Tryz.prog 70 [.f (ai v)] (fun r o=>r=[.one (.own 1 8 (zab (zaX v)) false),ri 0]∧o=[]):=by
 refine zae zam mixed (T:=Ty) (n:=29) Tryz.func70 (c:=Tryz.f70.body.getD .skip) rfl Tryz.results70 Tryz.ntmps70 Tryz.call70 ?_
 simp only[Tryz.f70,Option.getD]
 have h1:decide (v<0)=false:=by simp;omega
 have h2:decide (v≥4611686018427387904)=false:=by simp;omega
 repeat'(first|refine zq (I h1 h2) ?_|exact zd (I h1 h2)|(refine zaa ?_ ?_<;>intro hb)|(refine And.intro ?_ ?_;exact zI)|(refine And.intro ?_ ?_<;>intro hg)|exact zC|fail)
 refine zah (τ:=Nat) (fun i=>⟨[ai v,dd,dd,dd, .one (.own ⟨4,1,1⟩ 0 8),dd,dd,dd,dd,dd,dd,dd,dd,dd,ai 8,ai i,dd,dd,dd,dd,dd,dd,dd,dd,dd,dd,dd,dd,dd],[(12,⟨2,[]⟩),(4,{next:=2,l:=[none,some {e:=1,var:=false,fz:=false,sz:=1,cells:=(zue v i).map C.d}]})]⟩)
  (fun i=>i≤8) (fun _=>()) (fun i=>8 - i) 0
  (Gh.canon [4] [] [] zK rfl rfl) (Nat.zero_le _) ?_
 intro i hi0 hF K hK
 refine zw ?_
 refine zaa (fun hlt=> ?_) (fun hge=> ?_)
 ·have hi:i<8:=by simp at hlt;omega
  have w1:IntKind.i64.wrap (7 - (i:Int))=7 - i:=wrap64 (by omega) (by omega)
  have w2:IntKind.i64.wrap (8*(7 - (i:Int)))=((8*(7 - i):Nat):Int):=by rw[wrap64 (by omega) (by omega)];omega
  have w3:¬(((8*(7 - i):Nat):Int)<0):=by omega
  have w4:min (8*(7 - i)) IntKind.i64.bits=8*(7 - i):=by have:IntKind.i64.bits=64:=rfl;omega
  have hw:IntKind.i64.wrap ((i:Int)+1)=((i+1:Nat):Int):=by rw[wrap64 (by omega) (by omega)];omega
  have hset:((zue v i).map C.d).set i (C.d (D.v (Value.int IntKind.u8 (IntKind.u8.wrap (v.fdiv (2^(8*(7 - i))))))))=(zue v (i+1)).map C.d:=by
   have:=zrh v i hi
   rw[←this,List.map_set];rfl
  have hle:(i+1≤8)=True:=eq_true (by omega)
  repeat'(first|(with_reducible first|refine zac _ _ ?_|refine zaD ?_|refine zaE ?_)|rw[zay]|simp only[w1,w2,if_neg w3,Int.toNat_natCast,w4,hset,List.length_range,hle,zY,Int.reduceEq,Int.reduceBEq,Int.reduceBNe,Nat.reduceSub,Nat.reduceEqDiff,Nat.reduceAdd,Nat.reduceMul,Nat.reduceLeDiff,Nat.reduceLT,Nat.reduceBEq,reduceCtorEq]|refine zat ?_|refine zaa (fun hb=> ?_) (fun hb=> ?_)|(refine And.intro ?_ ?_;exact zI)|refine And.intro (fun hg=> ?_) (fun hg=> ?_)|exact zC|fail)
  exact hK _ (i+1) (Gh.canon [4] [] [] (zk hw) rfl rfl) hi rfl (by omega)
 ·have hi:i=8:=by
   have:¬(i:Int)<8:=by simpa using hge
   omega
  subst hi
  repeat'(first|refine zq0 ?_|exact zd0|(refine zaa ?_ ?_<;>intro hb)|(refine And.intro ?_ ?_;exact zI)|(refine And.intro ?_ ?_<;>intro hg)|exact zC|fail)
  rfl
theorem zcy (s:ByteArray):s.data.toList.length=s.size:=by rw[Array.length_toList];rfl
abbrev zif (s:ByteArray):List D:=s.data.toList.map fun b=>uD b.toNat
def zgS (s:ByteArray):List D:=uD s.size::zif s
theorem zeD (s:ByteArray):(zgS s).length=1+s.size:=by simp[zgS,zcy,Nat.add_comm]
theorem zi0 (s:ByteArray) (h:s.size≤255):CallOK Tryz.prog 33 [.f (ast s)] (fun r o=>r=[.one (.own 1 (1+s.size) (zgS s) false),ri 0]∧o=[]):=by
 refine zae zam mixed (T:=Ty) (n:=13) Tryz.func33 (c:=Tryz.f33.body.getD .skip) rfl Tryz.results33 Tryz.ntmps33 Tryz.call33 ?_
 simp only[Tryz.f33,Option.getD]
 have h1:decide ((s.size:Int)>255)=false:=by simp;omega
 have hw:IntKind.u8.wrap (s.size:Int)=s.size:=zcU (by omega) (by omega)
 have hle:(1+s.size≤2^47)=True:=eq_true (by omega)
 repeat'(first|refine zq (I h1 (I hw (I @zcy hle))) ?_|exact zd (I h1 (I hw (I @zcy hle)))|(refine zaa ?_ ?_<;>intro hb)|(refine And.intro ?_ ?_;exact zI)|(refine And.intro ?_ ?_<;>intro hg)|exact zC|fail)
 rfl
theorem zs1 (n:Nat) (h:n<2^40):CallOK Tryz.prog 69 [.f (.one (.d (.v (.slice none 0 0)))), .f (ai n)] (fun r o=>r=[.one (.own 1 0 (zds [.int .u8 0] n) false)]∧o=[]):=by
 refine ziu zam mixed (T:=Ty) (n:=27) Tryz.func69 (c:=Tryz.f69.body.getD .skip) rfl Tryz.results69 Tryz.ntmps69 Tryz.call69
  (fun _=>⟨(openG 27 [.f (.one (.d (.v (.slice none 0 0)))), .f (ai n)]).v.set 0 (.one (.gap ⟨0,1,0⟩ 0 0 0)),[(0,⟨1,[none,some {e:=0,var:=false,fz:=false,sz:=1,cells:=[]}]⟩)]⟩)
  (fun _=>True) (fun cx a w hh=>⟨0,trivial,Gh.nilG (i:=0) (s:=0) (sz:=1) rfl cx a w hh⟩) ?_
 intro k _
 simp only[Tryz.f69,Option.getD]
 have h1:decide ((n:Int)<0)=false:=by simp
 have hw:IntKind.i64.wrap ((n:Int) - IntKind.i64.wrap (((0:Nat):Int) - ((0:Nat):Int)))=n:=by
  rw[show IntKind.i64.wrap (((0:Nat):Int) - ((0:Nat):Int))=0 from by decide,Int.sub_zero,wrap64 (by omega) (by omega)]
 cases h2:decide ((n:Int)>0)
 ·have:n=0:=by simp at h2;omega
  subst this
  repeat'(first|refine zq (I h1 (I hw h2)) ?_|exact zd (I h1 (I hw h2))|(refine zaa ?_ ?_<;>intro hb)|(refine And.intro ?_ ?_;exact zI)|(refine And.intro ?_ ?_<;>intro hg)|exact zC|fail)
  rfl
 ·have h3:0<n:=by simp at h2;omega
  have hc1:(0≤(n:Int)∧(n:Int)<2^62∧0<n∧n≤2^47)=True:=eq_true (by omega)
  repeat'(first|refine zq (I h1 (I hw (I h2 (I hc1 @Int.toNat_natCast)))) ?_|exact zd (I h1 (I hw (I h2 (I hc1 @Int.toNat_natCast))))|(refine zaa ?_ ?_<;>intro hb)|(refine And.intro ?_ ?_;exact zI)|(refine And.intro ?_ ?_<;>intro hg)|exact zC|fail)
def zs2 (ls:List (List D)) (i:Nat):List D:=if i=0 then zds [.int .u8 0] ls.flatten.length else(ls.take i).flatten
theorem zk8 (ls:List (List D)) (i:Nat):(zs2 ls i).take (ls.take i).flatten.length=(ls.take i).flatten:=by
 unfold zs2
 split
 ·rename_i h;subst h;simp
 ·rw[List.take_length]
theorem zgb {ls:List (List D)} {i:Nat} (hi:i<ls.length):(ls.take (i+1)).flatten=(ls.take i).flatten++ls[i]:=by
 rw[List.take_succ_eq_append_getElem hi,List.flatten_append];simp
theorem zlU {ls:List (List D)} {m:Nat} (hs:∀l∈ls,l.length≤m):∀i,(ls.take i).flatten.length≤i*m
 |0=>by simp
 |i+1=>by
  by_cases hi:i<ls.length
  ·rw[zgb hi,List.length_append]
   have:=zlU hs i
   have:=hs _ (List.getElem_mem hi)
   rw[Nat.add_mul];omega
  ·have h1:ls.take (i+1)=ls:=List.take_of_length_le (by omega)
   have h2:ls.take i=ls:=List.take_of_length_le (by omega)
   rw[h1,←h2]
   have:=zlU hs i
   rw[Nat.add_mul];omega
theorem zpH {ls:List (List D)} {i:Nat} (hi:i<ls.length):zs2 ls (i+1)=(ls.take i).flatten++ls[i]:=by
 unfold zs2
 rw[if_neg (by omega),zgb hi]
theorem zri (ls:List (List D)):zs2 ls ls.length=ls.flatten:=by
 unfold zs2
 cases ls with
 |nil=>rfl
 |cons a l=>rw[if_neg (by simp),List.take_length]
abbrev zpZ (ls:List (List D)):List D:=ls.map fun l=> .sl l.length l
theorem zr4 {ls:List (List D)} {i:Nat} (hi:i<ls.length):(zpZ ls).drop i= .sl ls[i].length ls[i]::zpZ (ls.drop (i+1)):=by
 rw[←List.map_drop,List.drop_eq_getElem_cons hi];rfl
theorem zjW {ls:List (List D)}:(zpZ ls).length=ls.length:=by simp
theorem zh4 (ls:List (List D)) (hl:ls.length<2^10) (hs:∀l∈ls,l.length≤2^12):
  CallOK Tryz.prog 30 [.f (al ls.length (zpZ ls))] (fun r o=>r=[.one (.own 1 ls.flatten.length ls.flatten false)]∧o=[]):=by
 refine zae zam mixed (T:=Ty) (n:=36) Tryz.func30 (c:=Tryz.f30.body.getD .skip) rfl Tryz.results30 Tryz.ntmps30 Tryz.call30 ?_
 simp only[Tryz.f30,Option.getD]
 have hfl:=zlU hs
 repeat'(first|refine zq0 ?_|exact zd0|(refine zaa ?_ ?_<;>intro hb)|(refine And.intro ?_ ?_;exact zI)|(refine And.intro ?_ ?_<;>intro hg)|exact zC|fail)
 refine zah (τ:=Nat) (fun i=>⟨[al ls.length (zpZ ls),dd,dd,ai (ls.take i).flatten.length,dd,dd,dd,dd,dd,al ls.length (zpZ ls),ai ls.length,ai i,dd,dd,dd,dd,dd,dd,dd,dd,dd,dd,dd,dd,dd,dd,dd,dd,dd,dd,dd,dd,dd,dd,dd,dd],[(5,⟨2,[]⟩)]⟩)
  (fun i=>i≤ls.length) (fun _=>()) (fun i=>ls.length - i) 0
  (Gh.canon [] [5] [] (zk (I @List.take_zero.{0} (I @List.flatten_nil.{0} @List.length_nil.{0}))) rfl rfl) (Nat.zero_le _) ?_
 intro i hi0 hF K hK
 refine zw ?_
 refine zaa (fun hlt=> ?_) (fun hge=> ?_)
 ·have hi:i<ls.length:=by simpa using hlt
  have hat:=zr4 hi
  have hw:=zai hi (by omega)
  have hb:=hfl i
  have hb2:=hfl (i+1)
  have hil:i*2^12≤2^10*2^12:=Nat.mul_le_mul_right _ (by omega)
  have hil2:(i+1)*2^12≤2^10*2^12:=Nat.mul_le_mul_right _ (by omega)
  have hfs:(ls.take (i+1)).flatten.length=(ls.take i).flatten.length+ls[i].length:=by rw[zgb hi,List.length_append]
  have hws:IntKind.i64.wrap (((ls.take i).flatten.length:Int)+(ls[i].length:Int))=((ls.take (i+1)).flatten.length:Int):=by rw[wrap64 (by omega) (by omega),hfs];omega
  have hn:decide (((ls.take (i+1)).flatten.length:Int)<0)=false:=by simp
  repeat'(first|refine zq (I hat (I hws (I hn @zjW))) ?_|exact zd (I hat (I hws (I hn @zjW)))|(refine zaa ?_ ?_<;>intro hb)|(refine And.intro ?_ ?_;exact zI)|(refine And.intro ?_ ?_<;>intro hg)|exact zC|fail)
  exact hK _ (i+1) (Gh.canon [] [] [] (zk hw) rfl rfl) hi rfl (by omega)
 ·have hi:i=ls.length:=by
   have:¬(i:Int)<ls.length:=by simpa using hge
   omega
  subst hi
  have hb:=hfl ls.length
  have hil:ls.length*2^12≤2^10*2^12:=Nat.mul_le_mul_right _ (by omega)
  rw[List.take_length]at*
  have hgr:=zs1 ls.flatten.length (by omega)
  clear hK
  repeat'(first|refine zq0 ?_|exact zd0|refine zc (hgr) ?_|refine zg (hgr) ?_|(refine zaa ?_ ?_<;>intro hb)|(refine And.intro ?_ ?_;exact zI)|(refine And.intro ?_ ?_<;>intro hg)|exact zC|fail)
  refine zah (τ:=Nat) (fun i=>⟨[dd,dd,dd,dd,dd,dd, .one (.own ⟨6,1,1⟩ 0 (ls.take i).flatten.length),dd,dd,dd,dd,dd,dd,dd,dd,dd,dd,dd,dd,dd,dd,dd,dd,dd,dd,al ls.length (zpZ ls),ai ls.length,ai i,dd,dd,dd,dd,dd,dd,dd,dd],[(5,⟨2,[]⟩),(24,⟨2,[]⟩),(6,{next:=2,l:=[none,some {e:=1,var:=false,fz:=false,sz:=1,cells:=(zs2 ls i).map C.d}]}),(8,⟨2,[]⟩),(33,⟨2,[]⟩)]⟩)
   (fun i=>i≤ls.length) (fun _=>()) (fun i=>ls.length - i) 0
   (Gh.canon [6] [8,33] [] (zk (I @List.take_zero.{0} (I @List.flatten_nil.{0} @List.length_nil.{0}))) rfl rfl) (Nat.zero_le _) ?_
  intro i hi0 hF K hK
  refine zw ?_
  refine zaa (fun hlt=> ?_) (fun hge=> ?_)
  ·have hi:i<ls.length:=by simpa using hlt
   have hat:=zr4 hi
   have hw:=zai hi (by omega)
   have hb:=hfl i
   have hb2:=hfl (i+1)
   have hil:i*2^12≤2^10*2^12:=Nat.mul_le_mul_right _ (by omega)
   have hil2:(i+1)*2^12≤2^10*2^12:=Nat.mul_le_mul_right _ (by omega)
   have hfs:(ls.take (i+1)).flatten.length=(ls.take i).flatten.length+ls[i].length:=by rw[zgb hi,List.length_append]
   have hle:((ls.take i).flatten.length+ls[i].length≤2^47)=True:=eq_true (by omega)
   repeat'(first|refine zq (I hat (I @zjW (I @zuZ (I @zk8 (I hle @za6))))) ?_|exact zd (I hat (I @zjW (I @zuZ (I @zk8 (I hle @za6)))))|(refine zaa ?_ ?_<;>intro hb)|(refine And.intro ?_ ?_;exact zI)|(refine And.intro ?_ ?_<;>intro hg)|exact zC|fail)
   exact hK _ (i+1) (Gh.canon [6] [] [] (zk (I hw hfs)) rfl (by rw[zpH hi];rfl)) hi rfl (by omega)
  ·have hi:i=ls.length:=by
    have:¬(i:Int)<ls.length:=by simpa using hge
    omega
   subst hi
   repeat'(first|refine zq0 ?_|exact zd0|(refine zaa ?_ ?_<;>intro hb)|(refine And.intro ?_ ?_;exact zI)|(refine And.intro ?_ ?_<;>intro hg)|exact zC|fail)
   rw[List.take_length,zri]
theorem zcg (n:Int):(zab (zaX n)).length=8:=rfl
theorem zdK {l:List Int} {i:Nat} (hi:i<l.length):(zab l).drop i=uD (l.getD i 0)::zab (l.drop (i+1)):=by
 rw[←List.map_drop,List.drop_eq_getElem_cons hi,List.getD_eq_getElem?_getD,List.getElem?_eq_getElem hi];rfl
theorem zaA {l:List Int}:(zab l).length=l.length:=by simp
def codeOf:Value→Value
 | .iface _ (.agg ⟨[c]⟩)=>c
 |_=>undef
abbrev zeB (t:Nat) (n:Int):Value:= .iface t (.agg #[.int .i64 n])
def zh1 (t:Nat) (x:Value):Prop:=∃n,x=zeB t n
def nw3 (z:Value) (x:Value) (k:Nat):List Value:=if k=4 then [z]else if k=5 then [.int .i64 0]else [codeOf x]
def nwT (x:Value) (k:Nat):List Value:=if k=6 then [.string .empty]else if k=7 then [.int .i64 0]else [codeOf x]
def sz3 (_:Nat):Nat:=1
theorem zsZ {l:List Value} (h:l.length=1):∃a,l=[a]:=by
 match l,h with
 |[a],_=>exact⟨a,rfl⟩
theorem cells3 {ks:List Nat} {ls:List (List Value)} (hk:ks.length=3) (h:ls.length=ks.length) (hs:∀(i k:Nat) (l:List Value),ks[i]? =some k→ls[i]? =some l→l.length=sz3 k):∃a b c,ls=[[a],[b],[c]]:=by
 rw[hk]at h
 match ls,h with
 |[x,y,z],_=>
  obtain⟨a,rfl⟩:=zsZ (hs 0 ks[0] x (List.getElem?_eq_getElem (by omega)) rfl)
  obtain⟨b,rfl⟩:=zsZ (hs 1 ks[1] y (List.getElem?_eq_getElem (by omega)) rfl)
  obtain⟨c,rfl⟩:=zsZ (hs 2 ks[2] z (List.getElem?_eq_getElem (by omega)) rfl)
  exact⟨a,b,c,rfl⟩
theorem zh2 {P:Program} {t:Nat} {z:Value} (h:(P.info? t).bind (·.zero)=some z) (w:World):(zeroValue t).run P w= .ok z w:=by
 cases hi:P.info? t with
 |none=>rw[hi]at h;cases h
 |some i=>rw[hi]at h;simp[zeroValue,typeInfo,hi,show i.zero=some z from h]
theorem zgA:(Tryz.prog.info? 170).bind (·.zero)=some (.agg #[.int .i64 0]):=by kernel_rfl
theorem zh3:zhx Tryz.prog 175 [4,5,6] sz3 (nw3 (.int .i64 0)) (zh1 170):=by
 refine zeb zam mixed (T:=Ty) Tryz.func175 rfl rfl Tryz.ntmps175 rfl rfl rfl rfl rfl rfl rfl (by decide) (by decide) (by decide) ?_
 rintro x ⟨n,rfl⟩ ls hl hs
 obtain⟨a,b,c,rfl⟩:=cells3 rfl hl hs
 refine⟨.tuple #[.agg #[.int .i64 n], .bool true], .tup [.agg [di n],ab true], ?_, ?_,rfl, ?_⟩
 ·intro w
  simp[Instr.typeAssert,Tryz.underlying170]
 ·intro cx w r β
  simp[ReA,ReAs,ReC,ReCs,Rd,flat]
 ·simp only[za5,plainO,List.map_cons,List.map_nil]
  first|refine zs0 ?_|exact zt0
  repeat'(first|refine zq0 ?_|exact zd0|(refine zaa ?_ ?_<;>intro hb)|(refine And.intro ?_ ?_;exact zI)|(refine And.intro ?_ ?_<;>intro hg)|exact zC|fail)
  rfl
theorem ziY:zlz Tryz.prog 175 3:=by
 refine zc6 zam mixed (T:=Ty) Tryz.func175 rfl rfl Tryz.ntmps175 rfl rfl rfl rfl rfl rfl rfl (by decide) (y7:= .tuple #[.agg #[.int .i64 0], .bool false]) (V7:= .tup [.agg [di 0],ab false]) ?_ ?_ (by decide) rfl ?_
 ·intro w
  simp[Instr.typeAssert,Tryz.underlying170,zh2 (zgA) w]
 ·intro cx w r β
  simp[ReA,ReAs,ReC,ReCs,Rd,flat]
 ·simp only[List.replicate]
  first|refine zs0 ?_|exact zt0
  repeat'(first|refine zq0 ?_|exact zd0|(refine zaa ?_ ?_<;>intro hb)|(refine And.intro ?_ ?_;exact zI)|(refine And.intro ?_ ?_<;>intro hg)|exact zC|fail)
theorem ziZ:zhx Tryz.prog 141 [4,5,6] sz3 (nw3 (.int .i64 0)) (zh1 170):=by
 refine zeb zam mixed (T:=Ty) Tryz.func141 rfl rfl Tryz.ntmps141 rfl rfl rfl rfl rfl rfl rfl (by decide) (by decide) (by decide) ?_
 rintro x ⟨n,rfl⟩ ls hl hs
 obtain⟨a,b,c,rfl⟩:=cells3 rfl hl hs
 refine⟨.tuple #[.agg #[.int .i64 n], .bool true], .tup [.agg [di n],ab true], ?_, ?_,rfl, ?_⟩
 ·intro w
  simp[Instr.typeAssert,Tryz.underlying170]
 ·intro cx w r β
  simp[ReA,ReAs,ReC,ReCs,Rd,flat]
 ·simp only[za5,plainO,List.map_cons,List.map_nil]
  first|refine zs0 ?_|exact zt0
  repeat'(first|refine zq0 ?_|exact zd0|(refine zaa ?_ ?_<;>intro hb)|(refine And.intro ?_ ?_;exact zI)|(refine And.intro ?_ ?_<;>intro hg)|exact zC|fail)
  rfl
theorem zk7:zlz Tryz.prog 141 3:=by
 refine zc6 zam mixed (T:=Ty) Tryz.func141 rfl rfl Tryz.ntmps141 rfl rfl rfl rfl rfl rfl rfl (by decide) (y7:= .tuple #[.agg #[.int .i64 0], .bool false]) (V7:= .tup [.agg [di 0],ab false]) ?_ ?_ (by decide) rfl ?_
 ·intro w
  simp[Instr.typeAssert,Tryz.underlying170,zh2 (zgA) w]
 ·intro cx w r β
  simp[ReA,ReAs,ReC,ReCs,Rd,flat]
 ·simp only[List.replicate]
  first|refine zs0 ?_|exact zt0
  repeat'(first|refine zq0 ?_|exact zd0|(refine zaa ?_ ?_<;>intro hb)|(refine And.intro ?_ ?_;exact zI)|(refine And.intro ?_ ?_<;>intro hg)|exact zC|fail)
theorem zdX:zhx Tryz.prog 198 [6,7,8] sz3 (nwT) (zh1 170):=by
 refine zeb zam mixed (T:=Ty) Tryz.func198 rfl rfl Tryz.ntmps198 rfl rfl rfl rfl rfl rfl rfl (by decide) (by decide) (by decide) ?_
 rintro x ⟨n,rfl⟩ ls hl hs
 obtain⟨a,b,c,rfl⟩:=cells3 rfl hl hs
 refine⟨.tuple #[.agg #[.int .i64 n], .bool true], .tup [.agg [di n],ab true], ?_, ?_,rfl, ?_⟩
 ·intro w
  simp[Instr.typeAssert,Tryz.underlying170]
 ·intro cx w r β
  simp[ReA,ReAs,ReC,ReCs,Rd,flat]
 ·simp only[za5,plainO,List.map_cons,List.map_nil]
  first|refine zs0 ?_|exact zt0
  repeat'(first|refine zq0 ?_|exact zd0|(refine zaa ?_ ?_<;>intro hb)|(refine And.intro ?_ ?_;exact zI)|(refine And.intro ?_ ?_<;>intro hg)|exact zC|fail)
  rfl
theorem ze7:zlz Tryz.prog 198 3:=by
 refine zc6 zam mixed (T:=Ty) Tryz.func198 rfl rfl Tryz.ntmps198 rfl rfl rfl rfl rfl rfl rfl (by decide) (y7:= .tuple #[.agg #[.int .i64 0], .bool false]) (V7:= .tup [.agg [di 0],ab false]) ?_ ?_ (by decide) rfl ?_
 ·intro w
  simp[Instr.typeAssert,Tryz.underlying170,zh2 (zgA) w]
 ·intro cx w r β
  simp[ReA,ReAs,ReC,ReCs,Rd,flat]
 ·simp only[List.replicate]
  first|refine zs0 ?_|exact zt0
  repeat'(first|refine zq0 ?_|exact zd0|(refine zaa ?_ ?_<;>intro hb)|(refine And.intro ?_ ?_;exact zI)|(refine And.intro ?_ ?_<;>intro hg)|exact zC|fail)
abbrev asl (n:Nat) (ds:List D):AV:= .one (.d (.sl n ds))
abbrev rdr (n:Nat) (ds:List D) (p:Int):List RO:=[.d (.sl n ds), .d (iD p)]
theorem znM (n:Nat) (ds:List D) (p k:Nat) (hl:ds.length=n) (hn:n<2^62) (h:p+k≤n):
  CallOK Tryz.prog 142 [.obj (rdr n ds p), .f (ai k)] (fun r o=>r=[.one (.d (.sl k ((ds.drop p).take k)))]∧o=[rdr n ds ((p+k:Nat):Int)]):=by
 refine zae zam mixed (T:=Ty) (n:=63) Tryz.func142 (c:=Tryz.f142.body.getD .skip) rfl Tryz.results142 Tryz.ntmps142 Tryz.call142 ?_
 simp only[Tryz.f142,Option.getD]
 have h1:decide ((p:Int)<0)=false:=by simp
 have h2:decide ((p:Int)>(n:Int))=false:=by simp;omega
 have h3:IntKind.i64.wrap ((n:Int) - (p:Int))=(n:Int) - p:=wrap64 (by omega) (by omega)
 have h4:decide ((n:Int) - (p:Int)<(k:Int))=false:=by simp;omega
 have h5:IntKind.i64.wrap ((p:Int)+(k:Int))=((p+k:Nat):Int):=by rw[wrap64 (by omega) (by omega)];omega
 have h6:p+k - p=k:=by omega
 repeat'(first|refine zq (I h1 (I h2 (I h3 (I h4 (I h5 (I h6 (I @Int.toNat_natCast hl))))))) ?_|exact zd (I h1 (I h2 (I h3 (I h4 (I h5 (I h6 (I @Int.toNat_natCast hl)))))))|(refine zaa ?_ ?_<;>intro hb)|(refine And.intro ?_ ?_;exact zI)|(refine And.intro ?_ ?_<;>intro hg)|exact zC|fail)
def shortP (n:Nat) (p k:Int):Bool:=decide (p<0)||decide (p>(n:Int))||decide ((n:Int) - p<k)
theorem zhf (n:Nat) (ds:List D) (p k:Int) (hl:ds.length=n) (hn:n<2^62) (hp:i64 p) (h:shortP n p k=true):
  zcc Tryz.prog 142 [.obj (rdr n ds p), .f (ai k)] (zeB 170 2):=by
 refine zcN zam mixed (T:=Ty) (n:=63) Tryz.func142 (c:=Tryz.f142.body.getD .skip) rfl Tryz.ntmps142 Tryz.call142 ?_
 simp only[Tryz.f142,Option.getD]
 unfold shortP at h
 cases h1:decide (p<0)
 ·cases h2:decide (p>(n:Int))
  ·have h4:decide ((n:Int) - p<k)=true:=by rw[h1,h2]at h;simpa using h
   have h3:IntKind.i64.wrap ((n:Int) - p)=(n:Int) - p:=by
    simp at h1 h2
    exact wrap64 (by omega) (by omega)
   repeat'(first|refine zq (I h1 (I h2 (I h3 (I h4 (I @zaf hl))))) ?_|exact zd (I h1 (I h2 (I h3 (I h4 (I @zaf hl)))))|(refine zaa ?_ ?_<;>intro hb)|(refine And.intro ?_ ?_;exact zI)|(refine And.intro ?_ ?_<;>intro hg)|exact zC|fail)
  ·repeat'(first|refine zq (I h1 (I h2 (I @zaf hl))) ?_|exact zd (I h1 (I h2 (I @zaf hl)))|(refine zaa ?_ ?_<;>intro hb)|(refine And.intro ?_ ?_;exact zI)|(refine And.intro ?_ ?_<;>intro hg)|exact zC|fail)
 ·repeat'(first|refine zq (I h1 (I @zaf hl)) ?_|exact zd (I h1 (I @zaf hl))|(refine zaa ?_ ?_<;>intro hb)|(refine And.intro ?_ ?_;exact zI)|(refine And.intro ?_ ?_<;>intro hg)|exact zC|fail)
theorem zsW (n:Nat) (ds:List D) (p:Nat) (x:Int) (rest:List D) (hl:ds.length=n) (hn:n<2^62) (hp:p<n) (hat:ds.drop p= .v (.int .u8 x)::rest) (hx:0≤x∧x≤255):
  CallOK Tryz.prog 135 [.f (asl n ds), .f (ai p)] (fun r o=>r=[ri x,ri ((p+1:Nat):Int),ri 0]∧o=[]):=by
 refine zbg zam mixed (T:=Ty) Tryz.func135 rfl Tryz.results135 Tryz.ntmps135 Tryz.call135 Tryz.call175 (ks:=[4,5,6]) rfl rfl rfl rfl rfl rfl (by decide) (by decide)
  (xs:=[asl n ds,ai p]) ziY zh3 ⟨[asl n ds,ai p,dd,dd, .one (.ptr ⟨4,0,0⟩ 0), .one (.ptr ⟨5,0,0⟩ 0), .one (.ptr ⟨6,0,0⟩ 0),dd,dd,dd,dd,dd,dd,dd,dd,dd,dd,dd,dd,dd],[(4,{next:=1,l:=[some {e:=0,var:=true,fz:=false,sz:=0,cells:=[di 0]},none]}),(5,{next:=1,l:=[some {e:=0,var:=true,fz:=false,sz:=0,cells:=[di 0]},none]}),(6,{next:=1,l:=[some {e:=0,var:=true,fz:=false,sz:=0,cells:=[di 0]},none]})]⟩ ?_ ?_ rfl ?_
 ·simp only[List.map_cons,List.map_nil]
  repeat'(first|refine zq0 ?_|exact zd0|(refine zaa ?_ ?_<;>intro hb)|(refine And.intro ?_ ?_;exact zI)|(refine And.intro ?_ ?_<;>intro hg)|exact zC|fail)
  exact fun _ _ _ h=>h
 ·exact⟨⟨_,rfl,rfl,rfl,rfl,rfl⟩,⟨_,rfl,rfl,rfl,rfl,rfl⟩,⟨_,rfl,rfl,rfl,rfl,rfl⟩,trivial⟩
 ·have htk:=znM n ds p 1 hl hn (by omega)
  rw[hat]at htk
  have hw:IntKind.i64.wrap x=x:=wrap64 (by omega) (by omega)
  repeat'(first|refine zq0 ?_|exact zd0|(refine zaa ?_ ?_<;>intro hb)|(refine And.intro ?_ ?_;exact zI)|(refine And.intro ?_ ?_<;>intro hg)|exact zC|fail)
  refine zj (htk) ?_
  repeat'(first|refine zq (I hw @zc1) ?_|exact zd (I hw @zc1)|(refine zaa ?_ ?_<;>intro hb)|(refine And.intro ?_ ?_;exact zI)|(refine And.intro ?_ ?_<;>intro hg)|exact zC|fail)
theorem zrd (n:Nat) (ds:List D) (p:Int) (hl:ds.length=n) (hn:n<2^62) (hp:i64 p) (h:shortP n p 1=true):
  CallOK Tryz.prog 135 [.f (asl n ds), .f (ai p)] (fun r o=>r=[ri 0,ri 0,ri 2]∧o=[]):=by
 refine zbg zam mixed (T:=Ty) Tryz.func135 rfl Tryz.results135 Tryz.ntmps135 Tryz.call135 Tryz.call175 (ks:=[4,5,6]) rfl rfl rfl rfl rfl rfl (by decide) (by decide)
  (xs:=[asl n ds,ai p]) ziY zh3 ⟨[asl n ds,ai p,dd,dd, .one (.ptr ⟨4,0,0⟩ 0), .one (.ptr ⟨5,0,0⟩ 0), .one (.ptr ⟨6,0,0⟩ 0),dd,dd,dd,dd,dd,dd,dd,dd,dd,dd,dd,dd,dd],[(4,{next:=1,l:=[some {e:=0,var:=true,fz:=false,sz:=0,cells:=[di 0]},none]}),(5,{next:=1,l:=[some {e:=0,var:=true,fz:=false,sz:=0,cells:=[di 0]},none]}),(6,{next:=1,l:=[some {e:=0,var:=true,fz:=false,sz:=0,cells:=[di 0]},none]})]⟩ ?_ ?_ rfl ?_
 ·simp only[List.map_cons,List.map_nil]
  repeat'(first|refine zq0 ?_|exact zd0|(refine zaa ?_ ?_<;>intro hb)|(refine And.intro ?_ ?_;exact zI)|(refine And.intro ?_ ?_<;>intro hg)|exact zC|fail)
  exact fun _ _ _ h=>h
 ·exact⟨⟨_,rfl,rfl,rfl,rfl,rfl⟩,⟨_,rfl,rfl,rfl,rfl,rfl⟩,⟨_,rfl,rfl,rfl,rfl,rfl⟩,trivial⟩
 ·have htk:=zhf n ds p 1 hl hn hp h
  repeat'(first|refine zq0 ?_|exact zd0|(refine zaa ?_ ?_<;>intro hb)|(refine And.intro ?_ ?_;exact zI)|(refine And.intro ?_ ?_<;>intro hg)|exact zC|fail)
  refine zp (rdr n ds p) (htk) ?_
  simp only[za8,za9,za7,zbq]
  refine⟨⟨_,rfl⟩,rfl,⟨⟨_,rfl,rfl,rfl,rfl,rfl⟩,⟨_,rfl,rfl,rfl,rfl,rfl⟩,⟨_,rfl,rfl,rfl,rfl,rfl⟩,trivial⟩, ?_⟩
  rw[show zlk 20 [4,5,6] (nw3 (.int .i64 0) (zeB 170 2))=⟨[dd,dd,dd,dd, .one (.ptr ⟨4,0,0⟩ 0), .one (.ptr ⟨5,0,0⟩ 0), .one (.ptr ⟨6,0,0⟩ 0),dd,dd,dd,dd,dd,dd,dd,dd,dd,dd,dd,dd,dd],[(4,{next:=1,l:=[some {e:=0,var:=true,fz:=false,sz:=0,cells:=[di 0]}]}),(5,{next:=1,l:=[some {e:=0,var:=true,fz:=false,sz:=0,cells:=[di 0]}]}),(6,{next:=1,l:=[some {e:=0,var:=true,fz:=false,sz:=0,cells:=[di 2]}]})]⟩ from rfl]
  first|refine zs0 ?_|exact zt0
def zd4 (l:List Int):Int:=l.foldl (fun u c=>u*256+c) 0
theorem zpF {l:List Int} {c:Int}:zd4 (l++[c])=zd4 l*256+c:=by unfold zd4;rw[List.foldl_append];rfl
theorem ze6:∀{l:List Int} {a:Int},0≤a→(∀c∈l,zbI c)→0≤l.foldl (fun u c=>u*256+c) a∧l.foldl (fun u c=>u*256+c) a<(a+1)*256^l.length
 |[],a,ha,_=>by simp;omega
 |c::l,a,ha,h=>by
  have h2:=h c (by simp)
  unfold zbI at h2
  obtain⟨h3,h4⟩:=ze6 (l:=l) (a:=a*256+c) (by omega) fun x hx=>h x (by simp[hx])
  refine⟨h3,Int.lt_of_lt_of_le h4 ?_⟩
  rw[List.length_cons,Int.pow_succ,Int.mul_comm (256^l.length) 256,←Int.mul_assoc]
  exact Int.mul_le_mul_of_nonneg_right (by omega) (Int.pow_nonneg (by decide))
theorem zgz {l:List Int} (h:∀c∈l,zbI c):0≤zd4 l∧zd4 l<256^l.length:=by
 have:=ze6 (l:=l) (a:=0) (by decide) h
 rw[Int.zero_add,Int.one_mul]at this
 exact this
theorem zxm {i:Nat} (h:i<8):(256:Int)^i≤72057594037927936:=by
 rcases(show i=0∨i=1∨i=2∨i=3∨i=4∨i=5∨i=6∨i=7 by omega)with rfl|rfl|rfl|rfl|rfl|rfl|rfl|rfl<;>decide
theorem zre {n:Int} (h0:0≤n) (h1:n<18446744073709551616):IntKind.u64.wrap n=n:=by
 have e:IntKind.u64.wrap n=n % 18446744073709551616:=by
  unfold IntKind.wrap
  simp[IntKind.bits,IntKind.signed]
 rw[e]
 omega
theorem zr3 {u c:Int} (hu:0≤u∧u<72057594037927936) (hc:0≤c∧c≤255):
  IntKind.u64.wrap (BitVec.ofInt IntKind.u64.bits (u*256)|||BitVec.ofInt IntKind.u64.bits c).toNat=u*256+c:=by
 obtain⟨a,rfl⟩:=Int.eq_ofNat_of_zero_le hu.1
 obtain⟨b,rfl⟩:=Int.eq_ofNat_of_zero_le hc.1
 have hb:IntKind.u64.bits=64:=rfl
 rw[hb]
 have e1:(BitVec.ofInt 64 ((a:Int)*256)|||BitVec.ofInt 64 (b:Int)).toNat=a*256+b:=by
  have h1:((a:Int)*256)=((a*256:Nat):Int):=by omega
  rw[h1,BitVec.ofInt_natCast,BitVec.ofInt_natCast,BitVec.toNat_or,BitVec.toNat_ofNat,BitVec.toNat_ofNat]
  rw[Nat.mod_eq_of_lt (by omega),Nat.mod_eq_of_lt (by omega)]
  have:=Nat.shiftLeft_add_eq_or_of_lt (i:=8) (b:=b) (by omega) a
  rw[Nat.shiftLeft_eq]at this
  exact this.symm
 rw[e1,zre (by omega) (by omega)]
 omega
theorem zdo {l:List Int} {i:Nat} (hi:i<l.length) (h:∀c∈l,zbI c):zbI (l.getD i 0):=by
 rw[List.getD_eq_getElem?_getD,List.getElem?_eq_getElem hi];exact h _ (List.getElem_mem hi)
theorem zk6 {l:List Int} {i:Nat} (hi:i<l.length):zd4 (l.take (i+1))=zd4 (l.take i)*256+l.getD i 0:=by
 rw[List.take_succ_eq_append_getElem hi,zpF,List.getD_eq_getElem?_getD,List.getElem?_eq_getElem hi];rfl
set_option maxHeartbeats 1000000 in
theorem zrf (n:Nat) (ds:List D) (p:Nat) (c:List Int) (hl:ds.length=n) (hn:n<2^62) (hp:p+8≤n) (hat:(ds.drop p).take 8=zab c) (hc8:c.length=8) (hc:∀x∈c,zbI x):
  CallOK Tryz.prog 92 [.f (asl n ds), .f (ai p)] (fun r o=>r=(if zd4 c<4611686018427387904 then [ri (zd4 c),ri ((p+8:Nat):Int),ri 0]else [ri 0,ri 0,ri 4])∧o=[]):=by
 refine zbg zam mixed (T:=Ty) Tryz.func92 rfl Tryz.results92 Tryz.ntmps92 Tryz.call92 Tryz.call141 (ks:=[4,5,6]) rfl rfl rfl rfl rfl rfl (by decide) (by decide)
  (xs:=[asl n ds,ai p]) zk7 ziZ ⟨[asl n ds,ai p,dd,dd, .one (.ptr ⟨4,0,0⟩ 0), .one (.ptr ⟨5,0,0⟩ 0), .one (.ptr ⟨6,0,0⟩ 0),dd,dd,dd,dd,dd,dd,dd,dd,dd,dd,dd,dd,dd,dd,dd,dd,dd,dd,dd,dd,dd,dd,dd,dd,dd,dd,dd,dd],[(4,{next:=1,l:=[some {e:=0,var:=true,fz:=false,sz:=0,cells:=[di 0]},none]}),(5,{next:=1,l:=[some {e:=0,var:=true,fz:=false,sz:=0,cells:=[di 0]},none]}),(6,{next:=1,l:=[some {e:=0,var:=true,fz:=false,sz:=0,cells:=[di 0]},none]})]⟩ ?_ ?_ rfl ?_
 ·simp only[List.map_cons,List.map_nil]
  repeat'(first|refine zq0 ?_|exact zd0|(refine zaa ?_ ?_<;>intro hb)|(refine And.intro ?_ ?_;exact zI)|(refine And.intro ?_ ?_<;>intro hg)|exact zC|fail)
  exact fun _ _ _ h=>h
 ·exact⟨⟨_,rfl,rfl,rfl,rfl,rfl⟩,⟨_,rfl,rfl,rfl,rfl,rfl⟩,⟨_,rfl,rfl,rfl,rfl,rfl⟩,trivial⟩
 ·have htk:=znM n ds p 8 hl hn hp
  rw[hat]at htk
  have hb1:=zgz hc
  rw[hc8]at hb1
  repeat'(first|refine zq0 ?_|exact zd0|(refine zaa ?_ ?_<;>intro hb)|(refine And.intro ?_ ?_;exact zI)|(refine And.intro ?_ ?_<;>intro hg)|exact zC|fail)
  refine zj (htk) ?_
  repeat'(first|refine zq0 ?_|exact zd0|(refine zaa ?_ ?_<;>intro hb)|(refine And.intro ?_ ?_;exact zI)|(refine And.intro ?_ ?_<;>intro hg)|exact zC|fail)
  refine zfV Ty Tryz.prog (τ:=Nat) (fun i=>⟨[dd,dd,dd,dd, .one (.ptr ⟨4,0,0⟩ 0), .one (.ptr ⟨5,0,0⟩ 0), .one (.ptr ⟨6,0,0⟩ 0), .one (.ptr ⟨7,0,1⟩ 0), .one (.d (.v (.int .u64 (zd4 (c.take i))))),dd,dd,dd,dd,dd,dd,asl 8 (zab c),ai 8,ai i,dd,dd,dd,dd,dd,dd,dd,dd,dd,dd,dd,dd,dd,dd,dd,dd,dd],[(4,{next:=1,l:=[some {e:=0,var:=true,fz:=false,sz:=0,cells:=[di 0]},none]}),(5,{next:=1,l:=[some {e:=0,var:=true,fz:=false,sz:=0,cells:=[di 0]},none]}),(6,{next:=1,l:=[some {e:=0,var:=true,fz:=false,sz:=0,cells:=[di 0]},none]}),(7,{next:=2,l:=[some {e:=1,var:=true,fz:=false,sz:=0,cells:=[.d (.sl n ds),di ((p+8:Nat):Int)]},none,none]})]⟩)
   (fun i=>i≤8) (fun i=>8 - i) 0 (Gh.canon [4,5,6,7] [] [4,5,6] zK rfl rfl) (Nat.zero_le _) ?_
  intro i hi0 K hK
  refine zw ?_
  refine zaa (fun hlt=> ?_) (fun hge=> ?_)
  ·have hi:i<c.length:=by simp at hlt;omega
   have hat2:=zdK hi
   have hw:=zai (i:=i) (n:=8) (by omega) (by omega)
   have hx:=zdo hi hc
   unfold zbI at hx
   have hbi:=zgz (l:=c.take i) fun x hx=>hc x (List.mem_of_mem_take hx)
   have hli:(c.take i).length=i:=by rw[List.length_take];omega
   rw[hli]at hbi
   have hp8:=zxm (i:=i) (by omega)
   have w1:min (Int.toNat 8) IntKind.u64.bits=8:=by decide
   have w2:IntKind.u64.wrap (zd4 (c.take i)*2^8)=zd4 (c.take i)*256:=zre (by omega) (by omega)
   have w3:IntKind.u64.wrap (c.getD i 0)=c.getD i 0:=zre (by omega) (by omega)
   have w4:=zr3 (u:=zd4 (c.take i)) (c:=c.getD i 0) ⟨hbi.1,by omega⟩ ⟨hx.1,by omega⟩
   have w5:=zk6 hi
   have w6:¬((8:Int)<0):=by decide
   repeat'(first|(with_reducible first|refine zac _ _ ?_|refine zaD ?_|refine zaE ?_)|rw[zay]|simp only[hat2,zaA,hc8,w1,w2,w3,w4,if_neg w6,zY,Int.reduceEq,Int.reduceBEq,Int.reduceBNe,Nat.reduceSub,Nat.reduceEqDiff,Nat.reduceAdd,Nat.reduceMul,Nat.reduceLeDiff,Nat.reduceLT,Nat.reduceBEq,reduceCtorEq]|refine zat ?_|refine zaa (fun hb=> ?_) (fun hb=> ?_)|(refine And.intro ?_ ?_;exact zI)|refine And.intro (fun hg=> ?_) (fun hg=> ?_)|exact zC|fail)
   exact hK _ (i+1) (Gh.canon [4,5,6,7] [] [4,5,6] (zk (I hw w5)) rfl rfl) (by omega) (by omega)
  ·have hi:i=8:=by
    have:¬(i:Int)<8:=by simpa using hge
    omega
   subst hi
   have ht:c.take 8=c:=List.take_of_length_le (by omega)
   have w7:IntKind.i64.wrap (zd4 c)=zd4 c∨¬zd4 c<4611686018427387904:=by
    by_cases h:zd4 c<4611686018427387904
    ·exact .inl (wrap64 (by omega) (by omega))
    ·exact .inr h
   by_cases hlt:zd4 c<4611686018427387904
   ·have h1:decide (zd4 c≥4611686018427387904)=false:=by simp;omega
    have w7:IntKind.i64.wrap (zd4 c)=zd4 c:=wrap64 (by omega) (by omega)
    repeat'(first|(with_reducible first|refine zac _ _ ?_|refine zaD ?_|refine zaE ?_)|rw[zay]|simp only[ht,h1,w7,if_pos hlt,zc1,zY,Int.reduceEq,Int.reduceBEq,Int.reduceBNe,Nat.reduceSub,Nat.reduceEqDiff,Nat.reduceAdd,Nat.reduceMul,Nat.reduceLeDiff,Nat.reduceLT,Nat.reduceBEq,reduceCtorEq]|refine zat ?_|refine zaa (fun hb=> ?_) (fun hb=> ?_)|(refine And.intro ?_ ?_;exact zI)|refine And.intro (fun hg=> ?_) (fun hg=> ?_)|exact zC|fail)
   ·have h1:decide (zd4 c≥4611686018427387904)=true:=by simp;omega
    repeat'(first|(with_reducible first|refine zac _ _ ?_|refine zaD ?_|refine zaE ?_)|rw[zay]|simp only[ht,h1,if_neg hlt,zY,Int.reduceEq,Int.reduceBEq,Int.reduceBNe,Nat.reduceSub,Nat.reduceEqDiff,Nat.reduceAdd,Nat.reduceMul,Nat.reduceLeDiff,Nat.reduceLT,Nat.reduceBEq,reduceCtorEq]|refine zat ?_|refine zaa (fun hb=> ?_) (fun hb=> ?_)|(refine And.intro ?_ ?_;exact zI)|refine And.intro (fun hg=> ?_) (fun hg=> ?_)|exact zC|fail)
    simp only[za8,za9,za7,zbq]
    refine⟨⟨_,rfl⟩,rfl,⟨⟨_,rfl,rfl,rfl,rfl,rfl⟩,⟨_,rfl,rfl,rfl,rfl,rfl⟩,⟨_,rfl,rfl,rfl,rfl,rfl⟩,trivial⟩, ?_⟩
    rw[show zlk 35 [4,5,6] (nw3 (.int .i64 0) (zeB 170 4))=⟨[dd,dd,dd,dd, .one (.ptr ⟨4,0,0⟩ 0), .one (.ptr ⟨5,0,0⟩ 0), .one (.ptr ⟨6,0,0⟩ 0),dd,dd,dd,dd,dd,dd,dd,dd,dd,dd,dd,dd,dd,dd,dd,dd,dd,dd,dd,dd,dd,dd,dd,dd,dd,dd,dd,dd],[(4,{next:=1,l:=[some {e:=0,var:=true,fz:=false,sz:=0,cells:=[di 0]}]}),(5,{next:=1,l:=[some {e:=0,var:=true,fz:=false,sz:=0,cells:=[di 0]}]}),(6,{next:=1,l:=[some {e:=0,var:=true,fz:=false,sz:=0,cells:=[di 4]}]})]⟩ from rfl]
    first|refine zs0 ?_|exact zt0
theorem zsX (n:Nat) (ds:List D) (p:Int) (hl:ds.length=n) (hn:n<2^62) (hp:i64 p) (h:shortP n p 8=true):
  CallOK Tryz.prog 92 [.f (asl n ds), .f (ai p)] (fun r o=>r=[ri 0,ri 0,ri 2]∧o=[]):=by
 refine zbg zam mixed (T:=Ty) Tryz.func92 rfl Tryz.results92 Tryz.ntmps92 Tryz.call92 Tryz.call141 (ks:=[4,5,6]) rfl rfl rfl rfl rfl rfl (by decide) (by decide)
  (xs:=[asl n ds,ai p]) zk7 ziZ ⟨[asl n ds,ai p,dd,dd, .one (.ptr ⟨4,0,0⟩ 0), .one (.ptr ⟨5,0,0⟩ 0), .one (.ptr ⟨6,0,0⟩ 0),dd,dd,dd,dd,dd,dd,dd,dd,dd,dd,dd,dd,dd,dd,dd,dd,dd,dd,dd,dd,dd,dd,dd,dd,dd,dd,dd,dd],[(4,{next:=1,l:=[some {e:=0,var:=true,fz:=false,sz:=0,cells:=[di 0]},none]}),(5,{next:=1,l:=[some {e:=0,var:=true,fz:=false,sz:=0,cells:=[di 0]},none]}),(6,{next:=1,l:=[some {e:=0,var:=true,fz:=false,sz:=0,cells:=[di 0]},none]})]⟩ ?_ ?_ rfl ?_
 ·simp only[List.map_cons,List.map_nil]
  repeat'(first|refine zq0 ?_|exact zd0|(refine zaa ?_ ?_<;>intro hb)|(refine And.intro ?_ ?_;exact zI)|(refine And.intro ?_ ?_<;>intro hg)|exact zC|fail)
  exact fun _ _ _ h=>h
 ·exact⟨⟨_,rfl,rfl,rfl,rfl,rfl⟩,⟨_,rfl,rfl,rfl,rfl,rfl⟩,⟨_,rfl,rfl,rfl,rfl,rfl⟩,trivial⟩
 ·have htk:=zhf n ds p 8 hl hn hp h
  repeat'(first|refine zq0 ?_|exact zd0|(refine zaa ?_ ?_<;>intro hb)|(refine And.intro ?_ ?_;exact zI)|(refine And.intro ?_ ?_<;>intro hg)|exact zC|fail)
  refine zp (rdr n ds p) (htk) ?_
  simp only[za8,za9,za7,zbq]
  refine⟨⟨_,rfl⟩,rfl,⟨⟨_,rfl,rfl,rfl,rfl,rfl⟩,⟨_,rfl,rfl,rfl,rfl,rfl⟩,⟨_,rfl,rfl,rfl,rfl,rfl⟩,trivial⟩, ?_⟩
  rw[show zlk 35 [4,5,6] (nw3 (.int .i64 0) (zeB 170 2))=⟨[dd,dd,dd,dd, .one (.ptr ⟨4,0,0⟩ 0), .one (.ptr ⟨5,0,0⟩ 0), .one (.ptr ⟨6,0,0⟩ 0),dd,dd,dd,dd,dd,dd,dd,dd,dd,dd,dd,dd,dd,dd,dd,dd,dd,dd,dd,dd,dd,dd,dd,dd,dd,dd,dd,dd],[(4,{next:=1,l:=[some {e:=0,var:=true,fz:=false,sz:=0,cells:=[di 0]}]}),(5,{next:=1,l:=[some {e:=0,var:=true,fz:=false,sz:=0,cells:=[di 0]}]}),(6,{next:=1,l:=[some {e:=0,var:=true,fz:=false,sz:=0,cells:=[di 2]}]})]⟩ from rfl]
  first|refine zs0 ?_|exact zt0
theorem zb8:∀l:List Int,bytesOf (zab l)=some (l.map fun n=>UInt8.ofNat n.toNat)
 |[]=>rfl
 |n::l=>by
  have:=zb8 l
  simp only[zab,List.map_cons,bytesOf]at this⊢
  rw[this]
def strOf (c:List Int):ByteArray:=⟨(c.map fun n=>UInt8.ofNat n.toNat).toArray⟩
theorem zsY (n:Nat) (ds:List D) (p x:Nat) (most:Int) (c:List Int) (rest:List D) (hl:ds.length=n) (hn:n<2^62) (hp:p+1+x≤n) (hat:ds.drop p= .v (.int .u8 (x:Int))::rest) (hx:x≤255) (hm:(x:Int)≤most)
  (hat2:(ds.drop (p+1)).take x=zab c) (hcx:c.length=x):CallOK Tryz.prog 176 [.f (asl n ds), .f (ai p), .f (ai most)] (fun r o=>r=[.one (.d (sD (strOf c))),ri ((p+1+x:Nat):Int),ri 0]∧o=[]):=by
 refine zbg zam mixed (T:=Ty) Tryz.func176 rfl Tryz.results176 Tryz.ntmps176 Tryz.call176 Tryz.call198 (ks:=[6,7,8]) rfl rfl rfl rfl rfl rfl (by decide) (by decide)
  (xs:=[asl n ds,ai p,ai most]) ze7 zdX ⟨[asl n ds,ai p,ai most,dd,dd,dd, .one (.ptr ⟨6,0,0⟩ 0), .one (.ptr ⟨7,0,0⟩ 0), .one (.ptr ⟨8,0,0⟩ 0),dd,dd,dd,dd,dd,dd,dd,dd,dd,dd,dd,dd,dd,dd,dd,dd,dd,dd,dd,dd,dd],[(6,{next:=1,l:=[some {e:=0,var:=true,fz:=false,sz:=0,cells:=[dS .empty]},none]}),(7,{next:=1,l:=[some {e:=0,var:=true,fz:=false,sz:=0,cells:=[di 0]},none]}),(8,{next:=1,l:=[some {e:=0,var:=true,fz:=false,sz:=0,cells:=[di 0]},none]})]⟩ ?_ ?_ rfl ?_
 ·simp only[List.map_cons,List.map_nil]
  repeat'(first|refine zq0 ?_|exact zd0|(refine zaa ?_ ?_<;>intro hb)|(refine And.intro ?_ ?_;exact zI)|(refine And.intro ?_ ?_<;>intro hg)|exact zC|fail)
  exact fun _ _ _ h=>h
 ·exact⟨⟨_,rfl,rfl,rfl,rfl,rfl⟩,⟨_,rfl,rfl,rfl,rfl,rfl⟩,⟨_,rfl,rfl,rfl,rfl,rfl⟩,trivial⟩
 ·have htk:=znM n ds p 1 hl hn (by omega)
  rw[hat]at htk
  have htk2:=znM n ds (p+1) x hl hn (by omega)
  rw[hat2]at htk2
  have hw:IntKind.i64.wrap (x:Int)=(x:Int):=wrap64 (by omega) (by omega)
  have h1:decide ((x:Int)>most)=false:=by simp;omega
  repeat'(first|refine zq0 ?_|exact zd0|(refine zaa ?_ ?_<;>intro hb)|(refine And.intro ?_ ?_;exact zI)|(refine And.intro ?_ ?_<;>intro hg)|exact zC|fail)
  refine zj (htk) ?_
  repeat'(first|refine zq (I hw h1) ?_|exact zd (I hw h1)|(refine zaa ?_ ?_<;>intro hb)|(refine And.intro ?_ ?_;exact zI)|(refine And.intro ?_ ?_<;>intro hg)|exact zC|fail)
  refine zj (htk2) ?_
  repeat'(first|refine zq (I @zb8 (I @zaA (I hcx @zc1))) ?_|exact zd (I @zb8 (I @zaA (I hcx @zc1)))|(refine zaa ?_ ?_<;>intro hb)|(refine And.intro ?_ ?_;exact zI)|(refine And.intro ?_ ?_<;>intro hg)|exact zC|fail)
  rfl
theorem zpG (n:Nat) (ds:List D) (p x:Nat) (most:Int) (rest:List D) (hl:ds.length=n) (hn:n<2^62) (hp:p+1≤n) (hat:ds.drop p= .v (.int .u8 (x:Int))::rest) (hx:x≤255) (hm:¬(x:Int)≤most):
  CallOK Tryz.prog 176 [.f (asl n ds), .f (ai p), .f (ai most)] (fun r o=>r=[.one (.d (sD .empty)),ri 0,ri 3]∧o=[]):=by
 refine zbg zam mixed (T:=Ty) Tryz.func176 rfl Tryz.results176 Tryz.ntmps176 Tryz.call176 Tryz.call198 (ks:=[6,7,8]) rfl rfl rfl rfl rfl rfl (by decide) (by decide)
  (xs:=[asl n ds,ai p,ai most]) ze7 zdX ⟨[asl n ds,ai p,ai most,dd,dd,dd, .one (.ptr ⟨6,0,0⟩ 0), .one (.ptr ⟨7,0,0⟩ 0), .one (.ptr ⟨8,0,0⟩ 0),dd,dd,dd,dd,dd,dd,dd,dd,dd,dd,dd,dd,dd,dd,dd,dd,dd,dd,dd,dd,dd],[(6,{next:=1,l:=[some {e:=0,var:=true,fz:=false,sz:=0,cells:=[dS .empty]},none]}),(7,{next:=1,l:=[some {e:=0,var:=true,fz:=false,sz:=0,cells:=[di 0]},none]}),(8,{next:=1,l:=[some {e:=0,var:=true,fz:=false,sz:=0,cells:=[di 0]},none]})]⟩ ?_ ?_ rfl ?_
 ·simp only[List.map_cons,List.map_nil]
  repeat'(first|refine zq0 ?_|exact zd0|(refine zaa ?_ ?_<;>intro hb)|(refine And.intro ?_ ?_;exact zI)|(refine And.intro ?_ ?_<;>intro hg)|exact zC|fail)
  exact fun _ _ _ h=>h
 ·exact⟨⟨_,rfl,rfl,rfl,rfl,rfl⟩,⟨_,rfl,rfl,rfl,rfl,rfl⟩,⟨_,rfl,rfl,rfl,rfl,rfl⟩,trivial⟩
 ·have htk:=znM n ds p 1 hl hn (by omega)
  rw[hat]at htk
  have hw:IntKind.i64.wrap (x:Int)=(x:Int):=wrap64 (by omega) (by omega)
  have h1:decide ((x:Int)>most)=true:=by simp;omega
  repeat'(first|refine zq0 ?_|exact zd0|(refine zaa ?_ ?_<;>intro hb)|(refine And.intro ?_ ?_;exact zI)|(refine And.intro ?_ ?_<;>intro hg)|exact zC|fail)
  refine zj (htk) ?_
  repeat'(first|refine zq (I hw h1) ?_|exact zd (I hw h1)|(refine zaa ?_ ?_<;>intro hb)|(refine And.intro ?_ ?_;exact zI)|(refine And.intro ?_ ?_<;>intro hg)|exact zC|fail)
  simp only[za8,za9,za7,zbq]
  refine⟨⟨_,rfl⟩,rfl,⟨⟨_,rfl,rfl,rfl,rfl,rfl⟩,⟨_,rfl,rfl,rfl,rfl,rfl⟩,⟨_,rfl,rfl,rfl,rfl,rfl⟩,trivial⟩, ?_⟩
  rw[show zlk 30 [6,7,8] (nwT (zeB 170 3))=⟨[dd,dd,dd,dd,dd,dd, .one (.ptr ⟨6,0,0⟩ 0), .one (.ptr ⟨7,0,0⟩ 0), .one (.ptr ⟨8,0,0⟩ 0),dd,dd,dd,dd,dd,dd,dd,dd,dd,dd,dd,dd,dd,dd,dd,dd,dd,dd,dd,dd,dd],[(6,{next:=1,l:=[some {e:=0,var:=true,fz:=false,sz:=0,cells:=[dS .empty]}]}),(7,{next:=1,l:=[some {e:=0,var:=true,fz:=false,sz:=0,cells:=[di 0]}]}),(8,{next:=1,l:=[some {e:=0,var:=true,fz:=false,sz:=0,cells:=[di 3]}]})]⟩ from rfl]
  first|refine zs0 ?_|exact zt0
theorem zrg (n:Nat) (ds:List D) (p most:Int) (hl:ds.length=n) (hn:n<2^62) (hp:i64 p) (h:shortP n p 1=true):
  CallOK Tryz.prog 176 [.f (asl n ds), .f (ai p), .f (ai most)] (fun r o=>r=[.one (.d (sD .empty)),ri 0,ri 2]∧o=[]):=by
 refine zbg zam mixed (T:=Ty) Tryz.func176 rfl Tryz.results176 Tryz.ntmps176 Tryz.call176 Tryz.call198 (ks:=[6,7,8]) rfl rfl rfl rfl rfl rfl (by decide) (by decide)
  (xs:=[asl n ds,ai p,ai most]) ze7 zdX ⟨[asl n ds,ai p,ai most,dd,dd,dd, .one (.ptr ⟨6,0,0⟩ 0), .one (.ptr ⟨7,0,0⟩ 0), .one (.ptr ⟨8,0,0⟩ 0),dd,dd,dd,dd,dd,dd,dd,dd,dd,dd,dd,dd,dd,dd,dd,dd,dd,dd,dd,dd,dd],[(6,{next:=1,l:=[some {e:=0,var:=true,fz:=false,sz:=0,cells:=[dS .empty]},none]}),(7,{next:=1,l:=[some {e:=0,var:=true,fz:=false,sz:=0,cells:=[di 0]},none]}),(8,{next:=1,l:=[some {e:=0,var:=true,fz:=false,sz:=0,cells:=[di 0]},none]})]⟩ ?_ ?_ rfl ?_
 ·simp only[List.map_cons,List.map_nil]
  repeat'(first|refine zq0 ?_|exact zd0|(refine zaa ?_ ?_<;>intro hb)|(refine And.intro ?_ ?_;exact zI)|(refine And.intro ?_ ?_<;>intro hg)|exact zC|fail)
  exact fun _ _ _ h=>h
 ·exact⟨⟨_,rfl,rfl,rfl,rfl,rfl⟩,⟨_,rfl,rfl,rfl,rfl,rfl⟩,⟨_,rfl,rfl,rfl,rfl,rfl⟩,trivial⟩
 ·have htk:=zhf n ds p 1 hl hn hp h
  repeat'(first|refine zq0 ?_|exact zd0|(refine zaa ?_ ?_<;>intro hb)|(refine And.intro ?_ ?_;exact zI)|(refine And.intro ?_ ?_<;>intro hg)|exact zC|fail)
  refine zp (rdr n ds p) (htk) ?_
  simp only[za8,za9,za7,zbq]
  refine⟨⟨_,rfl⟩,rfl,⟨⟨_,rfl,rfl,rfl,rfl,rfl⟩,⟨_,rfl,rfl,rfl,rfl,rfl⟩,⟨_,rfl,rfl,rfl,rfl,rfl⟩,trivial⟩, ?_⟩
  rw[show zlk 30 [6,7,8] (nwT (zeB 170 2))=⟨[dd,dd,dd,dd,dd,dd, .one (.ptr ⟨6,0,0⟩ 0), .one (.ptr ⟨7,0,0⟩ 0), .one (.ptr ⟨8,0,0⟩ 0),dd,dd,dd,dd,dd,dd,dd,dd,dd,dd,dd,dd,dd,dd,dd,dd,dd,dd,dd,dd,dd],[(6,{next:=1,l:=[some {e:=0,var:=true,fz:=false,sz:=0,cells:=[dS .empty]}]}),(7,{next:=1,l:=[some {e:=0,var:=true,fz:=false,sz:=0,cells:=[di 0]}]}),(8,{next:=1,l:=[some {e:=0,var:=true,fz:=false,sz:=0,cells:=[di 2]}]})]⟩ from rfl]
  first|refine zs0 ?_|exact zt0
theorem znL (n:Nat) (ds:List D) (p x:Nat) (most:Int) (rest:List D) (hl:ds.length=n) (hn:n<2^62) (hp:p+1≤n) (hat:ds.drop p= .v (.int .u8 (x:Int))::rest) (hx:x≤255) (hm:(x:Int)≤most)
  (hs:shortP n ((p+1:Nat):Int) x=true):CallOK Tryz.prog 176 [.f (asl n ds), .f (ai p), .f (ai most)] (fun r o=>r=[.one (.d (sD .empty)),ri 0,ri 2]∧o=[]):=by
 refine zbg zam mixed (T:=Ty) Tryz.func176 rfl Tryz.results176 Tryz.ntmps176 Tryz.call176 Tryz.call198 (ks:=[6,7,8]) rfl rfl rfl rfl rfl rfl (by decide) (by decide)
  (xs:=[asl n ds,ai p,ai most]) ze7 zdX ⟨[asl n ds,ai p,ai most,dd,dd,dd, .one (.ptr ⟨6,0,0⟩ 0), .one (.ptr ⟨7,0,0⟩ 0), .one (.ptr ⟨8,0,0⟩ 0),dd,dd,dd,dd,dd,dd,dd,dd,dd,dd,dd,dd,dd,dd,dd,dd,dd,dd,dd,dd,dd],[(6,{next:=1,l:=[some {e:=0,var:=true,fz:=false,sz:=0,cells:=[dS .empty]},none]}),(7,{next:=1,l:=[some {e:=0,var:=true,fz:=false,sz:=0,cells:=[di 0]},none]}),(8,{next:=1,l:=[some {e:=0,var:=true,fz:=false,sz:=0,cells:=[di 0]},none]})]⟩ ?_ ?_ rfl ?_
 ·simp only[List.map_cons,List.map_nil]
  repeat'(first|refine zq0 ?_|exact zd0|(refine zaa ?_ ?_<;>intro hb)|(refine And.intro ?_ ?_;exact zI)|(refine And.intro ?_ ?_<;>intro hg)|exact zC|fail)
  exact fun _ _ _ h=>h
 ·exact⟨⟨_,rfl,rfl,rfl,rfl,rfl⟩,⟨_,rfl,rfl,rfl,rfl,rfl⟩,⟨_,rfl,rfl,rfl,rfl,rfl⟩,trivial⟩
 ·have htk:=znM n ds p 1 hl hn (by omega)
  rw[hat]at htk
  have htk2:=zhf n ds ((p+1:Nat):Int) x hl hn (by unfold i64;omega) hs
  have hw:IntKind.i64.wrap (x:Int)=(x:Int):=wrap64 (by omega) (by omega)
  have h1:decide ((x:Int)>most)=false:=by simp;omega
  repeat'(first|refine zq0 ?_|exact zd0|(refine zaa ?_ ?_<;>intro hb)|(refine And.intro ?_ ?_;exact zI)|(refine And.intro ?_ ?_<;>intro hg)|exact zC|fail)
  refine zj (htk) ?_
  repeat'(first|refine zq (I hw h1) ?_|exact zd (I hw h1)|(refine zaa ?_ ?_<;>intro hb)|(refine And.intro ?_ ?_;exact zI)|(refine And.intro ?_ ?_<;>intro hg)|exact zC|fail)
  refine zp (rdr n ds p) (htk2) ?_
  simp only[za8,za9,za7,zbq]
  refine⟨⟨_,rfl⟩,rfl,⟨⟨_,rfl,rfl,rfl,rfl,rfl⟩,⟨_,rfl,rfl,rfl,rfl,rfl⟩,⟨_,rfl,rfl,rfl,rfl,rfl⟩,trivial⟩, ?_⟩
  rw[show zlk 30 [6,7,8] (nwT (zeB 170 2))=⟨[dd,dd,dd,dd,dd,dd, .one (.ptr ⟨6,0,0⟩ 0), .one (.ptr ⟨7,0,0⟩ 0), .one (.ptr ⟨8,0,0⟩ 0),dd,dd,dd,dd,dd,dd,dd,dd,dd,dd,dd,dd,dd,dd,dd,dd,dd,dd,dd,dd,dd],[(6,{next:=1,l:=[some {e:=0,var:=true,fz:=false,sz:=0,cells:=[dS .empty]}]}),(7,{next:=1,l:=[some {e:=0,var:=true,fz:=false,sz:=0,cells:=[di 0]}]}),(8,{next:=1,l:=[some {e:=0,var:=true,fz:=false,sz:=0,cells:=[di 2]}]})]⟩ from rfl]
  first|refine zs0 ?_|exact zt0
def zaQ (bs:List Int) (p:Int):Int×Int×Int:=if shortP bs.length p 1=true then(0,0,2)else(bs.getD p.toNat 0,p+1,0)
def zcz (bs:List Int) (p:Int):Int×Int×Int:=
 if shortP bs.length p 8=true then(0,0,2)else if zd4 ((bs.drop p.toNat).take 8)<4611686018427387904 then(zd4 ((bs.drop p.toNat).take 8),p+8,0)else(0,0,4)
def zbf (bs:List Int) (p most:Int):ByteArray×Int×Int:=
 if shortP bs.length p 1=true then(.empty,0,2)else if¬bs.getD p.toNat 0≤most then(.empty,0,3)else
 if shortP bs.length (p+1) (bs.getD p.toNat 0)=true then(.empty,0,2)else(strOf ((bs.drop (p.toNat+1)).take (bs.getD p.toNat 0).toNat),p+1+bs.getD p.toNat 0,0)
theorem zb7 {n:Nat} {p k:Int} (h:shortP n p k=false):0≤p∧p≤n∧k≤n - p:=by
 unfold shortP at h
 simp at h
 omega
structure BsOk (bs:List Int):Prop where
 l:bs.length<2^60
 b:∀x∈bs,zbI x
theorem ze4 (bs:List Int) (p:Int) (h:BsOk bs) (hp:i64 p):CallOK Tryz.prog 135 [.f (asl bs.length (zab bs)), .f (ai p)] (fun r o=>r=[ri (zaQ bs p).1,ri (zaQ bs p).2.1,ri (zaQ bs p).2.2]∧o=[]):=by
 have hl:=h.l
 cases hs:shortP bs.length p 1
 ·obtain⟨h1,h2,h3⟩:=zb7 hs
  obtain⟨q,rfl⟩:=Int.eq_ofNat_of_zero_le h1
  have hq:q<bs.length:=by omega
  have hb:=zdo hq h.b
  unfold zbI at hb
  rw[zaQ,if_neg (by rw[hs];simp)]
  have:=zsW bs.length (zab bs) q (bs.getD q 0) _ zaA (by omega) hq (zdK hq) ⟨hb.1,by omega⟩
  simpa using this
 ·rw[zaQ,if_pos hs]
  exact zrd bs.length (zab bs) p zaA (by omega) hp hs
theorem zh0 (bs:List Int) (p:Int) (h:BsOk bs) (hp:i64 p):CallOK Tryz.prog 92 [.f (asl bs.length (zab bs)), .f (ai p)] (fun r o=>r=[ri (zcz bs p).1,ri (zcz bs p).2.1,ri (zcz bs p).2.2]∧o=[]):=by
 have hl:=h.l
 cases hs:shortP bs.length p 8
 ·obtain⟨h1,h2,h3⟩:=zb7 hs
  obtain⟨q,rfl⟩:=Int.eq_ofNat_of_zero_le h1
  rw[zcz,if_neg (by rw[hs];simp)]
  have:=zrf bs.length (zab bs) q ((bs.drop q).take 8) zaA (by omega) (by omega) (by rw[←List.map_drop,←List.map_take]) (by rw[List.length_take,List.length_drop];omega) (fun x hx=>h.b x (List.mem_of_mem_drop (List.mem_of_mem_take hx)))
  simp only[Int.toNat_natCast]
  split
  ·rename_i hv
   rw[if_pos hv]at this
   exact this
  ·rename_i hv
   rw[if_neg hv]at this
   exact this
 ·rw[zcz,if_pos hs]
  exact zsX bs.length (zab bs) p zaA (by omega) hp hs
theorem zjV (bs:List Int) (p most:Int) (h:BsOk bs) (hp:i64 p):CallOK Tryz.prog 176 [.f (asl bs.length (zab bs)), .f (ai p), .f (ai most)] (fun r o=>r=[.one (.d (sD (zbf bs p most).1)),ri (zbf bs p most).2.1,ri (zbf bs p most).2.2]∧o=[]):=by
 have hl:=h.l
 cases hs:shortP bs.length p 1
 ·obtain⟨h1,h2,h3⟩:=zb7 hs
  obtain⟨q,rfl⟩:=Int.eq_ofNat_of_zero_le h1
  have hq:q<bs.length:=by omega
  have hb:=zdo hq h.b
  unfold zbI at hb
  obtain⟨x,hx⟩:=Int.eq_ofNat_of_zero_le hb.1
  have hat:=zdK hq
  rw[hx]at hat
  rw[zbf,if_neg (by rw[hs];simp)]
  simp only[Int.toNat_natCast,hx]
  by_cases hm:(x:Int)≤most
  ·rw[if_neg (by simpa using hm)]
   cases hs2:shortP bs.length ((q:Int)+1) (x:Int)
   ·obtain⟨h4,h5,h6⟩:=zb7 hs2
    rw[if_neg (by simp)]
    have:=zsY bs.length (zab bs) q x most ((bs.drop (q+1)).take x) _ zaA (by omega) (by omega) hat (by omega) hm (by rw[←List.map_drop,←List.map_take]) (by rw[List.length_take,List.length_drop];omega)
    simpa using this
   ·rw[if_pos rfl]
    exact znL bs.length (zab bs) q x most _ zaA (by omega) (by omega) hat (by omega) hm (by simpa using hs2)
  ·rw[if_pos (by simpa using hm)]
   exact zpG bs.length (zab bs) q x most _ zaA (by omega) (by omega) hat (by omega) hm
 ·rw[zbf,if_pos hs]
  exact zrg bs.length (zab bs) p most zaA (by omega) hp hs
theorem zbG {bs:List Int} {p:Int}:0≤(zaQ bs p).2.1∧(zaQ bs p).2.1≤bs.length:=by
 unfold zaQ
 cases hs:shortP bs.length p 1
 ·obtain⟨h1,h2,h3⟩:=zb7 hs
  rw[if_neg (by simp)];simp only;omega
 ·rw[if_pos rfl];simp only;omega
theorem zcx {bs:List Int} {p:Int}:0≤(zcz bs p).2.1∧(zcz bs p).2.1≤bs.length:=by
 unfold zcz
 cases hs:shortP bs.length p 8
 ·obtain⟨h1,h2,h3⟩:=zb7 hs
  rw[if_neg (by simp)]
  split
  ·simp only;omega
  ·simp only;omega
 ·rw[if_pos rfl];simp only;omega
theorem ze5 {bs:List Int} {p most:Int} (h:BsOk bs):0≤(zbf bs p most).2.1∧(zbf bs p most).2.1≤bs.length:=by
 unfold zbf
 cases hs:shortP bs.length p 1
 ·obtain⟨h1,h2,h3⟩:=zb7 hs
  rw[if_neg (by simp)]
  have hb:=zdo (i:=p.toNat) (by omega) h.b
  unfold zbI at hb
  split
  ·simp only;omega
  ·cases hs2:shortP bs.length (p+1) (bs.getD p.toNat 0)
   ·obtain⟨h4,h5,h6⟩:=zb7 hs2
    rw[if_neg (by simp)];simp only;omega
   ·rw[if_pos rfl];simp only;omega
 ·rw[if_pos rfl];simp only;omega
def zbl (bs:List Int):Nat→Int→List Grant→List Grant×Int×Int
 |0,p,acc=>(acc,p,0)
 |k+1,p,acc=>
  if(zbf bs p 12).2.2≠0 then([],0,(zbf bs p 12).2.2)else
  if(zcz bs (zbf bs p 12).2.1).2.2≠0 then([],0,(zcz bs (zbf bs p 12).2.1).2.2)else
  zbl bs k (zcz bs (zbf bs p 12).2.1).2.1 (acc++[⟨(zbf bs p 12).1,(zcz bs (zbf bs p 12).2.1).1⟩])
abbrev zuQ (l:List Grant):RF:= .one (.own 2 l.length (zaO l) false)
theorem zbV {n:Nat} (hn:n<2^60) {p:Int} (h:0≤p∧p≤n):i64 p:=by unfold i64;omega
set_option maxHeartbeats 1000000 in
theorem zpE (bs:List Int) (p:Int) (n:Nat) (h:BsOk bs) (hp:i64 p) (hn:n<2^20):
  CallOK Tryz.prog 199 [.f (asl bs.length (zab bs)), .f (ai p), .f (ai n)] (fun r o=>r=[zuQ (zbl bs n p []).1,ri (zbl bs n p []).2.1,ri (zbl bs n p []).2.2]∧o=[]):=by
 refine CallOK.nil ?_
 refine zae zam mixed (T:=Ty) (n:=45) Tryz.func199 (c:=Tryz.f199.body.getD .skip) rfl Tryz.results199 Tryz.ntmps199 Tryz.call199 ?_
 simp only[Tryz.f199,Option.getD]
 repeat'(first|refine zq0 ?_|exact zd0|(refine zaa ?_ ?_<;>intro hb)|(refine And.intro ?_ ?_;exact zI)|(refine And.intro ?_ ?_<;>intro hg)|exact zC|fail)
 refine zah (τ:=Nat×Int×List Grant) (fun t=>⟨[asl bs.length (zab bs),ai t.2.1,dd,dd,dd,dd,dd,dd,dd, .one (.own ⟨9,1,1⟩ 0 t.2.2.length),dd,dd,ai n,ai t.1,dd,dd,dd,dd,dd,dd,dd,dd,dd,dd,dd,dd,dd,dd,dd,dd,dd,dd,dd,dd,dd,dd,dd,dd,dd,dd,dd,dd,dd,dd,dd],[(9,{next:=2,l:=[none,some {e:=1,var:=false,fz:=false,sz:=2,cells:=(zaO t.2.2).map C.d}]}),(6,⟨2,[]⟩),(10,⟨2,[]⟩),(40,⟨2,[]⟩),(41,⟨2,[]⟩)]⟩)
  (fun t=>t.1≤n∧i64 t.2.1∧t.2.2.length=t.1) (fun t=>zbl bs (n - t.1) t.2.1 t.2.2) (fun t=>n - t.1) (0,p,[])
  ((Gh.nil (i:=9) (s:=9) (sz:=2) rfl).trans (Gh.canon [9] [6,10,40,41] [] zK rfl rfl)) ⟨Nat.zero_le _,hp,rfl⟩ ?_
 intro⟨i,q,acc⟩ ⟨hi0,hq,ha⟩ hF K hK
 simp only[Nat.sub_zero]at hi0 hq ha hF hK⊢
 refine zw ?_
 refine zaa (fun hlt=> ?_) (fun hge=> ?_)
 ·have hi:i<n:=by simpa using hlt
  have hw:=zai hi (by omega)
  have ht:=zjV bs q 12 h hq
  have hm:=zh0 bs (zbf bs q 12).2.1 h (zbV h.l (ze5 h))
  have hst:n - i=(n - (i+1))+1:=by omega
  rw[hst,zbl]at hF
  have hle:(acc.length+1≤2^47)=True:=eq_true (by omega)
  cases e1:((zbf bs q 12).2.2 !=0)
  ·have e1':(zbf bs q 12).2.2=0:=by simpa using e1
   rw[if_neg (by simp[e1'])]at hF
   cases e2:((zcz bs (zbf bs q 12).2.1).2.2 !=0)
   ·have e2':(zcz bs (zbf bs q 12).2.1).2.2=0:=by simpa using e2
    rw[if_neg (by simp[e2'])]at hF
    repeat'(first|refine zq (I e1 (I e2 hle)) ?_|exact zd (I e1 (I e2 hle))|refine zc (ht) ?_|refine zg (ht) ?_|refine zc (hm) ?_|refine zg (hm) ?_|(refine zaa ?_ ?_<;>intro hb)|(refine And.intro ?_ ?_;exact zI)|(refine And.intro ?_ ?_<;>intro hg)|exact zC|fail)
    refine hK _ (i+1,(zcz bs (zbf bs q 12).2.1).2.1,acc++[⟨(zbf bs q 12).1,(zcz bs (zbf bs q 12).2.1).1⟩]) (Gh.canon [9] [] [] (zk (I hw (I @List.length_append.{0} @List.length_singleton.{0}))) rfl (by simp only[List.length_append,List.length_singleton];rw[zgG];rfl)) ⟨hi,zbV h.l zcx,by simp only[List.length_append,List.length_singleton];omega⟩ ?_ (by simp only;omega)
    simp only
    rw[hst,zbl,if_neg (by simp[e1']),if_neg (by simp[e2'])]
   ·have e2':(zcz bs (zbf bs q 12).2.1).2.2≠0:=by simpa using e2
    rw[if_pos e2']at hF
    rw[←hF]
    repeat'(first|refine zq (I e1 e2) ?_|exact zd (I e1 e2)|refine zc (ht) ?_|refine zg (ht) ?_|refine zc (hm) ?_|refine zg (hm) ?_|(refine zaa ?_ ?_<;>intro hb)|(refine And.intro ?_ ?_;exact zI)|(refine And.intro ?_ ?_<;>intro hg)|exact zC|fail)
    show zar _ _∧zar _ _∧zar _ _∧True
    simp[zar]
  ·have e1':(zbf bs q 12).2.2≠0:=by simpa using e1
   rw[if_pos e1']at hF
   rw[←hF]
   repeat'(first|refine zq e1 ?_|exact zd e1|refine zc (ht) ?_|refine zg (ht) ?_|refine zc (hm) ?_|refine zg (hm) ?_|(refine zaa ?_ ?_<;>intro hb)|(refine And.intro ?_ ?_;exact zI)|(refine And.intro ?_ ?_<;>intro hg)|exact zC|fail)
   show zar _ _∧zar _ _∧zar _ _∧True
   simp[zar]
 ·have hi:i=n:=by
   have:¬(i:Int)<n:=by simpa using hge
   omega
  rw[hi,Nat.sub_self,zbl]at hF
  rw[←hF]
  repeat'(first|refine zq0 ?_|exact zd0|(refine zaa ?_ ?_<;>intro hb)|(refine And.intro ?_ ?_;exact zI)|(refine And.intro ?_ ?_<;>intro hg)|exact zC|fail)
  show zar _ _∧zar _ _∧zar _ _∧True
  simp[zar]
end Go.Proofs.YtbpmcjeeeiffhaaGreat
