import Derived.Test.YtiegkabcgokhkaaGreatA
import Derived.Test.YtiegkabcgokhkaaGreatK8
namespace Go.Proofs.YtiegkabcgokhkaaGreat
open Go.Pk
set_option maxRecDepth 100000
set_option linter.unusedSimpArgs false
set_option linter.unusedVariables false
def byteI (n:Int):Prop:=0≤n∧n≤255
abbrev bytesE (l:List Int):List D:=l.map uD
def byteAt (v:Int) (k:Nat):Int:=IntKind.u8.wrap (v.fdiv (2^(8*(7 - k))))
def numB (v:Int):List Int:=(List.range 8).map (byteAt v)
abbrev numR (v:Int) (i:Nat):List D:=(List.range 8).map fun k=>uD (if k<i then byteAt v k else 0)
theorem za3 {i n:Nat} (h:i<n) (hn:n<2^62):IntKind.i64.wrap ((i:Int)+1)=((i+1:Nat):Int):=by rw[wrap64 (by omega) (by omega)];rfl
theorem zdc {v:Int} (h0:0≤v) (h1:v≤255):IntKind.u8.wrap v=v:=by
 have e:IntKind.u8.wrap v=v % 256:=by
  unfold IntKind.wrap
  simp[IntKind.bits,IntKind.signed]
 rw[e]
 omega
theorem zlm (v:Int) (i:Nat) (hi:i<8):(numR v i).set i (uD (byteAt v i))=numR v (i+1):=by
 apply List.ext_getElem
 ·simp
 ·intro k h1 h2
  simp only[List.length_set,List.length_map,List.length_range]at h1
  rw[List.getElem_set]
  simp only[List.getElem_map,List.getElem_range]
  split
  ·rename_i e;subst e;rw[if_pos (by omega)]
  ·rename_i e
   by_cases h:k<i
   ·rw[if_pos h,if_pos (by omega)]
   ·rw[if_neg h,if_neg (by omega)]
theorem zfv (v:Int) (h:0≤v∧v≤255):CallOK Tryz.prog 102 [.f (ai v)] (fun r o=>r=[.one (.own 1 1 (bytesE [v]) false),ri 0]∧o=[]):=by
 refine zal zat mixed (T:=Ty) (n:=13) Tryz.func102 (c:=Tryz.f102.body.getD .skip) rfl Tryz.results102 Tryz.ntmps102 Tryz.call102 ?_
 simp only[Tryz.f102,Option.getD]
 have h1:decide (v<0)=false:=by simp;omega
 have h2:decide (v>255)=false:=by simp;omega
 have hw:IntKind.u8.wrap v=v:=zdc h.1 h.2
 repeat'(first|(with_reducible first|refine zaa _ _ ?_|refine zad ?_|refine zae ?_)|rw[zaf]|simp only[h1,h2,hw,zY,Int.reduceEq,Int.reduceBEq,Int.reduceBNe,Nat.reduceSub,Nat.reduceEqDiff,Nat.reduceAdd,Nat.reduceMul,Nat.reduceLeDiff,Nat.reduceLT,Nat.reduceBEq,reduceCtorEq]|refine zab ?_|refine zac (fun hb=> ?_) (fun hb=> ?_)|(refine And.intro ?_ ?_;exact zI)|refine And.intro (fun hg=> ?_) (fun hg=> ?_)|exact zC|fail)
theorem zcB (v:Int) (h:0≤v∧v<4611686018427387904):CallOK Tryz.prog 103 [.f (ai v)] (fun r o=>r=[.one (.own 1 8 (bytesE (numB v)) false),ri 0]∧o=[]):=by
 refine zal zat mixed (T:=Ty) (n:=29) Tryz.func103 (c:=Tryz.f103.body.getD .skip) rfl Tryz.results103 Tryz.ntmps103 Tryz.call103 ?_
 simp only[Tryz.f103,Option.getD]
 have h1:decide (v<0)=false:=by simp;omega
 have h2:decide (v≥4611686018427387904)=false:=by simp;omega
 repeat'(first|(with_reducible first|refine zaa _ _ ?_|refine zad ?_|refine zae ?_)|rw[zaf]|simp only[h1,h2,zY,Int.reduceEq,Int.reduceBEq,Int.reduceBNe,Nat.reduceSub,Nat.reduceEqDiff,Nat.reduceAdd,Nat.reduceMul,Nat.reduceLeDiff,Nat.reduceLT,Nat.reduceBEq,reduceCtorEq]|refine zab ?_|refine zac (fun hb=> ?_) (fun hb=> ?_)|(refine And.intro ?_ ?_;exact zI)|refine And.intro (fun hg=> ?_) (fun hg=> ?_)|exact zC|fail)
 refine zaV (τ:=Nat) (fun i=>⟨[ai v,dd,dd,dd, .one (.own ⟨4,1,1⟩ 0 8),dd,dd,dd,dd,dd,dd,dd,dd,dd,ai 8,ai i,dd,dd,dd,dd,dd,dd,dd,dd,dd,dd,dd,dd,dd],[(12,⟨2,[]⟩),(4,{next:=2,l:=[none,some {e:=1,var:=false,fz:=false,sz:=1,cells:=(numR v i).map C.d}]})]⟩)
  (fun i=>i≤8) (fun _=>()) (fun i=>8 - i) 0
  (Gh.canon [4] [] [] zK rfl rfl) (Nat.zero_le _) ?_
 intro i hi0 hF K hK
 repeat(first|with_reducible refine zaa _ _ ?_|with_reducible refine And.imp_right (zaa _ _) ?_|with_reducible refine And.imp_right (And.imp_right (zaa _ _)) ?_|with_reducible refine And.imp_right (And.imp_right (And.imp_right (zaa _ _))) ?_|rw[zaf]|simp only[zB,Nat.reduceSub,Nat.reduceEqDiff,Nat.reduceAdd,Nat.reduceMul,Nat.reduceLeDiff,Nat.reduceLT,Nat.reduceBEq,reduceCtorEq])
 refine zac (fun hlt=> ?_) (fun hge=> ?_)
 ·have hi:i<8:=by simp at hlt;omega
  have w1:IntKind.i64.wrap (7 - (i:Int))=7 - i:=wrap64 (by omega) (by omega)
  have w2:IntKind.i64.wrap (8*(7 - (i:Int)))=((8*(7 - i):Nat):Int):=by rw[wrap64 (by omega) (by omega)];omega
  have w3:¬(((8*(7 - i):Nat):Int)<0):=by omega
  have w4:min (8*(7 - i)) IntKind.i64.bits=8*(7 - i):=by have:IntKind.i64.bits=64:=rfl;omega
  have hw:IntKind.i64.wrap ((i:Int)+1)=((i+1:Nat):Int):=by rw[wrap64 (by omega) (by omega)];omega
  have hset:((numR v i).map C.d).set i (C.d (D.v (Value.int IntKind.u8 (IntKind.u8.wrap (v.fdiv (2^(8*(7 - i))))))))=(numR v (i+1)).map C.d:=by
   have:=zlm v i hi
   rw[←this,List.map_set];rfl
  have hle:(i+1≤8)=True:=eq_true (by omega)
  repeat'(first|(with_reducible first|refine zaa _ _ ?_|refine zad ?_|refine zae ?_)|rw[zaf]|simp only[w1,w2,if_neg w3,Int.toNat_natCast,w4,hset,List.length_range,hle,zY,Int.reduceEq,Int.reduceBEq,Int.reduceBNe,Nat.reduceSub,Nat.reduceEqDiff,Nat.reduceAdd,Nat.reduceMul,Nat.reduceLeDiff,Nat.reduceLT,Nat.reduceBEq,reduceCtorEq]|refine zab ?_|refine zac (fun hb=> ?_) (fun hb=> ?_)|(refine And.intro ?_ ?_;exact zI)|refine And.intro (fun hg=> ?_) (fun hg=> ?_)|exact zC|fail)
  exact hK _ (i+1) (Gh.canon [4] [] [] (by simp only[hw,zaq,zaE,zar,zaw,zax,zay,List.set_cons_zero,List.set_cons_succ,and_true,true_and,Int.natCast_zero,Int.cast_ofNat_Int,D.v.injEq,Value.int.injEq];try(repeat'(first|rfl|omega|with_reducible apply And.intro))) rfl rfl) hi rfl (by omega)
 ·have hi:i=8:=by
   have:¬(i:Int)<8:=by simpa using hge
   omega
  subst hi
  repeat'(first|(with_reducible first|refine zaa _ _ ?_|refine zad ?_|refine zae ?_)|rw[zaf]|simp only[zY,Int.reduceEq,Int.reduceBEq,Int.reduceBNe,Nat.reduceSub,Nat.reduceEqDiff,Nat.reduceAdd,Nat.reduceMul,Nat.reduceLeDiff,Nat.reduceLT,Nat.reduceBEq,reduceCtorEq]|refine zab ?_|refine zac (fun hb=> ?_) (fun hb=> ?_)|(refine And.intro ?_ ?_;exact zI)|refine And.intro (fun hg=> ?_) (fun hg=> ?_)|exact zC|fail)
  rfl
theorem zcV (s:ByteArray):s.data.toList.length=s.size:=by rw[Array.length_toList];rfl
abbrev textE (s:ByteArray):List D:=s.data.toList.map fun b=>uD b.toNat
def textB (s:ByteArray):List D:=uD s.size::textE s
theorem zbM (s:ByteArray):(textB s).length=1+s.size:=by simp[textB,zcV,Nat.add_comm]
theorem zfw (s:ByteArray) (h:s.size≤255):CallOK Tryz.prog 146 [.f (ast s)] (fun r o=>r=[.one (.own 1 (1+s.size) (textB s) false),ri 0]∧o=[]):=by
 refine zal zat mixed (T:=Ty) (n:=13) Tryz.func146 (c:=Tryz.f146.body.getD .skip) rfl Tryz.results146 Tryz.ntmps146 Tryz.call146 ?_
 simp only[Tryz.f146,Option.getD]
 have h1:decide ((s.size:Int)>255)=false:=by simp;omega
 have hw:IntKind.u8.wrap (s.size:Int)=s.size:=zdc (by omega) (by omega)
 have hle:(1+s.size≤2^47)=True:=eq_true (by omega)
 repeat'(first|(with_reducible first|refine zaa _ _ ?_|refine zad ?_|refine zae ?_)|rw[zaf]|simp only[h1,hw,zcV,hle,zY,Int.reduceEq,Int.reduceBEq,Int.reduceBNe,Nat.reduceSub,Nat.reduceEqDiff,Nat.reduceAdd,Nat.reduceMul,Nat.reduceLeDiff,Nat.reduceLT,Nat.reduceBEq,reduceCtorEq]|refine zab ?_|refine zac (fun hb=> ?_) (fun hb=> ?_)|(refine And.intro ?_ ?_;exact zI)|refine And.intro (fun hg=> ?_) (fun hg=> ?_)|exact zC|fail)
 rfl
theorem zmW (n:Nat) (h:n<2^40):CallOK Tryz.prog 147 [.f (.one (.d (.v (.slice none 0 0)))), .f (ai n)] (fun r o=>r=[.one (.own 1 0 (zeroD [.int .u8 0] n) false)]∧o=[]):=by
 refine zfb zat mixed (T:=Ty) (n:=27) Tryz.func147 (c:=Tryz.f147.body.getD .skip) rfl Tryz.results147 Tryz.ntmps147 Tryz.call147
  (fun _=>⟨(openG 27 [.f (.one (.d (.v (.slice none 0 0)))), .f (ai n)]).v.set 0 (.one (.gap ⟨0,1,0⟩ 0 0 0)),[(0,⟨1,[none,some {e:=0,var:=false,fz:=false,sz:=1,cells:=[]}]⟩)]⟩)
  (fun _=>True) (fun cx a w hh=>⟨0,trivial,Gh.nilG (i:=0) (s:=0) (sz:=1) rfl cx a w hh⟩) ?_
 intro k _
 simp only[Tryz.f147,Option.getD]
 have h1:decide ((n:Int)<0)=false:=by simp
 have hw:IntKind.i64.wrap ((n:Int) - IntKind.i64.wrap (((0:Nat):Int) - ((0:Nat):Int)))=n:=by
  rw[show IntKind.i64.wrap (((0:Nat):Int) - ((0:Nat):Int))=0 from by decide,Int.sub_zero,wrap64 (by omega) (by omega)]
 cases h2:decide ((n:Int)>0)
 ·have:n=0:=by simp at h2;omega
  subst this
  repeat'(first|(with_reducible first|refine zaa _ _ ?_|refine zad ?_|refine zae ?_)|rw[zaf]|simp only[h1,hw,h2,zY,Int.reduceEq,Int.reduceBEq,Int.reduceBNe,Nat.reduceSub,Nat.reduceEqDiff,Nat.reduceAdd,Nat.reduceMul,Nat.reduceLeDiff,Nat.reduceLT,Nat.reduceBEq,reduceCtorEq]|refine zab ?_|refine zac (fun hb=> ?_) (fun hb=> ?_)|(refine And.intro ?_ ?_;exact zI)|refine And.intro (fun hg=> ?_) (fun hg=> ?_)|exact zC|fail)
  rfl
 ·have h3:0<n:=by simp at h2;omega
  have hc1:(0≤(n:Int)∧(n:Int)<2^62∧0<n∧n≤2^47)=True:=eq_true (by omega)
  repeat'(first|(with_reducible first|refine zaa _ _ ?_|refine zad ?_|refine zae ?_)|rw[zaf]|simp only[h1,hw,h2,hc1,Int.toNat_natCast,zY,Int.reduceEq,Int.reduceBEq,Int.reduceBNe,Nat.reduceSub,Nat.reduceEqDiff,Nat.reduceAdd,Nat.reduceMul,Nat.reduceLeDiff,Nat.reduceLT,Nat.reduceBEq,reduceCtorEq]|refine zab ?_|refine zac (fun hb=> ?_) (fun hb=> ?_)|(refine And.intro ?_ ?_;exact zI)|refine And.intro (fun hg=> ?_) (fun hg=> ?_)|exact zC|fail)
def catC (ls:List (List D)) (i:Nat):List D:=if i=0 then zeroD [.int .u8 0] ls.flatten.length else(ls.take i).flatten
theorem zkk (ls:List (List D)) (i:Nat):(catC ls i).take (ls.take i).flatten.length=(ls.take i).flatten:=by
 unfold catC
 split
 ·rename_i h;subst h;simp
 ·rw[List.take_length]
theorem zdE {ls:List (List D)} {i:Nat} (hi:i<ls.length):(ls.take (i+1)).flatten=(ls.take i).flatten++ls[i]:=by
 rw[List.take_succ_eq_append_getElem hi,List.flatten_append];simp
theorem zhv {ls:List (List D)} {m:Nat} (hs:∀l∈ls,l.length≤m):∀i,(ls.take i).flatten.length≤i*m
 |0=>by simp
 |i+1=>by
  by_cases hi:i<ls.length
  ·rw[zdE hi,List.length_append]
   have:=zhv hs i
   have:=hs _ (List.getElem_mem hi)
   rw[Nat.add_mul];omega
  ·have h1:ls.take (i+1)=ls:=List.take_of_length_le (by omega)
   have h2:ls.take i=ls:=List.take_of_length_le (by omega)
   rw[h1,←h2]
   have:=zhv hs i
   rw[Nat.add_mul];omega
theorem zkl {ls:List (List D)} {i:Nat} (hi:i<ls.length):catC ls (i+1)=(ls.take i).flatten++ls[i]:=by
 unfold catC
 rw[if_neg (by omega),zdE hi]
theorem zln (ls:List (List D)):catC ls ls.length=ls.flatten:=by
 unfold catC
 cases ls with
 |nil=>rfl
 |cons a l=>rw[if_neg (by simp),List.take_length]
abbrev catE (ls:List (List D)):List D:=ls.map fun l=> .sl l.length l
theorem zmd {ls:List (List D)} {i:Nat} (hi:i<ls.length):(catE ls).drop i= .sl ls[i].length ls[i]::catE (ls.drop (i+1)):=by
 rw[←List.map_drop,List.drop_eq_getElem_cons hi];rfl
theorem zkm {ls:List (List D)}:(catE ls).length=ls.length:=by simp
theorem zdF (ls:List (List D)) (hl:ls.length<2^10) (hs:∀l∈ls,l.length≤2^12):
  CallOK Tryz.prog 105 [.f (al ls.length (catE ls))] (fun r o=>r=[.one (.own 1 ls.flatten.length ls.flatten false)]∧o=[]):=by
 refine zal zat mixed (T:=Ty) (n:=36) Tryz.func105 (c:=Tryz.f105.body.getD .skip) rfl Tryz.results105 Tryz.ntmps105 Tryz.call105 ?_
 simp only[Tryz.f105,Option.getD]
 have hfl:=zhv hs
 repeat'(first|(with_reducible first|refine zaa _ _ ?_|refine zad ?_|refine zae ?_)|rw[zaf]|simp only[zY,Int.reduceEq,Int.reduceBEq,Int.reduceBNe,Nat.reduceSub,Nat.reduceEqDiff,Nat.reduceAdd,Nat.reduceMul,Nat.reduceLeDiff,Nat.reduceLT,Nat.reduceBEq,reduceCtorEq]|refine zab ?_|refine zac (fun hb=> ?_) (fun hb=> ?_)|(refine And.intro ?_ ?_;exact zI)|refine And.intro (fun hg=> ?_) (fun hg=> ?_)|exact zC|fail)
 refine zaV (τ:=Nat) (fun i=>⟨[al ls.length (catE ls),dd,dd,ai (ls.take i).flatten.length,dd,dd,dd,dd,dd,al ls.length (catE ls),ai ls.length,ai i,dd,dd,dd,dd,dd,dd,dd,dd,dd,dd,dd,dd,dd,dd,dd,dd,dd,dd,dd,dd,dd,dd,dd,dd],[(5,⟨2,[]⟩)]⟩)
  (fun i=>i≤ls.length) (fun _=>()) (fun i=>ls.length - i) 0
  (Gh.canon [] [5] [] (by simp only[List.take_zero,List.flatten_nil,List.length_nil,zaq,zaE,zar,zaw,zax,zay,List.set_cons_zero,List.set_cons_succ,and_true,true_and,Int.natCast_zero,Int.cast_ofNat_Int,D.v.injEq,Value.int.injEq];try(repeat'(first|rfl|omega|with_reducible apply And.intro))) rfl rfl) (Nat.zero_le _) ?_
 intro i hi0 hF K hK
 repeat(first|with_reducible refine zaa _ _ ?_|with_reducible refine And.imp_right (zaa _ _) ?_|with_reducible refine And.imp_right (And.imp_right (zaa _ _)) ?_|with_reducible refine And.imp_right (And.imp_right (And.imp_right (zaa _ _))) ?_|rw[zaf]|simp only[zB,Nat.reduceSub,Nat.reduceEqDiff,Nat.reduceAdd,Nat.reduceMul,Nat.reduceLeDiff,Nat.reduceLT,Nat.reduceBEq,reduceCtorEq])
 refine zac (fun hlt=> ?_) (fun hge=> ?_)
 ·have hi:i<ls.length:=by simpa using hlt
  have hat:=zmd hi
  have hw:=za3 hi (by omega)
  have hb:=hfl i
  have hb2:=hfl (i+1)
  have hil:i*2^12≤2^10*2^12:=Nat.mul_le_mul_right _ (by omega)
  have hil2:(i+1)*2^12≤2^10*2^12:=Nat.mul_le_mul_right _ (by omega)
  have hfs:(ls.take (i+1)).flatten.length=(ls.take i).flatten.length+ls[i].length:=by rw[zdE hi,List.length_append]
  have hws:IntKind.i64.wrap (((ls.take i).flatten.length:Int)+(ls[i].length:Int))=((ls.take (i+1)).flatten.length:Int):=by rw[wrap64 (by omega) (by omega),hfs];omega
  have hn:decide (((ls.take (i+1)).flatten.length:Int)<0)=false:=by simp
  repeat'(first|(with_reducible first|refine zaa _ _ ?_|refine zad ?_|refine zae ?_)|rw[zaf]|simp only[hat,hws,hn,zkm,zY,Int.reduceEq,Int.reduceBEq,Int.reduceBNe,Nat.reduceSub,Nat.reduceEqDiff,Nat.reduceAdd,Nat.reduceMul,Nat.reduceLeDiff,Nat.reduceLT,Nat.reduceBEq,reduceCtorEq]|refine zab ?_|refine zac (fun hb=> ?_) (fun hb=> ?_)|(refine And.intro ?_ ?_;exact zI)|refine And.intro (fun hg=> ?_) (fun hg=> ?_)|exact zC|fail)
  exact hK _ (i+1) (Gh.canon [] [] [] (by simp only[hw,zaq,zaE,zar,zaw,zax,zay,List.set_cons_zero,List.set_cons_succ,and_true,true_and,Int.natCast_zero,Int.cast_ofNat_Int,D.v.injEq,Value.int.injEq];try(repeat'(first|rfl|omega|with_reducible apply And.intro))) rfl rfl) hi rfl (by omega)
 ·have hi:i=ls.length:=by
   have:¬(i:Int)<ls.length:=by simpa using hge
   omega
  subst hi
  have hb:=hfl ls.length
  have hil:ls.length*2^12≤2^10*2^12:=Nat.mul_le_mul_right _ (by omega)
  rw[List.take_length]at*
  have hgr:=zmW ls.flatten.length (by omega)
  clear hK
  repeat'(first|(with_reducible first|refine zaa _ _ ?_|refine zad ?_|refine zae ?_)|rw[zaf]|simp only[zY,Int.reduceEq,Int.reduceBEq,Int.reduceBNe,Nat.reduceSub,Nat.reduceEqDiff,Nat.reduceAdd,Nat.reduceMul,Nat.reduceLeDiff,Nat.reduceLT,Nat.reduceBEq,reduceCtorEq]|((first|((try refine zah ?_);apply zak)|(apply zai;intro _));(solve|exact(hgr)|(refine CallOK.le (hgr) ?_;exact zM)|fail);try case hn=>rfl)|refine zab ?_|refine zac (fun hb=> ?_) (fun hb=> ?_)|(refine And.intro ?_ ?_;exact zI)|refine And.intro (fun hg=> ?_) (fun hg=> ?_)|exact zC|fail)
  refine zaV (τ:=Nat) (fun i=>⟨[dd,dd,dd,dd,dd,dd, .one (.own ⟨6,1,1⟩ 0 (ls.take i).flatten.length),dd,dd,dd,dd,dd,dd,dd,dd,dd,dd,dd,dd,dd,dd,dd,dd,dd,dd,al ls.length (catE ls),ai ls.length,ai i,dd,dd,dd,dd,dd,dd,dd,dd],[(5,⟨2,[]⟩),(24,⟨2,[]⟩),(6,{next:=2,l:=[none,some {e:=1,var:=false,fz:=false,sz:=1,cells:=(catC ls i).map C.d}]}),(8,⟨2,[]⟩),(33,⟨2,[]⟩)]⟩)
   (fun i=>i≤ls.length) (fun _=>()) (fun i=>ls.length - i) 0
   (Gh.canon [6] [8,33] [] (by simp only[List.take_zero,List.flatten_nil,List.length_nil,zaq,zaE,zar,zaw,zax,zay,List.set_cons_zero,List.set_cons_succ,and_true,true_and,Int.natCast_zero,Int.cast_ofNat_Int,D.v.injEq,Value.int.injEq];try(repeat'(first|rfl|omega|with_reducible apply And.intro))) rfl rfl) (Nat.zero_le _) ?_
  intro i hi0 hF K hK
  repeat(first|with_reducible refine zaa _ _ ?_|with_reducible refine And.imp_right (zaa _ _) ?_|with_reducible refine And.imp_right (And.imp_right (zaa _ _)) ?_|with_reducible refine And.imp_right (And.imp_right (And.imp_right (zaa _ _))) ?_|rw[zaf]|simp only[zB,Nat.reduceSub,Nat.reduceEqDiff,Nat.reduceAdd,Nat.reduceMul,Nat.reduceLeDiff,Nat.reduceLT,Nat.reduceBEq,reduceCtorEq])
  refine zac (fun hlt=> ?_) (fun hge=> ?_)
  ·have hi:i<ls.length:=by simpa using hlt
   have hat:=zmd hi
   have hw:=za3 hi (by omega)
   have hb:=hfl i
   have hb2:=hfl (i+1)
   have hil:i*2^12≤2^10*2^12:=Nat.mul_le_mul_right _ (by omega)
   have hil2:(i+1)*2^12≤2^10*2^12:=Nat.mul_le_mul_right _ (by omega)
   have hfs:(ls.take (i+1)).flatten.length=(ls.take i).flatten.length+ls[i].length:=by rw[zdE hi,List.length_append]
   have hle:((ls.take i).flatten.length+ls[i].length≤2^47)=True:=eq_true (by omega)
   repeat'(first|(with_reducible first|refine zaa _ _ ?_|refine zad ?_|refine zae ?_)|rw[zaf]|simp only[hat,zkm,←List.map_take,zkk,hle,zaC,zY,Int.reduceEq,Int.reduceBEq,Int.reduceBNe,Nat.reduceSub,Nat.reduceEqDiff,Nat.reduceAdd,Nat.reduceMul,Nat.reduceLeDiff,Nat.reduceLT,Nat.reduceBEq,reduceCtorEq]|refine zab ?_|refine zac (fun hb=> ?_) (fun hb=> ?_)|(refine And.intro ?_ ?_;exact zI)|refine And.intro (fun hg=> ?_) (fun hg=> ?_)|exact zC|fail)
   exact hK _ (i+1) (Gh.canon [6] [] [] (by simp only[hw,hfs,zaq,zaE,zar,zaw,zax,zay,List.set_cons_zero,List.set_cons_succ,and_true,true_and,Int.natCast_zero,Int.cast_ofNat_Int,D.v.injEq,Value.int.injEq];try(repeat'(first|rfl|omega|with_reducible apply And.intro))) rfl (by rw[zkl hi];rfl)) hi rfl (by omega)
  ·have hi:i=ls.length:=by
    have:¬(i:Int)<ls.length:=by simpa using hge
    omega
   subst hi
   repeat'(first|(with_reducible first|refine zaa _ _ ?_|refine zad ?_|refine zae ?_)|rw[zaf]|simp only[zY,Int.reduceEq,Int.reduceBEq,Int.reduceBNe,Nat.reduceSub,Nat.reduceEqDiff,Nat.reduceAdd,Nat.reduceMul,Nat.reduceLeDiff,Nat.reduceLT,Nat.reduceBEq,reduceCtorEq]|refine zab ?_|refine zac (fun hb=> ?_) (fun hb=> ?_)|(refine And.intro ?_ ?_;exact zI)|refine And.intro (fun hg=> ?_) (fun hg=> ?_)|exact zC|fail)
   rw[List.take_length,zln]
end Go.Proofs.YtiegkabcgokhkaaGreat
