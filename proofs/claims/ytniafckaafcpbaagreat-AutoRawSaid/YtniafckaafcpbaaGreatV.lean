import Derived.Test.YtniafckaafcpbaaGreatW
import Derived.Test.YtniafckaafcpbaaGreatT
import Derived.Test.YtniafckaafcpbaaGreatK8
namespace Go.Proofs.YtniafckaafcpbaaGreat
open Go.Pk
set_option maxRecDepth 100000
set_option linter.unusedSimpArgs false
set_option linter.unusedVariables false
theorem zlz {x:Value}:normD (.raw x)= .raw x:=rfl
structure LkD where
 k:Lk
 x:D
abbrev LkD.enc (m:LkD):List D:=[sD m.k.name,iD m.k.holder,iD m.k.token,m.x]
abbrev rowsD (l:List LkD):List D:=l.flatMap LkD.enc
def plain (k:Lk):LkD:=⟨k, .sl k.line.length (intsE k.line)⟩
theorem zfh {l:List Lk}:rowsD (l.map plain)=locksE l:=by
 induction l with
 |nil=>rfl
 |cons k l ih=>rw[List.map_cons,rowsD,List.flatMap_cons,locksE,List.flatMap_cons];exact congrArg (_++·) ih
theorem zja {l:List LkD} {i:Nat} (hi:i<l.length):(rowsD l).drop (i*4)=l[i].enc++(rowsD (l.drop (i+1))):=zcA _ 4 l i hi fun _=>rfl
theorem zb5 {l:List LkD}:(rowsD l).length=l.length*4:=zbK _ 4 (fun _=>rfl) l
theorem zfZ {l:List LkD}:(rowsD l).take (l.length*4)=rowsD l:=zbO LkD.enc 4 (fun _=>rfl) l
theorem zf0 {l:List LkD} {m:LkD}:rowsD (l++[m])=rowsD l++m.enc:=by simp[rowsD]
theorem zea {l:List Lk} {m:Lk}:locksE (l++[m])=locksE l++m.enc:=by simp[locksE]
theorem zeA (l:List Lk) (hl:l.length<2^30) (hll:∀k∈l,k.line.length<2^30):CallOK Tryz.prog 24 [.f (al l.length (locksE l))] (fun r o=>r=[.one (.own 4 l.length (locksE l) false)]∧o=[]):=by
 refine CallOK.nil ?_
 refine zak zaA mixed (T:=Ty) (n:=26) Tryz.func24 (c:=Tryz.f24.body.getD .skip) rfl Tryz.results24 Tryz.ntmps24 Tryz.call24 ?_
 simp only[Tryz.f24,Option.getD]
 repeat'(first|(with_reducible first|refine zaa _ _ ?_|refine zae ?_|refine zaf ?_)|rw[zad]|simp only[zY,Int.reduceEq,Int.reduceBEq,Int.reduceBNe,Nat.reduceSub,Nat.reduceEqDiff,Nat.reduceAdd,Nat.reduceMul,Nat.reduceLeDiff,Nat.reduceLT,Nat.reduceBEq,reduceCtorEq]|refine zab ?_|refine zac (fun hb=> ?_) (fun hb=> ?_)|(refine And.intro ?_ ?_;exact zI)|refine And.intro (fun hg=> ?_) (fun hg=> ?_)|exact zC|fail)
 refine zau (τ:=Nat) (fun i=>⟨[al l.length (locksE l),dd,dd, .one (.own ⟨3,1,1⟩ 0 i),ai i,dd,dd,dd,dd,dd,dd,dd,dd,dd,dd,dd,dd,dd,dd,dd,dd,dd,dd,dd,dd,dd],[(3,{next:=2,l:=[none,some {e:=1,var:=false,fz:=false,sz:=4,cells:=(locksE (l.take i)).map C.d}]}),(5,⟨2,[]⟩),(16,⟨2,[]⟩),(19,⟨2,[]⟩),(23,⟨2,[]⟩),(24,⟨2,[]⟩)]⟩)
  (fun i=>i≤l.length) (fun _=>()) (fun i=>l.length - i) 0
  ((Gh.nil (i:=3) (s:=3) (sz:=4) rfl).trans (Gh.canon [3] [5,16,19,23,24] [] zK rfl rfl)) (Nat.zero_le _) ?_
 intro i hi0 hF K hK
 repeat(first|with_reducible refine zaa _ _ ?_|with_reducible refine And.imp_right (zaa _ _) ?_|with_reducible refine And.imp_right (And.imp_right (zaa _ _)) ?_|with_reducible refine And.imp_right (And.imp_right (And.imp_right (zaa _ _))) ?_|rw[zad]|simp only[zB,Nat.reduceSub,Nat.reduceEqDiff,Nat.reduceAdd,Nat.reduceMul,Nat.reduceLeDiff,Nat.reduceLT,Nat.reduceBEq,reduceCtorEq])
 refine zac (fun hlt=> ?_) (fun hge=> ?_)
 ·have hi:i<l.length:=by simpa using hlt
  have hat:=zaG hi
  have hw:=zat hi (by omega)
  have hlk:=hll _ (List.getElem_mem hi)
  have h1:(l[i].line.length*8≤2^47)=True:=eq_true (by omega)
  have htl:(l.take i).length=i:=by rw[List.length_take];omega
  have htk:=zaL (l:=l.take i)
  rw[htl]at htk
  have hsn:locksE (l.take i)++[sD l[i].name,iD l[i].holder,iD l[i].token, .sl l[i].line.length (intsE l[i].line)]=locksE (l.take (i+1)):=by
   rw[←List.take_append_getElem hi,zea]
  repeat'(first|(with_reducible first|refine zaa _ _ ?_|refine zae ?_|refine zaf ?_)|rw[zad]|simp only[hat,List.cons_append,List.nil_append,zam,zaw,h1,htl,htk,hsn,zY,Int.reduceEq,Int.reduceBEq,Int.reduceBNe,Nat.reduceSub,Nat.reduceEqDiff,Nat.reduceAdd,Nat.reduceMul,Nat.reduceLeDiff,Nat.reduceLT,Nat.reduceBEq,reduceCtorEq]|refine zab ?_|refine zac (fun hb=> ?_) (fun hb=> ?_)|(refine And.intro ?_ ?_;exact zI)|refine And.intro (fun hg=> ?_) (fun hg=> ?_)|exact zC|fail)
  exact hK _ (i+1) (Gh.canon [3] [] [] (by simp only[hw,zan,zaz,zao,zaq,zar,zas,List.set_cons_zero,List.set_cons_succ,and_true,true_and,Int.natCast_zero,Int.cast_ofNat_Int,D.v.injEq,Value.int.injEq];try(repeat'(first|rfl|omega|with_reducible apply And.intro))) rfl rfl) hi rfl (by omega)
 ·have hi:i=l.length:=by
   have:¬(i:Int)<l.length:=by simpa using hge
   omega
  subst hi
  repeat'(first|(with_reducible first|refine zaa _ _ ?_|refine zae ?_|refine zaf ?_)|rw[zad]|simp only[List.take_length,zY,Int.reduceEq,Int.reduceBEq,Int.reduceBNe,Nat.reduceSub,Nat.reduceEqDiff,Nat.reduceAdd,Nat.reduceMul,Nat.reduceLeDiff,Nat.reduceLT,Nat.reduceBEq,reduceCtorEq]|refine zab ?_|refine zac (fun hb=> ?_) (fun hb=> ?_)|(refine And.intro ?_ ?_;exact zI)|refine And.intro (fun hg=> ?_) (fun hg=> ?_)|exact zC|fail)
  show roLe _ _∧True
  simp[roLe]
def expo (l:List Lk) (i:Nat) (x:D):List LkD:=l.zipIdx.map fun p=>if p.2=i then⟨p.1,x⟩else plain p.1
theorem za3 {l:List Lk} {i:Nat} {x:D}:(expo l i x).length=l.length:=by simp[expo]
theorem zcD {l:List Lk} {i j:Nat} {x:D} (hj:j<l.length):(expo l i x)[j]'(by rw[za3];exact hj)=if j=i then⟨l[j],x⟩else plain l[j]:=by simp[expo]
theorem zoE {l:List Lk} {i:Nat} {x:D}:(expo l i x).map LkD.k=l:=by
 refine List.ext_getElem (by simp[za3]) fun j h1 h2=> ?_
 rw[List.getElem_map,zcD h2]
 split<;>rfl
set_option maxHeartbeats 4000000 in
theorem zlA (l:List Lk) (hl:l.length<2^30) (hll:∀k∈l,k.line.length<2^30) (i0:Nat) (hi0:i0<l.length):
  CallX Tryz.prog 24 [.f (al l.length (locksE l))] (fun bs r o=>∃x,(∃a cap,x=Value.slice a l[i0].line.length cap)∧bs=[.val x]∧r=[.one (.own 4 l.length (rowsD (expo l i0 (.raw x))) false)]∧o=[[.own 1 l[i0].line.length (intsE l[i0].line) false]]):=by
 refine zlQ zaA mixed (T:=Ty) (n:=26) Tryz.func24 (c:=Tryz.f24.body.getD .skip) (q:=1000) (n2:=l[i0].line.length) rfl Tryz.results24 Tryz.ntmps24 Tryz.call24 (R:=fun x=>_) ?_
 simp only[Tryz.f24,Option.getD]
 repeat'(first|(with_reducible first|refine zaa _ _ ?_|refine zae ?_|refine zaf ?_)|rw[zad]|simp only[zY,Int.reduceEq,Int.reduceBEq,Int.reduceBNe,Nat.reduceSub,Nat.reduceEqDiff,Nat.reduceAdd,Nat.reduceMul,Nat.reduceLeDiff,Nat.reduceLT,Nat.reduceBEq,reduceCtorEq]|refine zab ?_|refine zac (fun hb=> ?_) (fun hb=> ?_)|(refine And.intro ?_ ?_;exact zI)|refine And.intro (fun hg=> ?_) (fun hg=> ?_)|exact zC|fail)
 refine zau (τ:=Nat×Option (Option Addr×Nat)) (fun t=>match t.2 with
  |none=>⟨[al l.length (locksE l),dd,dd, .one (.own ⟨3,1,1⟩ 0 t.1),ai t.1,dd,dd,dd,dd,dd,dd,dd,dd,dd,dd,dd,dd,dd,dd,dd,dd,dd,dd,dd,dd,dd],[(3,{next:=2,l:=[none,some {e:=1,var:=false,fz:=false,sz:=4,cells:=(locksE (l.take t.1)).map C.d}]}),(5,⟨2,[]⟩),(16,⟨2,[]⟩),(19,⟨2,[]⟩),(23,⟨2,[]⟩),(24,⟨2,[]⟩)]⟩
  |some x=>⟨[al l.length (locksE l), .one (.lk ⟨1000,1,0⟩ l[i0].line.length (.slice x.1 l[i0].line.length x.2)),dd, .one (.own ⟨3,1,1⟩ 0 t.1),ai t.1,dd,dd,dd,dd,dd,dd,dd,dd,dd,dd,dd,dd,dd,dd,dd,dd,dd,dd,dd,dd,dd],[(3,{next:=2,l:=[none,some {e:=1,var:=false,fz:=false,sz:=4,cells:=(rowsD ((expo l i0 (.raw (.slice x.1 l[i0].line.length x.2))).take t.1)).map C.d}]}),(5,⟨2,[]⟩),(16,⟨2,[]⟩),(19,⟨2,[]⟩),(23,⟨2,[]⟩),(24,⟨2,[]⟩),(1000,⟨1,[none,some {e:=0,var:=false,fz:=false,sz:=1,cells:=(intsE l[i0].line).map C.d}]⟩)]⟩)
  (fun t=>t.1≤l.length∧(t.1≤i0↔t.2=none)) (fun _=>()) (fun t=>l.length - t.1) (0,none)
  ((Gh.nil (i:=3) (s:=3) (sz:=4) rfl).trans (Gh.canon [3] [5,16,19,23,24] [] zK rfl rfl)) ⟨Nat.zero_le _,by simp⟩ ?_
 rintro⟨i,x⟩ ⟨hi1,hx⟩ hF K hK
 cases x with
 |none=>
  simp only at hi1 hx hK⊢
  have hx0:i≤i0:=hx.2 trivial
  repeat(first|with_reducible refine zaa _ _ ?_|with_reducible refine And.imp_right (zaa _ _) ?_|with_reducible refine And.imp_right (And.imp_right (zaa _ _)) ?_|with_reducible refine And.imp_right (And.imp_right (And.imp_right (zaa _ _))) ?_|rw[zad]|simp only[zB,Nat.reduceSub,Nat.reduceEqDiff,Nat.reduceAdd,Nat.reduceMul,Nat.reduceLeDiff,Nat.reduceLT,Nat.reduceBEq,reduceCtorEq])
  refine zac (fun hlt=> ?_) (fun hge=> ?_)
  ·have hi:i<l.length:=by simpa using hlt
   have hat:=zaG hi
   have hw:=zat hi (by omega)
   have hlk:=hll _ (List.getElem_mem hi)
   have h1:(l[i].line.length*8≤2^47)=True:=eq_true (by omega)
   have htl:(l.take i).length=i:=by rw[List.length_take];omega
   have htk:=zaL (l:=l.take i)
   rw[htl]at htk
   have hsn:locksE (l.take i)++[sD l[i].name,iD l[i].holder,iD l[i].token, .sl l[i].line.length (intsE l[i].line)]=locksE (l.take (i+1)):=by
    rw[←List.take_append_getElem hi,zea]
   repeat'(first|(with_reducible first|refine zaQ 7 ?_|refine zaI 7 ?_|refine zaJ 7 ?_)|(with_reducible first|refine zaa _ _ ?_|refine zae ?_|refine zaf ?_)|rw[zad]|simp only[hat,List.cons_append,List.nil_append,zam,zaw,h1,htl,htk,hsn,zY,Int.reduceEq,Int.reduceBEq,Int.reduceBNe,Nat.reduceSub,Nat.reduceEqDiff,Nat.reduceAdd,Nat.reduceMul,Nat.reduceLeDiff,Nat.reduceLT,Nat.reduceBEq,reduceCtorEq]|refine zab ?_|refine zac (fun hb=> ?_) (fun hb=> ?_)|(refine And.intro ?_ ?_;exact zI)|refine And.intro (fun hg=> ?_) (fun hg=> ?_)|exact zC|fail)
   by_cases hii:i=i0
   ·subst hii
    refine zaO (zex _ _ (zoc zaA mixed _ _ (zjv (s:=5) (k:=3) (k':=4) (e:=7) (j:=1) (q:=1000) rfl rfl rfl rfl rfl rfl (by decide) rfl rfl) ?_))
    intro x _
    have hsx:locksE (l.take i)++[sD l[i].name,iD l[i].holder,iD l[i].token, .raw (.slice x.1 l[i].line.length x.2)]=rowsD ((expo l i (.raw (.slice x.1 l[i].line.length x.2))).take (i+1)):=by
     rw[←List.take_append_getElem (by rw[za3];exact hi),zf0,zcD hi,if_pos rfl]
     congr 1
     rw[←zfh]
     congr 1
     refine List.ext_getElem (by simp[za3]) fun j h1 h2=> ?_
     have hji:j<i:=by simp at h1;omega
     rw[List.getElem_map,List.getElem_take,List.getElem_take,zcD (by omega),if_neg (by omega)]
    repeat'(first|(with_reducible first|refine zaa _ _ ?_|refine zae ?_|refine zaf ?_)|rw[zad]|simp only[hat,List.cons_append,List.nil_append,zam,zaw,h1,htl,htk,hsx,zlz,zY,Int.reduceEq,Int.reduceBEq,Int.reduceBNe,Nat.reduceSub,Nat.reduceEqDiff,Nat.reduceAdd,Nat.reduceMul,Nat.reduceLeDiff,Nat.reduceLT,Nat.reduceBEq,reduceCtorEq]|refine zab ?_|refine zac (fun hb=> ?_) (fun hb=> ?_)|(refine And.intro ?_ ?_;exact zI)|refine And.intro (fun hg=> ?_) (fun hg=> ?_)|exact zC|fail)
    exact hK _ (i+1,some x) (Gh.canon [3,1000] [] [1000] (by simp only[hw,zmI,zan,zaz,zao,zaq,zar,zas,List.set_cons_zero,List.set_cons_succ,and_true,true_and,Int.natCast_zero,Int.cast_ofNat_Int,D.v.injEq,Value.int.injEq];try(repeat'(first|rfl|omega|with_reducible apply And.intro))) rfl rfl) ⟨hi,by simp⟩ trivial (by simp only;omega)
   ·refine zaO ?_
    repeat'(first|(with_reducible first|refine zaa _ _ ?_|refine zae ?_|refine zaf ?_)|rw[zad]|simp only[hat,List.cons_append,List.nil_append,zam,zaw,h1,htl,htk,hsn,zY,Int.reduceEq,Int.reduceBEq,Int.reduceBNe,Nat.reduceSub,Nat.reduceEqDiff,Nat.reduceAdd,Nat.reduceMul,Nat.reduceLeDiff,Nat.reduceLT,Nat.reduceBEq,reduceCtorEq]|refine zab ?_|refine zac (fun hb=> ?_) (fun hb=> ?_)|(refine And.intro ?_ ?_;exact zI)|refine And.intro (fun hg=> ?_) (fun hg=> ?_)|exact zC|fail)
    exact hK _ (i+1,none) (Gh.canon [3] [] [] (by simp only[hw,zan,zaz,zao,zaq,zar,zas,List.set_cons_zero,List.set_cons_succ,and_true,true_and,Int.natCast_zero,Int.cast_ofNat_Int,D.v.injEq,Value.int.injEq];try(repeat'(first|rfl|omega|with_reducible apply And.intro))) rfl rfl) ⟨hi,by simp;omega⟩ trivial (by simp only;omega)
  ·exfalso
   have:¬(i:Int)<l.length:=by simpa using hge
   omega
 |some x=>
  simp only at hi1 hx hK⊢
  have hx0:¬i≤i0:=fun h=>by cases hx.1 h
  repeat(first|with_reducible refine zaa _ _ ?_|with_reducible refine And.imp_right (zaa _ _) ?_|with_reducible refine And.imp_right (And.imp_right (zaa _ _)) ?_|with_reducible refine And.imp_right (And.imp_right (And.imp_right (zaa _ _))) ?_|rw[zad]|simp only[zB,Nat.reduceSub,Nat.reduceEqDiff,Nat.reduceAdd,Nat.reduceMul,Nat.reduceLeDiff,Nat.reduceLT,Nat.reduceBEq,reduceCtorEq])
  refine zac (fun hlt=> ?_) (fun hge=> ?_)
  ·have hi:i<l.length:=by simpa using hlt
   have hat:=zaG hi
   have hw:=zat hi (by omega)
   have hlk:=hll _ (List.getElem_mem hi)
   have h1:(l[i].line.length*8≤2^47)=True:=eq_true (by omega)
   have htl:((expo l i0 (.raw (.slice x.1 l[i0].line.length x.2))).take i).length=i:=by rw[List.length_take,za3];omega
   have htk:=zfZ (l:=(expo l i0 (.raw (.slice x.1 l[i0].line.length x.2))).take i)
   rw[htl]at htk
   have hsn:rowsD ((expo l i0 (.raw (.slice x.1 l[i0].line.length x.2))).take i)++[sD l[i].name,iD l[i].holder,iD l[i].token, .sl l[i].line.length (intsE l[i].line)]=rowsD ((expo l i0 (.raw (.slice x.1 l[i0].line.length x.2))).take (i+1)):=by
    rw[←List.take_append_getElem (by rw[za3];exact hi),zf0,zcD hi,if_neg (by omega)];rfl
   repeat'(first|(with_reducible first|refine zaa _ _ ?_|refine zae ?_|refine zaf ?_)|rw[zad]|simp only[hat,List.cons_append,List.nil_append,zam,zaw,zb5,h1,htl,htk,hsn,zY,Int.reduceEq,Int.reduceBEq,Int.reduceBNe,Nat.reduceSub,Nat.reduceEqDiff,Nat.reduceAdd,Nat.reduceMul,Nat.reduceLeDiff,Nat.reduceLT,Nat.reduceBEq,reduceCtorEq]|refine zab ?_|refine zac (fun hb=> ?_) (fun hb=> ?_)|(refine And.intro ?_ ?_;exact zI)|refine And.intro (fun hg=> ?_) (fun hg=> ?_)|exact zC|fail)
   exact hK _ (i+1,some x) (Gh.canon [3,1000] [] [1000] (by simp only[hw,zmI,zan,zaz,zao,zaq,zar,zas,List.set_cons_zero,List.set_cons_succ,and_true,true_and,Int.natCast_zero,Int.cast_ofNat_Int,D.v.injEq,Value.int.injEq];try(repeat'(first|rfl|omega|with_reducible apply And.intro))) rfl rfl) ⟨hi,by simp;omega⟩ trivial (by simp only;omega)
  ·have hi:i=l.length:=by
    have:¬(i:Int)<l.length:=by simpa using hge
    omega
   subst hi
   repeat'(first|(with_reducible first|refine zaa _ _ ?_|refine zae ?_|refine zaf ?_)|rw[zad]|simp only[zY,Int.reduceEq,Int.reduceBEq,Int.reduceBNe,Nat.reduceSub,Nat.reduceEqDiff,Nat.reduceAdd,Nat.reduceMul,Nat.reduceLeDiff,Nat.reduceLT,Nat.reduceBEq,reduceCtorEq]|refine zab ?_|refine zac (fun hb=> ?_) (fun hb=> ?_)|(refine And.intro ?_ ?_;exact zI)|refine And.intro (fun hg=> ?_) (fun hg=> ?_)|exact zC|fail)
   refine⟨1, .slice x.1 l[i0].line.length x.2,rfl,⟨_,_,rfl⟩, ?_,rfl⟩
   rw[List.take_of_length_le (by rw[za3];exact Nat.le_refl _)]
end Go.Proofs.YtniafckaafcpbaaGreat
