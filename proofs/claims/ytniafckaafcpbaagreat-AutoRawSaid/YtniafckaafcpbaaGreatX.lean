import Derived.Test.YtniafckaafcpbaaGreatW
import Derived.Test.YtniafckaafcpbaaGreatS
namespace Go.Proofs.YtniafckaafcpbaaGreat
open Go.Pk
set_option maxRecDepth 100000
set_option linter.unusedSimpArgs false
set_option linter.unusedVariables false
def byteI (n:Int):Prop:=0≤n∧n<256
def names4:List ByteArray:=[⟨#[97]⟩,⟨#[98]⟩,⟨#[99]⟩,⟨#[100]⟩,⟨#[107,101,121,45,49]⟩,⟨#[116,104,101,45,108,97,115,116,45,111,110,101]⟩]
def namedP (n:Int):ByteArray:=(names4[(n % 6).toNat]?).getD .empty
def kindP (a:Int):Int:=1+a % 6
def sessP (a b:Int):Int:=if kindP a=1 then 0 else 1+b % 7
def cmdNm (a c:Int):ByteArray:=if(kindP a==3||kindP a==4||kindP a==5)=true then namedP c else .empty
structure Act where
 time:Int
 client:Int
 seq:Int
 kind:Int
 session:Int
 name:Int
abbrev Act.enc (a:Act):List D:=[uD a.time,uD a.client,uD a.seq,uD a.kind,uD a.session,uD a.name]
abbrev actsE (l:List Act):List D:=l.flatMap Act.enc
def actOk (a:Act):Prop:=byteI a.time∧byteI a.client∧byteI a.seq∧byteI a.kind∧byteI a.session∧byteI a.name
def reqN (c q k s n:Int):Req:=⟨c % 8,1+q,kindP k,sessP k s,cmdNm k n⟩
theorem zio (l:List Memo) (hl:l.length<2^62) (c:Int):CallOK Tryz.prog 27 [.f (al l.length (memosE l)), .f (ai c)]
  (fun r o=>r=[.agg (((findM l c).getD noMemo).enc.map RO.d),rb (findM l c).isSome]∧o=[]):=by
 refine CallOK.nil ?_
 refine zak zaA mixed (T:=Ty) (n:=25) Tryz.func27 (c:=Tryz.f27.body.getD .skip) rfl Tryz.results27 Tryz.ntmps27 Tryz.call27 ?_
 simp only[Tryz.f27,Option.getD]
 repeat'(first|(with_reducible first|refine zaa _ _ ?_|refine zae ?_|refine zaf ?_)|rw[zad]|simp only[zY,Int.reduceEq,Int.reduceBEq,Int.reduceBNe,Nat.reduceSub,Nat.reduceEqDiff,Nat.reduceAdd,Nat.reduceMul,Nat.reduceLeDiff,Nat.reduceLT,Nat.reduceBEq,reduceCtorEq]|refine zab ?_|refine zac (fun hb=> ?_) (fun hb=> ?_)|(refine And.intro ?_ ?_;exact zI)|refine And.intro (fun hg=> ?_) (fun hg=> ?_)|exact zC|fail)
 refine zau (τ:=Nat) (fun i=>⟨[al l.length (memosE l),ai c,dd,dd, .one (.ptr ⟨4,0,1⟩ 0),dd,ai i,dd,dd,dd,dd,dd,dd,dd,dd,dd,dd,dd,dd,dd,dd,dd,dd,dd,dd],[(4,{next:=2,l:=[some {e:=1,var:=true,fz:=false,sz:=0,cells:=[di 0,di 0,di 0,di 0,di 0, .d (.v (.slice none 0 0))]},none,none,none,none,none,none]})]⟩)
  (fun i=>i≤l.length) (fun i=>findM (l.drop i) c) (fun i=>l.length - i) 0
  (Gh.canon [4] [] [] zK rfl rfl) (Nat.zero_le _) ?_
 intro i hi0 hF K hK
 rw[List.drop_zero]at hF
 repeat(first|with_reducible refine zaa _ _ ?_|with_reducible refine And.imp_right (zaa _ _) ?_|with_reducible refine And.imp_right (And.imp_right (zaa _ _)) ?_|with_reducible refine And.imp_right (And.imp_right (And.imp_right (zaa _ _))) ?_|rw[zad]|simp only[zB,Nat.reduceSub,Nat.reduceEqDiff,Nat.reduceAdd,Nat.reduceMul,Nat.reduceLeDiff,Nat.reduceLT,Nat.reduceBEq,reduceCtorEq])
 refine zac (fun hlt=> ?_) (fun hge=> ?_)
 ·have hi:i<l.length:=by simpa using hlt
  have hat:=za2 hi
  have hw:=zat hi hl
  have hq:findM (l.drop i) c=if(l[i].client==c)=true then some l[i]else findM (l.drop (i+1)) c:=by
   unfold findM
   rw[List.drop_eq_getElem_cons hi,List.find?_cons]
   cases l[i].client==c<;>rfl
  rw[hq]at hF
  repeat'(first|(with_reducible first|refine zaa _ _ ?_|refine zae ?_|refine zaf ?_)|rw[zad]|simp only[hat,List.cons_append,List.nil_append,zaD,zY,Int.reduceEq,Int.reduceBEq,Int.reduceBNe,Nat.reduceSub,Nat.reduceEqDiff,Nat.reduceAdd,Nat.reduceMul,Nat.reduceLeDiff,Nat.reduceLT,Nat.reduceBEq,reduceCtorEq]|refine zab ?_|refine zac (fun hb=> ?_) (fun hb=> ?_)|(refine And.intro ?_ ?_;exact zI)|refine And.intro (fun hg=> ?_) (fun hg=> ?_)|exact zC|fail)
  ·rw[if_pos hb]at hF
   rw[←hF]
   simp[rfsLe,rfLe,rosLe,roLe]
  ·rw[if_neg (by rw[hb];simp)]at hq
   exact hK _ (i+1) (Gh.canon [4] [] [] (by simp only[hw,zan,zaz,zao,zaq,zar,zas,List.set_cons_zero,List.set_cons_succ,and_true,true_and,Int.natCast_zero,Int.cast_ofNat_Int,D.v.injEq,Value.int.injEq];try(repeat'(first|rfl|omega|with_reducible apply And.intro))) rfl rfl) hi hq.symm (by omega)
 ·have hi:i=l.length:=by
   have:¬(i:Int)<l.length:=by simpa using hge
   omega
  rw[hi,List.drop_length]at hF
  have hF:none=findM l c:=hF
  rw[←hF]
  repeat'(first|(with_reducible first|refine zaa _ _ ?_|refine zae ?_|refine zaf ?_)|rw[zad]|simp only[zY,Int.reduceEq,Int.reduceBEq,Int.reduceBNe,Nat.reduceSub,Nat.reduceEqDiff,Nat.reduceAdd,Nat.reduceMul,Nat.reduceLeDiff,Nat.reduceLT,Nat.reduceBEq,reduceCtorEq]|refine zab ?_|refine zac (fun hb=> ?_) (fun hb=> ?_)|(refine And.intro ?_ ?_;exact zI)|refine And.intro (fun hg=> ?_) (fun hg=> ?_)|exact zC|fail)
  simp[rfsLe,rfLe,rosLe,roLe,noMemo]
def reqA (s:St) (a:Act):Req:=
 let r:=reqN a.client (a.seq % 6) a.kind a.session a.name
 let b1:=(findS s.sess r.client).isSome&&decide (a.session % 8>0)&&(r.kind !=1)
 let b2:= !(findS s.sess r.client).isSome&&decide (a.session % 4>0)
 ⟨r.client,if decide (a.seq % 5>0)=true then(if(findM s.memos r.client).isSome=true then((findM s.memos r.client).getD noMemo).seq+1 else 1)else r.seq,
  if b2=true then 1 else r.kind,if b2=true then 0 else if b1=true then((findS s.sess r.client).getD noSess).num else r.session,if b2=true then .empty else r.name⟩
end Go.Proofs.YtniafckaafcpbaaGreat
