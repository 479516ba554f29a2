import Derived.Test.YtniafckaafcpbaaGreatX
namespace Go.Proofs.YtniafckaafcpbaaGreat
open Go.Pk
set_option maxRecDepth 100000
set_option linter.unusedSimpArgs false
set_option linter.unusedVariables false
def sameI (a b:List Int):Bool:=(a.length==b.length)&&((a.zip b).all fun p=>p.1==p.2)
theorem zeB (a b:List Int) (ha:a.length<2^62) (hb:b.length<2^62):CallOK Tryz.prog 12 [.f (al a.length (intsE a)), .f (al b.length (intsE b))] (fun r o=>r=[rb (sameI a b)]∧o=[]):=by
 refine zak zaA mixed (T:=Ty) (n:=26) Tryz.func12 (c:=Tryz.f12.body.getD .skip) rfl Tryz.results12 Tryz.ntmps12 Tryz.call12 ?_
 simp only[Tryz.f12,Option.getD]
 cases hl:((a.length:Int) !=(b.length:Int))
 ·have hle:a.length=b.length:=by simp at hl;omega
  have hs:sameI a b=(a.zip b).all fun p=>p.1==p.2:=by unfold sameI;rw[hle];simp
  rw[hs]
  repeat'(first|(with_reducible first|refine zaa _ _ ?_|refine zae ?_|refine zaf ?_)|rw[zad]|simp only[hl,zY,Int.reduceEq,Int.reduceBEq,Int.reduceBNe,Nat.reduceSub,Nat.reduceEqDiff,Nat.reduceAdd,Nat.reduceMul,Nat.reduceLeDiff,Nat.reduceLT,Nat.reduceBEq,reduceCtorEq]|refine zab ?_|refine zac (fun hb=> ?_) (fun hb=> ?_)|(refine And.intro ?_ ?_;exact zI)|refine And.intro (fun hg=> ?_) (fun hg=> ?_)|exact zC|fail)
  refine zau (τ:=Nat) (fun i=>⟨[al a.length (intsE a),al b.length (intsE b),dd,dd,dd,ai i,dd,dd,dd,dd,dd,dd,dd,dd,dd,dd,dd,dd,dd,dd,dd,dd,dd,dd,dd,dd],[]⟩)
   (fun i=>i≤a.length) (fun i=>((a.drop i).zip (b.drop i)).all fun p=>p.1==p.2) (fun i=>a.length - i) 0
   (Gh.canon [] [] [] zK rfl rfl) (Nat.zero_le _) ?_
  intro i hi0 hF K hK
  rw[List.drop_zero,List.drop_zero]at hF
  repeat(first|with_reducible refine zaa _ _ ?_|with_reducible refine And.imp_right (zaa _ _) ?_|with_reducible refine And.imp_right (And.imp_right (zaa _ _)) ?_|with_reducible refine And.imp_right (And.imp_right (And.imp_right (zaa _ _))) ?_|rw[zad]|simp only[zB,Nat.reduceSub,Nat.reduceEqDiff,Nat.reduceAdd,Nat.reduceMul,Nat.reduceLeDiff,Nat.reduceLT,Nat.reduceBEq,reduceCtorEq])
  refine zac (fun hlt=> ?_) (fun hge=> ?_)
  ·have hi:i<a.length:=by simpa using hlt
   have hib:i<b.length:=by omega
   have hat:=zbo hi
   have hbt:=zbo hib
   have hw:=zat hi ha
   have hq:(((a.drop i).zip (b.drop i)).all fun p=>p.1==p.2)=((a[i]==b[i])&&(((a.drop (i+1)).zip (b.drop (i+1))).all fun p=>p.1==p.2)):=by
    rw[List.drop_eq_getElem_cons hi,List.drop_eq_getElem_cons hib,List.zip_cons_cons,List.all_cons]
   rw[hq]at hF
   cases he:a[i] !=b[i]
   ·have he':(a[i]==b[i])=true:=by simpa using he
    rw[he',Bool.true_and]at hq
    repeat'(first|(with_reducible first|refine zaa _ _ ?_|refine zae ?_|refine zaf ?_)|rw[zad]|simp only[hat,hbt,he,List.cons_append,List.nil_append,zaw,zY,Int.reduceEq,Int.reduceBEq,Int.reduceBNe,Nat.reduceSub,Nat.reduceEqDiff,Nat.reduceAdd,Nat.reduceMul,Nat.reduceLeDiff,Nat.reduceLT,Nat.reduceBEq,reduceCtorEq]|refine zab ?_|refine zac (fun hb=> ?_) (fun hb=> ?_)|(refine And.intro ?_ ?_;exact zI)|refine And.intro (fun hg=> ?_) (fun hg=> ?_)|exact zC|fail)
    exact hK _ (i+1) (Gh.canon [] [] [] (by simp only[hw,zan,zaz,zao,zaq,zar,zas,List.set_cons_zero,List.set_cons_succ,and_true,true_and,Int.natCast_zero,Int.cast_ofNat_Int,D.v.injEq,Value.int.injEq];try(repeat'(first|rfl|omega|with_reducible apply And.intro))) rfl rfl) hi hq.symm (by omega)
   ·have he':(a[i]==b[i])=false:=by simpa using he
    rw[he',Bool.false_and]at hF
    repeat'(first|(with_reducible first|refine zaa _ _ ?_|refine zae ?_|refine zaf ?_)|rw[zad]|simp only[hat,hbt,he,List.cons_append,List.nil_append,zaw,zY,Int.reduceEq,Int.reduceBEq,Int.reduceBNe,Nat.reduceSub,Nat.reduceEqDiff,Nat.reduceAdd,Nat.reduceMul,Nat.reduceLeDiff,Nat.reduceLT,Nat.reduceBEq,reduceCtorEq]|refine zab ?_|refine zac (fun hb=> ?_) (fun hb=> ?_)|(refine And.intro ?_ ?_;exact zI)|refine And.intro (fun hg=> ?_) (fun hg=> ?_)|exact zC|fail)
    rw[←hF]
  ·have hi:i=a.length:=by
    have:¬(i:Int)<a.length:=by simpa using hge
    omega
   rw[hi,List.drop_length,List.zip_nil_left,List.all_nil]at hF
   rw[←hF]
   repeat'(first|(with_reducible first|refine zaa _ _ ?_|refine zae ?_|refine zaf ?_)|rw[zad]|simp only[zY,Int.reduceEq,Int.reduceBEq,Int.reduceBNe,Nat.reduceSub,Nat.reduceEqDiff,Nat.reduceAdd,Nat.reduceMul,Nat.reduceLeDiff,Nat.reduceLT,Nat.reduceBEq,reduceCtorEq]|refine zab ?_|refine zac (fun hb=> ?_) (fun hb=> ?_)|(refine And.intro ?_ ?_;exact zI)|refine And.intro (fun hg=> ?_) (fun hg=> ?_)|exact zC|fail)
 ·have hs:sameI a b=false:=by
   have:(a.length==b.length)=false:=by simp at hl⊢;omega
   unfold sameI;rw[this];rfl
  rw[hs]
  repeat'(first|(with_reducible first|refine zaa _ _ ?_|refine zae ?_|refine zaf ?_)|rw[zad]|simp only[hl,zY,Int.reduceEq,Int.reduceBEq,Int.reduceBNe,Nat.reduceSub,Nat.reduceEqDiff,Nat.reduceAdd,Nat.reduceMul,Nat.reduceLeDiff,Nat.reduceLT,Nat.reduceBEq,reduceCtorEq]|refine zab ?_|refine zac (fun hb=> ?_) (fun hb=> ?_)|(refine And.intro ?_ ?_;exact zI)|refine And.intro (fun hg=> ?_) (fun hg=> ?_)|exact zC|fail)
def st0:St:=⟨0,0,0,[],[],[]⟩
def rq0:Req:=⟨3,1,1,0, .empty⟩
theorem zdx:RightS st0:=zdZ.1 rfl
def st1:St:=⟨0,1,0,[⟨3,1,0⟩],[],[⟨3,1,⟨0,1,0,[]⟩⟩]⟩
theorem znf:Req.may rq0=true:=by
 have h:mayP 1 0 .empty=true:=by unfold mayP;simp
 unfold Req.may
 rw[show mayP rq0.kind rq0.session rq0.name=true from h]
 decide
theorem zmG:applyP st0 rq0=(st1,⟨0,1,0,[]⟩,true):=by
 unfold applyP
 rw[znf]
 rfl
theorem adv0:advanceP st1 10 10=⟨10,1,0,[],[],[⟨3,1,⟨0,1,0,[]⟩⟩]⟩:=rfl
theorem zcd:RightS st1:=by
 have:=(zeE zdx rq0 (by decide) (by decide)).rt
 rw[zmG]at this
 exact this
set_option maxHeartbeats 2000000 in
theorem zlI:CallOK Tryz.prog 8 [] (fun r o=>r=[rb true]∧o=[]):=by
 refine zak zaA mixed (T:=Ty) (n:=59) Tryz.func8 (c:=Tryz.f8.body.getD .skip) rfl Tryz.results8 Tryz.ntmps8 Tryz.call8 ?_
 simp only[Tryz.f8,Option.getD]
 have hap:=ziq st0 (zbj zdx) zdx rq0 ⟨⟨by decide,by decide⟩,⟨by decide,by decide⟩,⟨by decide,by decide⟩,⟨by decide,by decide⟩,by decide⟩ (fun hm=>zcV zdx hm (by decide) (by decide))
 rw[zmG]at hap
 have hap:CallOK Tryz.prog 16 [.f (.agg [di 0,di 0,di 0, .lent 0 [], .lent 0 [], .lent 0 []]), .f (.agg [di 3,di 1,di 1,di 0,dS .empty])] (fun x o=>x=[stRF st1,replyRF ⟨0,1,0,[]⟩,rb true]∧o=[]):=hap
 have had:=zfo st1 (zbj zcd) zcd 10 10
 rw[adv0]at had
 have hgo:=znh st1 ⟨10,1,0,[],[],[⟨3,1,⟨0,1,0,[]⟩⟩]⟩ (zbj zcd) (by rw[←adv0];exact zbj (zdB zcd 10 10 (by decide)).1) List.Pairwise.nil
 have hri:=zir st1 (zbj zcd)
 rw[zdZ.2 zcd]at hri
 have hsi:=zeB [3] [3] (by decide) (by decide)
 have h1:((st1.sess.length:Int)==1)=true:=rfl
 have h2:(st1.num==1)=true:=rfl
 have h3:(((0:Nat):Int)==0)=true:=rfl
 repeat'(first|(with_reducible first|refine zaa _ _ ?_|refine zae ?_|refine zaf ?_)|rw[zad]|simp only[h1,h2,h3,rowI,zY,Int.reduceEq,Int.reduceBEq,Int.reduceBNe,Nat.reduceSub,Nat.reduceEqDiff,Nat.reduceAdd,Nat.reduceMul,Nat.reduceLeDiff,Nat.reduceLT,Nat.reduceBEq,reduceCtorEq]|((first|((try refine zai ?_);apply zaj)|(apply zah;intro _));(solve|exact(hap)|exact(had)|exact(hgo)|exact(hri)|exact(hsi)|(refine CallOK.le (hap) ?_;exact zM)|(refine CallOK.le (had) ?_;exact zM)|(refine CallOK.le (hgo) ?_;exact zM)|(refine CallOK.le (hri) ?_;exact zM)|(refine CallOK.le (hsi) ?_;exact zM)|fail);try case hn=>rfl)|refine zab ?_|refine zac (fun hb=> ?_) (fun hb=> ?_)|(refine And.intro ?_ ?_;exact zI)|refine And.intro (fun hg=> ?_) (fun hg=> ?_)|exact zC|fail)
 ·rfl
 ·cases hg
end Go.Proofs.YtniafckaafcpbaaGreat
