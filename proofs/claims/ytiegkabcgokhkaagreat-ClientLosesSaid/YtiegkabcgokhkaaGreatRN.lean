import Derived.Test.YtiegkabcgokhkaaGreatRM
namespace Go.Proofs.YtiegkabcgokhkaaGreat
open Go.Pk
set_option maxRecDepth 100000
set_option linter.unusedSimpArgs false
set_option linter.unusedVariables false
theorem zir:∀{a:List UInt8},Go.Op.bytesLess a a=false
 |[]=>rfl
 |a::x=>by rw[Go.Op.bytesLess,zir (a:=x)];simp
theorem zis:∀{a b c:List UInt8},Go.Op.bytesLess a b=true→Go.Op.bytesLess b c=true→Go.Op.bytesLess a c=true
 |[],[],_,h,_=>by cases h
 |[],_::_,[],_,h=>by cases h
 |[],_::_,_::_,_,_=>rfl
 |_::_,[],_,h,_=>by cases h
 |_::_,_::_,[],_,h=>by cases h
 |a::x,b::y,c::z,h1,h2=>by
  rw[Go.Op.bytesLess]at*
  simp only[Bool.or_eq_true,Bool.and_eq_true,decide_eq_true_eq,beq_iff_eq]at*
  rcases h1 with h1|⟨rfl,h1⟩<;>rcases h2 with h2|⟨rfl,h2⟩
  ·exact .inl (UInt8.lt_trans h1 h2)
  ·exact .inl h1
  ·exact .inl h2
  ·exact .inr ⟨rfl,zis h1 h2⟩
theorem zit {a b:List UInt8} (h:Go.Op.bytesLess a b=true):Go.Op.bytesLess b a=false:=by
 cases hc:Go.Op.bytesLess b a
 ·rfl
 ·have:=zis h hc
  rw[zir]at this;cases this
theorem zdW {α:Type} {q:Nat→α→Bool}:∀{l:List α} {j:Nat},checkP q j l=true→∀(i:Nat) (hi:i<l.length),q (j+i) l[i]=true
 |[],_,_,i,hi=>by cases hi
 |a::l,j,h,i,hi=>by
  rw[checkP]at h
  split at h
  ·rename_i hq
   cases i with
   |zero=>exact hq
   |succ i=>
    have:=zdW h i (by simpa using hi)
    rw[show j+(i+1)=j+1+i from by omega]
    exact this
  ·cases h
theorem zd6 {l:List Grant} {i:Nat} {g:Grant} (h:grantQ l i g=true):nameP g.name=true∧1≤g.token∧g.token≤2305843009213693952∧(0<i→bLess (prevG l i) g.name=true):=by
 unfold grantQ at h
 have hH:High=2305843009213693952:=rfl
 simp only[Bool.not_eq_true',Bool.or_eq_false_iff,decide_eq_false_iff_not,hH,Bool.and_eq_false_imp,decide_eq_true_eq,Bool.not_eq_false']at h
 obtain⟨⟨⟨h1,h2⟩,h3⟩,h4⟩:=h
 refine⟨by simpa using h1,by omega,by omega,fun hi=>by simpa using h4 hi⟩
set_option maxHeartbeats 1000000 in
theorem zcC (r:Reply) (h:replyB r=true):CallOK Tryz.prog 154 [.f (.agg r.lent)] (fun x o=>x=[rb true]∧o=[]):=by
 obtain⟨f1,f2,f3,f4,f5⟩:=za2 h
 have hgr:=za4 h
 have hB:(decide ((r.held.length:Int)>4)||((r.session==0)&&decide ((r.held.length:Int)>0)))=false:=by
  unfold replyB at h
  simp only[Bool.and_eq_true,Bool.not_eq_true']at h
  exact h.1.2
 simp only[Bool.or_eq_false_iff]at hB
 obtain⟨hB1,hB2⟩:=hB
 refine zal zat mixed (T:=Ty) (n:=84) Tryz.func154 (c:=Tryz.f154.body.getD .skip) rfl Tryz.results154 Tryz.ntmps154 Tryz.call154 ?_
 simp only[Tryz.f154,Option.getD]
 have g1:decide (r.code<0)=false:=by simp;omega
 have g2:decide (r.code>12)=false:=by simp;omega
 have g3:decide (r.session≥0)=true:=by simp;omega
 have g4:decide (r.session≤2305843009213693952)=true:=by simp;omega
 have g5:decide (r.ahead<0)=false:=by simp;omega
 have g6:decide (r.ahead>3)=false:=by simp;omega
 have hh:=zer r.session 0
 rw[g3,g4]at hh
 cases hs:(r.session==0)
 ·repeat'(first|(with_reducible first|refine zaa _ _ ?_|refine zad ?_|refine zae ?_)|rw[zaf]|simp only[g1,g2,g5,g6,hB1,hs,Bool.and_true,zY,Int.reduceEq,Int.reduceBEq,Int.reduceBNe,Nat.reduceSub,Nat.reduceEqDiff,Nat.reduceAdd,Nat.reduceMul,Nat.reduceLeDiff,Nat.reduceLT,Nat.reduceBEq,reduceCtorEq]|((first|((try refine zah ?_);apply zak)|(apply zai;intro _));(solve|exact(hh)|(refine CallOK.le (hh) ?_;exact zM)|fail);try case hn=>rfl)|refine zab ?_|refine zac (fun hb=> ?_) (fun hb=> ?_)|(refine And.intro ?_ ?_;exact zI)|refine And.intro (fun hg=> ?_) (fun hg=> ?_)|exact zC|fail)
  refine zaV (τ:=Nat) (fun i=>⟨[dd, .one (.ptr ⟨1,0,1⟩ 0),dd,ai i,dd,dd,dd,dd,dd,dd,dd,dd,dd,dd,dd,dd,dd,dd,dd,dd,dd,dd,dd,dd,dd,dd,dd,dd,dd,dd,dd,dd,dd,dd,dd,dd,dd,dd,dd,dd,dd,dd,dd,dd,dd,dd,dd,dd,dd,dd,dd,dd,dd,dd,dd,dd,dd,dd,dd,dd,dd,dd,dd,dd,dd,dd,dd,dd,dd,dd,dd,dd,dd,dd,dd,dd,dd,dd,dd,dd,dd,dd,dd,dd],[(1,{next:=2,l:=[some {e:=1,var:=true,fz:=false,sz:=0,cells:=[di r.code,di r.session,di r.ahead, .lent r.held.length (grantsE r.held)]},none,none,none,none]}),(4,⟨2,[]⟩)]⟩)
   (fun i=>i≤r.held.length) (fun _=>()) (fun i=>r.held.length - i) 0
   (Gh.canon [1] [4] [] zK rfl rfl) (Nat.zero_le _) ?_
  intro i hi0 hF K hK
  repeat(first|with_reducible refine zaa _ _ ?_|with_reducible refine And.imp_right (zaa _ _) ?_|with_reducible refine And.imp_right (And.imp_right (zaa _ _)) ?_|with_reducible refine And.imp_right (And.imp_right (And.imp_right (zaa _ _))) ?_|rw[zaf]|simp only[zB,Nat.reduceSub,Nat.reduceEqDiff,Nat.reduceAdd,Nat.reduceMul,Nat.reduceLeDiff,Nat.reduceLT,Nat.reduceBEq,reduceCtorEq])
  refine zac (fun hlt=> ?_) (fun hge=> ?_)
  ·have hi:i<r.held.length:=by simpa using hlt
   have hat:=zaP hi
   have hw:=za3 hi (by omega)
   have hq:=zdW f5 i hi
   rw[Nat.zero_add]at hq
   obtain⟨q1,q2,q3,q4⟩:=zd6 hq
   have hnm:=ziu r.held[i].name (by have:=(hgr _ (List.getElem_mem hi)).1;omega)
   rw[q1]at hnm
   have hhg:=zer r.held[i].token 1
   rw[show decide (r.held[i].token≥1)=true from by simp;omega,show decide (r.held[i].token≤2305843009213693952)=true from by simp;omega]at hhg
   cases e0:decide ((i:Int)>0)
   ·have h0:i=0:=by simpa using e0
    have hp:(grantsE r.held).drop ((IntKind.i64.wrap ((i:Int) - 1)).toNat*2)=r.held[i].enc++grantsE (r.held.drop (i+1)):=by
     rw[←zaP hi,h0];rfl
    repeat'(first|(with_reducible first|refine zaa _ _ ?_|refine zad ?_|refine zae ?_)|rw[zaf]|simp only[hat,hp,e0,List.cons_append,List.nil_append,zaD,Bool.and_true,zY,Int.reduceEq,Int.reduceBEq,Int.reduceBNe,Nat.reduceSub,Nat.reduceEqDiff,Nat.reduceAdd,Nat.reduceMul,Nat.reduceLeDiff,Nat.reduceLT,Nat.reduceBEq,reduceCtorEq]|((first|((try refine zah ?_);apply zak)|(apply zai;intro _));(solve|exact(hnm)|exact(hhg)|(refine CallOK.le (hnm) ?_;exact zM)|(refine CallOK.le (hhg) ?_;exact zM)|fail);try case hn=>rfl)|refine zab ?_|refine zac (fun hb=> ?_) (fun hb=> ?_)|(refine And.intro ?_ ?_;exact zI)|refine And.intro (fun hg=> ?_) (fun hg=> ?_)|exact zC|fail)
    exact hK _ (i+1) (Gh.canon [1] [] [] (by simp only[hw,zaq,zaE,zar,zaw,zax,zay,List.set_cons_zero,List.set_cons_succ,and_true,true_and,Int.natCast_zero,Int.cast_ofNat_Int,D.v.injEq,Value.int.injEq];try(repeat'(first|rfl|omega|with_reducible apply And.intro))) rfl rfl) hi rfl (by omega)
   ·have h0:0<i:=by simpa using e0
    have hw1:IntKind.i64.wrap ((i:Int) - 1)=((i - 1:Nat):Int):=by rw[wrap64 (by omega) (by omega)];omega
    have hlt1:decide (((i - 1:Nat):Int)<(r.held.length:Int))=true:=by simp;omega
    have hp:=zaP (l:=r.held) (i:=i - 1) (by omega)
    have hb:bLess (r.held[i - 1]'(by omega)).name r.held[i].name=true:=by
     have:=q4 h0
     unfold prevG at this
     rw[List.getElem?_eq_getElem (by omega)]at this
     exact this
    have hb1:=zit hb
    have hb2:(r.held[i].name.toList==(r.held[i - 1]'(by omega)).name.toList)=false:=by
     rw[beq_eq_false_iff_ne]
     intro he
     rw[bLess,he,zir]at hb
     cases hb
    repeat'(first|(with_reducible first|refine zaa _ _ ?_|refine zad ?_|refine zae ?_)|rw[zaf]|simp only[hat,hp,hw1,e0,hb1,hb2,List.cons_append,List.nil_append,zaD,Bool.and_true,Int.toNat_natCast,zY,Int.reduceEq,Int.reduceBEq,Int.reduceBNe,Nat.reduceSub,Nat.reduceEqDiff,Nat.reduceAdd,Nat.reduceMul,Nat.reduceLeDiff,Nat.reduceLT,Nat.reduceBEq,reduceCtorEq]|((first|((try refine zah ?_);apply zak)|(apply zai;intro _));(solve|exact(hnm)|exact(hhg)|(refine CallOK.le (hnm) ?_;exact zM)|(refine CallOK.le (hhg) ?_;exact zM)|fail);try case hn=>rfl)|refine zab ?_|refine zac (fun hb=> ?_) (fun hb=> ?_)|(refine And.intro ?_ ?_;exact zI)|refine And.intro (fun hg=> ?_) (fun hg=> ?_)|exact zC|fail)
    exact hK _ (i+1) (Gh.canon [1] [] [] (by simp only[hw,zaq,zaE,zar,zaw,zax,zay,List.set_cons_zero,List.set_cons_succ,and_true,true_and,Int.natCast_zero,Int.cast_ofNat_Int,D.v.injEq,Value.int.injEq];try(repeat'(first|rfl|omega|with_reducible apply And.intro))) rfl rfl) hi rfl (by omega)
  ·have hi:i=r.held.length:=by
    have:¬(i:Int)<r.held.length:=by simpa using hge
    omega
   repeat'(first|(with_reducible first|refine zaa _ _ ?_|refine zad ?_|refine zae ?_)|rw[zaf]|simp only[zY,Int.reduceEq,Int.reduceBEq,Int.reduceBNe,Nat.reduceSub,Nat.reduceEqDiff,Nat.reduceAdd,Nat.reduceMul,Nat.reduceLeDiff,Nat.reduceLT,Nat.reduceBEq,reduceCtorEq]|refine zab ?_|refine zac (fun hb=> ?_) (fun hb=> ?_)|(refine And.intro ?_ ?_;exact zI)|refine And.intro (fun hg=> ?_) (fun hg=> ?_)|exact zC|fail)
 ·have h0:decide ((r.held.length:Int)>0)=false:=by rw[hs,Bool.true_and]at hB2;exact hB2
  repeat'(first|(with_reducible first|refine zaa _ _ ?_|refine zad ?_|refine zae ?_)|rw[zaf]|simp only[g1,g2,g5,g6,hB1,hs,h0,Bool.and_true,zY,Int.reduceEq,Int.reduceBEq,Int.reduceBNe,Nat.reduceSub,Nat.reduceEqDiff,Nat.reduceAdd,Nat.reduceMul,Nat.reduceLeDiff,Nat.reduceLT,Nat.reduceBEq,reduceCtorEq]|((first|((try refine zah ?_);apply zak)|(apply zai;intro _));(solve|exact(hh)|(refine CallOK.le (hh) ?_;exact zM)|fail);try case hn=>rfl)|refine zab ?_|refine zac (fun hb=> ?_) (fun hb=> ?_)|(refine And.intro ?_ ?_;exact zI)|refine And.intro (fun hg=> ?_) (fun hg=> ?_)|exact zC|fail)
  refine zaV (τ:=Nat) (fun i=>⟨[dd, .one (.ptr ⟨1,0,1⟩ 0),dd,ai i,dd,dd,dd,dd,dd,dd,dd,dd,dd,dd,dd,dd,dd,dd,dd,dd,dd,dd,dd,dd,dd,dd,dd,dd,dd,dd,dd,dd,dd,dd,dd,dd,dd,dd,dd,dd,dd,dd,dd,dd,dd,dd,dd,dd,dd,dd,dd,dd,dd,dd,dd,dd,dd,dd,dd,dd,dd,dd,dd,dd,dd,dd,dd,dd,dd,dd,dd,dd,dd,dd,dd,dd,dd,dd,dd,dd,dd,dd,dd,dd],[(1,{next:=2,l:=[some {e:=1,var:=true,fz:=false,sz:=0,cells:=[di r.code,di r.session,di r.ahead, .lent r.held.length (grantsE r.held)]},none,none,none,none]}),(4,⟨2,[]⟩)]⟩)
   (fun i=>i≤r.held.length) (fun _=>()) (fun i=>r.held.length - i) 0
   (Gh.canon [1] [4] [] zK rfl rfl) (Nat.zero_le _) ?_
  intro i hi0 hF K hK
  repeat(first|with_reducible refine zaa _ _ ?_|with_reducible refine And.imp_right (zaa _ _) ?_|with_reducible refine And.imp_right (And.imp_right (zaa _ _)) ?_|with_reducible refine And.imp_right (And.imp_right (And.imp_right (zaa _ _))) ?_|rw[zaf]|simp only[zB,Nat.reduceSub,Nat.reduceEqDiff,Nat.reduceAdd,Nat.reduceMul,Nat.reduceLeDiff,Nat.reduceLT,Nat.reduceBEq,reduceCtorEq])
  refine zac (fun hlt=> ?_) (fun hge=> ?_)
  ·have hi:i<r.held.length:=by simpa using hlt
   have hat:=zaP hi
   have hw:=za3 hi (by omega)
   have hq:=zdW f5 i hi
   rw[Nat.zero_add]at hq
   obtain⟨q1,q2,q3,q4⟩:=zd6 hq
   have hnm:=ziu r.held[i].name (by have:=(hgr _ (List.getElem_mem hi)).1;omega)
   rw[q1]at hnm
   have hhg:=zer r.held[i].token 1
   rw[show decide (r.held[i].token≥1)=true from by simp;omega,show decide (r.held[i].token≤2305843009213693952)=true from by simp;omega]at hhg
   cases e0:decide ((i:Int)>0)
   ·have h0:i=0:=by simpa using e0
    have hp:(grantsE r.held).drop ((IntKind.i64.wrap ((i:Int) - 1)).toNat*2)=r.held[i].enc++grantsE (r.held.drop (i+1)):=by
     rw[←zaP hi,h0];rfl
    repeat'(first|(with_reducible first|refine zaa _ _ ?_|refine zad ?_|refine zae ?_)|rw[zaf]|simp only[hat,hp,e0,List.cons_append,List.nil_append,zaD,Bool.and_true,zY,Int.reduceEq,Int.reduceBEq,Int.reduceBNe,Nat.reduceSub,Nat.reduceEqDiff,Nat.reduceAdd,Nat.reduceMul,Nat.reduceLeDiff,Nat.reduceLT,Nat.reduceBEq,reduceCtorEq]|((first|((try refine zah ?_);apply zak)|(apply zai;intro _));(solve|exact(hnm)|exact(hhg)|(refine CallOK.le (hnm) ?_;exact zM)|(refine CallOK.le (hhg) ?_;exact zM)|fail);try case hn=>rfl)|refine zab ?_|refine zac (fun hb=> ?_) (fun hb=> ?_)|(refine And.intro ?_ ?_;exact zI)|refine And.intro (fun hg=> ?_) (fun hg=> ?_)|exact zC|fail)
    exact hK _ (i+1) (Gh.canon [1] [] [] (by simp only[hw,zaq,zaE,zar,zaw,zax,zay,List.set_cons_zero,List.set_cons_succ,and_true,true_and,Int.natCast_zero,Int.cast_ofNat_Int,D.v.injEq,Value.int.injEq];try(repeat'(first|rfl|omega|with_reducible apply And.intro))) rfl rfl) hi rfl (by omega)
   ·have h0:0<i:=by simpa using e0
    have hw1:IntKind.i64.wrap ((i:Int) - 1)=((i - 1:Nat):Int):=by rw[wrap64 (by omega) (by omega)];omega
    have hlt1:decide (((i - 1:Nat):Int)<(r.held.length:Int))=true:=by simp;omega
    have hp:=zaP (l:=r.held) (i:=i - 1) (by omega)
    have hb:bLess (r.held[i - 1]'(by omega)).name r.held[i].name=true:=by
     have:=q4 h0
     unfold prevG at this
     rw[List.getElem?_eq_getElem (by omega)]at this
     exact this
    have hb1:=zit hb
    have hb2:(r.held[i].name.toList==(r.held[i - 1]'(by omega)).name.toList)=false:=by
     rw[beq_eq_false_iff_ne]
     intro he
     rw[bLess,he,zir]at hb
     cases hb
    repeat'(first|(with_reducible first|refine zaa _ _ ?_|refine zad ?_|refine zae ?_)|rw[zaf]|simp only[hat,hp,hw1,e0,hb1,hb2,List.cons_append,List.nil_append,zaD,Bool.and_true,Int.toNat_natCast,zY,Int.reduceEq,Int.reduceBEq,Int.reduceBNe,Nat.reduceSub,Nat.reduceEqDiff,Nat.reduceAdd,Nat.reduceMul,Nat.reduceLeDiff,Nat.reduceLT,Nat.reduceBEq,reduceCtorEq]|((first|((try refine zah ?_);apply zak)|(apply zai;intro _));(solve|exact(hnm)|exact(hhg)|(refine CallOK.le (hnm) ?_;exact zM)|(refine CallOK.le (hhg) ?_;exact zM)|fail);try case hn=>rfl)|refine zab ?_|refine zac (fun hb=> ?_) (fun hb=> ?_)|(refine And.intro ?_ ?_;exact zI)|refine And.intro (fun hg=> ?_) (fun hg=> ?_)|exact zC|fail)
    exact hK _ (i+1) (Gh.canon [1] [] [] (by simp only[hw,zaq,zaE,zar,zaw,zax,zay,List.set_cons_zero,List.set_cons_succ,and_true,true_and,Int.natCast_zero,Int.cast_ofNat_Int,D.v.injEq,Value.int.injEq];try(repeat'(first|rfl|omega|with_reducible apply And.intro))) rfl rfl) hi rfl (by omega)
  ·have hi:i=r.held.length:=by
    have:¬(i:Int)<r.held.length:=by simpa using hge
    omega
   repeat'(first|(with_reducible first|refine zaa _ _ ?_|refine zad ?_|refine zae ?_)|rw[zaf]|simp only[zY,Int.reduceEq,Int.reduceBEq,Int.reduceBNe,Nat.reduceSub,Nat.reduceEqDiff,Nat.reduceAdd,Nat.reduceMul,Nat.reduceLeDiff,Nat.reduceLT,Nat.reduceBEq,reduceCtorEq]|refine zab ?_|refine zac (fun hb=> ?_) (fun hb=> ?_)|(refine And.intro ?_ ?_;exact zI)|refine And.intro (fun hg=> ?_) (fun hg=> ?_)|exact zC|fail)
end Go.Proofs.YtiegkabcgokhkaaGreat
