import Derived.Test.YtniafckaafcpbaaGreatVF
import Derived.Test.YtniafckaafcpbaaGreatX
namespace Go.Proofs.YtniafckaafcpbaaGreat
open Go.Pk
set_option maxRecDepth 100000
set_option linter.unusedSimpArgs false
set_option linter.unusedVariables false
theorem zcC (v a:Int):CallOK Tryz.prog 82 [.f (ai v), .f (ai a)] (fun r o=>r=[rb (decide (v≥a)&&decide (v≤2305843009213693952))]∧o=[]):=by
 refine zak zaA mixed (T:=Ty) (n:=12) Tryz.func82 (c:=Tryz.f82.body.getD .skip) rfl Tryz.results82 Tryz.ntmps82 Tryz.call82 ?_
 simp only[Tryz.f82,Option.getD]
 repeat'(first|(with_reducible first|refine zaa _ _ ?_|refine zae ?_|refine zaf ?_)|rw[zad]|simp only[zY,Int.reduceEq,Int.reduceBEq,Int.reduceBNe,Nat.reduceSub,Nat.reduceEqDiff,Nat.reduceAdd,Nat.reduceMul,Nat.reduceLeDiff,Nat.reduceLT,Nat.reduceBEq,reduceCtorEq]|refine zab ?_|refine zac (fun hb=> ?_) (fun hb=> ?_)|(refine And.intro ?_ ?_;exact zI)|refine And.intro (fun hg=> ?_) (fun hg=> ?_)|exact zC|fail)
theorem zez (s:ByteArray) (hs:s.size<2^62):CallOK Tryz.prog 97 [.f (ast s)] (fun r o=>r=[rb (nameP s)]∧o=[]):=by
 refine zak zaA mixed (T:=Ty) (n:=41) Tryz.func97 (c:=Tryz.f97.body.getD .skip) rfl Tryz.results97 Tryz.ntmps97 Tryz.call97 ?_
 simp only[Tryz.f97,Option.getD]
 repeat(first|with_reducible refine zaa _ _ ?_|with_reducible refine And.imp_right (zaa _ _) ?_|with_reducible refine And.imp_right (And.imp_right (zaa _ _)) ?_|with_reducible refine And.imp_right (And.imp_right (And.imp_right (zaa _ _))) ?_|rw[zad]|simp only[zB,Nat.reduceSub,Nat.reduceEqDiff,Nat.reduceAdd,Nat.reduceMul,Nat.reduceLeDiff,Nat.reduceLT,Nat.reduceBEq,reduceCtorEq])
 refine zac (fun hb=> ?_) (fun hb=> ?_)
 ·repeat(first|with_reducible refine zaa _ _ ?_|with_reducible refine And.imp_right (zaa _ _) ?_|with_reducible refine And.imp_right (And.imp_right (zaa _ _)) ?_|with_reducible refine And.imp_right (And.imp_right (And.imp_right (zaa _ _))) ?_|rw[zad]|simp only[zB,Nat.reduceSub,Nat.reduceEqDiff,Nat.reduceAdd,Nat.reduceMul,Nat.reduceLeDiff,Nat.reduceLT,Nat.reduceBEq,reduceCtorEq])
  have:nameP s=false:=by
   unfold nameP
   rw[Bool.and_eq_false_iff];right
   simp only[Bool.or_eq_true,decide_eq_true_eq]at hb
   simp only[Bool.and_eq_false_iff,decide_eq_false_iff_not]
   omega
  rw[this]
 have hsz:(decide ((s.size:Int)≥1)&&decide ((s.size:Int)≤12))=true:=by
  simp only[Bool.or_eq_false_iff,decide_eq_false_iff_not]at hb
  simp only[Bool.and_eq_true,decide_eq_true_eq]
  omega
 repeat(first|with_reducible refine zaa _ _ ?_|with_reducible refine And.imp_right (zaa _ _) ?_|with_reducible refine And.imp_right (And.imp_right (zaa _ _)) ?_|with_reducible refine And.imp_right (And.imp_right (And.imp_right (zaa _ _))) ?_|rw[zad]|simp only[zB,Nat.reduceSub,Nat.reduceEqDiff,Nat.reduceAdd,Nat.reduceMul,Nat.reduceLeDiff,Nat.reduceLT,Nat.reduceBEq,reduceCtorEq])
 refine zgv Ty Tryz.prog (τ:=Nat) (fun i=>⟨[ast s,dd,ab false,ai i,dd,dd,dd,dd,dd,dd,dd,dd,dd,dd,dd,dd,dd,dd,dd,dd,dd,dd,dd,dd,dd,dd,dd,dd,dd,dd,dd,dd,dd,dd,dd,dd,dd,dd,dd,dd,dd],[]⟩) (fun i=>i≤s.size∧∀j,j<i→okByte (s.data.getD j 0)=true) (fun i=>s.size - i) 0 ?_ ⟨Nat.zero_le _,fun j hj=>absurd hj (Nat.not_lt_zero j)⟩ ?_
 ·refine Gh.fgt ?_
  simp only[zaS,zaT,za4,Int.natCast_zero]
 intro i ⟨h1,h2⟩ K hK
 repeat(first|with_reducible refine zaa _ _ ?_|with_reducible refine And.imp_right (zaa _ _) ?_|with_reducible refine And.imp_right (And.imp_right (zaa _ _)) ?_|with_reducible refine And.imp_right (And.imp_right (And.imp_right (zaa _ _))) ?_|rw[zad]|simp only[zB,Nat.reduceSub,Nat.reduceEqDiff,Nat.reduceAdd,Nat.reduceMul,Nat.reduceLeDiff,Nat.reduceLT,Nat.reduceBEq,reduceCtorEq])
 refine zac (fun hlt=> ?_) (fun hge=> ?_)
 ·have hi:i<s.size:=by simpa using hlt
  repeat(first|with_reducible refine zaa _ _ ?_|with_reducible refine And.imp_right (zaa _ _) ?_|with_reducible refine And.imp_right (And.imp_right (zaa _ _)) ?_|with_reducible refine And.imp_right (And.imp_right (And.imp_right (zaa _ _))) ?_|rw[zad]|simp only[zB,Nat.reduceSub,Nat.reduceEqDiff,Nat.reduceAdd,Nat.reduceMul,Nat.reduceLeDiff,Nat.reduceLT,Nat.reduceBEq,reduceCtorEq])
  refine⟨⟨Int.natCast_nonneg i,by omega⟩, ?_⟩
  refine⟨zle ?_, ?_⟩
  ·simp_all;omega
  have hok:okByte (s.data.getD i 0)= !((decide (((s.data.getD i 0).toNat:Int)<97)||decide (((s.data.getD i 0).toNat:Int)>122))&&(decide (((s.data.getD i 0).toNat:Int)<48)||decide (((s.data.getD i 0).toNat:Int)>57))&&(((s.data.getD i 0).toNat:Int) !=45)):=rfl
  generalize ((s.data.getD i 0).toNat:Int)=c at hok⊢
  refine zac (fun hb2=> ?_) (fun hb2=> ?_)
  ·repeat(first|with_reducible refine zaa _ _ ?_|with_reducible refine And.imp_right (zaa _ _) ?_|with_reducible refine And.imp_right (And.imp_right (zaa _ _)) ?_|with_reducible refine And.imp_right (And.imp_right (And.imp_right (zaa _ _))) ?_|rw[zad]|simp only[zB,Nat.reduceSub,Nat.reduceEqDiff,Nat.reduceAdd,Nat.reduceMul,Nat.reduceLeDiff,Nat.reduceLT,Nat.reduceBEq,reduceCtorEq])
   have hn:nameP s=false:=by
    unfold nameP
    rw[show((List.range s.size).all fun j=>okByte (s.data.getD j 0))=false from List.all_eq_false.2 ⟨i,List.mem_range.2 hi,by rw[hok];revert hb2;simp;omega⟩,Bool.false_and]
   rw[hn]
  ·repeat(first|with_reducible refine zaa _ _ ?_|with_reducible refine And.imp_right (zaa _ _) ?_|with_reducible refine And.imp_right (And.imp_right (zaa _ _)) ?_|with_reducible refine And.imp_right (And.imp_right (And.imp_right (zaa _ _))) ?_|rw[zad]|simp only[zB,Nat.reduceSub,Nat.reduceEqDiff,Nat.reduceAdd,Nat.reduceMul,Nat.reduceLeDiff,Nat.reduceLT,Nat.reduceBEq,reduceCtorEq])
   refine hK _ (i+1) (Gh.fgt ?_) ⟨hi,fun j hj=> ?_⟩ (by omega)
   ·simp only[zat hi (by omega),zaS,zaT,za4]
   ·rcases Nat.lt_or_ge j i with h|h
    ·exact h2 j h
    ·rw[show j=i from by omega,hok];revert hb2;simp;omega
 ·repeat(first|with_reducible refine zaa _ _ ?_|with_reducible refine And.imp_right (zaa _ _) ?_|with_reducible refine And.imp_right (And.imp_right (zaa _ _)) ?_|with_reducible refine And.imp_right (And.imp_right (And.imp_right (zaa _ _))) ?_|rw[zad]|simp only[zB,Nat.reduceSub,Nat.reduceEqDiff,Nat.reduceAdd,Nat.reduceMul,Nat.reduceLeDiff,Nat.reduceLT,Nat.reduceBEq,reduceCtorEq])
  have hi:i=s.size:=by
   have:¬(i:Int)<s.size:=by simpa using hge
   omega
  have hn:nameP s=true:=by
   unfold nameP
   rw[show((List.range s.size).all fun j=>okByte (s.data.getD j 0))=true from List.all_eq_true.2 fun j hj=>h2 j (by rw[hi];exact List.mem_range.1 hj),Bool.true_and,hsz]
  rw[hn]
theorem zlm (k n:Int) (s:ByteArray) (hs:s.size<2^62):CallOK Tryz.prog 83 [.f (.agg [di k,di n,dS s])] (fun r o=>r=[rb (mayP k n s)]∧o=[]):=by
 refine zak zaA mixed (T:=Ty) (n:=38) Tryz.func83 (c:=Tryz.f83.body.getD .skip) rfl Tryz.results83 Tryz.ntmps83 Tryz.call83 ?_
 simp only[Tryz.f83,Option.getD]
 repeat'(first|with_reducible refine zaa _ _ ?_|rw[zad]|simp only[zB,Nat.reduceSub,Nat.reduceEqDiff,Nat.reduceAdd,Nat.reduceMul,Nat.reduceLeDiff,Nat.reduceLT,Nat.reduceBEq,reduceCtorEq]|((first|((try refine zai ?_);apply zaj)|(apply zah;intro _));(solve|exact(zez _ hs)|exact(zcC _ _)|(refine CallOK.le (zez _ hs) ?_;exact zM)|(refine CallOK.le (zcC _ _) ?_;exact zM)|fail);try case hn=>rfl)|refine zab ?_|refine zac (fun hb=> ?_) (fun hb=> ?_)|(refine And.intro ?_ ?_;exact zI)|refine And.intro (fun hg=> ?_) (fun hg=> ?_)|exact zC|fail)
 all_goals refine congrArg (fun b=>[rb b]) ?_
 all_goals simp only[beq_iff_eq,beq_eq_false_iff_ne,ne_eq]at*
 all_goals first
  |(exfalso;omega)
  |(subst_vars;unfold mayP;generalize (s.toList==(⟨#[]⟩:ByteArray).toList)=q;generalize nameP s=p;cases q<;>cases p<;>simp;done)
  |(have e:(decide (k<1)||decide (k>6))=true:=(by simp;omega);unfold mayP;rw[if_pos e])
theorem zjR (r:Req) (hr:r.ok):CallOK Tryz.prog 46 [.f (.agg (r.enc.map C.d))] (fun x o=>x=[rb (Req.may r)]∧o=[]):=by
 refine zak zaA mixed (T:=Ty) (n:=21) Tryz.func46 (c:=Tryz.f46.body.getD .skip) rfl Tryz.results46 Tryz.ntmps46 Tryz.call46 ?_
 simp only[Tryz.f46,Option.getD]
 repeat'(first|with_reducible refine zaa _ _ ?_|rw[zad]|simp only[zB,Nat.reduceSub,Nat.reduceEqDiff,Nat.reduceAdd,Nat.reduceMul,Nat.reduceLeDiff,Nat.reduceLT,Nat.reduceBEq,reduceCtorEq]|((first|((try refine zai ?_);apply zaj)|(apply zah;intro _));(solve|exact(zlm _ _ _ hr.2.2.2.2)|exact(zcC _ _)|(refine CallOK.le (zlm _ _ _ hr.2.2.2.2) ?_;exact zM)|(refine CallOK.le (zcC _ _) ?_;exact zM)|fail);try case hn=>rfl)|refine zab ?_|refine zac (fun hb=> ?_) (fun hb=> ?_)|(refine And.intro ?_ ?_;exact zI)|refine And.intro (fun hg=> ?_) (fun hg=> ?_)|exact zC|fail)
 simp[Req.may,Bool.and_assoc]
theorem zoC:∀(a b:List UInt8),(Go.Op.bytesLess a b||a==b)= !(Go.Op.bytesLess b a)
 |[],[]=>rfl
 |[],y::ys=>rfl
 |x::xs,[]=>rfl
 |x::xs,y::ys=>by
  have ih:=zoC xs ys
  rw[Go.Op.bytesLess,Go.Op.bytesLess]
  rw[show((x::xs:List UInt8)==y::ys)=(x==y&&xs==ys) from rfl]
  have htri:x<y∨x=y∨y<x:=by
   rcases Nat.lt_trichotomy x.toNat y.toNat with h|h|h
   ·exact .inl (UInt8.lt_iff_toNat_lt.2 h)
   ·exact .inr (.inl (UInt8.toNat_inj.1 h))
   ·exact .inr (.inr (UInt8.lt_iff_toNat_lt.2 h))
  rcases htri with h|h|h
  ·have h2:¬y<x:=UInt8.lt_asymm h
   have h3:(y==x)=false:=by simp;intro e;subst e;exact absurd h (UInt8.lt_irrefl _)
   simp[h,h2,h3]
  ·subst h
   have h2:¬x<x:=UInt8.lt_irrefl _
   simp only[h2,decide_false,Bool.false_or,beq_self_eq_true,Bool.true_and]
   exact ih
  ·have h2:¬x<y:=UInt8.lt_asymm h
   have h3:(x==y)=false:=by simp;intro e;subst e;exact absurd h (UInt8.lt_irrefl _)
   simp[h,h2,h3]
def headE (r:Reply):Bool:=decide (r.code<0)||decide (r.code>12)|| !(decide (r.session≥0)&&decide (r.session≤2305843009213693952))||decide (r.ahead<0)||decide (r.ahead>3)||decide ((r.held.length:Int)>4)||r.session==0&&decide ((r.held.length:Int)>0)
theorem zfe (r:Reply):replyB r=(!(headE r)&&checkP (grantQ r.held) 0 r.held):=by
 have h1:(decide (r.session≥0)&&decide (r.session≤2305843009213693952))= !(decide (r.session<0)||decide (r.session>High)):=by
  have hH:High=2305843009213693952:=rfl
  rw[Bool.eq_iff_iff];simp[hH]
 unfold replyB headE
 rw[h1]
 generalize decide (r.code<0)=a1
 generalize decide (r.code>12)=a2
 generalize decide (r.session<0)=a3
 generalize decide (r.session>High)=a4
 generalize decide (r.ahead<0)=a5
 generalize decide (r.ahead>3)=a6
 generalize decide ((r.held.length:Int)>4)=a7
 generalize (r.session==0)=a8
 generalize decide ((r.held.length:Int)>0)=a9
 generalize checkP (grantQ r.held) 0 r.held=a0
 cases a1<;>cases a2<;>cases a3<;>cases a4<;>cases a5<;>cases a6<;>first|rfl|(cases a7<;>cases a8<;>cases a9<;>rfl)
set_option maxHeartbeats 2000000 in
theorem zeh (r:Reply) (hr:replyOk r):CallOK Tryz.prog 124 [.f (.agg r.lent)] (fun x o=>x=[rb (replyB r)]∧o=[]):=by
 refine zak zaA mixed (T:=Ty) (n:=84) Tryz.func124 (c:=Tryz.f124.body.getD .skip) rfl Tryz.results124 Tryz.ntmps124 Tryz.call124 ?_
 simp only[Tryz.f124,Option.getD]
 obtain⟨h1,h2⟩:=hr
 have hh:=zcC r.session 0
 repeat'(first|(with_reducible first|refine zaa _ _ ?_|refine zae ?_|refine zaf ?_)|rw[zad]|simp only[zY,Int.reduceEq,Int.reduceBEq,Int.reduceBNe,Nat.reduceSub,Nat.reduceEqDiff,Nat.reduceAdd,Nat.reduceMul,Nat.reduceLeDiff,Nat.reduceLT,Nat.reduceBEq,reduceCtorEq]|((first|((try refine zai ?_);apply zaj)|(apply zah;intro _));(solve|exact(hh)|(refine CallOK.le (hh) ?_;exact zM)|fail);try case hn=>rfl)|refine zab ?_|refine zac (fun hb=> ?_) (fun hb=> ?_)|(refine And.intro ?_ ?_;exact zI)|refine And.intro (fun hg=> ?_) (fun hg=> ?_)|exact zC|fail)
 ·rw[zfe,show headE r=true from hb];rfl
 ·have hs:replyB r=checkP (grantQ r.held) 0 r.held:=by rw[zfe,show headE r=false from hb];rfl
  rw[hs]
  clear hb
  refine zau (τ:=Nat) (fun i=>⟨[dd, .one (.ptr ⟨1,0,1⟩ 0),dd,ai i,dd,dd,dd,dd,dd,dd,dd,dd,dd,dd,dd,dd,dd,dd,dd,dd,dd,dd,dd,dd,dd,dd,dd,dd,dd,dd,dd,dd,dd,dd,dd,dd,dd,dd,dd,dd,dd,dd,dd,dd,dd,dd,dd,dd,dd,dd,dd,dd,dd,dd,dd,dd,dd,dd,dd,dd,dd,dd,dd,dd,dd,dd,dd,dd,dd,dd,dd,dd,dd,dd,dd,dd,dd,dd,dd,dd,dd,dd,dd,dd],[(1,{next:=2,l:=[some {e:=1,var:=true,fz:=false,sz:=0,cells:=[di r.code,di r.session,di r.ahead, .lent r.held.length (grantsE r.held)]},none,none,none,none]}),(4,⟨2,[]⟩)]⟩)
   (fun i=>i≤r.held.length) (fun i=>checkP (grantQ r.held) i (r.held.drop i)) (fun i=>r.held.length - i) 0
   (Gh.canon [1] [4] [] zK rfl rfl) (Nat.zero_le _) ?_
  intro i hi0 hF K hK
  rw[List.drop_zero]at hF
  repeat(first|with_reducible refine zaa _ _ ?_|with_reducible refine And.imp_right (zaa _ _) ?_|with_reducible refine And.imp_right (And.imp_right (zaa _ _)) ?_|with_reducible refine And.imp_right (And.imp_right (And.imp_right (zaa _ _))) ?_|rw[zad]|simp only[zB,Nat.reduceSub,Nat.reduceEqDiff,Nat.reduceAdd,Nat.reduceMul,Nat.reduceLeDiff,Nat.reduceLT,Nat.reduceBEq,reduceCtorEq])
  refine zac (fun hlt=> ?_) (fun hge=> ?_)
  ·have hi:i<r.held.length:=by simpa using hlt
   have hat:=zbV hi
   have hw:=zat hi (by omega)
   rw[zaB hi]at hF
   have hnm:=zez r.held[i].name (h2 _ (List.getElem_mem hi))
   have hhg:=zcC r.held[i].token 1
   have hH:(decide (r.held[i].token≥1)&&decide (r.held[i].token≤2305843009213693952))= !(decide (r.held[i].token<1)||decide (r.held[i].token>High)):=by
    have hH:High=2305843009213693952:=rfl
    rw[Bool.eq_iff_iff];simp[hH]
   cases e0:decide ((i:Int)>0)
   ·have h0:i=0:=by simpa using e0
    have hq:grantQ r.held i r.held[i]= !(!nameP r.held[i].name|| !(decide (r.held[i].token≥1)&&decide (r.held[i].token≤2305843009213693952))):=by
     unfold grantQ
     have:decide (i>0)=false:=by simpa using e0
     rw[this,Bool.false_and,Bool.or_false,hH,Bool.not_not,Bool.or_assoc]
    have hp:(grantsE r.held).drop ((IntKind.i64.wrap ((i:Int) - 1)).toNat*2)=r.held[i].enc++grantsE (r.held.drop (i+1)):=by
     rw[←zbV hi,h0];rfl
    repeat'(first|(with_reducible first|refine zaa _ _ ?_|refine zae ?_|refine zaf ?_)|rw[zad]|simp only[hat,hp,e0,List.cons_append,List.nil_append,zbl,zY,Int.reduceEq,Int.reduceBEq,Int.reduceBNe,Nat.reduceSub,Nat.reduceEqDiff,Nat.reduceAdd,Nat.reduceMul,Nat.reduceLeDiff,Nat.reduceLT,Nat.reduceBEq,reduceCtorEq]|((first|((try refine zai ?_);apply zaj)|(apply zah;intro _));(solve|exact(hnm)|exact(hhg)|(refine CallOK.le (hnm) ?_;exact zM)|(refine CallOK.le (hhg) ?_;exact zM)|fail);try case hn=>rfl)|refine zab ?_|refine zac (fun hb=> ?_) (fun hb=> ?_)|(refine And.intro ?_ ?_;exact zI)|refine And.intro (fun hg=> ?_) (fun hg=> ?_)|exact zC|fail)
    ·rw[hq,hb,if_neg (by simp)]at hF
     rw[←hF]
    ·exact hK _ (i+1) (Gh.canon [1] [] [] (by simp only[hw,zan,zaz,zao,zaq,zar,zas,List.set_cons_zero,List.set_cons_succ,and_true,true_and,Int.natCast_zero,Int.cast_ofNat_Int,D.v.injEq,Value.int.injEq];try(repeat'(first|rfl|omega|with_reducible apply And.intro))) rfl rfl) hi (by rw[zaB hi,hq,hb];rfl) (by omega)
   ·have h0:0<i:=by simpa using e0
    have hq:grantQ r.held i r.held[i]= !(!nameP r.held[i].name|| !(decide (r.held[i].token≥1)&&decide (r.held[i].token≤2305843009213693952))||(Go.Op.bytesLess r.held[i].name.toList (r.held[i - 1]'(by omega)).name.toList||r.held[i].name.toList==(r.held[i - 1]'(by omega)).name.toList)):=by
     rw[zoC]
     unfold grantQ prevG
     have:decide (i>0)=true:=by simpa using e0
     rw[this,List.getElem?_eq_getElem (by omega),hH,Bool.not_not]
     simp only[Bool.true_and,Option.map_some,Option.getD_some,Bool.or_assoc]
    have hp:=zbV (show i - 1<r.held.length by omega)
    have hw1:IntKind.i64.wrap ((i:Int) - 1)=((i - 1:Nat):Int):=by rw[wrap64 (by omega) (by omega)];omega
    repeat'(first|(with_reducible first|refine zaa _ _ ?_|refine zae ?_|refine zaf ?_)|rw[zad]|simp only[hat,hp,hw1,e0,List.cons_append,List.nil_append,zbl,zY,Int.reduceEq,Int.reduceBEq,Int.reduceBNe,Nat.reduceSub,Nat.reduceEqDiff,Nat.reduceAdd,Nat.reduceMul,Nat.reduceLeDiff,Nat.reduceLT,Nat.reduceBEq,reduceCtorEq]|((first|((try refine zai ?_);apply zaj)|(apply zah;intro _));(solve|exact(hnm)|exact(hhg)|(refine CallOK.le (hnm) ?_;exact zM)|(refine CallOK.le (hhg) ?_;exact zM)|fail);try case hn=>rfl)|refine zab ?_|refine zac (fun hb=> ?_) (fun hb=> ?_)|(refine And.intro ?_ ?_;exact zI)|refine And.intro (fun hg=> ?_) (fun hg=> ?_)|exact zC|fail)
    ·rw[hq,hb,if_neg (by simp)]at hF
     rw[←hF]
    ·exact hK _ (i+1) (Gh.canon [1] [] [] (by simp only[hw,zan,zaz,zao,zaq,zar,zas,List.set_cons_zero,List.set_cons_succ,and_true,true_and,Int.natCast_zero,Int.cast_ofNat_Int,D.v.injEq,Value.int.injEq];try(repeat'(first|rfl|omega|with_reducible apply And.intro))) rfl rfl) hi (by rw[zaB hi,hq,hb];rfl) (by omega)
  ·have hi:i=r.held.length:=by
    have:¬(i:Int)<r.held.length:=by simpa using hge
    omega
   rw[zbf hi]at hF
   rw[←hF]
   repeat'(first|(with_reducible first|refine zaa _ _ ?_|refine zae ?_|refine zaf ?_)|rw[zad]|simp only[zY,Int.reduceEq,Int.reduceBEq,Int.reduceBNe,Nat.reduceSub,Nat.reduceEqDiff,Nat.reduceAdd,Nat.reduceMul,Nat.reduceLeDiff,Nat.reduceLT,Nat.reduceBEq,reduceCtorEq]|refine zab ?_|refine zac (fun hb=> ?_) (fun hb=> ?_)|(refine And.intro ?_ ?_;exact zI)|refine And.intro (fun hg=> ?_) (fun hg=> ?_)|exact zC|fail)
theorem zdW (m:Memo) (hr:replyOk m.reply):CallOK Tryz.prog 89 [.f (.agg m.lent)] (fun x o=>x=[rb (answerB m)]∧o=[]):=by
 refine zak zaA mixed (T:=Ty) (n:=21) Tryz.func89 (c:=Tryz.f89.body.getD .skip) rfl Tryz.results89 Tryz.ntmps89 Tryz.call89 ?_
 simp only[Tryz.f89,Option.getD]
 have hh:=zcC m.seq 1
 repeat'(first|(with_reducible first|refine zaa _ _ ?_|refine zae ?_|refine zaf ?_)|rw[zad]|simp only[zY,Int.reduceEq,Int.reduceBEq,Int.reduceBNe,Nat.reduceSub,Nat.reduceEqDiff,Nat.reduceAdd,Nat.reduceMul,Nat.reduceLeDiff,Nat.reduceLT,Nat.reduceBEq,reduceCtorEq]|((first|((try refine zai ?_);apply zaj)|(apply zah;intro _));(solve|exact(hh)|exact(zeh m.reply hr)|(refine CallOK.le (hh) ?_;exact zM)|(refine CallOK.le (zeh m.reply hr) ?_;exact zM)|fail);try case hn=>rfl)|refine zab ?_|refine zac (fun hb=> ?_) (fun hb=> ?_)|(refine And.intro ?_ ?_;exact zI)|refine And.intro (fun hg=> ?_) (fun hg=> ?_)|exact zC|fail)
 simp[answerB,Bool.and_assoc]
end Go.Proofs.YtniafckaafcpbaaGreat
