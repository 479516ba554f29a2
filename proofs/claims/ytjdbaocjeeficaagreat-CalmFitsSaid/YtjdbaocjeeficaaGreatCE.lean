import Derived.Test.YtjdbaocjeeficaaGreatK9
import Derived.Test.YtjdbaocjeeficaaGreatCB
set_option maxHeartbeats 8000000
namespace Go.Proofs.YtjdbaocjeeficaaGreat
open Go.Pk Tryz
set_option maxRecDepth 100000
set_option linter.unusedSimpArgs false
set_option linter.unusedVariables false
theorem Dj (m:Nat):(1:Int)≤2^m:=by
 induction m with
 |zero=>decide
 |succ m ih=>rw[Int.pow_succ];omega
theorem oe {t most:Int} {m:Nat} (h0:1≤t) (h:most≤t):min (t*2^m) most=most:=by have h1:=Dj m;have:t*1≤t*2^m:=Int.mul_le_mul_of_nonneg_left h1 (by omega);omega
theorem Dm {t most:Int} {m:Nat} (h0:1≤t) (hm:1≤most):min (min (2*t) most*2^m) most=min (t*2^(m+1)) most:=by
 have e:t*2^(m+1)=2*t*2^m:=by rw[Int.pow_succ,Int.mul_comm 2 t,Int.mul_assoc,Int.mul_comm (2^m) 2]
 rw[e];rcases Int.le_total (2*t) most with h|h
 .rw[Int.min_eq_left h]
 .rw[Int.min_eq_right h,oe (t:=2*t) (by omega) h];exact oe hm (Int.le_refl _)
theorem Ez {t most:Int} {m:Nat}:min (2*t*2^m) most=min (t*2^(m+1)) most:=by rw[Int.pow_succ,Int.mul_comm 2 t,Int.mul_assoc,Int.mul_comm (2^m) 2]
def dR (base most:Int) (v:Nat):Int:=min (base*2^v) most
theorem wV {base most:Int} (h1:1≤base) (h2:most≤1000000):dR base most 20=most:=by
 unfold dR;have:base*2^20=base*1048576:=by rfl
 rw[this];omega
theorem mX {base most:Int} (h:base≤most):dR base most 0=base:=by unfold dR;rw[Int.pow_zero,Int.mul_one];omega
structure jB (base most:Int):Prop where
 a:1≤base
 b:base≤most
 c:most≤1000000
theorem nA (base most:Int) (v:Nat) (h:jB base most) (hv:v≤64):ag prog 76 [.f (ai base), .f (ai most), .f (ai v)] (λ r o=>r=[ri (dR base most v)]/\o=[]):=by
 refine bR bm mixed (T:=Ty) (n:=42) func76 (c:=f76.body.getD .skip) rfl results76 ntmps76 call76 ?_;simp only[f76,Option.getD];obtain⟨ha,hb,hc⟩:=h;have t1:decide (base<1)=false:=by simp;omega
 have t2:decide (base>most)=false:=by simp;omega
 have t3:decide (most>1000000)=false:=by simp;omega
 have t4:decide ((v:Int)<0)=false:=by simp
 have t5:decide ((v:Int)>2305843009213693952)=false:=by simp;omega
 repeat'(first|(with_reducible first|refine ay _ _ ?_|refine aD ?_|refine aE ?_)|rw[aB]|simp only[t1,t2,t3,t4,t5,zY,Int.reduceEq,Int.reduceBEq,Int.reduceBNe,Nat.reduceSub,Nat.reduceEqDiff,Nat.reduceAdd,Nat.reduceMul,Nat.reduceLeDiff,Nat.reduceLT,Nat.reduceBEq,reduceCtorEq]|refine aC ?_|refine aA (λ hb=> ?_) (λ hb=> ?_)|(refine And.intro ?_ ?_;exact zI)|refine And.intro (λ hg=> ?_) (λ hg=> ?_)|exact zC|fail)
 refine ll (τ:=Nat×Int) (λ x=>⟨[dd,ai most,ai x.1,dd,dd,dd,dd,ai x.2,dd,dd,dd,dd,dd,dd,dd,dd,dd,dd,dd,dd,dd,dd,dd,dd,dd,dd,dd,dd,dd,dd,dd,dd,dd,dd,dd,dd,dd,dd,dd,dd,dd,dd],[]⟩) (λ x=>x.1≤v/\1≤x.2/\x.2≤most) (λ x=>min (x.2*2^x.1) most) (λ x=>x.1) (v,base)
  (Gh.canon [] [] [] zK rfl rfl) ⟨Nat.le_refl _,ha,hb⟩ ?_
 intro⟨m,t⟩ ⟨hm0,ht1,ht2⟩ hF K hK;simp only at hm0 ht1 ht2 hF hK⊢;have hF2:min (t*2^m) most=dR base most v:=hF;clear hF;cases hq:(decide ((m:Int)>0)&&decide (t<most))
 .have hr:dR base most v=t:=by
   rw[←hF2];simp only[oQ,iK]at hq;rcases hq with hq|hq
   .have:m=0:=by omega
    subst this;rw[Int.pow_zero,Int.mul_one];omega
   .rw[oe ht1 (by omega)];omega
  rw[hr]
  repeat'(first|(with_reducible first|refine ay _ _ ?_|refine aD ?_|refine aE ?_)|rw[aB]|simp only[hq,zY,Int.reduceEq,Int.reduceBEq,Int.reduceBNe,Nat.reduceSub,Nat.reduceEqDiff,Nat.reduceAdd,Nat.reduceMul,Nat.reduceLeDiff,Nat.reduceLT,Nat.reduceBEq,reduceCtorEq]|refine aC ?_|refine aA (λ hb=> ?_) (λ hb=> ?_)|(refine And.intro ?_ ?_;exact zI)|refine And.intro (λ hg=> ?_) (λ hg=> ?_)|exact zC|fail)
 .have hq2:=hq;simp only[cg,dQ]at hq2;obtain⟨k,rfl⟩:∃k,m=k+1:=⟨m - 1,by omega⟩;have w1:IntKind.i64.wrap (2*t)=2*t:=wrap64 (by omega) (by omega);have w2:IntKind.i64.wrap (((k+1:Nat):Int) - 1)=(k:Int):=by rw[wrap64 (by omega) (by omega)];omega
  repeat'(first|(with_reducible first|refine ay _ _ ?_|refine aD ?_|refine aE ?_)|rw[aB]|simp only[hq,w1,zY,Int.reduceEq,Int.reduceBEq,Int.reduceBNe,Nat.reduceSub,Nat.reduceEqDiff,Nat.reduceAdd,Nat.reduceMul,Nat.reduceLeDiff,Nat.reduceLT,Nat.reduceBEq,reduceCtorEq]|refine aC ?_|refine aA (λ hb=> ?_) (λ hb=> ?_)|(refine And.intro ?_ ?_;exact zI)|refine And.intro (λ hg=> ?_) (λ hg=> ?_)|exact zC|fail)
  exact hK _ (k,min (2*t) most) (Gh.canon [] [] [] (by simp only[w2,cw,cC,cG,cB,cE,cF,cD,cm,cn,cc,ca,cA,cJ,D.v.injEq,cH];try(repeat'(first|rfl|omega|with_reducible apply And.intro))) rfl rfl) ⟨by simp only;omega,by simp only;omega,by simp only;omega⟩ (Dm ht1 (by omega)) (by simp only;omega)
theorem BK (n m:Int):ag prog 110 [.f (ai n), .f (ai m)] (λ r o=>r=[rb (decide (n≥m)&&decide (n≤2305843009213693952))]/\o=[]):=by
 refine bR bm mixed (T:=Ty) (n:=12) func110 (c:=f110.body.getD .skip) rfl results110 ntmps110 call110 ?_;simp only[f110,Option.getD]
 repeat'(first|(with_reducible first|refine ay _ _ ?_|refine aD ?_|refine aE ?_)|rw[aB]|simp only[zY,Int.reduceEq,Int.reduceBEq,Int.reduceBNe,Nat.reduceSub,Nat.reduceEqDiff,Nat.reduceAdd,Nat.reduceMul,Nat.reduceLeDiff,Nat.reduceLT,Nat.reduceBEq,reduceCtorEq]|refine aC ?_|refine aA (λ hb=> ?_) (λ hb=> ?_)|(refine And.intro ?_ ?_;exact zI)|refine And.intro (λ hg=> ?_) (λ hg=> ?_)|exact zC|fail)
theorem pw (base most:Int) (v:Nat) (h:jB base most) (hv:v≤64):ag prog 77 [.f (ai base), .f (ai most), .f (ai v)] (λ r o=>r=[ri (dR base most v)]/\o=[]):=by
 refine bR bm mixed (T:=Ty) (n:=41) func77 (c:=f77.body.getD .skip) rfl results77 ntmps77 call77 ?_;simp only[f77,Option.getD];obtain⟨ha,hb,hc⟩:=h;have t1:decide (base<1)=false:=by simp;omega
 have t2:decide (base>most)=false:=by simp;omega
 have t3:decide (most>1000000)=false:=by simp;omega
 have hh:=BK v 0;rw[show(decide ((v:Int)≥0)&&decide ((v:Int)≤2305843009213693952))=true by simp;omega]at hh
 repeat'(first|(with_reducible first|refine ay _ _ ?_|refine aD ?_|refine aE ?_)|rw[aB]|simp only[t1,t2,t3,zY,Int.reduceEq,Int.reduceBEq,Int.reduceBNe,Nat.reduceSub,Nat.reduceEqDiff,Nat.reduceAdd,Nat.reduceMul,Nat.reduceLeDiff,Nat.reduceLT,Nat.reduceBEq,reduceCtorEq]|((first|((try refine aQ ?_);apply aS)|(apply aR;intro _));(solve|exact(hh)|(refine ag.le (hh) ?_;exact zM)|fail);try case hn=>rfl)|refine aC ?_|refine aA (λ hb=> ?_) (λ hb=> ?_)|(refine And.intro ?_ ?_;exact zI)|refine And.intro (λ hg=> ?_) (λ hg=> ?_)|exact zC|fail)
 refine ll (τ:=Nat×Int) (λ x=>⟨[dd,ai most,ai v,dd,dd,dd,dd,ai x.2,ai x.1,dd,dd,dd,dd,dd,dd,dd,dd,dd,dd,dd,dd,dd,dd,dd,dd,dd,dd,dd,dd,dd,dd,dd,dd,dd,dd,dd,dd,dd,dd,dd,dd],[]⟩) (λ x=>x.1≤v/\1≤x.2/\x.2≤2*most) (λ x=>min (x.2*2^(v - x.1)) most) (λ x=>v - x.1) (0,base)
  (Gh.canon [] [] [] zK rfl rfl) ⟨kC _,ha,by simp only;omega⟩ ?_
 intro⟨m,t⟩ ⟨hm0,ht1,ht2⟩ hF K hK;simp only at hm0 ht1 ht2 hF hK⊢;have hF2:min (t*2^(v - m)) most=dR base most v:=hF;clear hF;cases hq:(decide ((m:Int)<v)&&decide (t<most))
 .have hr:dR base most v=min t most:=by
   rw[←hF2];simp only[oQ,iK]at hq;rcases hq with hq|hq
   .have:v - m=0:=by omega
    rw[this,Int.pow_zero,Int.mul_one]
   .rw[oe ht1 (by omega)];omega
  rw[hr]
  repeat'(first|(with_reducible first|refine ay _ _ ?_|refine aD ?_|refine aE ?_)|rw[aB]|simp only[hq,zY,Int.reduceEq,Int.reduceBEq,Int.reduceBNe,Nat.reduceSub,Nat.reduceEqDiff,Nat.reduceAdd,Nat.reduceMul,Nat.reduceLeDiff,Nat.reduceLT,Nat.reduceBEq,reduceCtorEq]|refine aC ?_|refine aA (λ hb=> ?_) (λ hb=> ?_)|(refine And.intro ?_ ?_;exact zI)|refine And.intro (λ hg=> ?_) (λ hg=> ?_)|exact zC|fail)
 .have hq2:=hq;simp only[cg,dQ]at hq2;obtain⟨k,hk⟩:∃k,v - m=k+1:=⟨v - m - 1,by omega⟩;have w1:IntKind.i64.wrap (2*t)=2*t:=wrap64 (by omega) (by omega);have w2:IntKind.i64.wrap ((m:Int)+1)=((m+1:Nat):Int):=ij (n:=v) (by omega) (by omega)
  repeat'(first|(with_reducible first|refine ay _ _ ?_|refine aD ?_|refine aE ?_)|rw[aB]|simp only[hq,w1,zY,Int.reduceEq,Int.reduceBEq,Int.reduceBNe,Nat.reduceSub,Nat.reduceEqDiff,Nat.reduceAdd,Nat.reduceMul,Nat.reduceLeDiff,Nat.reduceLT,Nat.reduceBEq,reduceCtorEq]|refine aC ?_|refine aA (λ hb=> ?_) (λ hb=> ?_)|(refine And.intro ?_ ?_;exact zI)|refine And.intro (λ hg=> ?_) (λ hg=> ?_)|exact zC|fail)
  exact hK _ (m+1,2*t) (Gh.canon [] [] [] (by simp only[w2,cw,cC,cG,cB,cE,cF,cD,cm,cn,cc,ca,cA,cJ,D.v.injEq,cH];try(repeat'(first|rfl|omega|with_reducible apply And.intro))) rfl rfl) ⟨by simp only;omega,by simp only;omega,by simp only;omega⟩ (by simp only;rw[show v - (m+1)=k by omega,hk];exact Ez) (by simp only;omega)
def dG (base most bW:Int):Nat->Nat->Nat
 |0,v=>v
 |f+1,v=>if dR base most v<bW then dG base most bW f (v+1)else v
theorem Df (base most bW:Int) (h:jB base most) (hn:bW≤most):ag prog 50 [.f (ai base), .f (ai most), .f (ai bW)] (λ r o=>r=[ri (dG base most bW 21 0),rb true]/\o=[]):=by
 refine bR bm mixed (T:=Ty) (n:=27) func50 (c:=f50.body.getD .skip) rfl results50 ntmps50 call50 ?_;simp only[f50,Option.getD];have h0:=nA base most 0 h (by decide);rw[mX h.b]at h0;have t1:(base==0)=false:=by have:=h.a;simp;omega
 have t2:decide (bW>most)=false:=by simp;omega
 repeat'(first|(with_reducible first|refine ay _ _ ?_|refine aD ?_|refine aE ?_)|rw[aB]|simp only[t1,t2,zY,Int.reduceEq,Int.reduceBEq,Int.reduceBNe,Nat.reduceSub,Nat.reduceEqDiff,Nat.reduceAdd,Nat.reduceMul,Nat.reduceLeDiff,Nat.reduceLT,Nat.reduceBEq,reduceCtorEq]|((first|((try refine aQ ?_);apply aS)|(apply aR;intro _));(solve|exact(h0)|(refine ag.le (h0) ?_;exact zM)|fail);try case hn=>rfl)|refine aC ?_|refine aA (λ hb=> ?_) (λ hb=> ?_)|(refine And.intro ?_ ?_;exact zI)|refine And.intro (λ hg=> ?_) (λ hg=> ?_)|exact zC|fail)
 refine ll (τ:=Nat) (λ v=>⟨[ai base,ai most,ai bW,dd,dd,dd,dd,dd,ai v,dd,dd,dd,dd,dd,dd,dd,dd,dd,dd,dd,dd,dd,dd,dd,dd,dd,dd],[]⟩) (λ v=>v≤20) (λ v=>dG base most bW (21 - v) v) (λ v=>20 - v) 0
  (Gh.canon [] [] [] zK rfl rfl) (by decide) ?_
 intro v hv hF K hK;have hF2:dG base most bW (21 - v) v=dG base most bW 21 0:=hF;clear hF;have hto:=nA base most v h (by omega);have hst:dG base most bW (21 - v) v=if dR base most v<bW then dG base most bW (20 - v) (v+1)else v:=by rw[show 21 - v=(20 - v)+1 by omega,dG]
 cases hq:decide (dR base most v<bW)
 .rw[←hF2,hst,aj (by simpa using hq)]
  repeat'(first|(with_reducible first|refine ay _ _ ?_|refine aD ?_|refine aE ?_)|rw[aB]|simp only[hq,zY,Int.reduceEq,Int.reduceBEq,Int.reduceBNe,Nat.reduceSub,Nat.reduceEqDiff,Nat.reduceAdd,Nat.reduceMul,Nat.reduceLeDiff,Nat.reduceLT,Nat.reduceBEq,reduceCtorEq]|((first|((try refine aQ ?_);apply aS)|(apply aR;intro _));(solve|exact(hto)|(refine ag.le (hto) ?_;exact zM)|fail);try case hn=>rfl)|refine aC ?_|refine aA (λ hb=> ?_) (λ hb=> ?_)|(refine And.intro ?_ ?_;exact zI)|refine And.intro (λ hg=> ?_) (λ hg=> ?_)|exact zC|fail)
 .have hlt:dR base most v<bW:=by simpa using hq
  have hv20:v<20:=by
   rcases fg v 20 with h1|h1
   .exact h1
   .rw[show v=20 by omega,wV h.a h.c]at hlt;omega
  have w2:IntKind.i64.wrap ((v:Int)+1)=((v+1:Nat):Int):=ij (n:=20) hv20 (by decide)
  repeat'(first|(with_reducible first|refine ay _ _ ?_|refine aD ?_|refine aE ?_)|rw[aB]|simp only[hq,zY,Int.reduceEq,Int.reduceBEq,Int.reduceBNe,Nat.reduceSub,Nat.reduceEqDiff,Nat.reduceAdd,Nat.reduceMul,Nat.reduceLeDiff,Nat.reduceLT,Nat.reduceBEq,reduceCtorEq]|((first|((try refine aQ ?_);apply aS)|(apply aR;intro _));(solve|exact(hto)|(refine ag.le (hto) ?_;exact zM)|fail);try case hn=>rfl)|refine aC ?_|refine aA (λ hb=> ?_) (λ hb=> ?_)|(refine And.intro ?_ ?_;exact zI)|refine And.intro (λ hg=> ?_) (λ hg=> ?_)|exact zC|fail)
  exact hK _ (v+1) (Gh.canon [] [] [] (by simp only[w2,cw,cC,cG,cB,cE,cF,cD,cm,cn,cc,ca,cA,cJ,D.v.injEq,cH];try(repeat'(first|rfl|omega|with_reducible apply And.intro))) rfl rfl) hv20 (by rw[hst,ao hlt,show 21 - (v+1)=20 - v by omega]) (by omega)
theorem Bv (base most bW:Int) (h:jB base most) (hn:¬bW≤most):ag prog 50 [.f (ai base), .f (ai most), .f (ai bW)] (λ r o=>r=[ri 0,rb false]/\o=[]):=by
 refine bR bm mixed (T:=Ty) (n:=27) func50 (c:=f50.body.getD .skip) rfl results50 ntmps50 call50 ?_;simp only[f50,Option.getD];have h0:=nA base most 0 h (by decide);rw[mX h.b]at h0;have t1:(base==0)=false:=by have:=h.a;simp;omega
 have t2:decide (bW>most)=true:=by simp;omega
 repeat'(first|(with_reducible first|refine ay _ _ ?_|refine aD ?_|refine aE ?_)|rw[aB]|simp only[t1,t2,zY,Int.reduceEq,Int.reduceBEq,Int.reduceBNe,Nat.reduceSub,Nat.reduceEqDiff,Nat.reduceAdd,Nat.reduceMul,Nat.reduceLeDiff,Nat.reduceLT,Nat.reduceBEq,reduceCtorEq]|((first|((try refine aQ ?_);apply aS)|(apply aR;intro _));(solve|exact(h0)|(refine ag.le (h0) ?_;exact zM)|fail);try case hn=>rfl)|refine aC ?_|refine aA (λ hb=> ?_) (λ hb=> ?_)|(refine And.intro ?_ ?_;exact zI)|refine And.intro (λ hg=> ?_) (λ hg=> ?_)|exact zC|fail)
theorem BO (base most bW:Int) (h:jB base most) (hn:bW≤most):ag prog 51 [.f (ai base), .f (ai most), .f (ai bW)] (λ r o=>r=[ri (dG base most bW 21 0),rb true]/\o=[]):=by
 refine bR bm mixed (T:=Ty) (n:=27) func51 (c:=f51.body.getD .skip) rfl results51 ntmps51 call51 ?_;simp only[f51,Option.getD];have h0:=pw base most 0 h (by decide);rw[mX h.b]at h0;have t1:(base==0)=false:=by have:=h.a;simp;omega
 have t2:decide (bW>most)=false:=by simp;omega
 repeat'(first|(with_reducible first|refine ay _ _ ?_|refine aD ?_|refine aE ?_)|rw[aB]|simp only[t1,t2,zY,Int.reduceEq,Int.reduceBEq,Int.reduceBNe,Nat.reduceSub,Nat.reduceEqDiff,Nat.reduceAdd,Nat.reduceMul,Nat.reduceLeDiff,Nat.reduceLT,Nat.reduceBEq,reduceCtorEq]|((first|((try refine aQ ?_);apply aS)|(apply aR;intro _));(solve|exact(h0)|(refine ag.le (h0) ?_;exact zM)|fail);try case hn=>rfl)|refine aC ?_|refine aA (λ hb=> ?_) (λ hb=> ?_)|(refine And.intro ?_ ?_;exact zI)|refine And.intro (λ hg=> ?_) (λ hg=> ?_)|exact zC|fail)
 refine ll (τ:=Nat) (λ v=>⟨[ai base,ai most,ai bW,dd,dd,dd,dd,dd,ai v,dd,dd,dd,dd,dd,dd,dd,dd,dd,dd,dd,dd,dd,dd,dd,dd,dd,dd],[]⟩) (λ v=>v≤20) (λ v=>dG base most bW (21 - v) v) (λ v=>20 - v) 0
  (Gh.canon [] [] [] zK rfl rfl) (by decide) ?_
 intro v hv hF K hK;have hF2:dG base most bW (21 - v) v=dG base most bW 21 0:=hF;clear hF;have hto:=pw base most v h (by omega);have hst:dG base most bW (21 - v) v=if dR base most v<bW then dG base most bW (20 - v) (v+1)else v:=by rw[show 21 - v=(20 - v)+1 by omega,dG]
 cases hq:decide (dR base most v<bW)
 .rw[←hF2,hst,aj (by simpa using hq)]
  repeat'(first|(with_reducible first|refine ay _ _ ?_|refine aD ?_|refine aE ?_)|rw[aB]|simp only[hq,zY,Int.reduceEq,Int.reduceBEq,Int.reduceBNe,Nat.reduceSub,Nat.reduceEqDiff,Nat.reduceAdd,Nat.reduceMul,Nat.reduceLeDiff,Nat.reduceLT,Nat.reduceBEq,reduceCtorEq]|((first|((try refine aQ ?_);apply aS)|(apply aR;intro _));(solve|exact(hto)|(refine ag.le (hto) ?_;exact zM)|fail);try case hn=>rfl)|refine aC ?_|refine aA (λ hb=> ?_) (λ hb=> ?_)|(refine And.intro ?_ ?_;exact zI)|refine And.intro (λ hg=> ?_) (λ hg=> ?_)|exact zC|fail)
 .have hlt:dR base most v<bW:=by simpa using hq
  have hv20:v<20:=by
   rcases fg v 20 with h1|h1
   .exact h1
   .rw[show v=20 by omega,wV h.a h.c]at hlt;omega
  have w2:IntKind.i64.wrap ((v:Int)+1)=((v+1:Nat):Int):=ij (n:=20) hv20 (by decide)
  repeat'(first|(with_reducible first|refine ay _ _ ?_|refine aD ?_|refine aE ?_)|rw[aB]|simp only[hq,zY,Int.reduceEq,Int.reduceBEq,Int.reduceBNe,Nat.reduceSub,Nat.reduceEqDiff,Nat.reduceAdd,Nat.reduceMul,Nat.reduceLeDiff,Nat.reduceLT,Nat.reduceBEq,reduceCtorEq]|((first|((try refine aQ ?_);apply aS)|(apply aR;intro _));(solve|exact(hto)|(refine ag.le (hto) ?_;exact zM)|fail);try case hn=>rfl)|refine aC ?_|refine aA (λ hb=> ?_) (λ hb=> ?_)|(refine And.intro ?_ ?_;exact zI)|refine And.intro (λ hg=> ?_) (λ hg=> ?_)|exact zC|fail)
  exact hK _ (v+1) (Gh.canon [] [] [] (by simp only[w2,cw,cC,cG,cB,cE,cF,cD,cm,cn,cc,ca,cA,cJ,D.v.injEq,cH];try(repeat'(first|rfl|omega|with_reducible apply And.intro))) rfl rfl) hv20 (by rw[hst,ao hlt,show 21 - (v+1)=20 - v by omega]) (by omega)
theorem Ba (base most bW:Int) (h:jB base most) (hn:¬bW≤most):ag prog 51 [.f (ai base), .f (ai most), .f (ai bW)] (λ r o=>r=[ri 0,rb false]/\o=[]):=by
 refine bR bm mixed (T:=Ty) (n:=27) func51 (c:=f51.body.getD .skip) rfl results51 ntmps51 call51 ?_;simp only[f51,Option.getD];have h0:=pw base most 0 h (by decide);rw[mX h.b]at h0;have t1:(base==0)=false:=by have:=h.a;simp;omega
 have t2:decide (bW>most)=true:=by simp;omega
 repeat'(first|(with_reducible first|refine ay _ _ ?_|refine aD ?_|refine aE ?_)|rw[aB]|simp only[t1,t2,zY,Int.reduceEq,Int.reduceBEq,Int.reduceBNe,Nat.reduceSub,Nat.reduceEqDiff,Nat.reduceAdd,Nat.reduceMul,Nat.reduceLeDiff,Nat.reduceLT,Nat.reduceBEq,reduceCtorEq]|((first|((try refine aQ ?_);apply aS)|(apply aR;intro _));(solve|exact(h0)|(refine ag.le (h0) ?_;exact zM)|fail);try case hn=>rfl)|refine aC ?_|refine aA (λ hb=> ?_) (λ hb=> ?_)|(refine And.intro ?_ ?_;exact zI)|refine And.intro (λ hg=> ?_) (λ hg=> ?_)|exact zC|fail)
theorem vW {c:bd} {f:Fair} (h:bU c f=true):jB c.base c.cap:=by unfold bU cR at h;simp only[cg,dk,dP,dh,iH,dQ]at h;exact⟨by omega,by omega,by omega⟩
def mB (c:bd) (f:Fair):Int:=if dn c f≤c.cap then(dG c.base c.cap (dn c f) 21 0:Nat)else 24
def dX (c:bd) (f:Fair):Int:=if bU c f=true then W (W (W (W (mB c f+c.aU)+4)*dn c f)+W (4*W (c.aT+W (c.bN*W (c.aU+1)))))else 0
def gv (c:bd) (f:Fair):Bool:=(bU c f&&decide (c.cap≥dn c f))&&decide (c.bg≥dX c f)
def eM (c:bd) (f:Fair):Int:=if bU c f=true then W (W (W (24+c.aU)*W (jQ f c.cap+W (20*W (f.d+f.k))))+W (100*W (f.d+f.k)))else 0
def gq (c:bd) (f:Fair):Int:=if bU c f=true then W (jQ f (W (W (W (W (c.bN*W (c.aU+2))+c.bO)+c.wait)+c.bF))+W (40*W (f.d+f.k)))else 0
def mu (n:Int):Int:=if(decide (n<0)||decide (n>2305843009213693952))=true then 0 else n
def fU (c:bd) (f:Fair) (n:Int):Int:=if bU c f=true then W (W (W (eM c f+mu n)+jQ f (W (W (2*c.bg)+c.aT)))+W (17*gq c f))else 0
def jM (c:bd) (f:Fair):Int:=if bU c f=true then W (W (eM c f+jQ f (W (W (2*c.bg)+c.bF)))+W (6*gq c f))else 0
theorem nR (c:bd) (f:Fair):ag prog 21 [.f (.agg (c.enc.map C.d)), .f (.agg f.l)] (λ r o=>r=[ri (dX c f)]/\o=[]):=by
 refine bR bm mixed (T:=Ty) (n:=44) func21 (c:=f21.body.getD .skip) rfl results21 ntmps21 call21 ?_;simp only[f21,Option.getD];have hm1:=jL c f;unfold dX;cases hm:bU c f
 .rw[hm]at hm1;rw[aj (by simp)]
  repeat'(first|(with_reducible first|refine ay _ _ ?_|refine aD ?_|refine aE ?_)|rw[aB]|simp only[zY,Int.reduceEq,Int.reduceBEq,Int.reduceBNe,Nat.reduceSub,Nat.reduceEqDiff,Nat.reduceAdd,Nat.reduceMul,Nat.reduceLeDiff,Nat.reduceLT,Nat.reduceBEq,reduceCtorEq]|((first|((try refine aQ ?_);apply aS)|(apply aR;intro _));(solve|exact(hm1)|(refine ag.le (hm1) ?_;exact zM)|fail);try case hn=>rfl)|refine aC ?_|refine aA (λ hb=> ?_) (λ hb=> ?_)|(refine And.intro ?_ ?_;exact zI)|refine And.intro (λ hg=> ?_) (λ hg=> ?_)|exact zC|fail)
 .rw[hm]at hm1;rw[ao rfl];obtain⟨hp,hk⟩:=gS hm;have hnd:=km c f;have hto:=vW hm;unfold mB;by_cases hn:dn c f≤c.cap
  .rw[ao hn];have hre:=Df c.base c.cap (dn c f) hto hn
   repeat'(first|(with_reducible first|refine ay _ _ ?_|refine aD ?_|refine aE ?_)|rw[aB]|simp only[lF,zY,Int.reduceEq,Int.reduceBEq,Int.reduceBNe,Nat.reduceSub,Nat.reduceEqDiff,Nat.reduceAdd,Nat.reduceMul,Nat.reduceLeDiff,Nat.reduceLT,Nat.reduceBEq,reduceCtorEq]|((first|((try refine aQ ?_);apply aS)|(apply aR;intro _));(solve|exact(hm1)|exact(hnd)|exact(hre)|(refine ag.le (hm1) ?_;exact zM)|(refine ag.le (hnd) ?_;exact zM)|(refine ag.le (hre) ?_;exact zM)|fail);try case hn=>rfl)|refine aC ?_|refine aA (λ hb=> ?_) (λ hb=> ?_)|(refine And.intro ?_ ?_;exact zI)|refine And.intro (λ hg=> ?_) (λ hg=> ?_)|exact zC|fail)
  .rw[aj hn];have hre:=Bv c.base c.cap (dn c f) hto hn
   repeat'(first|(with_reducible first|refine ay _ _ ?_|refine aD ?_|refine aE ?_)|rw[aB]|simp only[mJ,zY,Int.reduceEq,Int.reduceBEq,Int.reduceBNe,Nat.reduceSub,Nat.reduceEqDiff,Nat.reduceAdd,Nat.reduceMul,Nat.reduceLeDiff,Nat.reduceLT,Nat.reduceBEq,reduceCtorEq]|((first|((try refine aQ ?_);apply aS)|(apply aR;intro _));(solve|exact(hm1)|exact(hnd)|exact(hre)|(refine ag.le (hm1) ?_;exact zM)|(refine ag.le (hnd) ?_;exact zM)|(refine ag.le (hre) ?_;exact zM)|fail);try case hn=>rfl)|refine aC ?_|refine aA (λ hb=> ?_) (λ hb=> ?_)|(refine And.intro ?_ ?_;exact zI)|refine And.intro (λ hg=> ?_) (λ hg=> ?_)|exact zC|fail)
theorem ki (c:bd) (f:Fair):ag prog 25 [.f (.agg (c.enc.map C.d)), .f (.agg f.l)] (λ r o=>r=[ri (eM c f)]/\o=[]):=by
 refine bR bm mixed (T:=Ty) (n:=31) func25 (c:=f25.body.getD .skip) rfl results25 ntmps25 call25 ?_;simp only[f25,Option.getD];have hm1:=jL c f;unfold eM;cases hm:bU c f
 .rw[hm]at hm1;rw[aj (by simp)]
  repeat'(first|(with_reducible first|refine ay _ _ ?_|refine aD ?_|refine aE ?_)|rw[aB]|simp only[zY,Int.reduceEq,Int.reduceBEq,Int.reduceBNe,Nat.reduceSub,Nat.reduceEqDiff,Nat.reduceAdd,Nat.reduceMul,Nat.reduceLeDiff,Nat.reduceLT,Nat.reduceBEq,reduceCtorEq]|((first|((try refine aQ ?_);apply aS)|(apply aR;intro _));(solve|exact(hm1)|(refine ag.le (hm1) ?_;exact zM)|fail);try case hn=>rfl)|refine aC ?_|refine aA (λ hb=> ?_) (λ hb=> ?_)|(refine And.intro ?_ ?_;exact zI)|refine And.intro (λ hg=> ?_) (λ hg=> ?_)|exact zC|fail)
 .rw[hm]at hm1;rw[ao rfl];obtain⟨hp,hk⟩:=gS hm;have hla:=oh f c.cap hp
  repeat'(first|(with_reducible first|refine ay _ _ ?_|refine aD ?_|refine aE ?_)|rw[aB]|simp only[zY,Int.reduceEq,Int.reduceBEq,Int.reduceBNe,Nat.reduceSub,Nat.reduceEqDiff,Nat.reduceAdd,Nat.reduceMul,Nat.reduceLeDiff,Nat.reduceLT,Nat.reduceBEq,reduceCtorEq]|((first|((try refine aQ ?_);apply aS)|(apply aR;intro _));(solve|exact(hm1)|exact(hla)|(refine ag.le (hm1) ?_;exact zM)|(refine ag.le (hla) ?_;exact zM)|fail);try case hn=>rfl)|refine aC ?_|refine aA (λ hb=> ?_) (λ hb=> ?_)|(refine And.intro ?_ ?_;exact zI)|refine And.intro (λ hg=> ?_) (λ hg=> ?_)|exact zC|fail)
theorem lp (c:bd) (f:Fair):ag prog 27 [.f (.agg (c.enc.map C.d)), .f (.agg f.l)] (λ r o=>r=[ri (gq c f)]/\o=[]):=by
 refine bR bm mixed (T:=Ty) (n:=33) func27 (c:=f27.body.getD .skip) rfl results27 ntmps27 call27 ?_;simp only[f27,Option.getD];have hm1:=jL c f;unfold gq;cases hm:bU c f
 .rw[hm]at hm1;rw[aj (by simp)]
  repeat'(first|(with_reducible first|refine ay _ _ ?_|refine aD ?_|refine aE ?_)|rw[aB]|simp only[zY,Int.reduceEq,Int.reduceBEq,Int.reduceBNe,Nat.reduceSub,Nat.reduceEqDiff,Nat.reduceAdd,Nat.reduceMul,Nat.reduceLeDiff,Nat.reduceLT,Nat.reduceBEq,reduceCtorEq]|((first|((try refine aQ ?_);apply aS)|(apply aR;intro _));(solve|exact(hm1)|(refine ag.le (hm1) ?_;exact zM)|fail);try case hn=>rfl)|refine aC ?_|refine aA (λ hb=> ?_) (λ hb=> ?_)|(refine And.intro ?_ ?_;exact zI)|refine And.intro (λ hg=> ?_) (λ hg=> ?_)|exact zC|fail)
 .rw[hm]at hm1;rw[ao rfl];obtain⟨hp,hk⟩:=gS hm;have hla:=oh f (W (W (W (W (c.bN*W (c.aU+2))+c.bO)+c.wait)+c.bF)) hp
  repeat'(first|(with_reducible first|refine ay _ _ ?_|refine aD ?_|refine aE ?_)|rw[aB]|simp only[zY,Int.reduceEq,Int.reduceBEq,Int.reduceBNe,Nat.reduceSub,Nat.reduceEqDiff,Nat.reduceAdd,Nat.reduceMul,Nat.reduceLeDiff,Nat.reduceLT,Nat.reduceBEq,reduceCtorEq]|((first|((try refine aQ ?_);apply aS)|(apply aR;intro _));(solve|exact(hm1)|exact(hla)|(refine ag.le (hm1) ?_;exact zM)|(refine ag.le (hla) ?_;exact zM)|fail);try case hn=>rfl)|refine aC ?_|refine aA (λ hb=> ?_) (λ hb=> ?_)|(refine And.intro ?_ ?_;exact zI)|refine And.intro (λ hg=> ?_) (λ hg=> ?_)|exact zC|fail)
theorem ml (c:bd) (f:Fair) (n:Int):ag prog 29 [.f (.agg (c.enc.map C.d)), .f (.agg f.l), .f (ai n)] (λ r o=>r=[ri (fU c f n)]/\o=[]):=by
 refine bR bm mixed (T:=Ty) (n:=36) func29 (c:=f29.body.getD .skip) rfl results29 ntmps29 call29 ?_;simp only[f29,Option.getD];have hm1:=jL c f;unfold fU;cases hm:bU c f
 .rw[hm]at hm1;rw[aj (by simp)]
  repeat'(first|(with_reducible first|refine ay _ _ ?_|refine aD ?_|refine aE ?_)|rw[aB]|simp only[zY,Int.reduceEq,Int.reduceBEq,Int.reduceBNe,Nat.reduceSub,Nat.reduceEqDiff,Nat.reduceAdd,Nat.reduceMul,Nat.reduceLeDiff,Nat.reduceLT,Nat.reduceBEq,reduceCtorEq]|((first|((try refine aQ ?_);apply aS)|(apply aR;intro _));(solve|exact(hm1)|(refine ag.le (hm1) ?_;exact zM)|fail);try case hn=>rfl)|refine aC ?_|refine aA (λ hb=> ?_) (λ hb=> ?_)|(refine And.intro ?_ ?_;exact zI)|refine And.intro (λ hg=> ?_) (λ hg=> ?_)|exact zC|fail)
 .rw[hm]at hm1;rw[ao rfl];obtain⟨hp,hk⟩:=gS hm;have hla:=oh f (W (W (2*c.bg)+c.aT)) hp;have hse:=ki c f;have hsv:=lp c f;unfold mu;cases hw:(decide (n<0)||decide (n>2305843009213693952))
  .rw[aj (by simp)]
   repeat'(first|(with_reducible first|refine ay _ _ ?_|refine aD ?_|refine aE ?_)|rw[aB]|simp only[hw,zY,Int.reduceEq,Int.reduceBEq,Int.reduceBNe,Nat.reduceSub,Nat.reduceEqDiff,Nat.reduceAdd,Nat.reduceMul,Nat.reduceLeDiff,Nat.reduceLT,Nat.reduceBEq,reduceCtorEq]|((first|((try refine aQ ?_);apply aS)|(apply aR;intro _));(solve|exact(hm1)|exact(hla)|exact(hse)|exact(hsv)|(refine ag.le (hm1) ?_;exact zM)|(refine ag.le (hla) ?_;exact zM)|(refine ag.le (hse) ?_;exact zM)|(refine ag.le (hsv) ?_;exact zM)|fail);try case hn=>rfl)|refine aC ?_|refine aA (λ hb=> ?_) (λ hb=> ?_)|(refine And.intro ?_ ?_;exact zI)|refine And.intro (λ hg=> ?_) (λ hg=> ?_)|exact zC|fail)
  .rw[ao rfl]
   repeat'(first|(with_reducible first|refine ay _ _ ?_|refine aD ?_|refine aE ?_)|rw[aB]|simp only[hw,zY,Int.reduceEq,Int.reduceBEq,Int.reduceBNe,Nat.reduceSub,Nat.reduceEqDiff,Nat.reduceAdd,Nat.reduceMul,Nat.reduceLeDiff,Nat.reduceLT,Nat.reduceBEq,reduceCtorEq]|((first|((try refine aQ ?_);apply aS)|(apply aR;intro _));(solve|exact(hm1)|exact(hla)|exact(hse)|exact(hsv)|(refine ag.le (hm1) ?_;exact zM)|(refine ag.le (hla) ?_;exact zM)|(refine ag.le (hse) ?_;exact zM)|(refine ag.le (hsv) ?_;exact zM)|fail);try case hn=>rfl)|refine aC ?_|refine aA (λ hb=> ?_) (λ hb=> ?_)|(refine And.intro ?_ ?_;exact zI)|refine And.intro (λ hg=> ?_) (λ hg=> ?_)|exact zC|fail)
theorem pR (c:bd) (f:Fair):ag prog 31 [.f (.agg (c.enc.map C.d)), .f (.agg f.l)] (λ r o=>r=[ri (jM c f)]/\o=[]):=by
 refine bR bm mixed (T:=Ty) (n:=26) func31 (c:=f31.body.getD .skip) rfl results31 ntmps31 call31 ?_;simp only[f31,Option.getD];have hm1:=jL c f;unfold jM;cases hm:bU c f
 .rw[hm]at hm1;rw[aj (by simp)]
  repeat'(first|(with_reducible first|refine ay _ _ ?_|refine aD ?_|refine aE ?_)|rw[aB]|simp only[zY,Int.reduceEq,Int.reduceBEq,Int.reduceBNe,Nat.reduceSub,Nat.reduceEqDiff,Nat.reduceAdd,Nat.reduceMul,Nat.reduceLeDiff,Nat.reduceLT,Nat.reduceBEq,reduceCtorEq]|((first|((try refine aQ ?_);apply aS)|(apply aR;intro _));(solve|exact(hm1)|(refine ag.le (hm1) ?_;exact zM)|fail);try case hn=>rfl)|refine aC ?_|refine aA (λ hb=> ?_) (λ hb=> ?_)|(refine And.intro ?_ ?_;exact zI)|refine And.intro (λ hg=> ?_) (λ hg=> ?_)|exact zC|fail)
 .rw[hm]at hm1;rw[ao rfl];obtain⟨hp,hk⟩:=gS hm;have hla:=oh f (W (W (2*c.bg)+c.bF)) hp;have hse:=ki c f;have hsv:=lp c f
  repeat'(first|(with_reducible first|refine ay _ _ ?_|refine aD ?_|refine aE ?_)|rw[aB]|simp only[zY,Int.reduceEq,Int.reduceBEq,Int.reduceBNe,Nat.reduceSub,Nat.reduceEqDiff,Nat.reduceAdd,Nat.reduceMul,Nat.reduceLeDiff,Nat.reduceLT,Nat.reduceBEq,reduceCtorEq]|((first|((try refine aQ ?_);apply aS)|(apply aR;intro _));(solve|exact(hm1)|exact(hla)|exact(hse)|exact(hsv)|(refine ag.le (hm1) ?_;exact zM)|(refine ag.le (hla) ?_;exact zM)|(refine ag.le (hse) ?_;exact zM)|(refine ag.le (hsv) ?_;exact zM)|fail);try case hn=>rfl)|refine aC ?_|refine aA (λ hb=> ?_) (λ hb=> ?_)|(refine And.intro ?_ ?_;exact zI)|refine And.intro (λ hg=> ?_) (λ hg=> ?_)|exact zC|fail)
theorem kn (c:bd) (f:Fair):ag prog 23 [.f (.agg (c.enc.map C.d)), .f (.agg f.l)] (λ r o=>r=[rb (gv c f)]/\o=[]):=by
 refine bR bm mixed (T:=Ty) (n:=24) func23 (c:=f23.body.getD .skip) rfl results23 ntmps23 call23 ?_;simp only[f23,Option.getD];have hm1:=jL c f;have hnd:=km c f;have hls:=nR c f
 repeat'(first|(with_reducible first|refine ay _ _ ?_|refine aD ?_|refine aE ?_)|rw[aB]|simp only[zY,Int.reduceEq,Int.reduceBEq,Int.reduceBNe,Nat.reduceSub,Nat.reduceEqDiff,Nat.reduceAdd,Nat.reduceMul,Nat.reduceLeDiff,Nat.reduceLT,Nat.reduceBEq,reduceCtorEq]|((first|((try refine aQ ?_);apply aS)|(apply aR;intro _));(solve|exact(hm1)|exact(hnd)|exact(hls)|(refine ag.le (hm1) ?_;exact zM)|(refine ag.le (hnd) ?_;exact zM)|(refine ag.le (hls) ?_;exact zM)|fail);try case hn=>rfl)|refine aC ?_|refine aA (λ hb=> ?_) (λ hb=> ?_)|(refine And.intro ?_ ?_;exact zI)|refine And.intro (λ hg=> ?_) (λ hg=> ?_)|exact zC|fail)
 rfl
theorem pM (c:bd) (f:Fair):ag prog 22 [.f (.agg (c.enc.map C.d)), .f (.agg f.l)] (λ r o=>r=[ri (dX c f)]/\o=[]):=by
 refine bR bm mixed (T:=Ty) (n:=48) func22 (c:=f22.body.getD .skip) rfl results22 ntmps22 call22 ?_;simp only[f22,Option.getD];have hm1:=kb c;have hm2:=jJ f;unfold dX;cases hm:bU c f
 .have hq:(!cR c|| !ep f)=true:=by unfold bU at hm;rw[←gX,hm];rfl
  rw[aj (by simp)]
  repeat'(first|(with_reducible first|refine ay _ _ ?_|refine aD ?_|refine aE ?_)|rw[aB]|simp only[hq,zY,Int.reduceEq,Int.reduceBEq,Int.reduceBNe,Nat.reduceSub,Nat.reduceEqDiff,Nat.reduceAdd,Nat.reduceMul,Nat.reduceLeDiff,Nat.reduceLT,Nat.reduceBEq,reduceCtorEq]|((first|((try refine aQ ?_);apply aS)|(apply aR;intro _));(solve|exact(hm1)|exact(hm2)|(refine ag.le (hm1) ?_;exact zM)|(refine ag.le (hm2) ?_;exact zM)|fail);try case hn=>rfl)|refine aC ?_|refine aA (λ hb=> ?_) (λ hb=> ?_)|(refine And.intro ?_ ?_;exact zI)|refine And.intro (λ hg=> ?_) (λ hg=> ?_)|exact zC|fail)
 .have hq:(!cR c|| !ep f)=false:=by unfold bU at hm;rw[←gX,hm];rfl
  rw[ao rfl];obtain⟨hp,hk⟩:=gS hm;have hnd:=n7 c f;have hto:=vW hm;unfold mB;by_cases hn:dn c f≤c.cap
  .rw[ao hn];have hre:=BO c.base c.cap (dn c f) hto hn
   repeat'(first|(with_reducible first|refine ay _ _ ?_|refine aD ?_|refine aE ?_)|rw[aB]|simp only[hq,lF,zY,Int.reduceEq,Int.reduceBEq,Int.reduceBNe,Nat.reduceSub,Nat.reduceEqDiff,Nat.reduceAdd,Nat.reduceMul,Nat.reduceLeDiff,Nat.reduceLT,Nat.reduceBEq,reduceCtorEq]|((first|((try refine aQ ?_);apply aS)|(apply aR;intro _));(solve|exact(hm1)|exact(hm2)|exact(hnd)|exact(hre)|(refine ag.le (hm1) ?_;exact zM)|(refine ag.le (hm2) ?_;exact zM)|(refine ag.le (hnd) ?_;exact zM)|(refine ag.le (hre) ?_;exact zM)|fail);try case hn=>rfl)|refine aC ?_|refine aA (λ hb=> ?_) (λ hb=> ?_)|(refine And.intro ?_ ?_;exact zI)|refine And.intro (λ hg=> ?_) (λ hg=> ?_)|exact zC|fail)
  .rw[aj hn];have hre:=Ba c.base c.cap (dn c f) hto hn
   repeat'(first|(with_reducible first|refine ay _ _ ?_|refine aD ?_|refine aE ?_)|rw[aB]|simp only[hq,mJ,zY,Int.reduceEq,Int.reduceBEq,Int.reduceBNe,Nat.reduceSub,Nat.reduceEqDiff,Nat.reduceAdd,Nat.reduceMul,Nat.reduceLeDiff,Nat.reduceLT,Nat.reduceBEq,reduceCtorEq]|((first|((try refine aQ ?_);apply aS)|(apply aR;intro _));(solve|exact(hm1)|exact(hm2)|exact(hnd)|exact(hre)|(refine ag.le (hm1) ?_;exact zM)|(refine ag.le (hm2) ?_;exact zM)|(refine ag.le (hnd) ?_;exact zM)|(refine ag.le (hre) ?_;exact zM)|fail);try case hn=>rfl)|refine aC ?_|refine aA (λ hb=> ?_) (λ hb=> ?_)|(refine And.intro ?_ ?_;exact zI)|refine And.intro (λ hg=> ?_) (λ hg=> ?_)|exact zC|fail)
theorem nB (c:bd) (f:Fair):ag prog 26 [.f (.agg (c.enc.map C.d)), .f (.agg f.l)] (λ r o=>r=[ri (eM c f)]/\o=[]):=by
 refine bR bm mixed (T:=Ty) (n:=35) func26 (c:=f26.body.getD .skip) rfl results26 ntmps26 call26 ?_;simp only[f26,Option.getD];have hm1:=kb c;have hm2:=jJ f;unfold eM;cases hm:bU c f
 .have hq:(!cR c|| !ep f)=true:=by unfold bU at hm;rw[←gX,hm];rfl
  rw[aj (by simp)]
  repeat'(first|(with_reducible first|refine ay _ _ ?_|refine aD ?_|refine aE ?_)|rw[aB]|simp only[hq,zY,Int.reduceEq,Int.reduceBEq,Int.reduceBNe,Nat.reduceSub,Nat.reduceEqDiff,Nat.reduceAdd,Nat.reduceMul,Nat.reduceLeDiff,Nat.reduceLT,Nat.reduceBEq,reduceCtorEq]|((first|((try refine aQ ?_);apply aS)|(apply aR;intro _));(solve|exact(hm1)|exact(hm2)|(refine ag.le (hm1) ?_;exact zM)|(refine ag.le (hm2) ?_;exact zM)|fail);try case hn=>rfl)|refine aC ?_|refine aA (λ hb=> ?_) (λ hb=> ?_)|(refine And.intro ?_ ?_;exact zI)|refine And.intro (λ hg=> ?_) (λ hg=> ?_)|exact zC|fail)
 .have hq:(!cR c|| !ep f)=false:=by unfold bU at hm;rw[←gX,hm];rfl
  rw[ao rfl];obtain⟨hp,hk⟩:=gS hm;have hla:=nW f c.cap hp
  repeat'(first|(with_reducible first|refine ay _ _ ?_|refine aD ?_|refine aE ?_)|rw[aB]|simp only[hq,zY,Int.reduceEq,Int.reduceBEq,Int.reduceBNe,Nat.reduceSub,Nat.reduceEqDiff,Nat.reduceAdd,Nat.reduceMul,Nat.reduceLeDiff,Nat.reduceLT,Nat.reduceBEq,reduceCtorEq]|((first|((try refine aQ ?_);apply aS)|(apply aR;intro _));(solve|exact(hm1)|exact(hm2)|exact(hla)|(refine ag.le (hm1) ?_;exact zM)|(refine ag.le (hm2) ?_;exact zM)|(refine ag.le (hla) ?_;exact zM)|fail);try case hn=>rfl)|refine aC ?_|refine aA (λ hb=> ?_) (λ hb=> ?_)|(refine And.intro ?_ ?_;exact zI)|refine And.intro (λ hg=> ?_) (λ hg=> ?_)|exact zC|fail)
theorem nG (c:bd) (f:Fair):ag prog 28 [.f (.agg (c.enc.map C.d)), .f (.agg f.l)] (λ r o=>r=[ri (gq c f)]/\o=[]):=by
 refine bR bm mixed (T:=Ty) (n:=37) func28 (c:=f28.body.getD .skip) rfl results28 ntmps28 call28 ?_;simp only[f28,Option.getD];have hm1:=kb c;have hm2:=jJ f;unfold gq;cases hm:bU c f
 .have hq:(!cR c|| !ep f)=true:=by unfold bU at hm;rw[←gX,hm];rfl
  rw[aj (by simp)]
  repeat'(first|(with_reducible first|refine ay _ _ ?_|refine aD ?_|refine aE ?_)|rw[aB]|simp only[hq,zY,Int.reduceEq,Int.reduceBEq,Int.reduceBNe,Nat.reduceSub,Nat.reduceEqDiff,Nat.reduceAdd,Nat.reduceMul,Nat.reduceLeDiff,Nat.reduceLT,Nat.reduceBEq,reduceCtorEq]|((first|((try refine aQ ?_);apply aS)|(apply aR;intro _));(solve|exact(hm1)|exact(hm2)|(refine ag.le (hm1) ?_;exact zM)|(refine ag.le (hm2) ?_;exact zM)|fail);try case hn=>rfl)|refine aC ?_|refine aA (λ hb=> ?_) (λ hb=> ?_)|(refine And.intro ?_ ?_;exact zI)|refine And.intro (λ hg=> ?_) (λ hg=> ?_)|exact zC|fail)
 .have hq:(!cR c|| !ep f)=false:=by unfold bU at hm;rw[←gX,hm];rfl
  rw[ao rfl];obtain⟨hp,hk⟩:=gS hm;have hla:=nW f (W (W (W (W (c.bN*W (c.aU+2))+c.bO)+c.wait)+c.bF)) hp
  repeat'(first|(with_reducible first|refine ay _ _ ?_|refine aD ?_|refine aE ?_)|rw[aB]|simp only[hq,zY,Int.reduceEq,Int.reduceBEq,Int.reduceBNe,Nat.reduceSub,Nat.reduceEqDiff,Nat.reduceAdd,Nat.reduceMul,Nat.reduceLeDiff,Nat.reduceLT,Nat.reduceBEq,reduceCtorEq]|((first|((try refine aQ ?_);apply aS)|(apply aR;intro _));(solve|exact(hm1)|exact(hm2)|exact(hla)|(refine ag.le (hm1) ?_;exact zM)|(refine ag.le (hm2) ?_;exact zM)|(refine ag.le (hla) ?_;exact zM)|fail);try case hn=>rfl)|refine aC ?_|refine aA (λ hb=> ?_) (λ hb=> ?_)|(refine And.intro ?_ ?_;exact zI)|refine And.intro (λ hg=> ?_) (λ hg=> ?_)|exact zC|fail)
theorem tE (c:bd) (f:Fair) (n:Int):ag prog 30 [.f (.agg (c.enc.map C.d)), .f (.agg f.l), .f (ai n)] (λ r o=>r=[ri (fU c f n)]/\o=[]):=by
 refine bR bm mixed (T:=Ty) (n:=40) func30 (c:=f30.body.getD .skip) rfl results30 ntmps30 call30 ?_;simp only[f30,Option.getD];have hm1:=kb c;have hm2:=jJ f;unfold fU;cases hm:bU c f
 .have hq:(!cR c|| !ep f)=true:=by unfold bU at hm;rw[←gX,hm];rfl
  rw[aj (by simp)]
  repeat'(first|(with_reducible first|refine ay _ _ ?_|refine aD ?_|refine aE ?_)|rw[aB]|simp only[hq,zY,Int.reduceEq,Int.reduceBEq,Int.reduceBNe,Nat.reduceSub,Nat.reduceEqDiff,Nat.reduceAdd,Nat.reduceMul,Nat.reduceLeDiff,Nat.reduceLT,Nat.reduceBEq,reduceCtorEq]|((first|((try refine aQ ?_);apply aS)|(apply aR;intro _));(solve|exact(hm1)|exact(hm2)|(refine ag.le (hm1) ?_;exact zM)|(refine ag.le (hm2) ?_;exact zM)|fail);try case hn=>rfl)|refine aC ?_|refine aA (λ hb=> ?_) (λ hb=> ?_)|(refine And.intro ?_ ?_;exact zI)|refine And.intro (λ hg=> ?_) (λ hg=> ?_)|exact zC|fail)
 .have hq:(!cR c|| !ep f)=false:=by unfold bU at hm;rw[←gX,hm];rfl
  rw[ao rfl];obtain⟨hp,hk⟩:=gS hm;have hla:=nW f (W (W (2*c.bg)+c.aT)) hp;have hse:=nB c f;have hsv:=nG c f;unfold mu;cases hw:(decide (n<0)||decide (n>2305843009213693952))
  .rw[aj (by simp)]
   repeat'(first|(with_reducible first|refine ay _ _ ?_|refine aD ?_|refine aE ?_)|rw[aB]|simp only[hq,hw,zY,Int.reduceEq,Int.reduceBEq,Int.reduceBNe,Nat.reduceSub,Nat.reduceEqDiff,Nat.reduceAdd,Nat.reduceMul,Nat.reduceLeDiff,Nat.reduceLT,Nat.reduceBEq,reduceCtorEq]|((first|((try refine aQ ?_);apply aS)|(apply aR;intro _));(solve|exact(hm1)|exact(hm2)|exact(hla)|exact(hse)|exact(hsv)|(refine ag.le (hm1) ?_;exact zM)|(refine ag.le (hm2) ?_;exact zM)|(refine ag.le (hla) ?_;exact zM)|(refine ag.le (hse) ?_;exact zM)|(refine ag.le (hsv) ?_;exact zM)|fail);try case hn=>rfl)|refine aC ?_|refine aA (λ hb=> ?_) (λ hb=> ?_)|(refine And.intro ?_ ?_;exact zI)|refine And.intro (λ hg=> ?_) (λ hg=> ?_)|exact zC|fail)
  .rw[ao rfl]
   repeat'(first|(with_reducible first|refine ay _ _ ?_|refine aD ?_|refine aE ?_)|rw[aB]|simp only[hq,hw,zY,Int.reduceEq,Int.reduceBEq,Int.reduceBNe,Nat.reduceSub,Nat.reduceEqDiff,Nat.reduceAdd,Nat.reduceMul,Nat.reduceLeDiff,Nat.reduceLT,Nat.reduceBEq,reduceCtorEq]|((first|((try refine aQ ?_);apply aS)|(apply aR;intro _));(solve|exact(hm1)|exact(hm2)|exact(hla)|exact(hse)|exact(hsv)|(refine ag.le (hm1) ?_;exact zM)|(refine ag.le (hm2) ?_;exact zM)|(refine ag.le (hla) ?_;exact zM)|(refine ag.le (hse) ?_;exact zM)|(refine ag.le (hsv) ?_;exact zM)|fail);try case hn=>rfl)|refine aC ?_|refine aA (λ hb=> ?_) (λ hb=> ?_)|(refine And.intro ?_ ?_;exact zI)|refine And.intro (λ hg=> ?_) (λ hg=> ?_)|exact zC|fail)
theorem sy (c:bd) (f:Fair):ag prog 32 [.f (.agg (c.enc.map C.d)), .f (.agg f.l)] (λ r o=>r=[ri (jM c f)]/\o=[]):=by
 refine bR bm mixed (T:=Ty) (n:=30) func32 (c:=f32.body.getD .skip) rfl results32 ntmps32 call32 ?_;simp only[f32,Option.getD];have hm1:=kb c;have hm2:=jJ f;unfold jM;cases hm:bU c f
 .have hq:(!cR c|| !ep f)=true:=by unfold bU at hm;rw[←gX,hm];rfl
  rw[aj (by simp)]
  repeat'(first|(with_reducible first|refine ay _ _ ?_|refine aD ?_|refine aE ?_)|rw[aB]|simp only[hq,zY,Int.reduceEq,Int.reduceBEq,Int.reduceBNe,Nat.reduceSub,Nat.reduceEqDiff,Nat.reduceAdd,Nat.reduceMul,Nat.reduceLeDiff,Nat.reduceLT,Nat.reduceBEq,reduceCtorEq]|((first|((try refine aQ ?_);apply aS)|(apply aR;intro _));(solve|exact(hm1)|exact(hm2)|(refine ag.le (hm1) ?_;exact zM)|(refine ag.le (hm2) ?_;exact zM)|fail);try case hn=>rfl)|refine aC ?_|refine aA (λ hb=> ?_) (λ hb=> ?_)|(refine And.intro ?_ ?_;exact zI)|refine And.intro (λ hg=> ?_) (λ hg=> ?_)|exact zC|fail)
 .have hq:(!cR c|| !ep f)=false:=by unfold bU at hm;rw[←gX,hm];rfl
  rw[ao rfl];obtain⟨hp,hk⟩:=gS hm;have hla:=nW f (W (W (2*c.bg)+c.bF)) hp;have hse:=nB c f;have hsv:=nG c f
  repeat'(first|(with_reducible first|refine ay _ _ ?_|refine aD ?_|refine aE ?_)|rw[aB]|simp only[hq,zY,Int.reduceEq,Int.reduceBEq,Int.reduceBNe,Nat.reduceSub,Nat.reduceEqDiff,Nat.reduceAdd,Nat.reduceMul,Nat.reduceLeDiff,Nat.reduceLT,Nat.reduceBEq,reduceCtorEq]|((first|((try refine aQ ?_);apply aS)|(apply aR;intro _));(solve|exact(hm1)|exact(hm2)|exact(hla)|exact(hse)|exact(hsv)|(refine ag.le (hm1) ?_;exact zM)|(refine ag.le (hm2) ?_;exact zM)|(refine ag.le (hla) ?_;exact zM)|(refine ag.le (hse) ?_;exact zM)|(refine ag.le (hsv) ?_;exact zM)|fail);try case hn=>rfl)|refine aC ?_|refine aA (λ hb=> ?_) (λ hb=> ?_)|(refine And.intro ?_ ?_;exact zI)|refine And.intro (λ hg=> ?_) (λ hg=> ?_)|exact zC|fail)
theorem uP (c:bd) (f:Fair):ag prog 24 [.f (.agg (c.enc.map C.d)), .f (.agg f.l)] (λ r o=>r=[rb (gv c f)]/\o=[]):=by
 refine bR bm mixed (T:=Ty) (n:=27) func24 (c:=f24.body.getD .skip) rfl results24 ntmps24 call24 ?_;simp only[f24,Option.getD];have hm1:=kb c;have hm2:=jJ f;have hnd:=n7 c f;have hls:=pM c f
 repeat'(first|(with_reducible first|refine ay _ _ ?_|refine aD ?_|refine aE ?_)|rw[aB]|simp only[zY,Int.reduceEq,Int.reduceBEq,Int.reduceBNe,Nat.reduceSub,Nat.reduceEqDiff,Nat.reduceAdd,Nat.reduceMul,Nat.reduceLeDiff,Nat.reduceLT,Nat.reduceBEq,reduceCtorEq]|((first|((try refine aQ ?_);apply aS)|(apply aR;intro _));(solve|exact(hm1)|exact(hm2)|exact(hnd)|exact(hls)|(refine ag.le (hm1) ?_;exact zM)|(refine ag.le (hm2) ?_;exact zM)|(refine ag.le (hnd) ?_;exact zM)|(refine ag.le (hls) ?_;exact zM)|fail);try case hn=>rfl)|refine aC ?_|refine aA (λ hb=> ?_) (λ hb=> ?_)|(refine And.intro ?_ ?_;exact zI)|refine And.intro (λ hg=> ?_) (λ hg=> ?_)|exact zC|fail)
 rfl
abbrev bw:D:= .v (.slice none 0 0)
abbrev Fj:D:= .v (.pointer none)
theorem BD (base most:Int) (h:jB base most):ag prog 94 [.f (ai base), .f (ai most)] (λ r o=>r=[.one (.d .any)]/\o=[]):=by
 refine c8.any (ds:=[]) (l:=[.d (iD base), .d (iD most), .d (iD 0), .d (iD 0)]) ?_;refine gK bm mixed (T:=Ty) (n:=13) func94 (c:=f94.body.getD .skip) rfl results94 ntmps94 call94 ?_;simp only[f94,Option.getD];have h0:=nA base most 0 h (by decide);rw[mX h.b]at h0;have t1:(base==0)=false:=by have:=h.a;simp;omega
 repeat'(first|(with_reducible first|refine ay _ _ ?_|refine aD ?_|refine aE ?_)|rw[aB]|simp only[t1,gD,gG,eN,fQ,zY,Int.reduceEq,Int.reduceBEq,Int.reduceBNe,Nat.reduceSub,Nat.reduceEqDiff,Nat.reduceAdd,Nat.reduceMul,Nat.reduceLeDiff,Nat.reduceLT,Nat.reduceBEq,reduceCtorEq]|((first|((try refine aQ ?_);apply aS)|(apply aR;intro _));(solve|exact(h0)|(refine ag.le (h0) ?_;exact zM)|fail);try case hn=>rfl)|refine aC ?_|refine aA (λ hb=> ?_) (λ hb=> ?_)|(refine And.intro ?_ ?_;exact zI)|refine And.intro (λ hg=> ?_) (λ hg=> ?_)|exact zC|fail)
theorem AW:ag prog 95 [] (λ r o=>r=[.one (.d .any)]/\o=[]):=by
 refine c8.any (ds:=[]) (l:=[.d (iD 0), .d (iD 0), .d bw]) ?_;refine gK bm mixed (T:=Ty) (n:=3) func95 (c:=f95.body.getD .skip) rfl results95 ntmps95 call95 ?_;simp only[f95,Option.getD]
 repeat'(first|(with_reducible first|refine ay _ _ ?_|refine aD ?_|refine aE ?_)|rw[aB]|simp only[gD,gG,eN,fQ,zY,Int.reduceEq,Int.reduceBEq,Int.reduceBNe,Nat.reduceSub,Nat.reduceEqDiff,Nat.reduceAdd,Nat.reduceMul,Nat.reduceLeDiff,Nat.reduceLT,Nat.reduceBEq,reduceCtorEq]|refine aC ?_|refine aA (λ hb=> ?_) (λ hb=> ?_)|(refine And.intro ?_ ?_;exact zI)|refine And.intro (λ hg=> ?_) (λ hg=> ?_)|exact zC|fail)
theorem Bw:ag prog 99 [] (λ r o=>r=[.one (.d .any)]/\o=[]):=by
 refine c8.any (ds:=[]) (l:=[.d bw]) ?_;refine gK bm mixed (T:=Ty) (n:=3) func99 (c:=f99.body.getD .skip) rfl results99 ntmps99 call99 ?_;simp only[f99,Option.getD]
 repeat'(first|(with_reducible first|refine ay _ _ ?_|refine aD ?_|refine aE ?_)|rw[aB]|simp only[gD,gG,eN,fQ,zY,Int.reduceEq,Int.reduceBEq,Int.reduceBNe,Nat.reduceSub,Nat.reduceEqDiff,Nat.reduceAdd,Nat.reduceMul,Nat.reduceLeDiff,Nat.reduceLT,Nat.reduceBEq,reduceCtorEq]|refine aC ?_|refine aA (λ hb=> ?_) (λ hb=> ?_)|(refine And.intro ?_ ?_;exact zI)|refine And.intro (λ hg=> ?_) (λ hg=> ?_)|exact zC|fail)
theorem Ci:ag prog 70 [] (λ r o=>r=[.one (.d (.pt [bw,iD 0]))]/\o=[]):=by
 refine c8.pt (ds:=[]) (es:=[bw,iD 0]) ?_;refine gK bm mixed (T:=Ty) (n:=3) func70 (c:=f70.body.getD .skip) rfl results70 ntmps70 call70 ?_;simp only[f70,Option.getD]
 repeat'(first|(with_reducible first|refine ay _ _ ?_|refine aD ?_|refine aE ?_)|rw[aB]|simp only[gD,gG,eN,fQ,zY,Int.reduceEq,Int.reduceBEq,Int.reduceBNe,Nat.reduceSub,Nat.reduceEqDiff,Nat.reduceAdd,Nat.reduceMul,Nat.reduceLeDiff,Nat.reduceLT,Nat.reduceBEq,reduceCtorEq]|refine aC ?_|refine aA (λ hb=> ?_) (λ hb=> ?_)|(refine And.intro ?_ ?_;exact zI)|refine And.intro (λ hg=> ?_) (λ hg=> ?_)|exact zC|fail)
theorem Bq:ag prog 57 [.f (.one (.cZ [bw,iD 0]))] (λ r o=>r=[ri 0]/\o=[]):=by
 refine bR bm mixed (T:=Ty) (n:=9) func57 (c:=f57.body.getD .skip) rfl results57 ntmps57 call57 ?_;simp only[f57,Option.getD]
 repeat'(first|(with_reducible first|refine ay _ _ ?_|refine aD ?_|refine aE ?_)|rw[aB]|simp only[zY,Int.reduceEq,Int.reduceBEq,Int.reduceBNe,Nat.reduceSub,Nat.reduceEqDiff,Nat.reduceAdd,Nat.reduceMul,Nat.reduceLeDiff,Nat.reduceLT,Nat.reduceBEq,reduceCtorEq]|refine aC ?_|refine aA (λ hb=> ?_) (λ hb=> ?_)|(refine And.intro ?_ ?_;exact zI)|refine And.intro (λ hg=> ?_) (λ hg=> ?_)|exact zC|fail)
theorem pC (n:Int) (h:1≤n/\n≤7):ag prog 39 [.f (ai n)] (λ r o=>r=[ri (n / 2+1)]/\o=[]):=by
 refine bR bm mixed (T:=Ty) (n:=12) func39 (c:=f39.body.getD .skip) rfl results39 ntmps39 call39 ?_;simp only[f39,Option.getD];have t1:decide (n<1)=false:=by simp;omega
 have t2:decide (n>7)=false:=by simp;omega
 have t3:n.tdiv 2=n / 2:=Int.tdiv_eq_ediv_of_nonneg (by omega);have w1:IntKind.i64.wrap (n / 2)=n / 2:=wrap64 (by omega) (by omega);have w2:IntKind.i64.wrap (n / 2+1)=n / 2+1:=wrap64 (by omega) (by omega)
 repeat'(first|(with_reducible first|refine ay _ _ ?_|refine aD ?_|refine aE ?_)|rw[aB]|simp only[t1,t2,t3,w1,w2,zY,Int.reduceEq,Int.reduceBEq,Int.reduceBNe,Nat.reduceSub,Nat.reduceEqDiff,Nat.reduceAdd,Nat.reduceMul,Nat.reduceLeDiff,Nat.reduceLT,Nat.reduceBEq,reduceCtorEq]|refine aC ?_|refine aA (λ hb=> ?_) (λ hb=> ?_)|(refine And.intro ?_ ?_;exact zI)|refine And.intro (λ hg=> ?_) (λ hg=> ?_)|exact zC|fail)
theorem A8 (n:Int) (h:1≤n/\n≤7):ag prog 96 [.f (ai n)] (λ r o=>r=[.one (.d .any)]/\o=[]):=by
 refine c8.any (ds:=[]) (l:=[.d (iD n), .d (iD 0), .d .any]) ?_;refine gK bm mixed (T:=Ty) (n:=10) func96 (c:=f96.body.getD .skip) rfl results96 ntmps96 call96 ?_;simp only[f96,Option.getD];have hq:=pC n h;have t1:(n / 2+1==0)=false:=by simp;omega
 repeat'(first|(with_reducible first|refine ay _ _ ?_|refine aD ?_|refine aE ?_)|rw[aB]|simp only[t1,gD,gG,eN,fQ,zY,Int.reduceEq,Int.reduceBEq,Int.reduceBNe,Nat.reduceSub,Nat.reduceEqDiff,Nat.reduceAdd,Nat.reduceMul,Nat.reduceLeDiff,Nat.reduceLT,Nat.reduceBEq,reduceCtorEq]|((first|((try refine aQ ?_);apply aS)|(apply aR;intro _));(solve|exact(hq)|(refine ag.le (hq) ?_;exact zM)|fail);try case hn=>rfl)|refine aC ?_|refine aA (λ hb=> ?_) (λ hb=> ?_)|(refine And.intro ?_ ?_;exact zI)|refine And.intro (λ hg=> ?_) (λ hg=> ?_)|exact zC|fail)
theorem BE (n:Int) (h:1≤n/\n≤7):ag prog 97 [.f (ai n)] (λ r o=>r=[.one (.d .any)]/\o=[]):=by
 refine c8.any (ds:=[]) (l:=[.d (iD n), .d (iD 0), .d (iD 0), .d bw, .d bw, .d (iD 0), .d (iD 0), .d (iD 0), .d (iD 0)]) ?_;refine gK bm mixed (T:=Ty) (n:=9) func97 (c:=f97.body.getD .skip) rfl results97 ntmps97 call97 ?_;simp only[f97,Option.getD];have hq:=pC n h;have t1:(n / 2+1==0)=false:=by simp;omega
 repeat'(first|(with_reducible first|refine ay _ _ ?_|refine aD ?_|refine aE ?_)|rw[aB]|simp only[t1,gD,gG,eN,fQ,zY,Int.reduceEq,Int.reduceBEq,Int.reduceBNe,Nat.reduceSub,Nat.reduceEqDiff,Nat.reduceAdd,Nat.reduceMul,Nat.reduceLeDiff,Nat.reduceLT,Nat.reduceBEq,reduceCtorEq]|((first|((try refine aQ ?_);apply aS)|(apply aR;intro _));(solve|exact(hq)|(refine ag.le (hq) ?_;exact zM)|fail);try case hn=>rfl)|refine aC ?_|refine aA (λ hb=> ?_) (λ hb=> ?_)|(refine And.intro ?_ ?_;exact zI)|refine And.intro (λ hg=> ?_) (λ hg=> ?_)|exact zC|fail)
theorem BG (n:Int) (h:1≤n/\n≤1000000):ag prog 98 [.f (ai n)] (λ r o=>r=[.one (.d .any)]/\o=[]):=by
 refine c8.any (ds:=[]) (l:=[.d (iD n), .d (iD 0), .d (iD 0), .d (iD 0), .d (iD 0), .d (iD 0), .d (iD 0), .d bw, .d bw, .d bw]) ?_;refine gK bm mixed (T:=Ty) (n:=12) func98 (c:=f98.body.getD .skip) rfl results98 ntmps98 call98 ?_;simp only[f98,Option.getD];have t1:decide (n<1)=false:=by simp;omega
 have t2:decide (n>1000000)=false:=by simp;omega
 repeat'(first|(with_reducible first|refine ay _ _ ?_|refine aD ?_|refine aE ?_)|rw[aB]|simp only[t1,t2,gD,gG,eN,fQ,zY,Int.reduceEq,Int.reduceBEq,Int.reduceBNe,Nat.reduceSub,Nat.reduceEqDiff,Nat.reduceAdd,Nat.reduceMul,Nat.reduceLeDiff,Nat.reduceLT,Nat.reduceBEq,reduceCtorEq]|refine aC ?_|refine aA (λ hb=> ?_) (λ hb=> ?_)|(refine And.intro ?_ ?_;exact zI)|refine And.intro (λ hg=> ?_) (λ hg=> ?_)|exact zC|fail)
structure oV (c:bd):Prop where
 b:cR c=true
 r:1≤c.aU/\c.aU≤7
 l:1≤c.bg/\c.bg≤1000000
 t:jB c.base c.cap
 k:1≤c.bQ/\c.bQ≤8
theorem CB {c:bd} (h:cR c=true):oV c:=by have h1:=h;unfold cR at h1;simp only[cg,iB,dk,dP,dh,iH,dQ,jl,gx]at h1;exact⟨h,by omega,by omega,⟨by omega,by omega,by omega⟩,by omega⟩
theorem AL (c:bd) (i:Int) (hc:oV c) (hi:0≤i/\i<c.aU):ag prog 71 [.f (.agg (c.enc.map C.d)), .f (ai i)] (λ r o=>r=[.one (.d .any),ri 0]/\o=[]):=by
 refine c8.any (ds:=[iD 0]) (l:=(c.enc.map RO.d)++[.d (iD i), .d .any, .d .any, .d .any, .d .any, .d .any, .d .any, .d Fj, .d (bD false), .d (iD 0), .d (bD false), .d (iD 0), .d (iD 0), .d (iD 0), .d bw, .d bw]) ?_;refine gK bm mixed (T:=Ty) (n:=39) func71 (c:=f71.body.getD .skip) rfl results71 ntmps71 call71 ?_;simp only[f71,Option.getD];have hm:=nq c;rw[hc.b]at hm;have t1:decide (i<0)=false:=by simp;omega
 have t2:decide (i≥c.aU)=false:=by simp;omega
 have p1:=BD c.base c.cap hc.t;have p2:=AW;have p3:=A8 c.aU hc.r;have p4:=BE c.aU hc.r;have p5:=BG c.bg hc.l;have p6:=Bw
 repeat'(first|(with_reducible first|refine ay _ _ ?_|refine aD ?_|refine aE ?_)|rw[aB]|simp only[t1,t2,gD,gG,eN,fQ,zY,Int.reduceEq,Int.reduceBEq,Int.reduceBNe,Nat.reduceSub,Nat.reduceEqDiff,Nat.reduceAdd,Nat.reduceMul,Nat.reduceLeDiff,Nat.reduceLT,Nat.reduceBEq,reduceCtorEq]|((first|((try refine aQ ?_);apply aS)|(apply aR;intro _));(solve|exact(hm)|exact(p1)|exact(p2)|exact(p3)|exact(p4)|exact(p5)|exact(p6)|(refine ag.le (hm) ?_;exact zM)|(refine ag.le (p1) ?_;exact zM)|(refine ag.le (p2) ?_;exact zM)|(refine ag.le (p3) ?_;exact zM)|(refine ag.le (p4) ?_;exact zM)|(refine ag.le (p5) ?_;exact zM)|(refine ag.le (p6) ?_;exact zM)|fail);try case hn=>rfl)|refine aC ?_|refine aA (λ hb=> ?_) (λ hb=> ?_)|(refine And.intro ?_ ?_;exact zI)|refine And.intro (λ hg=> ?_) (λ hg=> ?_)|exact zC|fail)
theorem AY (c:bd) (i:Int) (hc:oV c) (hi:0≤i/\i<c.bQ):ag prog 72 [.f (.agg (c.enc.map C.d)), .f (ai i)] (λ r o=>r=[.one (.d .any),ri 0]/\o=[]):=by
 refine c8.any (ds:=[iD 0]) (l:=(c.enc.map RO.d)++[.d (iD i), .d (iD 0), .d bw, .d (iD 0), .d bw, .d (bD false), .d (iD 0), .d (iD 0), .d (iD 0), .d (iD 0), .d (sD .empty), .d (iD 0), .d (bD false), .d (iD 0), .d (iD 0), .d (iD (i % c.aU))]) ?_;refine gK bm mixed (T:=Ty) (n:=27) func72 (c:=f72.body.getD .skip) rfl results72 ntmps72 call72 ?_;simp only[f72,Option.getD];have hm:=nq c;rw[hc.b]at hm;have hr:=hc.r;have t1:decide (i<0)=false:=by simp;omega
 have t2:decide (i≥c.bQ)=false:=by simp;omega
 have h0:c.aU≠0:=by omega
 have htm:i.tmod c.aU=i % c.aU:=jS hi.1
 repeat'(first|(with_reducible first|refine ay _ _ ?_|refine aD ?_|refine aE ?_)|rw[aB]|simp only[t1,t2,aj h0,htm,gD,gG,eN,fQ,zY,Int.reduceEq,Int.reduceBEq,Int.reduceBNe,Nat.reduceSub,Nat.reduceEqDiff,Nat.reduceAdd,Nat.reduceMul,Nat.reduceLeDiff,Nat.reduceLT,Nat.reduceBEq,reduceCtorEq]|((first|((try refine aQ ?_);apply aS)|(apply aR;intro _));(solve|exact(hm)|(refine ag.le (hm) ?_;exact zM)|fail);try case hn=>rfl)|refine aC ?_|refine aA (λ hb=> ?_) (λ hb=> ?_)|(refine And.intro ?_ ?_;exact zI)|refine And.intro (λ hg=> ?_) (λ hg=> ?_)|exact zC|fail)
end Go.Proofs.YtjdbaocjeeficaaGreat
