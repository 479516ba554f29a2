import Derived.Test.YtniafckaafcpbaaGreatVJ
namespace Go.Proofs.YtniafckaafcpbaaGreat
open Go.Pk
set_option maxRecDepth 100000
set_option linter.unusedSimpArgs false
set_option linter.unusedVariables false
theorem zmw {l:List Memo} {a m:Memo} (h:m∈keepP l a):m∈l∨m=a:=by
 unfold keepP at h
 split at h
 ·exact .inl h
 ·split at h
  ·exact List.mem_or_eq_of_mem_set h
  ·rcases List.mem_append.1 h with h|h
   ·exact .inl (List.mem_of_mem_take h)
   ·rcases List.mem_cons.1 h with h|h
    ·exact .inr h
    ·exact .inl (List.mem_of_mem_drop h)
def SqB (s:St) (i:Nat):Prop:=∀m∈s.memos,m.seq≤6+i
theorem zmx {s:St} {i:Nat} (h:SqB s i) {q:Req} (hq:q.seq≤6+i+1) (hsm:Small s):SqB (applyP s q).1 (i+1):=by
 intro m hm
 have hin:∀m∈s.memos,m.seq≤6+((i+1:Nat):Int):=fun m hm=>by have:=h m hm;omega
 unfold applyP at hm
 split at hm
 ·exact hin m hm
 ·split at hm
  ·exact hin m hm
  ·split at hm
   ·exact hin m hm
   ·rcases zmw hm with h1|h1
    ·rw[zdf hsm q]at h1
     exact hin m h1
    ·rw[h1];simp only;omega
theorem zn7 {s:St} {i:Nat} (h:SqB s i) (a:Act):(reqA s a).seq≤6+i+1:=by
 unfold reqA
 simp only
 split
 ·split
  ·rename_i hs
   obtain⟨m,hm⟩:=Option.isSome_iff_exists.1 hs
   rw[hm]
   have:=h m (List.mem_of_find?_eq_some hm)
   simp only[Option.getD_some];omega
  ·omega
 ·unfold reqN;simp only;omega
theorem zlo:∀{l:List Act} {s:St} {i:Nat},Mk s i→SqB s i→i+l.length≤1000→SqB (madeP l s) (i+l.length)
 |[],_,_,_,h,_=>h
 |a::l,s,i,hk,h,hi=>by
  simp only[List.length_cons]at hi⊢
  have hH:High=2305843009213693952:=rfl
  obtain⟨h1,h2,h3⟩:=hk
  obtain⟨r1,r2,r3,r4,r5⟩:=zbg h1 (s.time+a.time % 16) 60 (by omega)
  have h0:SqB (advanceP s (s.time+a.time % 16) 60) i:=h
  have:=zlo (l:=l) (zgK ⟨h1,h2,h3⟩ (by omega) a) (zmx h0 (zn7 h0 a) (zaM r1)) (by omega)
  rwa[show i+1+l.length=i+(l.length+1) by omega]at this
theorem zmy (acts:List Act):SqB (madeS acts) 60:=by
 have h:=zlo (l:=acts.take 60) (s:=st0) (i:=0) ⟨zbQ,by decide,by decide⟩ (fun m hm=>by cases hm) (by simp;omega)
 have hl:(acts.take 60).length≤60:=by simp;omega
 intro m hm
 have:=h m hm
 omega
theorem zjO {s:St} {q:Req} (hm:Req.may q=true) (hq:((findM s.memos q.client).getD noMemo).seq<q.seq):
  applyP s q=({(doneP s q).1 with memos:=keepP (doneP s q).1.memos ⟨q.client,q.seq,(doneP s q).2⟩},(doneP s q).2,true):=by
 have hf:freshP s.memos q.client q.seq=1:=by
  unfold freshP
  cases h:findM s.memos q.client with
  |none=>rfl
  |some m=>rw[h]at hq;simp only[Option.getD_some]at hq⊢;rw[if_pos hq]
 unfold applyP
 rw[if_neg (by rw[hm];simp),if_neg (by rw[hf];decide),if_neg (by rw[hf];decide)]
end Go.Proofs.YtniafckaafcpbaaGreat
