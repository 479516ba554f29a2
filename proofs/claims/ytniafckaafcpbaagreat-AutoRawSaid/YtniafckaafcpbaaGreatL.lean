import Derived.Test.YtniafckaafcpbaaGreatKK
namespace Go.Proofs.YtniafckaafcpbaaGreat
open Go.Pk
set_option linter.unusedSimpArgs false
set_option linter.unusedVariables false
theorem zeD {r:Req} (h:Req.may r=true):isClient r.client=true∧(1≤r.seq∧r.seq≤High)∧((r.kind==3||r.kind==4)=true→nameP r.name=true):=by
 unfold Req.may at h
 simp only[Bool.and_eq_true,decide_eq_true_eq]at h
 obtain⟨⟨⟨⟨a,b⟩,c⟩,d⟩,e⟩:=h
 refine⟨zbJ.2 ⟨a,b⟩,⟨c,d⟩,fun hk=> ?_⟩
 unfold mayP at e
 split at e
 ·cases e
 ·split at e
  ·cases e
  ·rename_i h2
   have h3:(r.kind==3||r.kind==4||r.kind==5)=true:=by rw[hk];rfl
   rw[h3]at h2
   simpa using h2
structure DoneR (s t:St) (a:Reply):Prop where
 rt:RightS t
 tok:s.token≤t.token∧t.token≤s.token+4
 num:s.num≤t.num∧t.num≤s.num+1
 time:t.time=s.time
 code:0≤a.code∧a.code≤12
theorem zgN {s:St} (h:RightS s) {c:Int} (hc:isClient c=true) (hN:s.num+1≤High):DoneR s (openedP s c).1 (openedP s c).2:=by
 unfold openedP
 cases hf:findS s.sess c with
 |some x=>exact⟨h,by simp only;omega,by simp only;omega,rfl,by simp only;decide⟩
 |none=>
  simp only
  rw[zis h hc hN hf]
  by_cases h5:s.sess.length≥5
  ·rw[if_pos h5,if_pos (by simp)]
   exact⟨h,by simp only;omega,by simp only;omega,rfl,by simp only;decide⟩
  ·rw[if_neg h5,if_neg (by simp)]
   exact⟨zjk h hc hN hf (by omega),by simp only;omega,by simp only;omega,rfl,by simp only;decide⟩
theorem zdY {s:St} (h:RightS s) {r:Req} (hr:Req.may r=true) (hN:s.num+1≤High) (hT:s.token+4≤High):DoneR s (doneP s r).1 (doneP s r).2:=by
 obtain⟨hc,_,hnm⟩:=zeD hr
 unfold doneP
 split
 ·exact zgN h hc hN
 ·cases hf:findS s.sess r.client with
  |none=>exact⟨h,by simp only;omega,by simp only;omega,rfl,by simp only;decide⟩
  |some x=>
   simp only
   split
   ·exact⟨h,by simp only;omega,by simp only;omega,rfl,by simp only;decide⟩
   ·have h1:=zeH h hf
    have hf1:(findS (renewP s.sess r.client s.time).1 r.client).isSome=true:=by
     rw[zcF h hf,zek (zeG h hf).1,hf];rfl
    split
    ·rename_i hk
     obtain⟨t0,t10,tc,ta⟩:=zfp (w:=r.kind==3) h1 (hnm hk) hc hf1 hT
     simp only at t0 t10 tc ta
     by_cases e0:(takeP s.locks r.name r.client s.token (r.kind==3)).2.2=0
     ·rw[if_pos e0]
      exact⟨t0 e0,by simp only;omega,by simp only;omega,rfl,by simp only;omega⟩
     ·rw[if_neg e0]
      by_cases e10:(takeP s.locks r.name r.client s.token (r.kind==3)).2.2=10
      ·rw[if_pos e10]
       exact⟨t10 e10,by simp only;omega,by simp only;omega,rfl,by simp only;omega⟩
      ·rw[if_neg e10]
       exact⟨h1,by simp only;omega,by simp only;omega,rfl,by simp only;omega⟩
    ·split
     ·obtain⟨t0,tc,ta⟩:=zjl (name:=r.name) (c:=r.client) h1 hT
      simp only at t0 tc ta
      by_cases e0:(freeP s.locks r.name r.client s.token).2.2=0
      ·rw[if_pos e0]
       exact⟨t0 e0,by simp only;omega,by simp only;omega,rfl,by simp only;omega⟩
      ·rw[if_neg e0]
       exact⟨h1,by simp only;omega,by simp only;omega,rfl,by simp only;omega⟩
     ·split
      ·obtain⟨a,b,c⟩:=zdA h1 [r.client] hT
       exact⟨a,⟨b,c⟩,by simp only[withoutSt];omega,rfl,by simp only;decide⟩
      ·exact⟨h1,by simp only;omega,by simp only;omega,rfl,by simp only;decide⟩
theorem zj9 {s:St} (h:RightS s) {c:Int}:0≤(((findM s.memos c).map Memo.reply).getD ⟨0,0,0,[]⟩).code∧(((findM s.memos c).map Memo.reply).getD ⟨0,0,0,[]⟩).code≤12:=by
 cases hf:findM s.memos c with
 |none=>simp
 |some m=>
  have:=h.mok m (List.mem_of_find?_eq_some hf)
  unfold answerB replyB at this
  simp at this
  simp;omega
theorem zeE {s:St} (h:RightS s) (r:Req) (hN:s.num+1≤High) (hT:s.token+4≤High):DoneR s (applyP s r).1 (applyP s r).2.1:=by
 unfold applyP
 split
 ·exact⟨h,by simp only;omega,by simp only;omega,rfl,by simp only;decide⟩
 ·rename_i hm
  split
  ·exact⟨h,by simp only;omega,by simp only;omega,rfl,by simp only;decide⟩
  ·split
   ·exact⟨h,by simp only;omega,by simp only;omega,rfl,zj9 h⟩
   ·have hd:=zdY h (r:=r) (by simpa using hm) hN hT
    exact⟨zjm hd.rt _,hd.tok,hd.num,hd.time,hd.code⟩
end Go.Proofs.YtniafckaafcpbaaGreat
