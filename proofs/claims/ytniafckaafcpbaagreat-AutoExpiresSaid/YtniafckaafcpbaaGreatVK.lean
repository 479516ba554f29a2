import Derived.Test.YtniafckaafcpbaaGreatVJ
namespace Go.Proofs.YtniafckaafcpbaaGreat
open Go.Pk
set_option maxRecDepth 100000
set_option linter.unusedSimpArgs false
set_option linter.unusedVariables false
theorem zlH {l:List Memo} (hs:SM l) {a:Memo} (ha:answerB a=true) (hf:freshP l a.client a.seq=1):findM (keepP l a) a.client=some a:=by
 have hk:keepP l a=kR a l false:=by
  rw[zis hs]
  unfold keepP
  rw[if_neg (by rw[ha,hf];simp)]
 rw[hk]
 have key:∀(l:List Memo),findM (kR a l false) a.client=some a:=by
  intro l
  induction l with
  |nil=>simp[kR,findM]
  |cons m r ih=>
   rw[kR]
   split
   ·simp[findM]
   ·rename_i h1
    split
    ·simp[findM]
    ·unfold findM
     rw[List.find?_cons_of_neg (by simpa using h1)]
     exact ih
 exact key l
theorem zlI {s:St} (hr:RightS s) {q:Req} (h:Small s) (hN:s.num+1≤High) (hT:s.token+4≤High) (hd:(applyP s q).2.2=true):
  Req.may q=true∧findM (applyP s q).1.memos q.client=some ⟨q.client,q.seq,(applyP s q).2.1⟩:=by
 unfold applyP at hd⊢
 split at hd
 ·cases hd
 ·rename_i hm
  have hm':Req.may q=true:=by simpa using hm
  rw[if_neg hm]
  split at hd
  ·cases hd
  ·rename_i h1
   rw[if_neg h1]
   split at hd
   ·cases hd
   ·rename_i h2
    rw[if_neg h2]
    refine⟨hm', ?_⟩
    have hf:freshP s.memos q.client q.seq=1:=by
     rcases zfh s.memos q.client q.seq with e|e|e
     ·exact e
     ·exact absurd e h2
     ·exact absurd e h1
    simp only
    rw[zdf h q]
    exact zlH (a:=⟨q.client,q.seq,(doneP s q).2⟩) hr.ms (ze2 hr hm' hN hT) hf
end Go.Proofs.YtniafckaafcpbaaGreat
