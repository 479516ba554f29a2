import Derived.Test.YtniafckaafcpbaaGreatJ
namespace Go.Proofs.YtniafckaafcpbaaGreat
open Go.Pk
set_option linter.unusedSimpArgs false
set_option linter.unusedVariables false
theorem zeF {α:Type} {l:List α} {k:Nat} {x y:α}:y∈l.take k++x::l.drop k↔y=x∨y∈l:=by
 rw[List.mem_append,List.mem_cons]
 constructor
 ·rintro(h|h|h)
  ·exact .inr (List.mem_of_mem_take h)
  ·exact .inl h
  ·exact .inr (List.mem_of_mem_drop h)
 ·rintro(h|h)
  ·exact .inr (.inl h)
  ·rw[←List.take_append_drop k l]at h
   rcases List.mem_append.1 h with h|h
   ·exact .inl h
   ·exact .inr (.inr h)
theorem zka {α:Type} {l:List α} {k:Nat} {x:α}:(l.take k++x::l.drop k).length=l.length+1:=by
 simp only[List.length_append,List.length_take,List.length_cons,List.length_drop];omega
theorem zbD {x:Sess}:okSess x=true↔isClient x.client=true∧(1≤x.num∧x.num≤High)∧0≤x.renewed∧x.renewed≤High:=by
 unfold okSess
 simp only[Bool.and_eq_true,Bool.not_eq_true',decide_eq_false_iff_not]
 constructor
 ·rintro⟨⟨⟨⟨a,b⟩,c⟩,d⟩,e⟩;exact⟨a,⟨by omega,by omega⟩,by omega,by omega⟩
 ·rintro⟨a,⟨b,c⟩,d,e⟩;exact⟨⟨⟨⟨a,by omega⟩,by omega⟩,by omega⟩,by omega⟩
theorem zcs {s:St} (h:RightS s):numbered s.sess (s.num+1)=false:=by
 unfold numbered
 rw[List.any_eq_false]
 intro x hx
 have:=(h.sok x hx).2
 simp;omega
theorem zis {s:St} (h:RightS s) {c:Int} (hc:isClient c=true) (hN:s.num+1≤High) (hf:findS s.sess c=none):
  openP s.sess c (s.num+1) s.time=if s.sess.length≥5 then([],5)else(s.sess.take (posS s.sess c)++⟨c,s.num+1,s.time⟩::s.sess.drop (posS s.sess c),0):=by
 unfold openP
 have h1:=h.num
 have h2:=h.time
 rw[if_neg (by
  rw[zcs h,hc,hf]
  have e1:decide (s.num+1<1)=false:=by simp;omega
  have e2:decide (s.num+1>High)=false:=by simp;omega
  have e3:decide (s.time<0)=false:=by simp;omega
  have e4:decide (s.time>High)=false:=by simp;omega
  rw[e1,e2,e3,e4];simp),if_neg (by rw[hf];simp)]
 by_cases h5:s.sess.length≥5
 ·rw[if_pos (by simp;omega),if_pos h5]
 ·rw[if_neg (by simp;omega),if_neg h5]
theorem zjk {s:St} (h:RightS s) {c:Int} (hc:isClient c=true) (hN:s.num+1≤High) (hf:findS s.sess c=none) (h5:s.sess.length<5):
  RightS {s with sess:=s.sess.take (posS s.sess c)++⟨c,s.num+1,s.time⟩::s.sess.drop (posS s.sess c),num:=s.num+1}:=by
 have h1:=h.num
 have h2:=h.time
 have hne:∀y∈s.sess,y.client≠c:=by
  intro y hy he
  have:(findS s.sess c).isSome=true:=zbE.2 ⟨y,hy,he⟩
  rw[hf]at this;cases this
 refine⟨h.time,⟨by simp only;omega,hN⟩,h.token, ?_, ?_, ?_, ?_,h.ls,h.lok,h.lnd,h.ll,h.ms,h.mok, ?_⟩
 ·refine zdz h.ss (fun y hy=> ?_) (fun y hy=> ?_)
  ·simpa using zeJ hy
  ·have:=zeK (zhY h.ss c) hy
   have:=hne y (List.mem_of_mem_drop hy)
   simp at*;omega
 ·intro x hx
  rcases zeF.1 hx with rfl|hx
  ·exact⟨zbD.2 ⟨hc,⟨by simp only;omega,hN⟩,h2⟩,Int.le_refl _⟩
  ·exact⟨(h.sok x hx).1,by have:=(h.sok x hx).2;simp only;omega⟩
 ·refine zdz h.snd (fun y hy=> ?_) (fun y hy=> ?_)
  ·have:=(h.sok y (List.mem_of_mem_take hy)).2;simp only;omega
  ·have:=(h.sok y (List.mem_of_mem_drop hy)).2;simp only;omega
 ·simp only[zka];omega
 ·intro k hk
  have:∀c',(findS s.sess c').isSome=true→(findS (s.sess.take (posS s.sess c)++⟨c,s.num+1,s.time⟩::s.sess.drop (posS s.sess c)) c').isSome=true:=fun c' hc'=>by
   obtain⟨x,hx,e⟩:=zbE.1 hc'
   exact zbE.2 ⟨x,zeF.2 (.inr hx),e⟩
  exact⟨this _ (h.seat k hk).1,fun c' hc'=>this _ ((h.seat k hk).2 c' hc')⟩
theorem zcF {s:St} (h:RightS s) {c:Int} {x:Sess} (hf:findS s.sess c=some x):renewP s.sess c s.time=(s.sess.set (posS s.sess c) ⟨x.client,x.num,max x.renewed s.time⟩,0):=by
 have:=h.time
 unfold renewP
 rw[if_neg (by simp;omega),hf]
theorem zeG {s:St} (h:RightS s) {c:Int} {x:Sess} (hf:findS s.sess c=some x):
  (s.sess.set (posS s.sess c) ⟨x.client,x.num,max x.renewed s.time⟩).map Sess.client=s.sess.map Sess.client∧(s.sess.set (posS s.sess c) ⟨x.client,x.num,max x.renewed s.time⟩).map Sess.num=s.sess.map Sess.num:=by
 obtain⟨⟨hi,he⟩,_⟩:=zem h.ss hf
 exact⟨zf1 hi (by rw[he]),zf1 hi (by rw[he])⟩
theorem zek {l m:List Sess} (h:l.map Sess.client=m.map Sess.client) (c:Int):(findS l c).isSome=(findS m c).isSome:=by
 have key:∀l:List Sess,(findS l c).isSome=(l.map Sess.client).any fun x=>x==c:=fun l=>by
  rw[List.any_map,Bool.eq_iff_iff,zbE,List.any_eq_true]
  simp
 rw[key,key,h]
theorem zeH {s:St} (h:RightS s) {c:Int} {x:Sess} (hf:findS s.sess c=some x):RightS {s with sess:=(renewP s.sess c s.time).1}:=by
 rw[zcF h hf]
 simp only
 obtain⟨⟨hi,he⟩,hxc⟩:=zem h.ss hf
 obtain⟨m1,m2⟩:=zeG h hf
 have hx:x∈s.sess:=he▸List.getElem_mem hi
 refine⟨h.time,h.num,h.token, ?_, ?_, ?_, ?_,h.ls,h.lok,h.lnd,h.ll,h.ms,h.mok, ?_⟩
 ·rw[zmH,m1];exact zmH.1 h.ss
 ·intro y hy
  rcases zf2 hy with rfl|hy
  ·obtain⟨a,b⟩:=h.sok x hx
   obtain⟨a1,a2,a3,a4⟩:=zbD.1 a
   have:=h.time
   exact⟨zbD.2 ⟨a1,a2,by simp only;omega,by simp only;omega⟩,b⟩
  ·exact h.sok y hy
 ·have:((s.sess.set (posS s.sess c) ⟨x.client,x.num,max x.renewed s.time⟩).map Sess.num).Pairwise (·≠·):=by rw[m2,List.pairwise_map];exact h.snd
  rwa[List.pairwise_map]at this
 ·simp only[List.length_set];exact h.sl
 ·intro k hk
  exact⟨by simp only;rw[zek m1];exact(h.seat k hk).1,fun c' hc'=>by simp only;rw[zek m1];exact(h.seat k hk).2 c' hc'⟩
theorem zdj {s:St} (h:RightS s) {L:List Lk} {t:Int} (ht:s.token≤t∧t≤High) (h1:SL L) (h2:∀k∈L,okLk k=true∧k.token≤t∧lineB k.line=true∧hasI k.line k.holder=false) (h3:L.Pairwise fun a b=>a.token≠b.token)
  (h4:L.length≤4) (h5:∀k∈L,(findS s.sess k.holder).isSome=true∧∀c∈k.line,(findS s.sess c).isSome=true):RightS {s with locks:=L,token:=t}:=
 ⟨h.time,h.num,⟨by have:=h.token;simp only;omega,ht.2⟩,h.ss,h.sok,h.snd,h.sl,h1,h2,h3,h4,h.ms,h.mok,h5⟩
theorem zeI {s:St} (h:RightS s) {j:Nat} (hj:j<s.locks.length) {k:Lk} {t:Int} (ht:s.token≤t∧t≤High) (hn:k.name=s.locks[j].name) (hk:okLk k=true∧k.token≤t∧lineB k.line=true∧hasI k.line k.holder=false)
  (hd:k.token=s.locks[j].token∨s.token<k.token) (hs:(findS s.sess k.holder).isSome=true∧∀c∈k.line,(findS s.sess c).isSome=true):RightS {s with locks:=s.locks.set j k,token:=t}:=by
 refine zdj h ht ?_ ?_ ?_ ?_ ?_
 ·rw[zit,zf1 hj hn];exact zit.1 h.ls
 ·intro x hx
  rcases zf2 hx with rfl|hx
  ·exact hk
  ·obtain⟨a,b,c⟩:=h.lok x hx
   exact⟨a,by omega,c⟩
 ·rw[List.pairwise_iff_getElem]
  intro i m hi hm him
  have hi':i<s.locks.length:=by simpa using hi
  have hm':m<s.locks.length:=by simpa using hm
  have hp:=List.pairwise_iff_getElem.1 h.lnd
  have hb:∀q (hq:q<s.locks.length),s.locks[q].token≤s.token:=fun q hq=>(h.lok _ (List.getElem_mem hq)).2.1
  rw[List.getElem_set,List.getElem_set]
  split
  ·rename_i e
   subst e
   rw[if_neg (by omega)]
   have:=hb m hm'
   rcases hd with hd|hd
   ·rw[hd];exact hp j m hj hm' him
   ·omega
  ·split
   ·rename_i e
    subst e
    have:=hb i hi'
    rcases hd with hd|hd
    ·rw[hd];exact hp i j hi' hj him
    ·omega
   ·exact hp i m hi' hm' him
 ·rw[List.length_set];exact h.ll
 ·intro x hx
  rcases zf2 hx with rfl|hx
  ·exact hs
  ·exact h.seat x hx
theorem zhW {s:St} (h:RightS s) (j:Nat):RightS {s with locks:=s.locks.eraseIdx j,token:=s.token}:=by
 have hsub:(s.locks.eraseIdx j).Sublist s.locks:=List.eraseIdx_sublist ..
 refine zdj h ⟨Int.le_refl _,h.token.2⟩ (List.Pairwise.sublist hsub h.ls) (fun k hk=>h.lok k (hsub.subset hk)) (List.Pairwise.sublist hsub h.lnd) (Nat.le_trans hsub.length_le h.ll) (fun k hk=>h.seat k (hsub.subset hk))
theorem zfp {s:St} (h:RightS s) {name:ByteArray} {c:Int} {w:Bool} (hnm:nameP name=true) (hc:isClient c=true) (hf:(findS s.sess c).isSome=true) (hT:s.token+4≤High):
  ((takeP s.locks name c s.token w).2.2=0→RightS {s with locks:=(takeP s.locks name c s.token w).1,token:=s.token+1})∧
  ((takeP s.locks name c s.token w).2.2=10→RightS {s with locks:=(takeP s.locks name c s.token w).1,token:=s.token})∧
  (0≤(takeP s.locks name c s.token w).2.2∧(takeP s.locks name c s.token w).2.2≤10)∧(0≤(takeP s.locks name c s.token w).2.1∧(takeP s.locks name c s.token w).2.1≤3):=by
 have hT0:=h.token
 unfold takeP
 cases hl:findL s.locks name with
 |none=>
  simp only
  split
  ·refine⟨fun h=>by simp at h,fun h=>by simp at h,⟨by simp only;decide,by simp only;decide⟩,⟨by simp only;decide,by simp only;decide⟩⟩
  ·rename_i h4
   simp only[decide_eq_true_eq]at h4
   refine⟨fun _=> ?_,fun h=>by simp at h,⟨by simp only;decide,by simp only;decide⟩,⟨by simp only;decide,by simp only;decide⟩⟩
   have hne:∀y∈s.locks,isL name y=false:=by
    intro y hy
    have:=List.find?_eq_none.1 hl y hy
    simpa using this
   refine zdj h ⟨by omega,by omega⟩ ?_ ?_ ?_ ?_ ?_
   ·refine zdz h.ls (fun y hy=>zeJ (p:=fun x:Lk=>bLess x.name name) hy) (fun y hy=> ?_)
    have h1:=zeK (zf3 h.ls name) hy
    have h2:=hne y (List.mem_of_mem_drop hy)
    cases h3:bLess name y.name
    ·have:=ziu h1 h3
     rw[isL,this]at h2
     simp at h2
    ·rfl
   ·intro x hx
    rcases zeF.1 hx with rfl|hx
    ·exact⟨zbv.2 ⟨hnm,zbJ.1 hc,by simp only;omega,by simp only;omega⟩,Int.le_refl _,by simp[lineB,checkP],rfl⟩
    ·obtain⟨a,b,d⟩:=h.lok x hx
     exact⟨a,by omega,d⟩
   ·refine zdz h.lnd (fun y hy=> ?_) (fun y hy=> ?_)
    ·have:=(h.lok y (List.mem_of_mem_take hy)).2.1;simp only;omega
    ·have:=(h.lok y (List.mem_of_mem_drop hy)).2.1;simp only;omega
   ·rw[zka];omega
   ·intro x hx
    rcases zeF.1 hx with rfl|hx
    ·exact⟨hf,fun c hc=>by simp at hc⟩
    ·exact h.seat x hx
 |some k=>
  simp only
  obtain⟨⟨hi,he⟩,hn⟩:=zby h.ls hl
  have hk:k∈s.locks:=he▸List.getElem_mem hi
  have hlk:=h.lok k hk
  split
  ·refine⟨fun h=>by simp at h,fun h=>by simp at h,⟨by simp only;decide,by simp only;decide⟩,⟨by simp only;decide,by simp only;decide⟩⟩
  ·rename_i hh
   split
   ·refine⟨fun h=>by simp at h,fun h=>by simp at h,⟨by simp only;decide,by simp only;decide⟩,⟨by simp only;decide,by simp only;decide⟩⟩
   ·split
    ·rename_i hin
     obtain⟨g1,g2,g3⟩:=za7.1 hlk.2.2.1
     refine⟨fun h=>by simp at h,fun _=>h,⟨by simp only;decide,by simp only;decide⟩, ?_⟩
     unfold aheadP
     rcases zcw (fun x=>c==x) k.line 0 with⟨q1,q2⟩|⟨q,hq,q1,_⟩
     ·rw[show((0:Nat):Int)=0 from rfl]at q2
      rw[q2];simp
     ·rw[show((0:Nat):Int)=0 from rfl]at q1
      rw[q1];simp;omega
    ·rename_i hin
     split
     ·rename_i hj
      unfold joinP at hj⊢
      rw[if_neg (by simp[hc]),if_neg (by simpa using hin)]at*
      split
      ·refine⟨fun h=>by simp at h,fun h=>by simp at h,⟨by simp only;decide,by simp only;decide⟩,⟨by simp only;decide,by simp only;decide⟩⟩
      ·rename_i h3;rw[if_neg h3]at hj;simp at hj
     ·rename_i hj
      have h3:¬decide ((k.line.length:Int)≥3)=true:=by
       intro h3
       unfold joinP at hj
       rw[if_neg (by simp[hc]),if_neg (by simpa using hin),if_pos h3]at hj
       simp at hj
      have ej:joinP k.line c=(k.line++[c],(k.line.length:Int),0):=by
       unfold joinP
       rw[if_neg (by simp[hc]),if_neg (by simpa using hin),if_neg h3]
      rw[ej]
      simp only[decide_eq_true_eq]at h3
      refine⟨fun h=>by simp at h,fun _=> ?_,⟨by simp only;decide,by simp only;decide⟩,⟨by simp only;omega,by simp only;omega⟩⟩
      obtain⟨g1,g2,g3⟩:=za7.1 hlk.2.2.1
      have hin':c ∉ k.line:=zbt.1 (by simpa using hin)
      refine zeI h hi ⟨Int.le_refl _,hT0.2⟩ (by simp only;rw[he]) ⟨?_,hlk.2.1,za7.2 ⟨?_, ?_, ?_⟩, ?_⟩ (.inl (by simp only;rw[he])) ⟨(h.seat k hk).1, ?_⟩
      ·have:=zbv.1 hlk.1;exact zbv.2 this
      ·simp only[List.length_append,List.length_singleton];omega
      ·intro x hx
       rcases List.mem_append.1 hx with hx|hx
       ·exact g2 x hx
       ·rw[List.mem_singleton]at hx;subst hx;exact hc
      ·rw[List.nodup_append]
       refine⟨g3,by simp,fun a ha b hb=> ?_⟩
       rw[List.mem_singleton]at hb;subst hb
       exact fun e=>hin' (e▸ha)
      ·rw[zbt]
       intro hx
       rcases List.mem_append.1 hx with hx|hx
       ·exact zbt.1 hlk.2.2.2 hx
       ·rw[List.mem_singleton]at hx;rw[hx]at hh;simp at hh
      ·intro x hx
       rcases List.mem_append.1 hx with hx|hx
       ·exact(h.seat k hk).2 x hx
       ·rw[List.mem_singleton]at hx;subst hx;exact hf
theorem zhX {α:Type} {l:List α} {j:Nat} {x:α} (h:x∈l.eraseIdx j):x∈l:=(List.eraseIdx_sublist ..).subset h
theorem zjl {s:St} (h:RightS s) {name:ByteArray} {c:Int} (hT:s.token+4≤High):
  ((freeP s.locks name c s.token).2.2=0→RightS {s with locks:=(freeP s.locks name c s.token).1,token:=s.token+(freeP s.locks name c s.token).2.1})∧
  (0≤(freeP s.locks name c s.token).2.2∧(freeP s.locks name c s.token).2.2≤10)∧(0≤(freeP s.locks name c s.token).2.1∧(freeP s.locks name c s.token).2.1≤1):=by
 have hT0:=h.token
 unfold freeP
 cases hl:findL s.locks name with
 |none=>exact⟨fun h=>by simp at h,⟨by simp only;decide,by simp only;decide⟩,⟨by simp only;decide,by simp only;decide⟩⟩
 |some k=>
  simp only
  obtain⟨⟨hi,he⟩,hn⟩:=zby h.ls hl
  have hk:k∈s.locks:=he▸List.getElem_mem hi
  have hlk:=h.lok k hk
  obtain⟨g1,g2,g3⟩:=za7.1 hlk.2.2.1
  split
  ·unfold passP
   split
   ·refine⟨fun _=> ?_,⟨by simp only;decide,by simp only;decide⟩,⟨by simp only;decide,by simp only;decide⟩⟩
    simp only[Int.add_zero]
    exact zhW h _
   ·rename_i c0 rest hline
    rw[hline]at g1 g2 g3
    refine⟨fun _=> ?_,⟨by simp only;decide,by simp only;decide⟩,⟨by simp only;decide,by simp only;decide⟩⟩
    have g3':=List.nodup_cons.1 g3
    have hs:=(h.seat k hk).2
    rw[hline]at hs
    simp only[List.length_cons]at g1
    refine zeI h hi ⟨by simp only;omega,by simp only;omega⟩ (by simp only;rw[he]) ⟨zbv.2 ⟨(zbv.1 hlk.1).1,zbJ.1 (g2 _ (List.mem_cons_self ..)),by simp only;omega,by simp only;omega⟩,Int.le_refl _,za7.2 ⟨by simp only[List.length_cons]at g1⊢;omega,fun x hx=>g2 x (List.mem_cons_of_mem _ hx),g3'.2⟩,zbt.2 g3'.1⟩ (.inr (by simp only;omega)) ⟨hs _ (List.mem_cons_self ..),fun x hx=>hs x (List.mem_cons_of_mem _ hx)⟩
  ·split
   ·refine⟨fun _=> ?_,⟨by simp only;decide,by simp only;decide⟩,⟨by simp only;decide,by simp only;decide⟩⟩
    simp only[Int.add_zero]
    have hle:∀x∈(leaveP k.line c).1,x∈k.line:=by
     intro x hx
     unfold leaveP at hx
     split at hx
     ·exact hx
     ·exact zhX hx
    have hsub:(leaveP k.line c).1.Sublist k.line:=by
     unfold leaveP
     split
     ·exact List.Sublist.refl _
     ·exact List.eraseIdx_sublist ..
    refine zeI h hi ⟨Int.le_refl _,hT0.2⟩ (by simp only;rw[he]) ⟨zbv.2 (zbv.1 hlk.1),hlk.2.1,za7.2 ⟨Nat.le_trans hsub.length_le g1,fun x hx=>g2 x (hle x hx),g3.sublist hsub⟩, ?_⟩ (.inl (by simp only;rw[he])) ⟨(h.seat k hk).1,fun x hx=>(h.seat k hk).2 x (hle x hx)⟩
    rw[zbt]
    exact fun hx=>zbt.1 hlk.2.2.2 (hle _ hx)
   ·exact⟨fun h=>by simp at h,⟨by simp only;decide,by simp only;decide⟩,⟨by simp only;decide,by simp only;decide⟩⟩
theorem zjm {s:St} (h:RightS s) (a:Memo):RightS {s with memos:=keepP s.memos a}:=by
 unfold keepP
 split
 ·exact h
 ·rename_i hc
  simp only[Bool.or_eq_true,Bool.not_eq_true',not_or,Bool.not_eq_false]at hc
  split
  ·rename_i hf
   obtain⟨x,hx⟩:=Option.isSome_iff_exists.1 hf
   obtain⟨⟨hi,he⟩,hxc⟩:=zen h.ms hx
   refine⟨h.time,h.num,h.token,h.ss,h.sok,h.snd,h.sl,h.ls,h.lok,h.lnd,h.ll, ?_, ?_,h.seat⟩
   ·rw[zkb,zf1 hi (by rw[he,hxc])];exact zkb.1 h.ms
   ·intro m hm
    rcases zf2 hm with rfl|hm
    ·exact hc.1
    ·exact h.mok m hm
  ·rename_i hf
   have hne:∀y∈s.memos,y.client≠a.client:=by
    intro y hy e
    refine hf ?_
    unfold findM
    rw[List.find?_isSome]
    exact⟨y,hy,by simpa using e⟩
   refine⟨h.time,h.num,h.token,h.ss,h.sok,h.snd,h.sl,h.ls,h.lok,h.lnd,h.ll, ?_, ?_,h.seat⟩
   ·refine zdz h.ms (fun y hy=> ?_) (fun y hy=> ?_)
    ·simpa using zeJ hy
    ·have:=zeK (zhZ h.ms a.client) hy
     have:=hne y (List.mem_of_mem_drop hy)
     simp at*;omega
   ·intro m hm
    rcases zeF.1 hm with rfl|hm
    ·exact hc.1
    ·exact h.mok m hm
end Go.Proofs.YtniafckaafcpbaaGreat
