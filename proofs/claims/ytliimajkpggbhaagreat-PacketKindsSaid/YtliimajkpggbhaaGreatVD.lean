import Derived.Test.YtliimajkpggbhaaGreatJ
namespace Go.Proofs.YtliimajkpggbhaaGreat
open Go.Pk
set_option maxRecDepth 100000
set_option linter.unusedSimpArgs false
set_option linter.unusedVariables false
theorem zjX {α:Type} {l:List α} {k:Nat} {x y:α}:y∈l.take k++x::l.drop k↔y=x∨y∈l:=by
 rw[List.mem_append,List.mem_cons]
 constructor
 ·rintro(h|h|h)
  ·exact .inr (List.mem_of_mem_take h)
  ·exact .inl h
  ·exact .inr (List.mem_of_mem_drop h)
 ·rintro(h|h)
  ·exact .inr (.inl h)
  ·rw[←List.take_append_drop k l]at h
   rcases List.mem_append.1 h with h|h
   ·exact .inl h
   ·exact .inr (.inr h)
theorem ztG {α:Type} {l:List α} {k:Nat} {x:α}:(l.take k++x::l.drop k).length=l.length+1:=by
 simp only[List.length_append,List.length_take,List.length_cons,List.length_drop];omega
theorem zct {x:Sess}:zlx x=true↔isClient x.client=true∧(1≤x.num∧x.num≤zbx)∧0≤x.renewed∧x.renewed≤zbx:=by
 unfold zlx
 simp only[Bool.and_eq_true,Bool.not_eq_true',decide_eq_false_iff_not]
 constructor
 ·rintro⟨⟨⟨⟨a,b⟩,c⟩,d⟩,e⟩;exact⟨a,⟨by omega,by omega⟩,by omega,by omega⟩
 ·rintro⟨a,⟨b,c⟩,d,e⟩;exact⟨⟨⟨⟨a,by omega⟩,by omega⟩,by omega⟩,by omega⟩
theorem zhG {s:St} (h:RightS s):numbered s.sess (s.num+1)=false:=by
 unfold numbered
 rw[List.any_eq_false]
 intro x hx
 have:=(h.sok x hx).2
 simp;omega
theorem zqj {s:St} (h:RightS s) {c:Int} (hc:isClient c=true) (hN:s.num+1≤zbx) (hf:zaS s.sess c=none):
  zd3 s.sess c (s.num+1) s.time=if s.sess.length≥5 then([],5)else(s.sess.take (ziC s.sess c)++⟨c,s.num+1,s.time⟩::s.sess.drop (ziC s.sess c),0):=by
 unfold zd3
 have h1:=h.num
 have h2:=h.time
 rw[if_neg (by
  rw[zhG h,hc,hf]
  have e1:decide (s.num+1<1)=false:=by simp;omega
  have e2:decide (s.num+1>zbx)=false:=by simp;omega
  have e3:decide (s.time<0)=false:=by simp;omega
  have e4:decide (s.time>zbx)=false:=by simp;omega
  rw[e1,e2,e3,e4];simp),if_neg (by rw[hf];simp)]
 by_cases h5:s.sess.length≥5
 ·rw[if_pos (by simp;omega),if_pos h5]
 ·rw[if_neg (by simp;omega),if_neg h5]
theorem zrq {s:St} (h:RightS s) {c:Int} (hc:isClient c=true) (hN:s.num+1≤zbx) (hf:zaS s.sess c=none) (h5:s.sess.length<5):
  RightS {s with sess:=s.sess.take (ziC s.sess c)++⟨c,s.num+1,s.time⟩::s.sess.drop (ziC s.sess c),num:=s.num+1}:=by
 have h1:=h.num
 have h2:=h.time
 have hne:∀y∈s.sess,y.client≠c:=by
  intro y hy he
  have:(zaS s.sess c).isSome=true:=zdu.2 ⟨y,hy,he⟩
  rw[hf]at this;cases this
 refine⟨h.time,⟨by simp only;omega,hN⟩,h.token, ?_, ?_, ?_, ?_,h.ls,h.lok,h.lnd,h.ll,h.ms,h.mok, ?_⟩
 ·refine zhI h.ss (fun y hy=> ?_) (fun y hy=> ?_)
  ·simpa using zj1 hy
  ·have:=zj2 (ztN h.ss c) hy
   have:=hne y (List.mem_of_mem_drop hy)
   simp at*;omega
 ·intro x hx
  rcases zjX.1 hx with rfl|hx
  ·exact⟨zct.2 ⟨hc,⟨by simp only;omega,hN⟩,h2⟩,Int.le_refl _⟩
  ·exact⟨(h.sok x hx).1,by have:=(h.sok x hx).2;simp only;omega⟩
 ·refine zhI h.snd (fun y hy=> ?_) (fun y hy=> ?_)
  ·have:=(h.sok y (List.mem_of_mem_take hy)).2;simp only;omega
  ·have:=(h.sok y (List.mem_of_mem_drop hy)).2;simp only;omega
 ·simp only[ztG];omega
 ·intro k hk
  have:∀c',(zaS s.sess c').isSome=true→(zaS (s.sess.take (ziC s.sess c)++⟨c,s.num+1,s.time⟩::s.sess.drop (ziC s.sess c)) c').isSome=true:=fun c' hc'=>by
   obtain⟨x,hx,e⟩:=zdu.1 hc'
   exact zdu.2 ⟨x,zjX.2 (.inr hx),e⟩
  exact⟨this _ (h.seat k hk).1,fun c' hc'=>this _ ((h.seat k hk).2 c' hc')⟩
theorem zhH {s:St} (h:RightS s) {c:Int} {x:Sess} (hf:zaS s.sess c=some x):zcP s.sess c s.time=(s.sess.set (ziC s.sess c) ⟨x.client,x.num,max x.renewed s.time⟩,0):=by
 have:=h.time
 unfold zcP
 rw[if_neg (by simp;omega),hf]
theorem zjY {s:St} (h:RightS s) {c:Int} {x:Sess} (hf:zaS s.sess c=some x):
  (s.sess.set (ziC s.sess c) ⟨x.client,x.num,max x.renewed s.time⟩).map Sess.client=s.sess.map Sess.client∧(s.sess.set (ziC s.sess c) ⟨x.client,x.num,max x.renewed s.time⟩).map Sess.num=s.sess.map Sess.num:=by
 obtain⟨⟨hi,he⟩,_⟩:=zmo h.ss hf
 exact⟨zmk hi (by rw[he]),zmk hi (by rw[he])⟩
theorem zi6 {l m:List Sess} (h:l.map Sess.client=m.map Sess.client) (c:Int):(zaS l c).isSome=(zaS m c).isSome:=by
 have key:∀l:List Sess,(zaS l c).isSome=(l.map Sess.client).any fun x=>x==c:=fun l=>by
  rw[List.any_map,Bool.eq_iff_iff,zdu,List.any_eq_true]
  simp
 rw[key,key,h]
theorem zjZ {s:St} (h:RightS s) {c:Int} {x:Sess} (hf:zaS s.sess c=some x):RightS {s with sess:=(zcP s.sess c s.time).1}:=by
 rw[zhH h hf]
 simp only
 obtain⟨⟨hi,he⟩,hxc⟩:=zmo h.ss hf
 obtain⟨m1,m2⟩:=zjY h hf
 have hx:x∈s.sess:=he▸List.getElem_mem hi
 refine⟨h.time,h.num,h.token, ?_, ?_, ?_, ?_,h.ls,h.lok,h.lnd,h.ll,h.ms,h.mok, ?_⟩
 ·rw[zxA,m1];exact zxA.1 h.ss
 ·intro y hy
  rcases zml hy with rfl|hy
  ·obtain⟨a,b⟩:=h.sok x hx
   obtain⟨a1,a2,a3,a4⟩:=zct.1 a
   have:=h.time
   exact⟨zct.2 ⟨a1,a2,by simp only;omega,by simp only;omega⟩,b⟩
  ·exact h.sok y hy
 ·have:((s.sess.set (ziC s.sess c) ⟨x.client,x.num,max x.renewed s.time⟩).map Sess.num).Pairwise (·≠·):=by rw[m2,List.pairwise_map];exact h.snd
  rwa[List.pairwise_map]at this
 ·simp only[List.length_set];exact h.sl
 ·intro k hk
  exact⟨by simp only;rw[zi6 m1];exact(h.seat k hk).1,fun c' hc'=>by simp only;rw[zi6 m1];exact(h.seat k hk).2 c' hc'⟩
theorem zgV {s:St} (h:RightS s) {L:List Lk} {t:Int} (ht:s.token≤t∧t≤zbx) (h1:SL L) (h2:∀k∈L,ztK k=true∧k.token≤t∧lineB k.line=true∧hasI k.line k.holder=false) (h3:L.Pairwise fun a b=>a.token≠b.token)
  (h4:L.length≤4) (h5:∀k∈L,(zaS s.sess k.holder).isSome=true∧∀c∈k.line,(zaS s.sess c).isSome=true):RightS {s with locks:=L,token:=t}:=
 ⟨h.time,h.num,⟨by have:=h.token;simp only;omega,ht.2⟩,h.ss,h.sok,h.snd,h.sl,h1,h2,h3,h4,h.ms,h.mok,h5⟩
theorem zj0 {s:St} (h:RightS s) {j:Nat} (hj:j<s.locks.length) {k:Lk} {t:Int} (ht:s.token≤t∧t≤zbx) (hn:k.name=s.locks[j].name) (hk:ztK k=true∧k.token≤t∧lineB k.line=true∧hasI k.line k.holder=false)
  (hd:k.token=s.locks[j].token∨s.token<k.token) (hs:(zaS s.sess k.holder).isSome=true∧∀c∈k.line,(zaS s.sess c).isSome=true):RightS {s with locks:=s.locks.set j k,token:=t}:=by
 refine zgV h ht ?_ ?_ ?_ ?_ ?_
 ·rw[zqk,zmk hj hn];exact zqk.1 h.ls
 ·intro x hx
  rcases zml hx with rfl|hx
  ·exact hk
  ·obtain⟨a,b,c⟩:=h.lok x hx
   exact⟨a,by omega,c⟩
 ·rw[List.pairwise_iff_getElem]
  intro i m hi hm him
  have hi':i<s.locks.length:=by simpa using hi
  have hm':m<s.locks.length:=by simpa using hm
  have hp:=List.pairwise_iff_getElem.1 h.lnd
  have hb:∀q (hq:q<s.locks.length),s.locks[q].token≤s.token:=fun q hq=>(h.lok _ (List.getElem_mem hq)).2.1
  rw[List.getElem_set,List.getElem_set]
  split
  ·rename_i e
   subst e
   rw[if_neg (by omega)]
   have:=hb m hm'
   rcases hd with hd|hd
   ·rw[hd];exact hp j m hj hm' him
   ·omega
  ·split
   ·rename_i e
    subst e
    have:=hb i hi'
    rcases hd with hd|hd
    ·rw[hd];exact hp i j hi' hj him
    ·omega
   ·exact hp i m hi' hm' him
 ·rw[List.length_set];exact h.ll
 ·intro x hx
  rcases zml hx with rfl|hx
  ·exact hs
  ·exact h.seat x hx
theorem zoZ {s:St} (h:RightS s) (j:Nat):RightS {s with locks:=s.locks.eraseIdx j,token:=s.token}:=by
 have hsub:(s.locks.eraseIdx j).Sublist s.locks:=List.eraseIdx_sublist ..
 refine zgV h ⟨Int.le_refl _,h.token.2⟩ (List.Pairwise.sublist hsub h.ls) (fun k hk=>h.lok k (hsub.subset hk)) (List.Pairwise.sublist hsub h.lnd) (Nat.le_trans hsub.length_le h.ll) (fun k hk=>h.seat k (hsub.subset hk))
theorem zlv {s:St} (h:RightS s) {name:ByteArray} {c:Int} {w:Bool} (hnm:nameP name=true) (hc:isClient c=true) (hf:(zaS s.sess c).isSome=true) (hT:s.token+4≤zbx):
  ((za5 s.locks name c s.token w).2.2=0→RightS {s with locks:=(za5 s.locks name c s.token w).1,token:=s.token+1})∧
  ((za5 s.locks name c s.token w).2.2=10→RightS {s with locks:=(za5 s.locks name c s.token w).1,token:=s.token})∧
  (0≤(za5 s.locks name c s.token w).2.2∧(za5 s.locks name c s.token w).2.2≤10)∧(0≤(za5 s.locks name c s.token w).2.1∧(za5 s.locks name c s.token w).2.1≤3):=by
 have hT0:=h.token
 unfold za5
 cases hl:zdU s.locks name with
 |none=>
  simp only
  split
  ·refine⟨fun h=>by simp at h,fun h=>by simp at h,⟨by simp only;decide,by simp only;decide⟩,⟨by simp only;decide,by simp only;decide⟩⟩
  ·rename_i h4
   simp only[decide_eq_true_eq]at h4
   refine⟨fun _=> ?_,fun h=>by simp at h,⟨by simp only;decide,by simp only;decide⟩,⟨by simp only;decide,by simp only;decide⟩⟩
   have hne:∀y∈s.locks,isL name y=false:=by
    intro y hy
    have:=List.find?_eq_none.1 hl y hy
    simpa using this
   refine zgV h ⟨by omega,by omega⟩ ?_ ?_ ?_ ?_ ?_
   ·refine zhI h.ls (fun y hy=>zj1 (p:=fun x:Lk=>zeK x.name name) hy) (fun y hy=> ?_)
    have h1:=zj2 (zo4 h.ls name) hy
    have h2:=hne y (List.mem_of_mem_drop hy)
    cases h3:zeK name y.name
    ·have:=zxB h1 h3
     rw[isL,this]at h2
     simp at h2
    ·rfl
   ·intro x hx
    rcases zjX.1 hx with rfl|hx
    ·exact⟨zcX.2 ⟨hnm,zdJ.1 hc,by simp only;omega,by simp only;omega⟩,Int.le_refl _,by simp[lineB,zcg],rfl⟩
    ·obtain⟨a,b,d⟩:=h.lok x hx
     exact⟨a,by omega,d⟩
   ·refine zhI h.lnd (fun y hy=> ?_) (fun y hy=> ?_)
    ·have:=(h.lok y (List.mem_of_mem_take hy)).2.1;simp only;omega
    ·have:=(h.lok y (List.mem_of_mem_drop hy)).2.1;simp only;omega
   ·rw[ztG];omega
   ·intro x hx
    rcases zjX.1 hx with rfl|hx
    ·exact⟨hf,fun c hc=>by simp at hc⟩
    ·exact h.seat x hx
 |some k=>
  simp only
  obtain⟨⟨hi,he⟩,hn⟩:=zd4 h.ls hl
  have hk:k∈s.locks:=he▸List.getElem_mem hi
  have hlk:=h.lok k hk
  split
  ·refine⟨fun h=>by simp at h,fun h=>by simp at h,⟨by simp only;decide,by simp only;decide⟩,⟨by simp only;decide,by simp only;decide⟩⟩
  ·rename_i hh
   split
   ·refine⟨fun h=>by simp at h,fun h=>by simp at h,⟨by simp only;decide,by simp only;decide⟩,⟨by simp only;decide,by simp only;decide⟩⟩
   ·split
    ·rename_i hin
     obtain⟨g1,g2,g3⟩:=zbY.1 hlk.2.2.1
     refine⟨fun h=>by simp at h,fun _=>h,⟨by simp only;decide,by simp only;decide⟩, ?_⟩
     unfold znS
     rcases zi7 (fun x=>c==x) k.line 0 with⟨q1,q2⟩|⟨q,hq,q1,_⟩
     ·rw[show((0:Nat):Int)=0 from rfl]at q2
      rw[q2];simp
     ·rw[show((0:Nat):Int)=0 from rfl]at q1
      rw[q1];simp;omega
    ·rename_i hin
     split
     ·rename_i hj
      unfold zj3 at hj⊢
      rw[if_neg (by simp[hc]),if_neg (by simpa using hin)]at*
      split
      ·refine⟨fun h=>by simp at h,fun h=>by simp at h,⟨by simp only;decide,by simp only;decide⟩,⟨by simp only;decide,by simp only;decide⟩⟩
      ·rename_i h3;rw[if_neg h3]at hj;simp at hj
     ·rename_i hj
      have h3:¬decide ((k.line.length:Int)≥3)=true:=by
       intro h3
       unfold zj3 at hj
       rw[if_neg (by simp[hc]),if_neg (by simpa using hin),if_pos h3]at hj
       simp at hj
      have ej:zj3 k.line c=(k.line++[c],(k.line.length:Int),0):=by
       unfold zj3
       rw[if_neg (by simp[hc]),if_neg (by simpa using hin),if_neg h3]
      rw[ej]
      simp only[decide_eq_true_eq]at h3
      refine⟨fun h=>by simp at h,fun _=> ?_,⟨by simp only;decide,by simp only;decide⟩,⟨by simp only;omega,by simp only;omega⟩⟩
      obtain⟨g1,g2,g3⟩:=zbY.1 hlk.2.2.1
      have hin':c ∉ k.line:=zc7.1 (by simpa using hin)
      refine zj0 h hi ⟨Int.le_refl _,hT0.2⟩ (by simp only;rw[he]) ⟨?_,hlk.2.1,zbY.2 ⟨?_, ?_, ?_⟩, ?_⟩ (.inl (by simp only;rw[he])) ⟨(h.seat k hk).1, ?_⟩
      ·have:=zcX.1 hlk.1;exact zcX.2 this
      ·simp only[List.length_append,List.length_singleton];omega
      ·intro x hx
       rcases List.mem_append.1 hx with hx|hx
       ·exact g2 x hx
       ·rw[List.mem_singleton]at hx;subst hx;exact hc
      ·rw[List.nodup_append]
       refine⟨g3,by simp,fun a ha b hb=> ?_⟩
       rw[List.mem_singleton]at hb;subst hb
       exact fun e=>hin' (e▸ha)
      ·rw[zc7]
       intro hx
       rcases List.mem_append.1 hx with hx|hx
       ·exact zc7.1 hlk.2.2.2 hx
       ·rw[List.mem_singleton]at hx;rw[hx]at hh;simp at hh
      ·intro x hx
       rcases List.mem_append.1 hx with hx|hx
       ·exact(h.seat k hk).2 x hx
       ·rw[List.mem_singleton]at hx;subst hx;exact hf
theorem zo1 {α:Type} {l:List α} {j:Nat} {x:α} (h:x∈l.eraseIdx j):x∈l:=(List.eraseIdx_sublist ..).subset h
theorem zrr {s:St} (h:RightS s) {name:ByteArray} {c:Int} (hT:s.token+4≤zbx):
  ((zb4 s.locks name c s.token).2.2=0→RightS {s with locks:=(zb4 s.locks name c s.token).1,token:=s.token+(zb4 s.locks name c s.token).2.1})∧
  (0≤(zb4 s.locks name c s.token).2.2∧(zb4 s.locks name c s.token).2.2≤10)∧(0≤(zb4 s.locks name c s.token).2.1∧(zb4 s.locks name c s.token).2.1≤1):=by
 have hT0:=h.token
 unfold zb4
 cases hl:zdU s.locks name with
 |none=>exact⟨fun h=>by simp at h,⟨by simp only;decide,by simp only;decide⟩,⟨by simp only;decide,by simp only;decide⟩⟩
 |some k=>
  simp only
  obtain⟨⟨hi,he⟩,hn⟩:=zd4 h.ls hl
  have hk:k∈s.locks:=he▸List.getElem_mem hi
  have hlk:=h.lok k hk
  obtain⟨g1,g2,g3⟩:=zbY.1 hlk.2.2.1
  split
  ·unfold zgW
   split
   ·refine⟨fun _=> ?_,⟨by simp only;decide,by simp only;decide⟩,⟨by simp only;decide,by simp only;decide⟩⟩
    simp only[Int.add_zero]
    exact zoZ h _
   ·rename_i c0 rest hline
    rw[hline]at g1 g2 g3
    refine⟨fun _=> ?_,⟨by simp only;decide,by simp only;decide⟩,⟨by simp only;decide,by simp only;decide⟩⟩
    have g3':=List.nodup_cons.1 g3
    have hs:=(h.seat k hk).2
    rw[hline]at hs
    simp only[List.length_cons]at g1
    refine zj0 h hi ⟨by simp only;omega,by simp only;omega⟩ (by simp only;rw[he]) ⟨zcX.2 ⟨(zcX.1 hlk.1).1,zdJ.1 (g2 _ (List.mem_cons_self ..)),by simp only;omega,by simp only;omega⟩,Int.le_refl _,zbY.2 ⟨by simp only[List.length_cons]at g1⊢;omega,fun x hx=>g2 x (List.mem_cons_of_mem _ hx),g3'.2⟩,zc7.2 g3'.1⟩ (.inr (by simp only;omega)) ⟨hs _ (List.mem_cons_self ..),fun x hx=>hs x (List.mem_cons_of_mem _ hx)⟩
  ·split
   ·refine⟨fun _=> ?_,⟨by simp only;decide,by simp only;decide⟩,⟨by simp only;decide,by simp only;decide⟩⟩
    simp only[Int.add_zero]
    have hle:∀x∈(zhM k.line c).1,x∈k.line:=by
     intro x hx
     unfold zhM at hx
     split at hx
     ·exact hx
     ·exact zo1 hx
    have hsub:(zhM k.line c).1.Sublist k.line:=by
     unfold zhM
     split
     ·exact List.Sublist.refl _
     ·exact List.eraseIdx_sublist ..
    refine zj0 h hi ⟨Int.le_refl _,hT0.2⟩ (by simp only;rw[he]) ⟨zcX.2 (zcX.1 hlk.1),hlk.2.1,zbY.2 ⟨Nat.le_trans hsub.length_le g1,fun x hx=>g2 x (hle x hx),g3.sublist hsub⟩, ?_⟩ (.inl (by simp only;rw[he])) ⟨(h.seat k hk).1,fun x hx=>(h.seat k hk).2 x (hle x hx)⟩
    rw[zc7]
    exact fun hx=>zc7.1 hlk.2.2.2 (hle _ hx)
   ·exact⟨fun h=>by simp at h,⟨by simp only;decide,by simp only;decide⟩,⟨by simp only;decide,by simp only;decide⟩⟩
theorem zrs {s:St} (h:RightS s) (a:Memo):RightS {s with memos:=zmm s.memos a}:=by
 unfold zmm
 split
 ·exact h
 ·rename_i hc
  simp only[Bool.or_eq_true,Bool.not_eq_true',not_or,Bool.not_eq_false]at hc
  split
  ·rename_i hf
   obtain⟨x,hx⟩:=Option.isSome_iff_exists.1 hf
   obtain⟨⟨hi,he⟩,hxc⟩:=zwd h.ms hx
   refine⟨h.time,h.num,h.token,h.ss,h.sok,h.snd,h.sl,h.ls,h.lok,h.lnd,h.ll, ?_, ?_,h.seat⟩
   ·rw[zql,zmk hi (by rw[he,hxc])];exact zql.1 h.ms
   ·intro m hm
    rcases zml hm with rfl|hm
    ·exact hc.1
    ·exact h.mok m hm
  ·rename_i hf
   have hne:∀y∈s.memos,y.client≠a.client:=by
    intro y hy e
    refine hf ?_
    unfold zco
    rw[List.find?_isSome]
    exact⟨y,hy,by simpa using e⟩
   refine⟨h.time,h.num,h.token,h.ss,h.sok,h.snd,h.sl,h.ls,h.lok,h.lnd,h.ll, ?_, ?_,h.seat⟩
   ·refine zhI h.ms (fun y hy=> ?_) (fun y hy=> ?_)
    ·simpa using zj1 hy
    ·have:=zj2 (ztQ h.ms a.client) hy
     have:=hne y (List.mem_of_mem_drop hy)
     simp at*;omega
   ·intro m hm
    rcases zjX.1 hm with rfl|hm
    ·exact hc.1
    ·exact h.mok m hm
theorem zmj {r:Req} (h:Req.may r=true):isClient r.client=true∧(1≤r.seq∧r.seq≤zbx)∧((r.kind==3||r.kind==4)=true→nameP r.name=true):=by
 unfold Req.may at h
 simp only[Bool.and_eq_true,decide_eq_true_eq]at h
 obtain⟨⟨⟨⟨a,b⟩,c⟩,d⟩,e⟩:=h
 refine⟨zdJ.2 ⟨a,b⟩,⟨c,d⟩,fun hk=> ?_⟩
 unfold zlz at e
 split at e
 ·cases e
 ·split at e
  ·cases e
  ·rename_i h2
   have h3:(r.kind==3||r.kind==4||r.kind==5)=true:=by rw[hk];rfl
   rw[h3]at h2
   simpa using h2
structure DoneR (s t:St) (a:Reply):Prop where
 rt:RightS t
 tok:s.token≤t.token∧t.token≤s.token+4
 num:s.num≤t.num∧t.num≤s.num+1
 time:t.time=s.time
 code:0≤a.code∧a.code≤12
theorem znR {s:St} (h:RightS s) {c:Int} (hc:isClient c=true) (hN:s.num+1≤zbx):DoneR s (zc4 s c).1 (zc4 s c).2:=by
 unfold zc4
 cases hf:zaS s.sess c with
 |some x=>exact⟨h,by simp only;omega,by simp only;omega,rfl,by simp only;decide⟩
 |none=>
  simp only
  rw[zqj h hc hN hf]
  by_cases h5:s.sess.length≥5
  ·rw[if_pos h5,if_pos (by simp)]
   exact⟨h,by simp only;omega,by simp only;omega,rfl,by simp only;decide⟩
  ·rw[if_neg h5,if_neg (by simp)]
   exact⟨zrq h hc hN hf (by omega),by simp only;omega,by simp only;omega,rfl,by simp only;decide⟩
theorem zih {s:St} (h:RightS s) {r:Req} (hr:Req.may r=true) (hN:s.num+1≤zbx) (hT:s.token+4≤zbx):DoneR s (zbB s r).1 (zbB s r).2:=by
 obtain⟨hc,_,hnm⟩:=zmj hr
 unfold zbB
 split
 ·exact znR h hc hN
 ·cases hf:zaS s.sess r.client with
  |none=>exact⟨h,by simp only;omega,by simp only;omega,rfl,by simp only;decide⟩
  |some x=>
   simp only
   split
   ·exact⟨h,by simp only;omega,by simp only;omega,rfl,by simp only;decide⟩
   ·have h1:=zjZ h hf
    have hf1:(zaS (zcP s.sess r.client s.time).1 r.client).isSome=true:=by
     rw[zhH h hf,zi6 (zjY h hf).1,hf];rfl
    split
    ·rename_i hk
     obtain⟨t0,t10,tc,ta⟩:=zlv (w:=r.kind==3) h1 (hnm hk) hc hf1 hT
     simp only at t0 t10 tc ta
     by_cases e0:(za5 s.locks r.name r.client s.token (r.kind==3)).2.2=0
     ·rw[if_pos e0]
      exact⟨t0 e0,by simp only;omega,by simp only;omega,rfl,by simp only;omega⟩
     ·rw[if_neg e0]
      by_cases e10:(za5 s.locks r.name r.client s.token (r.kind==3)).2.2=10
      ·rw[if_pos e10]
       exact⟨t10 e10,by simp only;omega,by simp only;omega,rfl,by simp only;omega⟩
      ·rw[if_neg e10]
       exact⟨h1,by simp only;omega,by simp only;omega,rfl,by simp only;omega⟩
    ·split
     ·obtain⟨t0,tc,ta⟩:=zrr (name:=r.name) (c:=r.client) h1 hT
      simp only at t0 tc ta
      by_cases e0:(zb4 s.locks r.name r.client s.token).2.2=0
      ·rw[if_pos e0]
       exact⟨t0 e0,by simp only;omega,by simp only;omega,rfl,by simp only;omega⟩
      ·rw[if_neg e0]
       exact⟨h1,by simp only;omega,by simp only;omega,rfl,by simp only;omega⟩
     ·split
      ·obtain⟨a,b,c⟩:=zhJ h1 [r.client] hT
       exact⟨a,⟨b,c⟩,by simp only[zbL];omega,rfl,by simp only;decide⟩
      ·exact⟨h1,by simp only;omega,by simp only;omega,rfl,by simp only;decide⟩
theorem ztF {s:St} (h:RightS s) {c:Int}:0≤(((zco s.memos c).map Memo.reply).getD ⟨0,0,0,[]⟩).code∧(((zco s.memos c).map Memo.reply).getD ⟨0,0,0,[]⟩).code≤12:=by
 cases hf:zco s.memos c with
 |none=>simp
 |some m=>
  have:=h.mok m (List.mem_of_find?_eq_some hf)
  unfold answerB zbN at this
  simp at this
  simp;omega
theorem zoY {s:St} (h:RightS s) (r:Req) (hN:s.num+1≤zbx) (hT:s.token+4≤zbx):DoneR s (ze7 s r).1 (ze7 s r).2.1:=by
 unfold ze7
 split
 ·exact⟨h,by simp only;omega,by simp only;omega,rfl,by simp only;decide⟩
 ·rename_i hm
  split
  ·exact⟨h,by simp only;omega,by simp only;omega,rfl,by simp only;decide⟩
  ·split
   ·exact⟨h,by simp only;omega,by simp only;omega,rfl,ztF h⟩
   ·have hd:=zih h (r:=r) (by simpa using hm) hN hT
    exact⟨zrs hd.rt _,hd.tok,hd.num,hd.time,hd.code⟩
def zxC {α:Type} (p:α→Bool) (x:α):List α→List α
 |[]=>[x]
 |y::r=>if p y=true then x::y::r else y::zxC p x r
theorem zqr {α:Type} {p q:α→Bool} {x:α}:∀{l:List α},(∀y∈l,p y= !(q y))→zxC p x l=l.take (zqm q l)++x::l.drop (zqm q l)
 |[],_=>rfl
 |y::r,h=>by
  rw[zxC,zdl,h y (List.mem_cons_self ..)]
  cases hq:q y
  ·simp
  ·simp only[Bool.not_true,Bool.false_eq_true,if_false,if_true,List.take_succ_cons,List.drop_succ_cons,List.cons_append]
   rw[zqr fun z hz=>h z (List.mem_cons_of_mem _ hz)]
theorem zD7 {l:List Sess} {c:Int} {x:Sess} (hf:zaS l c=none):zxC (fun y:Sess=>decide (y.client>c)) x l=l.take (ziC l c)++x::l.drop (ziC l c):=by
 refine zqr fun y hy=> ?_
 have:y.client≠c:=fun e=>by
  have:=zdu.2 ⟨y,hy,e⟩
  rw[hf]at this;cases this
 rw[Bool.eq_iff_iff]
 simp
 omega
theorem zt3 {α:Type} {p:α→Bool} {x:α} {l:List α} {i:Nat} {put:Bool} (hi:i<l.length):
  (if put=true then l.drop i else zxC p x (l.drop i))=if(!put&&p l[i])=true then x::l[i]::l.drop (i+1)else l[i]::(if put=true then l.drop (i+1)else zxC p x (l.drop (i+1))):=by
 rw[List.drop_eq_getElem_cons hi]
 cases put
 ·simp only[Bool.not_false,Bool.true_and,Bool.false_eq_true,if_false,zxC]
 ·simp
set_option maxHeartbeats 1000000 in
theorem zwk (l:List Sess) (hs:SS l) (hl:l.length<2^30) (c num now:Int) (hc:isClient c=true) (h1:1≤num) (hn:0≤now∧now≤zbx) (hf:zaS l c=none) (hnum:numbered l num=false):
  CallOK Tryz.prog 216 [.f (al l.length (zbC l)), .f (ai c), .f (ai num), .f (ai now)]
  (fun r o=>r=[.one (.own 3 (zd3 l c num now).1.length (zbC (zd3 l c num now).1) false),ri (zd3 l c num now).2]∧o=[]):=by
 refine CallOK.nil ?_
 refine zh Tryz.func216 Tryz.results216 Tryz.ntmps216 Tryz.call216 ?_
 simp only[Tryz.f216,Option.getD]
 have hcl:=zrA c
 rw[hc]at hcl
 have hg1:=zj6 num 1
 have hg2:=zj6 now 0
 have hH:zbx=2305843009213693952:=rfl
 rw[show(decide (now≥0)&&decide (now≤2305843009213693952))=true by simp;omega]at hg2
 have hfi:=zfk l (by omega) c
 rw[hf]at hfi
 simp only[Option.isSome_none,Option.getD_none]at hfi
 have eo:zd3 l c num now=if decide (num>zbx)=true then([],1)else if decide ((l.length:Int)≥5)=true then([],5)else(l.take (ziC l c)++⟨c,num,now⟩::l.drop (ziC l c),0):=by
  have e1:decide (num<1)=false:=by simp;omega
  have e2:decide (now<0)=false:=by simp;omega
  have e3:decide (now>zbx)=false:=by simp;omega
  unfold zd3
  rw[hf,hnum,hc,e1,e2,e3]
  cases decide (num>zbx)<;>simp
 generalize zd3 l c num now=R at eo⊢
 cases e4:decide (num>zbx)
 ·rw[e4,if_neg (by simp)]at eo
  rw[show(decide (num≥1)&&decide (num≤2305843009213693952))=true by simp at e4⊢;omega]at hg1
  refine zL trivial (I (hcl) (I (hg1) (hg2))) ?_
  refine zai (τ:=Nat) (fun i=>⟨(al l.length (zbC l)::ai c::ai num::ai now::dq6 (ai i::zzM (zez (zez [])))),[(8,⟨2,[]⟩)]⟩)
   (fun i=>i≤l.length) (fun _=>()) (fun i=>l.length - i) 0
   (Gh.canon [] [8] [] zK rfl rfl) (Nat.zero_le _) ?_
  intro i hi0 hF K hK
  refine zw ?_
  refine zaa (fun hlt=> ?_) (fun hge=> ?_)
  ·have hi:i<l.length:=by simpa using hlt
   have hat:=zee hi
   have hw:=zal hi (by omega)
   have hne:(l[i].num==num)=false:=by
    have:=List.any_eq_false.1 hnum _ (List.getElem_mem hi)
    simpa using this
   refine zL0 (I hat (I hne (I @zaB zca))) ?_
   exact hK _ (i+1) (Gh.canon [] [] [] (zk hw) rfl rfl) hi rfl (by omega)
  ·cases e5:decide ((l.length:Int)≥5)
   ·rw[e5,if_neg (by simp)]at eo
    refine zL e5 (hfi) ?_
    refine zai (τ:=Nat×Bool×List Sess) (fun t=>⟨(al l.length (zbC l)::ai c::ai num::ai now::dq9 (.one (.own ⟨13,1,1⟩ 0 t.2.2.length)::ab t.2.1::ai t.1::dq6 (zez (zez [])))),[(8,⟨2,[]⟩),(11,⟨2,[]⟩),(13,⟨2,[none,roq 1 3 (zbC t.2.2)]⟩),(83,⟨2,[]⟩),(84,⟨2,[]⟩),(90,⟨2,[]⟩),(91,⟨2,[]⟩)]⟩)
     (fun t=>t.1≤l.length∧t.2.2.length≤2*t.1) (fun t=>t.2.2++(if t.2.1=true then l.drop t.1 else zxC (fun y:Sess=>decide (y.client>c)) ⟨c,num,now⟩ (l.drop t.1))) (fun t=>l.length - t.1) (0,false,[])
     ((Gh.nil (i:=13) (s:=13) (sz:=3) rfl).trans (Gh.canon [13] [83,84,90,91] [] zK rfl rfl)) ⟨Nat.zero_le _,by simp⟩ ?_
    intro⟨j,put,acc⟩ ⟨hj0,hac⟩ hF2 K2 hK2
    simp only[List.drop_zero,List.nil_append,Bool.false_eq_true,if_false]at hj0 hac hF2 hK2⊢
    refine zw ?_
    refine zaa (fun hlt2=> ?_) (fun hge2=> ?_)
    ·have hj:j<l.length:=by simpa using hlt2
     have haj:=zee hj
     have hwj:=zal hj (by omega)
     have hst:=zt3 (p:=fun y:Sess=>decide (y.client>c)) (x:=⟨c,num,now⟩) (put:=put) hj
     have htk:(zbC acc++[iD c,iD num,iD now]).take ((acc.length+1)*3)=zbC acc++[iD c,iD num,iD now]:=List.take_of_length_le (by rw[List.length_append,zaB];simp only[List.length_cons,List.length_nil];omega)
     cases hb:(!put&&decide (l[j].client>c))
     ·simp only[hb,Bool.false_eq_true,if_false]at hst
      refine zL0 (I haj (I hb (I @zaB zca))) ?_
      exact hK2 _ (j+1,put,acc++[l[j]]) (Gh.canon [13] [] [] (zk (I hwj (I @List.length_append.{0} @List.length_singleton.{0}))) rfl (by simp only[List.length_append,List.length_singleton];rw[zeN];rfl)) ⟨hj,by simp only[List.length_append,List.length_singleton];omega⟩ (by simp only[List.append_assoc,List.singleton_append];rw[hst]) (by simp only;omega)
     ·simp only[hb,if_true]at hst
      refine zL0 (I haj (I hb (I htk (I @zaB zca)))) ?_
      refine hK2 _ (j+1,true,acc++[⟨c,num,now⟩]++[l[j]]) (Gh.canon [13] [] [] (zk (I hwj (I @List.length_append.{0} @List.length_singleton.{0}))) rfl (by simp only[List.length_append,List.length_singleton];rw[zeN,zeN];rfl)) ⟨hj, ?_⟩ (by simp only[List.append_assoc,List.singleton_append];rw[hst];rfl) (by simp only;omega)
      simp only[List.length_append,List.length_singleton]
      omega
    ·have hj:j=l.length:=by
      have:¬(j:Int)<l.length:=by simpa using hge2
      omega
     rw[hj,List.drop_length]at hF2
     rw[zD7 hf]at hF2
     rw[←hF2]at eo
     cases put
     ·have hF3:R=(acc++[⟨c,num,now⟩],0):=eo
      rw[hF3]
      refine zL0 trivial ?_
      simp[zy0,zax]
     ·have hF3:R=(acc++[],0):=eo
      rw[hF3,List.append_nil]
      refine zL0 trivial ?_
      simp[zy0,zax]
   ·rw[e5,if_pos rfl]at eo
    rw[eo]
    refine zL e5 (hfi) ?_
    simp[zy0,zax]
 ·rw[e4,if_pos rfl]at eo
  rw[eo]
  rw[show(decide (num≥1)&&decide (num≤2305843009213693952))=false by simp at e4⊢;omega]at hg1
  refine zL trivial (I (hcl) (I (hg1) (hg2))) ?_
  simp[zy0,zax]
def zdK (c now:Int) (y:Sess):Sess:=if(y.client==c)=true then⟨y.client,y.num,max y.renewed now⟩else y
def zok (l:List Sess) (c now:Int) (i:Nat):List Sess:=(l.take i).map (zdK c now)++l.drop i
theorem zqs {l:List Sess} {c now:Int} {i:Nat} (hi:i≤l.length):(zok l c now i).length=l.length:=by
 unfold zok
 rw[List.length_append,List.length_map,List.length_take,List.length_drop];omega
theorem zy3 {l:List Sess} {c now:Int} {i:Nat} (hi:i<l.length):∃h:i<(zok l c now i).length,(zok l c now i)[i]=l[i]:=by
 have hl:((l.take i).map (zdK c now)).length=i:=by rw[List.length_map,List.length_take];omega
 have h:(zok l c now i)[i]? =some l[i]:=by
  unfold zok
  rw[List.getElem?_append_right (by omega),hl,Nat.sub_self,List.getElem?_drop,Nat.add_zero,List.getElem?_eq_getElem hi]
 exact znT h
theorem zt4 {l:List Sess} {c now:Int} {i:Nat} (hi:i<l.length):(zok l c now i).set i (zdK c now l[i])=zok l c now (i+1):=by
 have hl:((l.take i).map (zdK c now)).length=i:=by rw[List.length_map,List.length_take];omega
 unfold zok
 rw[List.set_append_right _ _ (by omega),hl,Nat.sub_self,List.drop_eq_getElem_cons hi,List.set_cons_zero,List.take_add_one,List.getElem?_eq_getElem hi]
 simp only[Option.toList,List.map_append,List.map_cons,List.map_nil,List.append_assoc,List.cons_append,List.nil_append]
theorem zn0 {l:List Sess} (hs:SS l) {c now:Int} {x:Sess} (hx:zaS l c=some x):l.map (zdK c now)=l.set (ziC l c) ⟨x.client,x.num,max x.renewed now⟩:=by
 obtain⟨⟨hi,he⟩,hc⟩:=zmo hs hx
 apply List.ext_getElem (by simp)
 intro j h1 h2
 have hj:j<l.length:=by simpa using h1
 rw[List.getElem_map,List.getElem_set]
 split
 ·rename_i e
  subst e
  rw[he]
  unfold zdK
  rw[if_pos (by simpa using hc)]
 ·rename_i e
  unfold zdK
  rw[if_neg]
  intro h
  have hjc:l[j].client=c:=by simpa using h
  have hpc:l[ziC l c].client=c:=by rw[he];exact hc
  rcases Nat.lt_or_ge j (ziC l c)with q|q
  ·have:=List.pairwise_iff_getElem.1 hs j (ziC l c) hj hi q
   omega
  ·have:=List.pairwise_iff_getElem.1 hs (ziC l c) j hi hj (by omega)
   omega
theorem zt5 (l:List Sess) (hs:SS l) (hl:l.length<2^30) (c now:Int) (hn:0≤now∧now≤zbx) (hf:(zaS l c).isSome=true):CallOK Tryz.prog 206 [.f (al l.length (zbC l)), .f (ai c), .f (ai now)]
  (fun r o=>r=[.one (.own 3 (zcP l c now).1.length (zbC (zcP l c now).1) false),ri (zcP l c now).2]∧o=[]):=by
 refine CallOK.nil ?_
 refine zh Tryz.func206 Tryz.results206 Tryz.ntmps206 Tryz.call206 ?_
 simp only[Tryz.f206,Option.getD]
 have hg2:=zj6 now 0
 have hH:zbx=2305843009213693952:=rfl
 rw[show(decide (now≥0)&&decide (now≤2305843009213693952))=true by simp;omega]at hg2
 have hfi:=zfk l (by omega) c
 rw[hf]at hfi
 obtain⟨x,hx⟩:=Option.isSome_iff_exists.1 hf
 have hr:zcP l c now=(l.map (zdK c now),0):=by
  unfold zcP
  rw[if_neg (by simp;omega),hx,zn0 hs hx]
 rw[hr]
 refine zL @zaB (I (hg2) (hfi)) ?_
 refine zai (τ:=Nat) (fun i=>⟨(dd::ai c::ai now::dq7 (.one (.own ⟨10,1,1⟩ 0 l.length)::ai i::zzp [])),[(8,⟨2,[]⟩),(23,⟨2,[]⟩),(10,⟨2,[none,roq 1 3 (zbC (zok l c now i))]⟩)]⟩)
  (fun i=>i≤l.length) (fun _=>()) (fun i=>l.length - i) 0
  (Gh.canon [10] [] [] zK rfl rfl) (Nat.zero_le _) ?_
 intro i hi0 hF K hK
 refine zw ?_
 refine zaa (fun hlt=> ?_) (fun hge=> ?_)
 ·have hi:i<l.length:=by simpa using hlt
  have hw:=zal hi (by omega)
  obtain⟨hic,hce⟩:=zy3 (c:=c) (now:=now) hi
  have hat:=zee hic
  rw[hce]at hat
  have hat2:(zbC (zok l c now i)).drop (i*3+2)=iD l[i].renewed::zbC ((zok l c now i).drop (i+1)):=by rw[←List.drop_drop,hat];rfl
  have hsu:=zt4 (c:=c) (now:=now) hi
  cases hb:l[i].client==c
  ·have hrx:zdK c now l[i]=l[i]:=by unfold zdK;rw[if_neg (by rw[hb];simp)]
   have hsame:zok l c now (i+1)=zok l c now i:=by
    rw[←hsu,hrx]
    conv=>lhs;rw[←hce]
    exact List.set_getElem_self ..
   repeat'(first|(with_reducible first|refine zae _ _ ?_|refine zcj ?_|refine zck ?_)|rw[zbK]|simp only[hat,hb,←List.map_drop,List.map_cons,List.cons_append,List.nil_append,zaB,zqs hi0,zY,Int.reduceEq,Int.reduceBEq,Int.reduceBNe,Nat.reduceSub,Nat.reduceEqDiff,Nat.reduceAdd,Nat.reduceMul,Nat.reduceLeDiff,Nat.reduceLT,Nat.reduceBEq,reduceCtorEq]|refine za8 ?_|refine zaa (fun hb=> ?_) (fun hb=> ?_)|(refine And.intro ?_ ?_;exact zI)|refine And.intro (fun hg=> ?_) (fun hg=> ?_)|exact zC|fail)
   exact hK _ (i+1) (Gh.canon [10] [] [] (zk hw) rfl (by rw[hsame];rfl)) hi rfl (by omega)
  ·have hrx:zdK c now l[i]=⟨l[i].client,l[i].num,max l[i].renewed now⟩:=by unfold zdK;rw[if_pos hb]
   have hset:=zgY Sess.enc 3 (fun _=>rfl) hic (k:=2) (by decide) (iD (max l[i].renewed now)) (zdK c now l[i]) (by rw[hce,hrx];rfl)
   rw[hsu]at hset
   repeat'(first|(with_reducible first|refine zae _ _ ?_|refine zcj ?_|refine zck ?_)|rw[zbK]|simp only[hat,hat2,hb,hset,←List.map_drop,List.map_cons,List.cons_append,List.nil_append,zaB,zqs hi0,zY,Int.reduceEq,Int.reduceBEq,Int.reduceBNe,Nat.reduceSub,Nat.reduceEqDiff,Nat.reduceAdd,Nat.reduceMul,Nat.reduceLeDiff,Nat.reduceLT,Nat.reduceBEq,reduceCtorEq]|refine za8 ?_|refine zaa (fun hb=> ?_) (fun hb=> ?_)|(refine And.intro ?_ ?_;exact zI)|refine And.intro (fun hg=> ?_) (fun hg=> ?_)|exact zC|fail)
   exact hK _ (i+1) (Gh.canon [10] [] [] (zk hw) rfl rfl) hi rfl (by omega)
 ·have hi:i=l.length:=by
   have:¬(i:Int)<l.length:=by simpa using hge
   omega
  have hcu:zok l c now i=l.map (zdK c now):=by rw[hi];unfold zok;rw[List.take_length,List.drop_length,List.append_nil]
  rw[hcu]
  refine zL0 trivial ?_
  simp[zy0,zax]
theorem zt6 (l:List Sess) (hl:l.length<2^30) (c:Int):CallOK Tryz.prog 204 [.f (al l.length (zbC l)), .f (ai c)]
  (fun r o=>r=[.one (.own 3 (if(zaS l c).isSome=true then l.filter (fun x=>x.client !=c)else []).length (zbC (if(zaS l c).isSome=true then l.filter (fun x=>x.client !=c)else [])) false),ri (if(zaS l c).isSome=true then 0 else 6)]∧o=[]):=by
 refine CallOK.nil ?_
 refine zh Tryz.func204 Tryz.results204 Tryz.ntmps204 Tryz.call204 ?_
 simp only[Tryz.f204,Option.getD]
 have hfi:=zfk l (by omega) c
 cases hf:(zaS l c).isSome
 ·rw[hf]at hfi
  rw[if_neg (by simp),if_neg (by simp)]
  refine zL trivial (hfi) ?_
  simp[zy0,zax]
 ·rw[hf]at hfi
  rw[if_pos rfl,if_pos rfl]
  refine zL trivial (hfi) ?_
  refine zai (τ:=Nat×List Sess) (fun t=>⟨(al l.length (zbC l)::ai c::dq6 (.one (.own ⟨8,1,1⟩ 0 t.2.length)::ai t.1::zzo [])),[(6,⟨2,[]⟩),(8,⟨2,[none,roq 1 3 (zbC t.2)]⟩),(36,⟨2,[]⟩),(37,⟨2,[]⟩)]⟩)
   (fun t=>t.1≤l.length∧t.2.length≤t.1) (fun t=>t.2++(l.drop t.1).filter (fun x=>x.client !=c)) (fun t=>l.length - t.1) (0,[])
   ((Gh.nil (i:=8) (s:=8) (sz:=3) rfl).trans (Gh.canon [8] [36,37] [] zK rfl rfl)) ⟨Nat.zero_le _,Nat.zero_le _⟩ ?_
  intro⟨i,acc⟩ ⟨hi0,hac⟩ hF K hK
  simp only[List.drop_zero,List.nil_append]at hi0 hac hF hK⊢
  refine zw ?_
  refine zaa (fun hlt=> ?_) (fun hge=> ?_)
  ·have hi:i<l.length:=by simpa using hlt
   have hat:=zee hi
   have hw:=zal hi (by omega)
   have hFs:=List.drop_eq_getElem_cons hi
   cases hb:l[i].client !=c
   ·refine zL0 (I hat (I hb (I @zaB zca))) ?_
    exact hK _ (i+1,acc) (Gh.canon [8] [] [] (zk hw) rfl rfl) ⟨hi,by simp only;omega⟩ (by simp only;rw[hFs,List.filter_cons,hb,if_neg (by simp)]) (by simp only;omega)
   ·refine zL0 (I hat (I hb (I @zaB zca))) ?_
    exact hK _ (i+1,acc++[l[i]]) (Gh.canon [8] [] [] (zk (I hw (I @List.length_append.{0} @List.length_singleton.{0}))) rfl (by simp only[List.length_append,List.length_singleton];rw[zeN];rfl)) ⟨hi,by simp only[List.length_append,List.length_singleton];omega⟩ (by simp only[List.append_assoc,List.singleton_append];rw[hFs,List.filter_cons,hb,if_pos rfl]) (by simp only;omega)
  ·have hi:i=l.length:=by
    have:¬(i:Int)<l.length:=by simpa using hge
    omega
   rw[hi,List.drop_length,List.filter_nil,List.append_nil]at hF
   rw[←hF]
   refine zL0 trivial ?_
   simp[zy0,zax]
def zcD (r:Reply):Prop:=r.held.length<2^30∧∀g∈r.held,g.name.size<2^62
theorem zgZ (r:Reply) (hr:zcD r):CallOK Tryz.prog 74 [.f (.agg r.lent)] (fun x o=>x=[rb (zbN r)]∧o=[]):=by
 refine zh Tryz.func74 Tryz.results74 Tryz.ntmps74 Tryz.call74 ?_
 simp only[Tryz.f74,Option.getD]
 obtain⟨h1,h2⟩:=hr
 cases hA:(decide (r.code<0)||decide (r.code>12)||decide (r.session<0)||decide (r.session>2305843009213693952)||decide (r.ahead<0)||decide (r.ahead>3))
 ·cases hB:(decide ((r.held.length:Int)>4)||(r.session==0)&&decide ((r.held.length:Int)>0))
  ·have hs:zbN r=zcg (zcC r.held) 0 r.held:=by
    unfold zbN
    rw[show(decide (r.code<0)||decide (r.code>12)||decide (r.session<0)||decide (r.session>zbx)||decide (r.ahead<0)||decide (r.ahead>3))=false from hA,hB]
    rfl
   rw[hs]
   refine zL0 (I hA hB) ?_
   refine zai (τ:=Nat) (fun i=>⟨(dd::ptq 1::dq7 (zez (al r.held.length (zaJ r.held)::ai r.held.length::ai i::zxY []))),[(1,⟨2,[obq 1 [di r.code,di r.session,di r.ahead, .lent r.held.length (zaJ r.held)],none,none,none,none]⟩),(4,⟨2,[]⟩)]⟩)
    (fun i=>i≤r.held.length) (fun i=>zcg (zcC r.held) i (r.held.drop i)) (fun i=>r.held.length - i) 0
    (Gh.canon [1] [4] [] zK rfl rfl) (Nat.zero_le _) ?_
   intro i hi0 hF K hK
   rw[List.drop_zero]at hF
   refine zw ?_
   refine zaa (fun hlt=> ?_) (fun hge=> ?_)
   ·have hi:i<r.held.length:=by simpa using hlt
    have hat:=zcw hi
    have hw:=zal hi (by omega)
    rw[zdw hi]at hF
    have hnm:=zo5 r.held[i].name (h2 _ (List.getElem_mem hi))
    cases e0:decide ((i:Int)>0)
    ·have h0:i=0:=by simpa using e0
     have hq:zcC r.held i r.held[i]= !(!nameP r.held[i].name||decide (r.held[i].token<1)||decide (r.held[i].token>2305843009213693952)):=by
      unfold zcC
      have:decide (i>0)=false:=by simpa using e0
      rw[this,Bool.false_and,Bool.or_false]
     have hp:(zaJ r.held).drop ((IntKind.i64.wrap ((i:Int) - 1)).toNat*2)=r.held[i].enc++zaJ (r.held.drop (i+1)):=by
      rw[←zcw hi,h0];rfl
     repeat'(first|exact zC|refine zq (I hat (I hp (I e0 (I @zar zca)))) ?_|refine zx (hnm) ?_|(apply zaa<;>intro hb)|(apply I;exact zI)|(apply I<;>intro hg))
     ·rw[hq,hb,if_neg (by simp)]at hF
      rw[←hF]
     ·exact hK _ (i+1) (Gh.canon [1] [] [] (zk hw) rfl rfl) hi (by rw[zdw hi,hq,hb];rfl) (by omega)
    ·have h0:0<i:=by simpa using e0
     have hq:zcC r.held i r.held[i]= !(!nameP r.held[i].name||decide (r.held[i].token<1)||decide (r.held[i].token>2305843009213693952)|| !(zeK (r.held[i - 1]'(by omega)).name r.held[i].name)):=by
      unfold zcC zrt
      have:decide (i>0)=true:=by simpa using e0
      rw[this,List.getElem?_eq_getElem (by omega)]
      simp only[Bool.true_and,Option.map_some,Option.getD_some]
     have hp:=zcw (show i - 1<r.held.length by omega)
     have hw1:IntKind.i64.wrap ((i:Int) - 1)=((i - 1:Nat):Int):=by rw[wrap64 (by omega) (by omega)];omega
     repeat'(first|exact zC|refine zq (I hat (I hp (I hw1 (I e0 (I @zar zca))))) ?_|refine zx (hnm) ?_|(apply zaa<;>intro hb)|(apply I;exact zI)|(apply I<;>intro hg))
     ·rw[hq,hb,if_neg (by simp)]at hF
      rw[←hF]
     ·exact hK _ (i+1) (Gh.canon [1] [] [] (zk hw) rfl rfl) hi (by rw[zdw hi,hq,hb];rfl) (by omega)
   ·have hi:i=r.held.length:=by
     have:¬(i:Int)<r.held.length:=by simpa using hge
     omega
    rw[zlw hi]at hF
    rw[←hF]
    exact zW0 trivial
  ·have hs:zbN r=false:=by
    unfold zbN
    rw[hB,Bool.not_true,Bool.and_false,Bool.false_and]
   rw[hs]
   exact zW0 (I hA hB)
 ·have hs:zbN r=false:=by
   unfold zbN
   rw[show(decide (r.code<0)||decide (r.code>12)||decide (r.session<0)||decide (r.session>zbx)||decide (r.ahead<0)||decide (r.ahead>3))=true from hA]
   rfl
  rw[hs]
  exact zW0 hA
theorem zf5 (m:Memo) (hr:zcD m.reply):CallOK Tryz.prog 35 [.f (.agg m.lent)] (fun x o=>x=[rb (answerB m)]∧o=[]):=by
 refine zh Tryz.func35 Tryz.results35 Tryz.ntmps35 Tryz.call35 ?_
 simp only[Tryz.f35,Option.getD]
 refine zL trivial (zgZ m.reply hr) ?_
 rfl
def zgK:Memo:=⟨0,0,⟨0,0,0,[]⟩⟩
abbrev stE (s:St):List D:=[iD s.time,iD s.num,iD s.token, .sl s.sess.length (zaW s.sess), .sl s.locks.length (zaj s.locks), .sl s.memos.length (zaK s.memos)]
abbrev zzL (s:St):RF:= .agg ((stE s).map RO.d)
abbrev zl3 (a:Reply):RF:= .agg [.d (iD a.code), .d (iD a.session), .d (iD a.ahead), .own 2 a.held.length (zaI a.held) false]
structure Small (s:St):Prop where
 sess:s.sess.length<2^30
 locks:s.locks.length<2^30
 memos:s.memos.length<2^30
 line:∀k∈s.locks,k.line.length<2^30∧k.name.size<2^62
 held:∀m∈s.memos,zcn m.reply
abbrev ztP (l:List Sess) (gone:List Int):List Sess:=l.filter fun x=> !hasI gone x.client
abbrev zEh (b:St) (x:Sess):Bool:= !((zaG b.sess x.client).any fun y=>y.num==x.num)
abbrev zyR (s:St):AV:= .agg ((stE s).map C.d)
theorem ztC (l:List Lk) (name:ByteArray) (c t:Int) (w:Bool):(za5 l name c t w).1.length≤l.length+1:=by
 unfold za5
 cases zdU l name with
 |none=>
  simp only
  split
  ·simp
  ·exact Nat.le_of_eq (zyZ ztM _)
 |some k=>
  simp only
  repeat' split
  all_goals simp
theorem ztD (l:List Lk) (name:ByteArray) (c t:Int):(zb4 l name c t).1.length≤l.length:=by
 unfold zb4
 cases zdU l name with
 |none=>simp
 |some k=>
  simp only
  split
  ·unfold zgW
   split
   ·simp only;rw[List.length_eraseIdx];split<;>omega
   ·simp
  ·split<;>simp
theorem ztE (l:List Lk) (name:ByteArray) (c t:Int):0≤(zb4 l name c t).2.1∧(zb4 l name c t).2.1≤1:=by
 unfold zb4
 cases zdU l name with
 |none=>simp
 |some k=>
  simp only
  split
  ·unfold zgW
   split<;>simp
  ·split<;>simp
theorem ztz {s:St} {r:Req} {x:Sess} (h1:(r.kind==1)=false) (hf:zaS s.sess r.client=some x) (hx:(x.num !=r.session)=false):
  zbB s r=if(r.kind==3||r.kind==4)=true then
  (if((za5 s.locks r.name r.client s.token (r.kind==3)).2.2==0)=true then(⟨s.time,s.num,s.token+1,(zcP s.sess r.client s.time).1,(za5 s.locks r.name r.client s.token (r.kind==3)).1,s.memos⟩,⟨(za5 s.locks r.name r.client s.token (r.kind==3)).2.2,x.num,0,zch (za5 s.locks r.name r.client s.token (r.kind==3)).1 r.client⟩)
  else if((za5 s.locks r.name r.client s.token (r.kind==3)).2.2==10)=true then(⟨s.time,s.num,s.token,(zcP s.sess r.client s.time).1,(za5 s.locks r.name r.client s.token (r.kind==3)).1,s.memos⟩,⟨(za5 s.locks r.name r.client s.token (r.kind==3)).2.2,x.num,(za5 s.locks r.name r.client s.token (r.kind==3)).2.1,zch (za5 s.locks r.name r.client s.token (r.kind==3)).1 r.client⟩)
  else(⟨s.time,s.num,s.token,(zcP s.sess r.client s.time).1,s.locks,s.memos⟩,⟨(za5 s.locks r.name r.client s.token (r.kind==3)).2.2,x.num,0,zch s.locks r.client⟩))
 else if(r.kind==5)=true then
  (if((zb4 s.locks r.name r.client s.token).2.2==0)=true then(⟨s.time,s.num,s.token+(zb4 s.locks r.name r.client s.token).2.1,(zcP s.sess r.client s.time).1,(zb4 s.locks r.name r.client s.token).1,s.memos⟩,⟨(zb4 s.locks r.name r.client s.token).2.2,x.num,0,zch (zb4 s.locks r.name r.client s.token).1 r.client⟩)
  else(⟨s.time,s.num,s.token,(zcP s.sess r.client s.time).1,s.locks,s.memos⟩,⟨(zb4 s.locks r.name r.client s.token).2.2,x.num,0,zch s.locks r.client⟩))
 else if(r.kind==6)=true then(zbL ⟨s.time,s.num,s.token,(zcP s.sess r.client s.time).1,s.locks,s.memos⟩ [r.client],⟨0,0,0,[]⟩)
 else(⟨s.time,s.num,s.token,(zcP s.sess r.client s.time).1,s.locks,s.memos⟩,⟨0,x.num,0,zch s.locks r.client⟩):=by
 unfold zbB
 rw[if_neg (by rw[h1];simp),hf]
 simp only
 rw[if_neg (by rw[hx];simp)]
 split
 ·by_cases e0:(za5 s.locks r.name r.client s.token (r.kind==3)).2.2=0
  ·rw[if_pos e0,if_neg (by rw[e0];decide),if_pos (by simpa using e0)]
  ·by_cases e10:(za5 s.locks r.name r.client s.token (r.kind==3)).2.2=10
   ·rw[if_neg e0,if_pos e10,if_pos e10,if_neg (by simpa using e0),if_pos (by simpa using e10)]
   ·rw[if_neg e0,if_neg e10,if_neg e10,if_neg (by simpa using e0),if_neg (by simpa using e10)]
 ·split
  ·by_cases e0:(zb4 s.locks r.name r.client s.token).2.2=0
   ·rw[if_pos e0,if_pos (by simpa using e0)]
   ·rw[if_neg e0,if_neg (by simpa using e0)]
  ·rfl
theorem zrn {s:St} (h:Small s) (r:Req):(zbB s r).1.memos=s.memos:=by
 unfold zbB
 split
 ·unfold zc4
  split
  ·rfl
  ·split<;>rfl
 ·split
  ·rfl
  ·split
   ·rfl
   ·simp only
    repeat' split
    all_goals rfl
theorem zie {b:ByteArray} (h:nameP b=true):b.size≤12:=by
 unfold nameP at h
 simp only[Bool.and_eq_true,decide_eq_true_eq]at h
 omega
theorem ztA {r:Reply} (h:zbN r=true):zcD r:=by
 unfold zbN at h
 simp only[Bool.and_eq_true,Bool.not_eq_true',Bool.or_eq_false_iff,decide_eq_false_iff_not]at h
 obtain⟨⟨_,h1,_⟩,h2⟩:=h
 refine⟨by omega,fun g hg=> ?_⟩
 obtain⟨j,hj,rfl⟩:=List.getElem_of_mem hg
 have:=zcI.1 h2 j hj
 unfold zcC at this
 simp only[Bool.not_eq_true',Bool.or_eq_false_iff,Bool.not_eq_false']at this
 have:=zie this.1.1.1
 omega
theorem zif:∀{l:List Int} {a b:Int},l.Pairwise (·<·)→(∀x∈l,a≤x∧x<b)→(l.length:Int)≤max (b - a) 0
 |[],a,b,_,_=>by simp;omega
 |x::l,a,b,h,hb=>by
  have h':=List.pairwise_cons.1 h
  have hx:=hb x (List.mem_cons_self ..)
  have:=zif (a:=x+1) (b:=b) h'.2 (fun y hy=>⟨by have:=h'.1 y hy;omega,(hb y (List.mem_cons_of_mem _ hy)).2⟩)
  simp only[List.length_cons];omega
theorem zdj {m:Memo} (h:answerB m=true):(0≤m.client∧m.client<8)∧(1≤m.seq∧m.seq≤zbx)∧zbN m.reply=true:=by
 unfold answerB at h
 simp only[Bool.and_eq_true,decide_eq_true_eq]at h
 exact⟨⟨h.1.1.1.1,h.1.1.1.2⟩,⟨h.1.1.2,h.1.2⟩,h.2⟩
theorem zcl {s:St} (h:RightS s):Small s:=by
 refine⟨by have:=h.sl;omega,by have:=h.ll;omega, ?_,fun k hk=> ?_,fun m hm=>ztA (zdj (h.mok m hm)).2.2⟩
 ·have:=zif (a:=0) (b:=8) (zql.1 h.ms) (fun x hx=>by
   obtain⟨m,hm,rfl⟩:=List.mem_map.1 hx
   exact(zdj (h.mok m hm)).1)
  rw[List.length_map]at this
  omega
 ·obtain⟨a,_,b,_⟩:=h.lok k hk
  have h1:=(zbY.1 b).1
  have h2:=zie (zcX.1 a).1
  omega
theorem znP {l:List Lk} (hl:l.length<2^30) (hn:∀k∈l,k.name.size<2^62) (c:Int) (a b d:Int):zcD ⟨a,b,d,zch l c⟩:=by
 refine⟨?_,fun g hg=> ?_⟩
 ·unfold zch
  rw[List.length_map]
  exact Nat.lt_of_le_of_lt (List.length_filter_le ..) hl
 ·unfold zch at hg
  obtain⟨k,hk,rfl⟩:=List.mem_map.1 hg
  exact hn k (List.mem_filter.1 hk).1
theorem ztB (s:St) (r:Req):(zbB s r).2.held=[]∨(zbB s r).2.held=zch (zbB s r).1.locks r.client:=by
 unfold zbB
 split
 ·unfold zc4
  split
  ·exact .inr rfl
  ·split
   ·exact .inl rfl
   ·exact .inr rfl
 ·split
  ·exact .inl rfl
  ·split
   ·exact .inl rfl
   ·simp only
    repeat' split
    all_goals first|exact .inr rfl|exact .inl rfl
theorem zro {s:St} (h:RightS s) {r:Req} (hm:Req.may r=true) (hN:s.num+1≤zbx) (hT:s.token+4≤zbx):zcD (zbB s r).2:=by
 have hs:=zcl (zih h hm hN hT).rt
 rcases ztB s r with e|e
 ·exact⟨by rw[e];simp,fun g hg=>by rw[e]at hg;cases hg⟩
 ·have:=znP hs.locks (fun k hk=>(hs.line k hk).2) r.client 0 0 0
  unfold zcD at this⊢
  rw[e]
  exact this
theorem znQ {l:List Lk} (hs:SL l) (h:∀k∈l,ztK k=true) (c:Int):zcg (zcC (zch l c)) 0 (zch l c)=true:=by
 have hp:(zch l c).Pairwise fun a b=>zeK a.name b.name=true:=by
  unfold zch
  rw[List.pairwise_map]
  exact List.Pairwise.sublist (List.filter_sublist ..) hs
 rw[zcI]
 intro j hj
 rw[Nat.zero_add]
 have hm:∃k∈l,(zch l c)[j]=⟨k.name,k.token⟩:=by
  have:=List.getElem_mem hj
  unfold zch at this
  obtain⟨k,hk,e⟩:=List.mem_map.1 this
  exact⟨k,(List.mem_filter.1 hk).1,e.symm⟩
 obtain⟨k,hk,e⟩:=hm
 have ho:=zcX.1 (h k hk)
 unfold zcC
 simp only[Bool.not_eq_true',Bool.or_eq_false_iff,Bool.and_eq_false_iff,Bool.not_eq_false',decide_eq_false_iff_not]
 rw[e]
 refine⟨⟨⟨ho.1,by simp only;omega⟩,by simp only;omega⟩, ?_⟩
 by_cases h0:0<j
 ·right
  have:=zeF hp j hj h0
  unfold zrt
  rw[List.getElem?_eq_getElem (by omega)]
  rw[e]at this
  simpa using this
 ·left;omega
theorem zrp {s:St} (h:RightS s) {r:Req} (hm:Req.may r=true) (hN:s.num+1≤zbx) (hT:s.token+4≤zbx):
  ((zbB s r).2.held=[]∨(1≤(zbB s r).2.session∧(zbB s r).2.held=zch (zbB s r).1.locks r.client))∧(0≤(zbB s r).2.session∧(zbB s r).2.session≤zbx)∧(0≤(zbB s r).2.ahead∧(zbB s r).2.ahead≤3):=by
 have hH:zbx=2305843009213693952:=rfl
 obtain⟨hc,_,hnm⟩:=zmj hm
 have hnum:=h.num
 cases h1:r.kind==1
 ·cases hf:zaS s.sess r.client with
  |none=>
   have hd:zbB s r=(s,⟨9,0,0,[]⟩):=by unfold zbB;rw[if_neg (by rw[h1];simp),hf]
   rw[hd]
   exact⟨.inl rfl,by simp only;omega,by simp only;omega⟩
  |some x=>
   have hxn:=(zct.1 (h.sok x (List.mem_of_find?_eq_some hf)).1).2.1
   cases hx:x.num !=r.session
   ·rw[ztz h1 hf hx]
    have h1':=zjZ h hf
    have hf1:(zaS (zcP s.sess r.client s.time).1 r.client).isSome=true:=by rw[zhH h hf,zi6 (zjY h hf).1,hf];rfl
    split
    ·rename_i hk
     obtain⟨_,_,_,ta⟩:=zlv (w:=r.kind==3) h1' (hnm hk) hc hf1 hT
     simp only at ta
     split
     ·exact⟨.inr ⟨hxn.1,rfl⟩,by simp only;omega,by simp only;omega⟩
     ·split
      ·exact⟨.inr ⟨hxn.1,rfl⟩,by simp only;omega,ta⟩
      ·exact⟨.inr ⟨hxn.1,rfl⟩,by simp only;omega,by simp only;omega⟩
    ·split
     ·split
      ·exact⟨.inr ⟨hxn.1,rfl⟩,by simp only;omega,by simp only;omega⟩
      ·exact⟨.inr ⟨hxn.1,rfl⟩,by simp only;omega,by simp only;omega⟩
     ·split
      ·exact⟨.inl rfl,by simp only;omega,by simp only;omega⟩
      ·exact⟨.inr ⟨hxn.1,rfl⟩,by simp only;omega,by simp only;omega⟩
   ·have hd:zbB s r=(s,⟨9,0,0,[]⟩):=by unfold zbB;rw[if_neg (by rw[h1];simp),hf];simp only;rw[if_pos hx]
    rw[hd]
    exact⟨.inl rfl,by simp only;omega,by simp only;omega⟩
 ·have hd:zbB s r=zc4 s r.client:=by unfold zbB;rw[if_pos h1]
  rw[hd]
  unfold zc4
  cases hf:zaS s.sess r.client with
  |some x=>
   have hxn:=(zct.1 (h.sok x (List.mem_of_find?_eq_some hf)).1).2.1
   exact⟨.inr ⟨hxn.1,rfl⟩,by simp only;omega,by simp only;omega⟩
  |none=>
   simp only
   split
   ·exact⟨.inl rfl,by simp only;omega,by simp only;omega⟩
   ·exact⟨.inr ⟨by simp only;omega,rfl⟩,by simp only;omega,by simp only;omega⟩
theorem zoX {s:St} (h:RightS s) {r:Req} (hm:Req.may r=true) (hN:s.num+1≤zbx) (hT:s.token+4≤zbx):answerB ⟨r.client,r.seq,(zbB s r).2⟩=true:=by
 obtain⟨hc,hq,_⟩:=zmj hm
 have hd:=zih h hm hN hT
 obtain⟨h1,h2,h3⟩:=zrp h hm hN hT
 have hcl:=zdJ.1 hc
 have hcode:=hd.code
 have hrt:=hd.rt
 unfold answerB zbN
 simp only[Bool.and_eq_true,decide_eq_true_eq,Bool.not_eq_true',Bool.or_eq_false_iff,Bool.and_eq_false_iff,decide_eq_false_iff_not]
 refine⟨⟨⟨⟨hcl.1,hcl.2⟩,hq.1⟩,hq.2⟩,⟨by omega, ?_⟩, ?_⟩
 ·rcases h1 with e|⟨e1,e2⟩
  ·rw[e];exact⟨by simp, .inr (by simp)⟩
  ·refine⟨?_, .inl (by simp;omega)⟩
   rw[e2]
   unfold zch
   rw[List.length_map]
   have:=List.length_filter_le (fun k:Lk=>k.holder==r.client) (zbB s r).1.locks
   have:=hrt.ll
   omega
 ·rcases h1 with e|⟨e1,e2⟩
  ·rw[e];rfl
  ·rw[e2]
   exact znQ hrt.ls (fun k hk=>(hrt.lok k hk).1) _
theorem zo9 {l:List Int} (h:lineB l=true):l.Nodup:=(zbY.1 h).2.2
theorem zwj {l:List Sess}:keepS l []=l:=List.filter_eq_self.2 fun _ _=>rfl
abbrev znX (l:List Sess) (gone:List Int) (i:Nat):List Sess:=keepS l (gone.take i)
theorem znY {l:List Sess} {gone:List Int} {i:Nat} (hi:i<gone.length):znX l gone (i+1)=(znX l gone i).filter fun x=>x.client !=gone[i]:=by
 unfold znX keepS
 rw[List.filter_filter]
 congr 1
 funext x
 rw[←List.take_append_getElem hi]
 unfold hasI
 rw[List.any_append]
 simp only[List.any_cons,List.any_nil,Bool.or_false,Bool.not_or,bne]
 rw[Bool.and_comm]
theorem zt2 {l:List Sess} {gone:List Int} {i:Nat} (hi:i<gone.length) (hf:zaS (znX l gone i) gone[i]=none):znX l gone (i+1)=znX l gone i:=by
 rw[znY hi]
 refine List.filter_eq_self.2 fun x hx=> ?_
 have:=List.find?_eq_none.1 hf x hx
 simpa[bne]using this
set_option maxHeartbeats 2000000 in
theorem znZ (s:St) (h:Small s) (hs:SL s.locks) (hnd:∀k∈s.locks,k.line.Nodup) (ht:0≤s.token∧s.token≤zbx) (gone:List Int) (hg:gone.length<2^30):
  CallOK Tryz.prog 186 [.f (zyR s), .f (al gone.length (zaQ gone))] (fun r o=>r=[stRF (zbL s gone)]∧o=[]):=by
 refine CallOK.nil ?_
 refine zh Tryz.func186 Tryz.results186 Tryz.ntmps186 Tryz.call186 ?_
 simp only[Tryz.f186,Option.getD]
 have hH:zbx=2^61:=by decide
 have hdp:=zwm s.locks hs h.locks (fun k hk=>⟨(h.line k hk).1,hnd k hk⟩) gone hg s.token (by omega)
 obtain⟨⟨g1,g2⟩,_⟩:=ze5 gone s.token (s.locks.map (zan gone)) 0 (Int.le_refl _)
 have g1:0≤(zeJ s.locks gone s.token).2:=g1
 have g2:(zeJ s.locks gone s.token).2≤0+(s.locks.map (zan gone)).length:=g2
 rw[List.length_map]at g2
 have hw:IntKind.i64.wrap (s.token+(zeJ s.locks gone s.token).2)=s.token+(zeJ s.locks gone s.token).2:=wrap64 (by omega) (by have:=h.locks;omega)
 obtain⟨LD,hD⟩:∃D,D=(zeJ s.locks gone s.token).1:=⟨_,rfl⟩
 obtain⟨g,hg0⟩:∃g,g=(zeJ s.locks gone s.token).2:=⟨_,rfl⟩
 have hwi:zbL s gone=⟨s.time,s.num,s.token+g,keepS s.sess gone,LD,s.memos⟩:=by rw[hD,hg0];rfl
 rw[hwi]
 rw[←hD,←hg0]at hdp
 rw[←hg0]at hw
 repeat'(first|exact zC|(with_reducible first|refine zbh 4 ?_|refine zaU 4 ?_|refine zaV 4 ?_)|refine zu hw ?_|(with_reducible first|refine zae _ _ ?_)|refine zx (hdp) ?_|(apply zaa<;>intro hb)|(apply I;exact zI)|(apply I<;>intro hg))
 refine zbl (zbk (Gh.sealF 2 4 (.own ⟨2,5,7⟩ 0 LD.length) ?_) ?_)
 ·exact zo0
 refine zf0 ?_
 refine zbk (Gh.dropRow 2 5 rfl) ?_
 simp only[zY,Nat.reduceSub,Nat.reduceEqDiff,Nat.reduceAdd,Nat.reduceMul,Nat.reduceLeDiff,Nat.reduceLT,Nat.reduceBEq,reduceCtorEq]
 refine zL0 trivial ?_
 rw[show(D.sl s.sess.length (zbC s.sess))=D.sl (znX s.sess gone 0).length (zbC (znX s.sess gone 0)) from by rw[show znX s.sess gone 0=s.sess from zwj]]
 refine zai (τ:=Nat) (fun i=>⟨(dd::al gone.length (zaQ gone)::ptq 2::dd::ptq 4::dq2 (ai i::zzp [])),[(2,⟨2,[obq 1 [di s.time,di s.num,di (s.token+g), .d (.sl (znX s.sess gone i).length (zbC (znX s.sess gone i))), .d (.sl LD.length (zam LD)), .d (.sl s.memos.length (zaZ s.memos))],none,none,none,none,none,none]⟩),(4,⟨2,[obq 1 [di 0,di 0,di 0, .d (.v (.slice none 0 0)), .d (.v (.slice none 0 0)), .d (.v (.slice none 0 0))],none,none,none,none,none,none]⟩),(16,⟨2,[]⟩),(5,⟨2,[]⟩),(8,⟨2,[]⟩),(39,⟨2,[]⟩)]⟩)
  (fun i=>i≤gone.length) (fun _=>()) (fun i=>gone.length - i) 0
  (Gh.canon [2,4] [8,39] [] zK rfl rfl) (Nat.zero_le _) ?_
 intro i hi0 hF K hK
 refine zw ?_
 refine zaa (fun hlt=> ?_) (fun hge=> ?_)
 ·have hi:i<gone.length:=by simpa using hlt
  have hat:=zdA hi
  have hwi:=zal hi (by omega)
  have hcl:(znX s.sess gone i).length<2^30:=Nat.lt_of_le_of_lt (List.length_filter_le ..) h.sess
  have hrc:=zt6 (znX s.sess gone i) hcl gone[i]
  cases hf:zaS (znX s.sess gone i) gone[i]with
  |none=>
   rw[hf]at hrc
   simp only[Option.isSome_none,Bool.false_eq_true,if_false]at hrc
   have hz:((6:Int)==0)=false:=rfl
   refine zL (I hat (I hz (I @zaO zca))) (hrc) ?_
   rw[←zt2 hi hf]
   exact hK _ (i+1) (Gh.canon [2,4] [] [] (zk hwi) rfl rfl) hi rfl (by omega)
  |some x=>
   rw[hf]at hrc
   simp only[Option.isSome_some,if_true]at hrc
   rw[←znY hi]at hrc
   have hz:((0:Int)==0)=true:=rfl
   repeat'(first|exact zC|(with_reducible first|refine zbh 6 ?_|refine zaU 6 ?_|refine zaV 6 ?_)|refine zu (I hat (I hz (I @zaO zca))) ?_|(with_reducible first|refine zae _ _ ?_)|refine zx (hrc) ?_|(apply zaa<;>intro hb)|(apply I;exact zI)|(apply I<;>intro hg))
   refine zbl (zbk (Gh.sealF 2 3 (.own ⟨2,4,2⟩ 0 (znX s.sess gone (i+1)).length) ?_) ?_)
   ·exact zo0
   refine zf0 ?_
   refine zbk (Gh.dropRow 2 4 rfl) ?_
   simp only[zY,Nat.reduceSub,Nat.reduceEqDiff,Nat.reduceAdd,Nat.reduceMul,Nat.reduceLeDiff,Nat.reduceLT,Nat.reduceBEq,reduceCtorEq]
   refine zL0 trivial ?_
   exact hK _ (i+1) (Gh.canon [2,4] [] [] (zk hwi) rfl rfl) hi rfl (by omega)
 ·have hi:i=gone.length:=by
   have:¬(i:Int)<gone.length:=by simpa using hge
   omega
  subst hi
  have he:znX s.sess gone gone.length=keepS s.sess gone:=by unfold znX;rw[List.take_length]
  rw[he]
  repeat'(first|exact zC|refine zq0 ?_|(apply zaa<;>intro hb)|(apply I;exact zI)|(apply I<;>intro hg))
  simp[zaL,zcv,zaR,zax]
end Go.Proofs.YtliimajkpggbhaaGreat
