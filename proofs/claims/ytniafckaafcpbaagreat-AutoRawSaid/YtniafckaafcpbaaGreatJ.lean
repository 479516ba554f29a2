import Derived.Test.YtniafckaafcpbaaGreatI
namespace Go.Proofs.YtniafckaafcpbaaGreat
open Go.Pk
set_option linter.unusedSimpArgs false
set_option linter.unusedVariables false
theorem zlJ {l:List Int} {v:Int}:hasI l v=true↔v∈l:=by
 unfold hasI
 simp[List.any_eq_true]
theorem zbt {l:List Int} {v:Int}:hasI l v=false↔v ∉ l:=by
 rw[←Bool.not_eq_true,zlJ]
theorem zbE {l:List Sess} {c:Int}:(findS l c).isSome=true↔∃x∈l,x.client=c:=by
 unfold findS
 simp
theorem zdz {α:Type} {r:α→α→Prop} {l:List α} {x:α} {k:Nat} (hl:l.Pairwise r) (h1:∀y∈l.take k,r y x) (h2:∀y∈l.drop k,r x y):(l.take k++x::l.drop k).Pairwise r:=by
 rw[←List.take_append_drop k l]at hl
 obtain⟨a,b,c⟩:=List.pairwise_append.1 hl
 refine List.pairwise_append.2 ⟨a,List.pairwise_cons.2 ⟨h2,b⟩,fun y hy z hz=> ?_⟩
 rcases List.mem_cons.1 hz with rfl|hz
 ·exact h1 y hy
 ·exact c y hy z hz
theorem zeJ {α:Type} {p:α→Bool} {l:List α} {y:α} (h:y∈l.take (posB p l)):p y=true:=by
 rw[List.mem_take_iff_getElem]at h
 obtain⟨j,hj,rfl⟩:=h
 exact zd0 (by omega) (by omega)
theorem zeK {α:Type} {p:α→Bool} {l:List α} {y:α} (hm:Mono p l) (h:y∈l.drop (posB p l)):p y=false:=by
 obtain⟨j,hj,rfl⟩:=List.getElem_of_mem h
 rw[List.getElem_drop]
 exact zd1 _ hm (by omega)
theorem zf1 {α β:Type} {f:α→β} {l:List α} {j:Nat} {x:α} (hj:j<l.length) (h:f x=f l[j]):(l.set j x).map f=l.map f:=by
 rw[List.map_set,h]
 apply List.ext_getElem (by simp)
 intro k h1 h2
 rw[List.getElem_set]
 split
 ·rename_i e;subst e;simp
 ·rfl
theorem zf2 {α:Type} {l:List α} {j:Nat} {x y:α} (h:y∈l.set j x):y=x∨y∈l:=by
 rcases List.mem_or_eq_of_mem_set h with h|h
 ·exact .inr h
 ·exact .inl h
theorem zmH {l:List Sess}:SS l↔(l.map Sess.client).Pairwise (·<·):=by unfold SS;rw[List.pairwise_map]
theorem zit {l:List Lk}:SL l↔(l.map Lk.name).Pairwise (fun a b=>bLess a b=true):=by unfold SL;rw[List.pairwise_map]
theorem zkb {l:List Memo}:SM l↔(l.map Memo.client).Pairwise (·<·):=by unfold SM;rw[List.pairwise_map]
theorem zbP (gone:List Int) (token:Int):∀(l:List Lk) (g:Int),0≤g→
  (g≤(dropR gone token l g).2∧(dropR gone token l g).2≤g+l.length)∧((dropR gone token l g).1.map Lk.name).Sublist (l.map Lk.name)∧
  (∀k∈(dropR gone token l g).1,(k∈l∧hasI gone k.holder=false)∨(token+g<k.token∧k.token≤token+(dropR gone token l g).2∧∃k0∈l,k0.name=k.name∧k0.line=k.holder::k.line))∧
  ((∀k∈l,k.token≤token)→(l.Pairwise fun a b=>a.token≠b.token)→(dropR gone token l g).1.Pairwise fun a b=>a.token≠b.token)
 |[],g,hg=>by simp[dropR]
 |k::r,g,hg=>by
  cases hk:hasI gone k.holder
  ·obtain⟨⟨a1,a2⟩,b,c,d⟩:=zbP gone token r g hg
   have e:dropR gone token (k::r) g=(k::(dropR gone token r g).1,(dropR gone token r g).2):=by rw[dropR,if_neg (by simp[hk])]
   rw[e]
   refine⟨⟨a1,by simp only[List.length_cons];omega⟩,b.cons_cons _,fun x hx=> ?_,fun ht hp=> ?_⟩
   ·rcases List.mem_cons.1 hx with rfl|hx
    ·exact .inl ⟨List.mem_cons_self ..,hk⟩
    ·rcases c x hx with⟨h1,h2⟩|⟨h1,h2,k0,h3,h4⟩
     ·exact .inl ⟨List.mem_cons_of_mem _ h1,h2⟩
     ·exact .inr ⟨h1,h2,k0,List.mem_cons_of_mem _ h3,h4⟩
   ·have hp':=List.pairwise_cons.1 hp
    have hkt:=ht k (List.mem_cons_self ..)
    refine List.pairwise_cons.2 ⟨fun x hx=> ?_,d (fun x hx=>ht x (List.mem_cons_of_mem _ hx)) hp'.2⟩
    rcases c x hx with⟨h1,h2⟩|⟨h1,h2,k0,h3,h4⟩
    ·exact hp'.1 x h1
    ·omega
  ·cases hl:k.line with
   |nil=>
    obtain⟨⟨a1,a2⟩,b,c,d⟩:=zbP gone token r g hg
    have e:dropR gone token (k::r) g=dropR gone token r g:=by rw[dropR,if_pos hk,hl]
    rw[e]
    refine⟨⟨a1,by simp only[List.length_cons];omega⟩,b.cons _,fun x hx=> ?_,fun ht hp=> ?_⟩
    ·rcases c x hx with⟨h1,h2⟩|⟨h1,h2,k0,h3,h4⟩
     ·exact .inl ⟨List.mem_cons_of_mem _ h1,h2⟩
     ·exact .inr ⟨h1,h2,k0,List.mem_cons_of_mem _ h3,h4⟩
    ·exact d (fun x hx=>ht x (List.mem_cons_of_mem _ hx)) (List.pairwise_cons.1 hp).2
   |cons c0 rest=>
    obtain⟨⟨a1,a2⟩,b,c,d⟩:=zbP gone token r (g+1) (by omega)
    have e:dropR gone token (k::r) g=(⟨k.name,c0,token+g+1,rest⟩::(dropR gone token r (g+1)).1,(dropR gone token r (g+1)).2):=by rw[dropR,if_pos hk,hl]
    rw[e]
    refine⟨⟨by simp only;omega,by simp only[List.length_cons];omega⟩,b.cons_cons _,fun x hx=> ?_,fun ht hp=> ?_⟩
    ·rcases List.mem_cons.1 hx with rfl|hx
     ·exact .inr ⟨by simp only;omega,by simp only;omega,k,List.mem_cons_self ..,rfl,hl⟩
     ·rcases c x hx with⟨h1,h2⟩|⟨h1,h2,k0,h3,h4⟩
      ·exact .inl ⟨List.mem_cons_of_mem _ h1,h2⟩
      ·exact .inr ⟨by omega,h2,k0,List.mem_cons_of_mem _ h3,h4⟩
    ·have hp':=List.pairwise_cons.1 hp
     refine List.pairwise_cons.2 ⟨fun x hx=> ?_,d (fun x hx=>ht x (List.mem_cons_of_mem _ hx)) hp'.2⟩
     simp only
     rcases c x hx with⟨h1,h2⟩|⟨h1,h2,k0,h3,h4⟩
     ·have:=ht x (List.mem_cons_of_mem _ h1);omega
     ·omega
theorem zbv {k:Lk}:okLk k=true↔nameP k.name=true∧(0≤k.holder∧k.holder<8)∧1≤k.token∧k.token≤High:=by
 unfold okLk
 simp only[Bool.and_eq_true,Bool.not_eq_true',decide_eq_false_iff_not]
 constructor
 ·rintro⟨⟨⟨⟨a,b⟩,c⟩,d⟩,e⟩;exact⟨a,⟨by omega,by omega⟩,by omega,by omega⟩
 ·rintro⟨a,⟨b,c⟩,d,e⟩;exact⟨⟨⟨⟨a,by omega⟩,by omega⟩,by omega⟩,by omega⟩
theorem zbJ {c:Int}:isClient c=true↔0≤c∧c<8:=by
 unfold isClient;simp
theorem zb6 {l gone:List Int} {c:Int}:c∈withoutP l gone↔c∈l∧hasI gone c=false:=by
 unfold withoutP;simp
theorem zdA {s:St} (h:RightS s) (gone:List Int) (hT:s.token+4≤High):RightS (withoutSt s gone)∧s.token≤(withoutSt s gone).token∧(withoutSt s gone).token≤s.token+4:=by
 obtain⟨⟨a1,a2⟩,b,c,d⟩:=zbP gone s.token (s.locks.map (lockWithout gone)) 0 (Int.le_refl _)
 have hlen:((s.locks.map (lockWithout gone)).length:Int)≤4:=by rw[List.length_map];have:=h.ll;omega
 have hl1:∀k∈s.locks.map (lockWithout gone),okLk k=true∧k.token≤s.token∧lineB k.line=true∧hasI k.line k.holder=false∧(∀c∈k.line,hasI gone c=false)∧(findS s.sess k.holder).isSome=true∧∀c∈k.line,(findS s.sess c).isSome=true:=by
  intro k hk
  obtain⟨k0,hk0,rfl⟩:=List.mem_map.1 hk
  obtain⟨e1,e2,e3,e4⟩:=h.lok k0 hk0
  obtain⟨f1,f2⟩:=h.seat k0 hk0
  obtain⟨g1,g2,g3⟩:=za7.1 e3
  refine⟨e1,e2,za7.2 ⟨?_,fun c hc=>g2 c (zb6.1 hc).1, ?_⟩, ?_,fun c hc=>(zb6.1 hc).2,f1,fun c hc=>f2 c (zb6.1 hc).1⟩
  ·exact Nat.le_trans (List.length_filter_le ..) g1
  ·exact g3.sublist (List.filter_sublist ..)
  ·rw[zbt]at e4⊢
   exact fun hc=>e4 (zb6.1 hc).1
 have hfind:∀c,(findS s.sess c).isSome=true→hasI gone c=false→(findS (s.sess.filter fun x=> !hasI gone x.client) c).isSome=true:=by
  intro c hc hg
  obtain⟨x,hx,rfl⟩:=zbE.1 hc
  exact zbE.2 ⟨x,List.mem_filter.2 ⟨hx,by simp[hg]⟩,rfl⟩
 have hok:∀k∈(dropP s.locks gone s.token).1,okLk k=true∧k.token≤s.token+(dropP s.locks gone s.token).2∧lineB k.line=true∧hasI k.line k.holder=false∧(hasI gone k.holder=false∧∀c∈k.line,hasI gone c=false)∧(findS s.sess k.holder).isSome=true∧∀c∈k.line,(findS s.sess c).isSome=true:=by
  intro k hk
  rcases c k hk with⟨h1,h2⟩|⟨h1,h2,k0,h3,h4,h5⟩
  ·obtain⟨e1,e2,e3,e4,e5,e6,e7⟩:=hl1 k h1
   refine⟨e1, ?_,e3,e4,⟨h2,e5⟩,e6,e7⟩
   have:0≤(dropP s.locks gone s.token).2:=a1
   omega
  ·obtain⟨e1,e2,e3,e4,e5,e6,e7⟩:=hl1 k0 h3
   rw[h5]at e3 e5 e7
   obtain⟨g1,g2,g3⟩:=za7.1 e3
   have g3':=List.nodup_cons.1 g3
   have i1:=zbv.1 e1
   have i2:=zbJ.1 (g2 k.holder (List.mem_cons_self ..))
   have a2':(dropP s.locks gone s.token).2≤4:=by have:(dropP s.locks gone s.token).2=(dropR gone s.token (s.locks.map (lockWithout gone)) 0).2:=rfl;omega
   have h2':k.token≤s.token+(dropP s.locks gone s.token).2:=h2
   have:=h.token
   refine⟨zbv.2 ⟨h4▸i1.1,i2,by omega,by omega⟩,h2',za7.2 ⟨?_,fun c hc=>g2 c (List.mem_cons_of_mem _ hc),g3'.2⟩,zbt.2 g3'.1,⟨e5 _ (List.mem_cons_self ..),fun c hc=>e5 c (List.mem_cons_of_mem _ hc)⟩,e7 _ (List.mem_cons_self ..),fun c hc=>e7 c (List.mem_cons_of_mem _ hc)⟩
   simp only[List.length_cons]at g1;omega
 have hnm:(s.locks.map (lockWithout gone)).map Lk.name=s.locks.map Lk.name:=by rw[List.map_map];rfl
 have a2':(dropP s.locks gone s.token).2≤4:=by have:(dropP s.locks gone s.token).2=(dropR gone s.token (s.locks.map (lockWithout gone)) 0).2:=rfl;omega
 have a1':0≤(dropP s.locks gone s.token).2:=a1
 have hT0:=h.token
 refine⟨⟨h.time,h.num,⟨by simp only[withoutSt];omega,by simp only[withoutSt];omega⟩, ?_, ?_, ?_, ?_, ?_, ?_, ?_, ?_,h.ms,h.mok, ?_⟩,by simp only[withoutSt];omega,by simp only[withoutSt];omega⟩
 ·exact List.Pairwise.sublist (List.filter_sublist ..) h.ss
 ·exact fun x hx=>h.sok x (List.mem_filter.1 hx).1
 ·exact List.Pairwise.sublist (List.filter_sublist ..) h.snd
 ·exact Nat.le_trans (List.length_filter_le ..) h.sl
 ·rw[zit]
  rw[hnm]at b
  exact List.Pairwise.sublist b (zit.1 h.ls)
 ·exact fun k hk=>⟨(hok k hk).1,(hok k hk).2.1,(hok k hk).2.2.1,(hok k hk).2.2.2.1⟩
 ·refine d (fun k hk=>(hl1 k hk).2.1) ?_
  rw[List.pairwise_map]
  exact h.lnd
 ·have:=b.length_le
  rw[hnm,List.length_map,List.length_map]at this
  exact Nat.le_trans this h.ll
 ·intro k hk
  obtain⟨_,_,_,_,⟨g1,g2⟩,f1,f2⟩:=hok k hk
  exact⟨hfind _ f1 g1,fun c hc=>hfind c (f2 c hc) (g2 c hc)⟩
theorem zdB {s:St} (h:RightS s) (time lease:Int) (hT:s.token+4≤High):
  RightS (advanceP s time lease)∧s.token≤(advanceP s time lease).token∧(advanceP s time lease).token≤s.token+4∧(advanceP s time lease).num=s.num∧s.time≤(advanceP s time lease).time:=by
 have ht:s.time≤timeP s time∧timeP s time≤High:=by
  have:=h.time
  unfold timeP
  split
  ·rename_i hc;simp at hc;omega
  ·omega
 have h':RightS {s with time:=timeP s time}:=⟨⟨by have:=h.time;simp only;omega,ht.2⟩,h.num,h.token,h.ss,h.sok,h.snd,h.sl,h.ls,h.lok,h.lnd,h.ll,h.ms,h.mok,h.seat⟩
 obtain⟨a,b,c⟩:=zdA h' (dueP s.sess (timeP s time) (max lease 1)) hT
 exact⟨a,b,c,rfl,ht.1⟩
end Go.Proofs.YtniafckaafcpbaaGreat
