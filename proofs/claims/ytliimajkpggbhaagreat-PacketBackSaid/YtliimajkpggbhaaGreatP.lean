import Derived.Test.YtliimajkpggbhaaGreatVC
namespace Go.Proofs.YtliimajkpggbhaaGreat
open Go.Pk Tryz
set_option maxRecDepth 100000
set_option linter.unusedSimpArgs false
set_option linter.unusedVariables false
structure RightS (s:St):Prop where
 time:0≤s.time∧s.time≤zbE
 num:0≤s.num∧s.num≤zbE
 token:0≤s.token∧s.token≤zbE
 ss:SS s.sess
 sok:∀x∈s.sess,ziT x=true∧x.num≤s.num
 snd:s.sess.Pairwise fun a b=>a.num≠b.num
 sl:s.sess.length≤5
 ls:SL s.locks
 lok:∀k∈s.locks,zsf k=true∧k.token≤s.token∧lineB k.line=true∧hasI k.line k.holder=false
 lnd:s.locks.Pairwise fun a b=>a.token≠b.token
 ll:s.locks.length≤4
 ms:SM s.memos
 mok:∀m∈s.memos,answerB m=true
 seat:∀k∈s.locks,(zaH s.sess k.holder).isSome=true∧∀c∈k.line,(zaH s.sess c).isSome=true
theorem zeO {α:Type} {r:α→α→Prop} (ht:∀a b c,r a b→r b c→r a c):∀{l:List α},(∀j (hj:j<l.length),0<j→r (l[j - 1]'(by omega)) l[j])→l.Pairwise r
 |[],_=>List.Pairwise.nil
 |[x],_=>by simp
 |x::y::l,h=>by
  have h1:r x y:=h 1 (by simp) (by decide)
  have ih:(y::l).Pairwise r:=zeO ht fun j hj h0=>by
   have:=h (j+1) (by simpa using hj) (by omega)
   obtain⟨k,rfl⟩:∃k,j=k+1:=⟨j - 1,by omega⟩
   simpa using this
  refine List.pairwise_cons.2 ⟨fun z hz=> ?_,ih⟩
  rcases List.mem_cons.1 hz with rfl|hz
  ·exact h1
  ·exact ht _ _ _ h1 ((List.pairwise_cons.1 ih).1 z hz)
theorem zeP {α:Type} {r:α→α→Prop} {l:List α} (h:l.Pairwise r) (j:Nat) (hj:j<l.length) (h0:0<j):r (l[j - 1]'(by omega)) l[j]:=
 List.pairwise_iff_getElem.1 h (j - 1) j (by omega) hj (by omega)
theorem zgE {α:Type} {l:List α} {i:Nat} {p:α→Bool} (hi:i<l.length):(l.take i).any p=false↔∀j (hj:j<l.length),j<i→p l[j]=false:=by
 rw[List.any_eq_false]
 constructor
 ·intro h j hj hji
  have hm:l[j]∈l.take i:=by
   rw[List.mem_take_iff_getElem]
   exact⟨j,by omega,rfl⟩
  simpa using h _ hm
 ·intro h x hx
  rw[List.mem_take_iff_getElem]at hx
  obtain⟨j,hj,rfl⟩:=hx
  simp[h j (by omega) (by omega)]
theorem zot {l:List Sess}:sessB l=true↔l.length≤5∧(∀x∈l,ziT x=true)∧SS l∧l.Pairwise fun a b=>a.num≠b.num:=by
 unfold sessB
 rw[Bool.and_eq_true,zcO]
 simp only[Nat.zero_add,Bool.not_eq_true',decide_eq_false_iff_not]
 constructor
 ·rintro⟨h1,h2⟩
  have q:∀j (hj:j<l.length),ziT l[j]=true∧(0<j→zuJ l j<l[j].client)∧(∀k (hk:k<l.length),k<j→l[k].num≠l[j].num):=by
   intro j hj
   have:=h2 j hj
   unfold zmO at this
   simp only[Bool.and_eq_true,Bool.not_eq_true',Bool.or_eq_false_iff,Bool.and_eq_false_iff,decide_eq_false_iff_not]at this
   obtain⟨a,b,c⟩:=this
   refine⟨a,fun h0=> ?_,fun k hk hkj=> ?_⟩
   ·rcases b with b|b
    ·omega
    ·omega
   ·have:=(zgE hj).1 c k hk hkj
    simpa using this
  refine⟨by omega,fun x hx=> ?_, ?_, ?_⟩
  ·obtain⟨j,hj,rfl⟩:=List.getElem_of_mem hx
   exact(q j hj).1
  ·refine zeO (fun a b c h1 h2=>by omega) fun j hj h0=> ?_
   have:=(q j hj).2.1 h0
   unfold zuJ at this
   rw[List.getElem?_eq_getElem (by omega)]at this
   simpa using this
  ·rw[List.pairwise_iff_getElem]
   intro i j hi hj hij
   exact(q j hj).2.2 i hi hij
 ·rintro⟨h1,h2,h3,h4⟩
  refine⟨by omega,fun j hj=> ?_⟩
  unfold zmO
  simp only[Bool.and_eq_true,Bool.not_eq_true',Bool.or_eq_false_iff,Bool.and_eq_false_iff,decide_eq_false_iff_not]
  refine⟨h2 _ (List.getElem_mem hj), ?_, ?_⟩
  ·by_cases h0:0<j
   ·right
    have:=zeP h3 j hj h0
    unfold zuJ
    rw[List.getElem?_eq_getElem (by omega)]
    simpa using this
   ·left;omega
  ·exact(zgE hj).2 fun k hk hkj=>by
    have:=List.pairwise_iff_getElem.1 h4 k j hk hj hkj
    simpa using this
theorem zb1 {l:List Int}:lineB l=true↔l.length≤3∧(∀c∈l,isClient c=true)∧l.Nodup:=by
 unfold lineB
 rw[Bool.and_eq_true,zcO]
 simp only[Nat.zero_add,decide_eq_true_eq]
 constructor
 ·rintro⟨h1,h2⟩
  have q:∀j (hj:j<l.length),isClient l[j]=true∧(∀k (hk:k<l.length),k<j→l[k]≠l[j]):=by
   intro j hj
   have:=h1 j hj
   unfold zuL at this
   simp only[Bool.not_eq_true',Bool.or_eq_false_iff,Bool.not_eq_false']at this
   refine⟨this.1,fun k hk hkj=> ?_⟩
   have h3:=(zgE hj).1 this.2 k hk hkj
   have h4:¬l[j]=l[k]:=by simpa using h3
   exact fun h=>h4 h.symm
  refine⟨by omega,fun x hx=> ?_, ?_⟩
  ·obtain⟨j,hj,rfl⟩:=List.getElem_of_mem hx
   exact(q j hj).1
  ·unfold List.Nodup
   rw[List.pairwise_iff_getElem]
   intro i j hi hj hij
   exact(q j hj).2 i hi hij
 ·rintro⟨h1,h2,h3⟩
  refine⟨fun j hj=> ?_,by omega⟩
  unfold zuL
  simp only[Bool.not_eq_true',Bool.or_eq_false_iff,Bool.not_eq_false']
  refine⟨h2 _ (List.getElem_mem hj), ?_⟩
  exact(zgE hj).2 fun k hk hkj=>by
   unfold List.Nodup at h3
   have:=List.pairwise_iff_getElem.1 h3 k j hk hj hkj
   simpa using fun h=>this h.symm
theorem zuH {l:List Lk}:lockB l=true↔l.length≤4∧(∀k∈l,zsf k=true∧lineB k.line=true∧hasI k.line k.holder=false)∧SL l∧l.Pairwise fun a b=>a.token≠b.token:=by
 unfold lockB
 rw[Bool.and_eq_true,zcO]
 simp only[Nat.zero_add,decide_eq_true_eq]
 constructor
 ·rintro⟨h1,h2⟩
  have q:∀j (hj:j<l.length),(zsf l[j]=true∧lineB l[j].line=true∧hasI l[j].line l[j].holder=false)∧(0<j→zeF (zuM l j) l[j].name=true)∧(∀k (hk:k<l.length),k<j→l[k].token≠l[j].token):=by
   intro j hj
   have:=h1 j hj
   unfold zou at this
   simp only[Bool.and_eq_true,Bool.not_eq_true',Bool.or_eq_false_iff,Bool.and_eq_false_iff,decide_eq_false_iff_not,Bool.not_eq_false']at this
   obtain⟨⟨a,⟨b1,b2⟩,b3⟩,c⟩:=this
   refine⟨⟨a,b1,b2⟩,fun h0=> ?_,fun k hk hkj=> ?_⟩
   ·rcases b3 with b|b
    ·omega
    ·exact b
   ·have:=(zgE hj).1 c k hk hkj
    simpa using this
  refine⟨by omega,fun x hx=> ?_, ?_, ?_⟩
  ·obtain⟨j,hj,rfl⟩:=List.getElem_of_mem hx
   exact(q j hj).1
  ·refine zeO (r:=fun x y:Lk=>zeF x.name y.name=true) (fun a b c h1 h2=>zmS h1 h2) fun j hj h0=> ?_
   have:=(q j hj).2.1 h0
   unfold zuM at this
   rw[List.getElem?_eq_getElem (by omega)]at this
   simpa using this
  ·rw[List.pairwise_iff_getElem]
   intro i j hi hj hij
   exact(q j hj).2.2 i hi hij
 ·rintro⟨h1,h2,h3,h4⟩
  refine⟨fun j hj=> ?_,by omega⟩
  unfold zou
  simp only[Bool.and_eq_true,Bool.not_eq_true',Bool.or_eq_false_iff,Bool.and_eq_false_iff,decide_eq_false_iff_not,Bool.not_eq_false']
  obtain⟨a,b,c⟩:=h2 _ (List.getElem_mem hj)
  refine⟨⟨a,⟨b,c⟩, ?_⟩, ?_⟩
  ·by_cases h0:0<j
   ·right
    have:=zeP h3 j hj h0
    unfold zuM
    rw[List.getElem?_eq_getElem (by omega)]
    simpa using this
   ·left;omega
  ·exact(zgE hj).2 fun k hk hkj=>by
    have:=List.pairwise_iff_getElem.1 h4 k j hk hj hkj
    simpa using this
theorem zuI {l:List Memo}:memoB l=true↔(∀m∈l,answerB m=true)∧SM l:=by
 unfold memoB
 rw[zcO]
 simp only[Nat.zero_add]
 constructor
 ·intro h1
  have q:∀j (hj:j<l.length),answerB l[j]=true∧(0<j→zuN l j<l[j].client):=by
   intro j hj
   have:=h1 j hj
   unfold zow at this
   simp only[Bool.not_eq_true',Bool.or_eq_false_iff,Bool.and_eq_false_iff,decide_eq_false_iff_not,Bool.not_eq_false']at this
   refine⟨this.1,fun h0=> ?_⟩
   rcases this.2 with b|b
   ·omega
   ·omega
  refine⟨fun x hx=> ?_, ?_⟩
  ·obtain⟨j,hj,rfl⟩:=List.getElem_of_mem hx
   exact(q j hj).1
  ·refine zeO (fun a b c h1 h2=>by omega) fun j hj h0=> ?_
   have:=(q j hj).2 h0
   unfold zuN at this
   rw[List.getElem?_eq_getElem (by omega)]at this
   simpa using this
 ·rintro⟨h2,h3⟩ j hj
  unfold zow
  simp only[Bool.not_eq_true',Bool.or_eq_false_iff,Bool.and_eq_false_iff,decide_eq_false_iff_not,Bool.not_eq_false']
  refine⟨h2 _ (List.getElem_mem hj), ?_⟩
  by_cases h0:0<j
  ·right
   have:=zeP h3 j hj h0
   unfold zuN
   rw[List.getElem?_eq_getElem (by omega)]
   simpa using this
  ·left;omega
theorem zdE {s:St}:zdf s=true↔RightS s:=by
 unfold zdf zix within
 simp only[Bool.and_eq_true,decide_eq_true_eq,zot,zuH,zuI,List.all_eq_true,List.mem_cons,forall_eq_or_imp]
 constructor
 ·rintro⟨⟨⟨⟨⟨⟨⟨⟨h1,h2⟩,h3⟩,a,b,c,d⟩,e,f,g,h⟩,i,j⟩,k⟩,l⟩,m⟩
  exact⟨h1,h2,h3,c,fun x hx=>⟨b x hx,k x hx⟩,d,a,g,fun k hk=>⟨(f k hk).1,l k hk,(f k hk).2⟩,h,e,j,i,m⟩
 ·intro h
  exact⟨⟨⟨⟨⟨⟨⟨⟨h.time,h.num⟩,h.token⟩,h.sl,fun x hx=>(h.sok x hx).1,h.ss,h.snd⟩,h.ll,fun k hk=>⟨(h.lok k hk).1,(h.lok k hk).2.2⟩,h.ls,h.lnd⟩,h.mok,h.ms⟩,fun x hx=>(h.sok x hx).2⟩,fun k hk=>(h.lok k hk).2.1⟩,h.seat⟩
theorem zxg {l:List Int} {v:Int}:hasI l v=true↔v∈l:=by
 unfold hasI
 simp[List.any_eq_true]
theorem zde {l:List Int} {v:Int}:hasI l v=false↔v ∉ l:=by
 rw[←Bool.not_eq_true,zxg]
theorem zdD {l:List Sess} {c:Int}:(zaH l c).isSome=true↔∃x∈l,x.client=c:=by
 unfold zaH
 simp
theorem zhX {α:Type} {r:α→α→Prop} {l:List α} {x:α} {k:Nat} (hl:l.Pairwise r) (h1:∀y∈l.take k,r y x) (h2:∀y∈l.drop k,r x y):(l.take k++x::l.drop k).Pairwise r:=by
 rw[←List.take_append_drop k l]at hl
 obtain⟨a,b,c⟩:=List.pairwise_append.1 hl
 refine List.pairwise_append.2 ⟨a,List.pairwise_cons.2 ⟨h2,b⟩,fun y hy z hz=> ?_⟩
 rcases List.mem_cons.1 hz with rfl|hz
 ·exact h1 y hy
 ·exact c y hy z hz
theorem zkn {α:Type} {p:α→Bool} {l:List α} {y:α} (h:y∈l.take (zq8 p l)):p y=true:=by
 rw[List.mem_take_iff_getElem]at h
 obtain⟨j,hj,rfl⟩:=h
 exact zmQ (by omega) (by omega)
theorem zko {α:Type} {p:α→Bool} {l:List α} {y:α} (hm:zAz p l) (h:y∈l.drop (zq8 p l)):p y=false:=by
 obtain⟨j,hj,rfl⟩:=List.getElem_of_mem h
 rw[List.getElem_drop]
 exact zmR _ hm (by omega)
theorem zmM {α β:Type} {f:α→β} {l:List α} {j:Nat} {x:α} (hj:j<l.length) (h:f x=f l[j]):(l.set j x).map f=l.map f:=by
 rw[List.map_set,h]
 apply List.ext_getElem (by simp)
 intro k h1 h2
 rw[List.getElem_set]
 split
 ·rename_i e;subst e;simp
 ·rfl
theorem zmN {α:Type} {l:List α} {j:Nat} {x y:α} (h:y∈l.set j x):y=x∨y∈l:=by
 rcases List.mem_or_eq_of_mem_set h with h|h
 ·exact .inr h
 ·exact .inl h
theorem zyJ {l:List Sess}:SS l↔(l.map Sess.client).Pairwise (·<·):=by unfold SS;rw[List.pairwise_map]
theorem zq6 {l:List Lk}:SL l↔(l.map Lk.name).Pairwise (fun a b=>zeF a b=true):=by unfold SL;rw[List.pairwise_map]
theorem zq7 {l:List Memo}:SM l↔(l.map Memo.client).Pairwise (·<·):=by unfold SM;rw[List.pairwise_map]
theorem zfe (gone:List Int) (token:Int):∀(l:List Lk) (g:Int),0≤g→
  (g≤(zcs gone token l g).2∧(zcs gone token l g).2≤g+l.length)∧((zcs gone token l g).1.map Lk.name).Sublist (l.map Lk.name)∧
  (∀k∈(zcs gone token l g).1,(k∈l∧hasI gone k.holder=false)∨(token+g<k.token∧k.token≤token+(zcs gone token l g).2∧∃k0∈l,k0.name=k.name∧k0.line=k.holder::k.line))∧
  ((∀k∈l,k.token≤token)→(l.Pairwise fun a b=>a.token≠b.token)→(zcs gone token l g).1.Pairwise fun a b=>a.token≠b.token)
 |[],g,hg=>by simp[zcs]
 |k::r,g,hg=>by
  cases hk:hasI gone k.holder
  ·obtain⟨⟨a1,a2⟩,b,c,d⟩:=zfe gone token r g hg
   have e:zcs gone token (k::r) g=(k::(zcs gone token r g).1,(zcs gone token r g).2):=by rw[zcs,if_neg (by simp[hk])]
   rw[e]
   refine⟨⟨a1,by simp only[List.length_cons];omega⟩,b.cons_cons _,fun x hx=> ?_,fun ht hp=> ?_⟩
   ·rcases List.mem_cons.1 hx with rfl|hx
    ·exact .inl ⟨List.mem_cons_self ..,hk⟩
    ·rcases c x hx with⟨h1,h2⟩|⟨h1,h2,k0,h3,h4⟩
     ·exact .inl ⟨List.mem_cons_of_mem _ h1,h2⟩
     ·exact .inr ⟨h1,h2,k0,List.mem_cons_of_mem _ h3,h4⟩
   ·have hp':=List.pairwise_cons.1 hp
    have hkt:=ht k (List.mem_cons_self ..)
    refine List.pairwise_cons.2 ⟨fun x hx=> ?_,d (fun x hx=>ht x (List.mem_cons_of_mem _ hx)) hp'.2⟩
    rcases c x hx with⟨h1,h2⟩|⟨h1,h2,k0,h3,h4⟩
    ·exact hp'.1 x h1
    ·omega
  ·cases hl:k.line with
   |nil=>
    obtain⟨⟨a1,a2⟩,b,c,d⟩:=zfe gone token r g hg
    have e:zcs gone token (k::r) g=zcs gone token r g:=by rw[zcs,if_pos hk,hl]
    rw[e]
    refine⟨⟨a1,by simp only[List.length_cons];omega⟩,b.cons _,fun x hx=> ?_,fun ht hp=> ?_⟩
    ·rcases c x hx with⟨h1,h2⟩|⟨h1,h2,k0,h3,h4⟩
     ·exact .inl ⟨List.mem_cons_of_mem _ h1,h2⟩
     ·exact .inr ⟨h1,h2,k0,List.mem_cons_of_mem _ h3,h4⟩
    ·exact d (fun x hx=>ht x (List.mem_cons_of_mem _ hx)) (List.pairwise_cons.1 hp).2
   |cons c0 rest=>
    obtain⟨⟨a1,a2⟩,b,c,d⟩:=zfe gone token r (g+1) (by omega)
    have e:zcs gone token (k::r) g=(⟨k.name,c0,token+g+1,rest⟩::(zcs gone token r (g+1)).1,(zcs gone token r (g+1)).2):=by rw[zcs,if_pos hk,hl]
    rw[e]
    refine⟨⟨by simp only;omega,by simp only[List.length_cons];omega⟩,b.cons_cons _,fun x hx=> ?_,fun ht hp=> ?_⟩
    ·rcases List.mem_cons.1 hx with rfl|hx
     ·exact .inr ⟨by simp only;omega,by simp only;omega,k,List.mem_cons_self ..,rfl,hl⟩
     ·rcases c x hx with⟨h1,h2⟩|⟨h1,h2,k0,h3,h4⟩
      ·exact .inl ⟨List.mem_cons_of_mem _ h1,h2⟩
      ·exact .inr ⟨by omega,h2,k0,List.mem_cons_of_mem _ h3,h4⟩
    ·have hp':=List.pairwise_cons.1 hp
     refine List.pairwise_cons.2 ⟨fun x hx=> ?_,d (fun x hx=>ht x (List.mem_cons_of_mem _ hx)) hp'.2⟩
     simp only
     rcases c x hx with⟨h1,h2⟩|⟨h1,h2,k0,h3,h4⟩
     ·have:=ht x (List.mem_cons_of_mem _ h1);omega
     ·omega
theorem zc3 {k:Lk}:zsf k=true↔nameP k.name=true∧(0≤k.holder∧k.holder<8)∧1≤k.token∧k.token≤zbE:=by
 unfold zsf
 simp only[Bool.and_eq_true,Bool.not_eq_true',decide_eq_false_iff_not]
 constructor
 ·rintro⟨⟨⟨⟨a,b⟩,c⟩,d⟩,e⟩;exact⟨a,⟨by omega,by omega⟩,by omega,by omega⟩
 ·rintro⟨a,⟨b,c⟩,d,e⟩;exact⟨⟨⟨⟨a,by omega⟩,by omega⟩,by omega⟩,by omega⟩
theorem zdR {c:Int}:isClient c=true↔0≤c∧c<8:=by
 unfold isClient;simp
theorem zeN {l gone:List Int} {c:Int}:c∈zbi l gone↔c∈l∧hasI gone c=false:=by
 unfold zbi;simp
theorem zhY {s:St} (h:RightS s) (gone:List Int) (hT:s.token+4≤zbE):RightS (zbS s gone)∧s.token≤(zbS s gone).token∧(zbS s gone).token≤s.token+4:=by
 obtain⟨⟨a1,a2⟩,b,c,d⟩:=zfe gone s.token (s.locks.map (zaq gone)) 0 (Int.le_refl _)
 have hlen:((s.locks.map (zaq gone)).length:Int)≤4:=by rw[List.length_map];have:=h.ll;omega
 have hl1:∀k∈s.locks.map (zaq gone),zsf k=true∧k.token≤s.token∧lineB k.line=true∧hasI k.line k.holder=false∧(∀c∈k.line,hasI gone c=false)∧(zaH s.sess k.holder).isSome=true∧∀c∈k.line,(zaH s.sess c).isSome=true:=by
  intro k hk
  obtain⟨k0,hk0,rfl⟩:=List.mem_map.1 hk
  obtain⟨e1,e2,e3,e4⟩:=h.lok k0 hk0
  obtain⟨f1,f2⟩:=h.seat k0 hk0
  obtain⟨g1,g2,g3⟩:=zb1.1 e3
  refine⟨e1,e2,zb1.2 ⟨?_,fun c hc=>g2 c (zeN.1 hc).1, ?_⟩, ?_,fun c hc=>(zeN.1 hc).2,f1,fun c hc=>f2 c (zeN.1 hc).1⟩
  ·exact Nat.le_trans (List.length_filter_le ..) g1
  ·exact g3.sublist (List.filter_sublist ..)
  ·rw[zde]at e4⊢
   exact fun hc=>e4 (zeN.1 hc).1
 have hfind:∀c,(zaH s.sess c).isSome=true→hasI gone c=false→(zaH (s.sess.filter fun x=> !hasI gone x.client) c).isSome=true:=by
  intro c hc hg
  obtain⟨x,hx,rfl⟩:=zdD.1 hc
  exact zdD.2 ⟨x,List.mem_filter.2 ⟨hx,by simp[hg]⟩,rfl⟩
 have hok:∀k∈(zeW s.locks gone s.token).1,zsf k=true∧k.token≤s.token+(zeW s.locks gone s.token).2∧lineB k.line=true∧hasI k.line k.holder=false∧(hasI gone k.holder=false∧∀c∈k.line,hasI gone c=false)∧(zaH s.sess k.holder).isSome=true∧∀c∈k.line,(zaH s.sess c).isSome=true:=by
  intro k hk
  rcases c k hk with⟨h1,h2⟩|⟨h1,h2,k0,h3,h4,h5⟩
  ·obtain⟨e1,e2,e3,e4,e5,e6,e7⟩:=hl1 k h1
   refine⟨e1, ?_,e3,e4,⟨h2,e5⟩,e6,e7⟩
   have:0≤(zeW s.locks gone s.token).2:=a1
   omega
  ·obtain⟨e1,e2,e3,e4,e5,e6,e7⟩:=hl1 k0 h3
   rw[h5]at e3 e5 e7
   obtain⟨g1,g2,g3⟩:=zb1.1 e3
   have g3':=List.nodup_cons.1 g3
   have i1:=zc3.1 e1
   have i2:=zdR.1 (g2 k.holder (List.mem_cons_self ..))
   have a2':(zeW s.locks gone s.token).2≤4:=by have:(zeW s.locks gone s.token).2=(zcs gone s.token (s.locks.map (zaq gone)) 0).2:=rfl;omega
   have h2':k.token≤s.token+(zeW s.locks gone s.token).2:=h2
   have:=h.token
   refine⟨zc3.2 ⟨h4▸i1.1,i2,by omega,by omega⟩,h2',zb1.2 ⟨?_,fun c hc=>g2 c (List.mem_cons_of_mem _ hc),g3'.2⟩,zde.2 g3'.1,⟨e5 _ (List.mem_cons_self ..),fun c hc=>e5 c (List.mem_cons_of_mem _ hc)⟩,e7 _ (List.mem_cons_self ..),fun c hc=>e7 c (List.mem_cons_of_mem _ hc)⟩
   simp only[List.length_cons]at g1;omega
 have hnm:(s.locks.map (zaq gone)).map Lk.name=s.locks.map Lk.name:=by rw[List.map_map];rfl
 have a2':(zeW s.locks gone s.token).2≤4:=by have:(zeW s.locks gone s.token).2=(zcs gone s.token (s.locks.map (zaq gone)) 0).2:=rfl;omega
 have a1':0≤(zeW s.locks gone s.token).2:=a1
 have hT0:=h.token
 refine⟨⟨h.time,h.num,⟨by simp only[zbS];omega,by simp only[zbS];omega⟩, ?_, ?_, ?_, ?_, ?_, ?_, ?_, ?_,h.ms,h.mok, ?_⟩,by simp only[zbS];omega,by simp only[zbS];omega⟩
 ·exact List.Pairwise.sublist (List.filter_sublist ..) h.ss
 ·exact fun x hx=>h.sok x (List.mem_filter.1 hx).1
 ·exact List.Pairwise.sublist (List.filter_sublist ..) h.snd
 ·exact Nat.le_trans (List.length_filter_le ..) h.sl
 ·rw[zq6]
  rw[hnm]at b
  exact List.Pairwise.sublist b (zq6.1 h.ls)
 ·exact fun k hk=>⟨(hok k hk).1,(hok k hk).2.1,(hok k hk).2.2.1,(hok k hk).2.2.2.1⟩
 ·refine d (fun k hk=>(hl1 k hk).2.1) ?_
  rw[List.pairwise_map]
  exact h.lnd
 ·have:=b.length_le
  rw[hnm,List.length_map,List.length_map]at this
  exact Nat.le_trans this h.ll
 ·intro k hk
  obtain⟨_,_,_,_,⟨g1,g2⟩,f1,f2⟩:=hok k hk
  exact⟨hfind _ f1 g1,fun c hc=>hfind c (f2 c hc) (g2 c hc)⟩
theorem zhZ {s:St} (h:RightS s) (time lease:Int) (hT:s.token+4≤zbE):
  RightS (zcP s time lease)∧s.token≤(zcP s time lease).token∧(zcP s time lease).token≤s.token+4∧(zcP s time lease).num=s.num∧s.time≤(zcP s time lease).time:=by
 have ht:s.time≤zff s time∧zff s time≤zbE:=by
  have:=h.time
  unfold zff
  split
  ·rename_i hc;simp at hc;omega
  ·omega
 have h':RightS {s with time:=zff s time}:=⟨⟨by have:=h.time;simp only;omega,ht.2⟩,h.num,h.token,h.ss,h.sok,h.snd,h.sl,h.ls,h.lok,h.lnd,h.ll,h.ms,h.mok,h.seat⟩
 obtain⟨a,b,c⟩:=zhY h' (zuK s.sess (zff s time) (max lease 1)) hT
 exact⟨a,b,c,rfl,ht.1⟩
theorem zkj {α:Type} {l:List α} {k:Nat} {x y:α}:y∈l.take k++x::l.drop k↔y=x∨y∈l:=by
 rw[List.mem_append,List.mem_cons]
 constructor
 ·rintro(h|h|h)
  ·exact .inr (List.mem_of_mem_take h)
  ·exact .inl h
  ·exact .inr (List.mem_of_mem_drop h)
 ·rintro(h|h)
  ·exact .inr (.inl h)
  ·rw[←List.take_append_drop k l]at h
   rcases List.mem_append.1 h with h|h
   ·exact .inl h
   ·exact .inr (.inr h)
theorem zuG {α:Type} {l:List α} {k:Nat} {x:α}:(l.take k++x::l.drop k).length=l.length+1:=by
 simp only[List.length_append,List.length_take,List.length_cons,List.length_drop];omega
theorem zcA {x:Sess}:ziT x=true↔isClient x.client=true∧(1≤x.num∧x.num≤zbE)∧0≤x.renewed∧x.renewed≤zbE:=by
 unfold ziT
 simp only[Bool.and_eq_true,Bool.not_eq_true',decide_eq_false_iff_not]
 constructor
 ·rintro⟨⟨⟨⟨a,b⟩,c⟩,d⟩,e⟩;exact⟨a,⟨by omega,by omega⟩,by omega,by omega⟩
 ·rintro⟨a,⟨b,c⟩,d,e⟩;exact⟨⟨⟨⟨a,by omega⟩,by omega⟩,by omega⟩,by omega⟩
theorem zhV {s:St} (h:RightS s):numbered s.sess (s.num+1)=false:=by
 unfold numbered
 rw[List.any_eq_false]
 intro x hx
 have:=(h.sok x hx).2
 simp;omega
theorem zq5 {s:St} (h:RightS s) {c:Int} (hc:isClient c=true) (hN:s.num+1≤zbE) (hf:zaH s.sess c=none):
  zea s.sess c (s.num+1) s.time=if s.sess.length≥5 then([],5)else(s.sess.take (zhe s.sess c)++⟨c,s.num+1,s.time⟩::s.sess.drop (zhe s.sess c),0):=by
 unfold zea
 have h1:=h.num
 have h2:=h.time
 rw[if_neg (by
  rw[zhV h,hc,hf]
  have e1:decide (s.num+1<1)=false:=by simp;omega
  have e2:decide (s.num+1>zbE)=false:=by simp;omega
  have e3:decide (s.time<0)=false:=by simp;omega
  have e4:decide (s.time>zbE)=false:=by simp;omega
  rw[e1,e2,e3,e4];simp),if_neg (by rw[hf];simp)]
 by_cases h5:s.sess.length≥5
 ·rw[if_pos (by simp;omega),if_pos h5]
 ·rw[if_neg (by simp;omega),if_neg h5]
theorem zsc {s:St} (h:RightS s) {c:Int} (hc:isClient c=true) (hN:s.num+1≤zbE) (hf:zaH s.sess c=none) (h5:s.sess.length<5):
  RightS {s with sess:=s.sess.take (zhe s.sess c)++⟨c,s.num+1,s.time⟩::s.sess.drop (zhe s.sess c),num:=s.num+1}:=by
 have h1:=h.num
 have h2:=h.time
 have hne:∀y∈s.sess,y.client≠c:=by
  intro y hy he
  have:(zaH s.sess c).isSome=true:=zdD.2 ⟨y,hy,he⟩
  rw[hf]at this;cases this
 refine⟨h.time,⟨by simp only;omega,hN⟩,h.token, ?_, ?_, ?_, ?_,h.ls,h.lok,h.lnd,h.ll,h.ms,h.mok, ?_⟩
 ·refine zhX h.ss (fun y hy=> ?_) (fun y hy=> ?_)
  ·simpa using zkn hy
  ·have:=zko (zpL h.ss c) hy
   have:=hne y (List.mem_of_mem_drop hy)
   simp at*;omega
 ·intro x hx
  rcases zkj.1 hx with rfl|hx
  ·exact⟨zcA.2 ⟨hc,⟨by simp only;omega,hN⟩,h2⟩,Int.le_refl _⟩
  ·exact⟨(h.sok x hx).1,by have:=(h.sok x hx).2;simp only;omega⟩
 ·refine zhX h.snd (fun y hy=> ?_) (fun y hy=> ?_)
  ·have:=(h.sok y (List.mem_of_mem_take hy)).2;simp only;omega
  ·have:=(h.sok y (List.mem_of_mem_drop hy)).2;simp only;omega
 ·simp only[zuG];omega
 ·intro k hk
  have:∀c',(zaH s.sess c').isSome=true→(zaH (s.sess.take (zhe s.sess c)++⟨c,s.num+1,s.time⟩::s.sess.drop (zhe s.sess c)) c').isSome=true:=fun c' hc'=>by
   obtain⟨x,hx,e⟩:=zdD.1 hc'
   exact zdD.2 ⟨x,zkj.2 (.inr hx),e⟩
  exact⟨this _ (h.seat k hk).1,fun c' hc'=>this _ ((h.seat k hk).2 c' hc')⟩
theorem zhW {s:St} (h:RightS s) {c:Int} {x:Sess} (hf:zaH s.sess c=some x):zcX s.sess c s.time=(s.sess.set (zhe s.sess c) ⟨x.client,x.num,max x.renewed s.time⟩,0):=by
 have:=h.time
 unfold zcX
 rw[if_neg (by simp;omega),hf]
theorem zkk {s:St} (h:RightS s) {c:Int} {x:Sess} (hf:zaH s.sess c=some x):
  (s.sess.set (zhe s.sess c) ⟨x.client,x.num,max x.renewed s.time⟩).map Sess.client=s.sess.map Sess.client∧(s.sess.set (zhe s.sess c) ⟨x.client,x.num,max x.renewed s.time⟩).map Sess.num=s.sess.map Sess.num:=by
 obtain⟨⟨hi,he⟩,_⟩:=zmT h.ss hf
 exact⟨zmM hi (by rw[he]),zmM hi (by rw[he])⟩
theorem zjn {l m:List Sess} (h:l.map Sess.client=m.map Sess.client) (c:Int):(zaH l c).isSome=(zaH m c).isSome:=by
 have key:∀l:List Sess,(zaH l c).isSome=(l.map Sess.client).any fun x=>x==c:=fun l=>by
  rw[List.any_map,Bool.eq_iff_iff,zdD,List.any_eq_true]
  simp
 rw[key,key,h]
theorem zkl {s:St} (h:RightS s) {c:Int} {x:Sess} (hf:zaH s.sess c=some x):RightS {s with sess:=(zcX s.sess c s.time).1}:=by
 rw[zhW h hf]
 simp only
 obtain⟨⟨hi,he⟩,hxc⟩:=zmT h.ss hf
 obtain⟨m1,m2⟩:=zkk h hf
 have hx:x∈s.sess:=he▸List.getElem_mem hi
 refine⟨h.time,h.num,h.token, ?_, ?_, ?_, ?_,h.ls,h.lok,h.lnd,h.ll,h.ms,h.mok, ?_⟩
 ·rw[zyJ,m1];exact zyJ.1 h.ss
 ·intro y hy
  rcases zmN hy with rfl|hy
  ·obtain⟨a,b⟩:=h.sok x hx
   obtain⟨a1,a2,a3,a4⟩:=zcA.1 a
   have:=h.time
   exact⟨zcA.2 ⟨a1,a2,by simp only;omega,by simp only;omega⟩,b⟩
  ·exact h.sok y hy
 ·have:((s.sess.set (zhe s.sess c) ⟨x.client,x.num,max x.renewed s.time⟩).map Sess.num).Pairwise (·≠·):=by rw[m2,List.pairwise_map];exact h.snd
  rwa[List.pairwise_map]at this
 ·simp only[List.length_set];exact h.sl
 ·intro k hk
  exact⟨by simp only;rw[zjn m1];exact(h.seat k hk).1,fun c' hc'=>by simp only;rw[zjn m1];exact(h.seat k hk).2 c' hc'⟩
theorem zhc {s:St} (h:RightS s) {L:List Lk} {t:Int} (ht:s.token≤t∧t≤zbE) (h1:SL L) (h2:∀k∈L,zsf k=true∧k.token≤t∧lineB k.line=true∧hasI k.line k.holder=false) (h3:L.Pairwise fun a b=>a.token≠b.token)
  (h4:L.length≤4) (h5:∀k∈L,(zaH s.sess k.holder).isSome=true∧∀c∈k.line,(zaH s.sess c).isSome=true):RightS {s with locks:=L,token:=t}:=
 ⟨h.time,h.num,⟨by have:=h.token;simp only;omega,ht.2⟩,h.ss,h.sok,h.snd,h.sl,h1,h2,h3,h4,h.ms,h.mok,h5⟩
theorem zkm {s:St} (h:RightS s) {j:Nat} (hj:j<s.locks.length) {k:Lk} {t:Int} (ht:s.token≤t∧t≤zbE) (hn:k.name=s.locks[j].name) (hk:zsf k=true∧k.token≤t∧lineB k.line=true∧hasI k.line k.holder=false)
  (hd:k.token=s.locks[j].token∨s.token<k.token) (hs:(zaH s.sess k.holder).isSome=true∧∀c∈k.line,(zaH s.sess c).isSome=true):RightS {s with locks:=s.locks.set j k,token:=t}:=by
 refine zhc h ht ?_ ?_ ?_ ?_ ?_
 ·rw[zq6,zmM hj hn];exact zq6.1 h.ls
 ·intro x hx
  rcases zmN hx with rfl|hx
  ·exact hk
  ·obtain⟨a,b,c⟩:=h.lok x hx
   exact⟨a,by omega,c⟩
 ·rw[List.pairwise_iff_getElem]
  intro i m hi hm him
  have hi':i<s.locks.length:=by simpa using hi
  have hm':m<s.locks.length:=by simpa using hm
  have hp:=List.pairwise_iff_getElem.1 h.lnd
  have hb:∀q (hq:q<s.locks.length),s.locks[q].token≤s.token:=fun q hq=>(h.lok _ (List.getElem_mem hq)).2.1
  rw[List.getElem_set,List.getElem_set]
  split
  ·rename_i e
   subst e
   rw[if_neg (by omega)]
   have:=hb m hm'
   rcases hd with hd|hd
   ·rw[hd];exact hp j m hj hm' him
   ·omega
  ·split
   ·rename_i e
    subst e
    have:=hb i hi'
    rcases hd with hd|hd
    ·rw[hd];exact hp i j hi' hj him
    ·omega
   ·exact hp i m hi' hm' him
 ·rw[List.length_set];exact h.ll
 ·intro x hx
  rcases zmN hx with rfl|hx
  ·exact hs
  ·exact h.seat x hx
theorem zpI {s:St} (h:RightS s) (j:Nat):RightS {s with locks:=s.locks.eraseIdx j,token:=s.token}:=by
 have hsub:(s.locks.eraseIdx j).Sublist s.locks:=List.eraseIdx_sublist ..
 refine zhc h ⟨Int.le_refl _,h.token.2⟩ (List.Pairwise.sublist hsub h.ls) (fun k hk=>h.lok k (hsub.subset hk)) (List.Pairwise.sublist hsub h.lnd) (Nat.le_trans hsub.length_le h.ll) (fun k hk=>h.seat k (hsub.subset hk))
theorem zlU {s:St} (h:RightS s) {name:ByteArray} {c:Int} {w:Bool} (hnm:nameP name=true) (hc:isClient c=true) (hf:(zaH s.sess c).isSome=true) (hT:s.token+4≤zbE):
  ((za6 s.locks name c s.token w).2.2=0→RightS {s with locks:=(za6 s.locks name c s.token w).1,token:=s.token+1})∧
  ((za6 s.locks name c s.token w).2.2=10→RightS {s with locks:=(za6 s.locks name c s.token w).1,token:=s.token})∧
  (0≤(za6 s.locks name c s.token w).2.2∧(za6 s.locks name c s.token w).2.2≤10)∧(0≤(za6 s.locks name c s.token w).2.1∧(za6 s.locks name c s.token w).2.1≤3):=by
 have hT0:=h.token
 unfold za6
 cases hl:zd1 s.locks name with
 |none=>
  simp only
  split
  ·refine⟨fun h=>by simp at h,fun h=>by simp at h,⟨by simp only;decide,by simp only;decide⟩,⟨by simp only;decide,by simp only;decide⟩⟩
  ·rename_i h4
   simp only[decide_eq_true_eq]at h4
   refine⟨fun _=> ?_,fun h=>by simp at h,⟨by simp only;decide,by simp only;decide⟩,⟨by simp only;decide,by simp only;decide⟩⟩
   have hne:∀y∈s.locks,isL name y=false:=by
    intro y hy
    have:=List.find?_eq_none.1 hl y hy
    simpa using this
   refine zhc h ⟨by omega,by omega⟩ ?_ ?_ ?_ ?_ ?_
   ·refine zhX h.ls (fun y hy=>zkn (p:=fun x:Lk=>zeF x.name name) hy) (fun y hy=> ?_)
    have h1:=zko (zpM h.ls name) hy
    have h2:=hne y (List.mem_of_mem_drop hy)
    cases h3:zeF name y.name
    ·have:=zyK h1 h3
     rw[isL,this]at h2
     simp at h2
    ·rfl
   ·intro x hx
    rcases zkj.1 hx with rfl|hx
    ·exact⟨zc3.2 ⟨hnm,zdR.1 hc,by simp only;omega,by simp only;omega⟩,Int.le_refl _,by simp[lineB,zbN],rfl⟩
    ·obtain⟨a,b,d⟩:=h.lok x hx
     exact⟨a,by omega,d⟩
   ·refine zhX h.lnd (fun y hy=> ?_) (fun y hy=> ?_)
    ·have:=(h.lok y (List.mem_of_mem_take hy)).2.1;simp only;omega
    ·have:=(h.lok y (List.mem_of_mem_drop hy)).2.1;simp only;omega
   ·rw[zuG];omega
   ·intro x hx
    rcases zkj.1 hx with rfl|hx
    ·exact⟨hf,fun c hc=>by simp at hc⟩
    ·exact h.seat x hx
 |some k=>
  simp only
  obtain⟨⟨hi,he⟩,hn⟩:=zeb h.ls hl
  have hk:k∈s.locks:=he▸List.getElem_mem hi
  have hlk:=h.lok k hk
  split
  ·refine⟨fun h=>by simp at h,fun h=>by simp at h,⟨by simp only;decide,by simp only;decide⟩,⟨by simp only;decide,by simp only;decide⟩⟩
  ·rename_i hh
   split
   ·refine⟨fun h=>by simp at h,fun h=>by simp at h,⟨by simp only;decide,by simp only;decide⟩,⟨by simp only;decide,by simp only;decide⟩⟩
   ·split
    ·rename_i hin
     obtain⟨g1,g2,g3⟩:=zb1.1 hlk.2.2.1
     refine⟨fun h=>by simp at h,fun _=>h,⟨by simp only;decide,by simp only;decide⟩, ?_⟩
     unfold zov
     rcases zjo (fun x=>c==x) k.line 0 with⟨q1,q2⟩|⟨q,hq,q1,_⟩
     ·rw[show((0:Nat):Int)=0 from rfl]at q2
      rw[q2];simp
     ·rw[show((0:Nat):Int)=0 from rfl]at q1
      rw[q1];simp;omega
    ·rename_i hin
     split
     ·rename_i hj
      unfold zkq at hj⊢
      rw[if_neg (by simp[hc]),if_neg (by simpa using hin)]at*
      split
      ·refine⟨fun h=>by simp at h,fun h=>by simp at h,⟨by simp only;decide,by simp only;decide⟩,⟨by simp only;decide,by simp only;decide⟩⟩
      ·rename_i h3;rw[if_neg h3]at hj;simp at hj
     ·rename_i hj
      have h3:¬decide ((k.line.length:Int)≥3)=true:=by
       intro h3
       unfold zkq at hj
       rw[if_neg (by simp[hc]),if_neg (by simpa using hin),if_pos h3]at hj
       simp at hj
      have ej:zkq k.line c=(k.line++[c],(k.line.length:Int),0):=by
       unfold zkq
       rw[if_neg (by simp[hc]),if_neg (by simpa using hin),if_neg h3]
      rw[ej]
      simp only[decide_eq_true_eq]at h3
      refine⟨fun h=>by simp at h,fun _=> ?_,⟨by simp only;decide,by simp only;decide⟩,⟨by simp only;omega,by simp only;omega⟩⟩
      obtain⟨g1,g2,g3⟩:=zb1.1 hlk.2.2.1
      have hin':c ∉ k.line:=zde.1 (by simpa using hin)
      refine zkm h hi ⟨Int.le_refl _,hT0.2⟩ (by simp only;rw[he]) ⟨?_,hlk.2.1,zb1.2 ⟨?_, ?_, ?_⟩, ?_⟩ (.inl (by simp only;rw[he])) ⟨(h.seat k hk).1, ?_⟩
      ·have:=zc3.1 hlk.1;exact zc3.2 this
      ·simp only[List.length_append,List.length_singleton];omega
      ·intro x hx
       rcases List.mem_append.1 hx with hx|hx
       ·exact g2 x hx
       ·rw[List.mem_singleton]at hx;subst hx;exact hc
      ·rw[List.nodup_append]
       refine⟨g3,by simp,fun a ha b hb=> ?_⟩
       rw[List.mem_singleton]at hb;subst hb
       exact fun e=>hin' (e▸ha)
      ·rw[zde]
       intro hx
       rcases List.mem_append.1 hx with hx|hx
       ·exact zde.1 hlk.2.2.2 hx
       ·rw[List.mem_singleton]at hx;rw[hx]at hh;simp at hh
      ·intro x hx
       rcases List.mem_append.1 hx with hx|hx
       ·exact(h.seat k hk).2 x hx
       ·rw[List.mem_singleton]at hx;subst hx;exact hf
theorem zpJ {α:Type} {l:List α} {j:Nat} {x:α} (h:x∈l.eraseIdx j):x∈l:=(List.eraseIdx_sublist ..).subset h
theorem zsd {s:St} (h:RightS s) {name:ByteArray} {c:Int} (hT:s.token+4≤zbE):
  ((zb8 s.locks name c s.token).2.2=0→RightS {s with locks:=(zb8 s.locks name c s.token).1,token:=s.token+(zb8 s.locks name c s.token).2.1})∧
  (0≤(zb8 s.locks name c s.token).2.2∧(zb8 s.locks name c s.token).2.2≤10)∧(0≤(zb8 s.locks name c s.token).2.1∧(zb8 s.locks name c s.token).2.1≤1):=by
 have hT0:=h.token
 unfold zb8
 cases hl:zd1 s.locks name with
 |none=>exact⟨fun h=>by simp at h,⟨by simp only;decide,by simp only;decide⟩,⟨by simp only;decide,by simp only;decide⟩⟩
 |some k=>
  simp only
  obtain⟨⟨hi,he⟩,hn⟩:=zeb h.ls hl
  have hk:k∈s.locks:=he▸List.getElem_mem hi
  have hlk:=h.lok k hk
  obtain⟨g1,g2,g3⟩:=zb1.1 hlk.2.2.1
  split
  ·unfold zhd
   split
   ·refine⟨fun _=> ?_,⟨by simp only;decide,by simp only;decide⟩,⟨by simp only;decide,by simp only;decide⟩⟩
    simp only[Int.add_zero]
    exact zpI h _
   ·rename_i c0 rest hline
    rw[hline]at g1 g2 g3
    refine⟨fun _=> ?_,⟨by simp only;decide,by simp only;decide⟩,⟨by simp only;decide,by simp only;decide⟩⟩
    have g3':=List.nodup_cons.1 g3
    have hs:=(h.seat k hk).2
    rw[hline]at hs
    simp only[List.length_cons]at g1
    refine zkm h hi ⟨by simp only;omega,by simp only;omega⟩ (by simp only;rw[he]) ⟨zc3.2 ⟨(zc3.1 hlk.1).1,zdR.1 (g2 _ (List.mem_cons_self ..)),by simp only;omega,by simp only;omega⟩,Int.le_refl _,zb1.2 ⟨by simp only[List.length_cons]at g1⊢;omega,fun x hx=>g2 x (List.mem_cons_of_mem _ hx),g3'.2⟩,zde.2 g3'.1⟩ (.inr (by simp only;omega)) ⟨hs _ (List.mem_cons_self ..),fun x hx=>hs x (List.mem_cons_of_mem _ hx)⟩
  ·split
   ·refine⟨fun _=> ?_,⟨by simp only;decide,by simp only;decide⟩,⟨by simp only;decide,by simp only;decide⟩⟩
    simp only[Int.add_zero]
    have hle:∀x∈(zh1 k.line c).1,x∈k.line:=by
     intro x hx
     unfold zh1 at hx
     split at hx
     ·exact hx
     ·exact zpJ hx
    have hsub:(zh1 k.line c).1.Sublist k.line:=by
     unfold zh1
     split
     ·exact List.Sublist.refl _
     ·exact List.eraseIdx_sublist ..
    refine zkm h hi ⟨Int.le_refl _,hT0.2⟩ (by simp only;rw[he]) ⟨zc3.2 (zc3.1 hlk.1),hlk.2.1,zb1.2 ⟨Nat.le_trans hsub.length_le g1,fun x hx=>g2 x (hle x hx),g3.sublist hsub⟩, ?_⟩ (.inl (by simp only;rw[he])) ⟨(h.seat k hk).1,fun x hx=>(h.seat k hk).2 x (hle x hx)⟩
    rw[zde]
    exact fun hx=>zde.1 hlk.2.2.2 (hle _ hx)
   ·exact⟨fun h=>by simp at h,⟨by simp only;decide,by simp only;decide⟩,⟨by simp only;decide,by simp only;decide⟩⟩
theorem zse {s:St} (h:RightS s) (a:Memo):RightS {s with memos:=zmP s.memos a}:=by
 unfold zmP
 split
 ·exact h
 ·rename_i hc
  simp only[Bool.or_eq_true,Bool.not_eq_true',not_or,Bool.not_eq_false]at hc
  split
  ·rename_i hf
   obtain⟨x,hx⟩:=Option.isSome_iff_exists.1 hf
   obtain⟨⟨hi,he⟩,hxc⟩:=zxh h.ms hx
   refine⟨h.time,h.num,h.token,h.ss,h.sok,h.snd,h.sl,h.ls,h.lok,h.lnd,h.ll, ?_, ?_,h.seat⟩
   ·rw[zq7,zmM hi (by rw[he,hxc])];exact zq7.1 h.ms
   ·intro m hm
    rcases zmN hm with rfl|hm
    ·exact hc.1
    ·exact h.mok m hm
  ·rename_i hf
   have hne:∀y∈s.memos,y.client≠a.client:=by
    intro y hy e
    refine hf ?_
    unfold zct
    rw[List.find?_isSome]
    exact⟨y,hy,by simpa using e⟩
   refine⟨h.time,h.num,h.token,h.ss,h.sok,h.snd,h.sl,h.ls,h.lok,h.lnd,h.ll, ?_, ?_,h.seat⟩
   ·refine zhX h.ms (fun y hy=> ?_) (fun y hy=> ?_)
    ·simpa using zkn hy
    ·have:=zko (zuO h.ms a.client) hy
     have:=hne y (List.mem_of_mem_drop hy)
     simp at*;omega
   ·intro m hm
    rcases zkj.1 hm with rfl|hm
    ·exact hc.1
    ·exact h.mok m hm
theorem zmL {r:Req} (h:Req.may r=true):isClient r.client=true∧(1≤r.seq∧r.seq≤zbE)∧((r.kind==3||r.kind==4)=true→nameP r.name=true):=by
 unfold Req.may at h
 simp only[Bool.and_eq_true,decide_eq_true_eq]at h
 obtain⟨⟨⟨⟨a,b⟩,c⟩,d⟩,e⟩:=h
 refine⟨zdR.2 ⟨a,b⟩,⟨c,d⟩,fun hk=> ?_⟩
 unfold zk1 at e
 split at e
 ·cases e
 ·split at e
  ·cases e
  ·rename_i h2
   have h3:(r.kind==3||r.kind==4||r.kind==5)=true:=by rw[hk];rfl
   rw[h3]at h2
   simpa using h2
structure DoneR (s t:St) (a:Reply):Prop where
 rt:RightS t
 tok:s.token≤t.token∧t.token≤s.token+4
 num:s.num≤t.num∧t.num≤s.num+1
 time:t.time=s.time
 code:0≤a.code∧a.code≤12
theorem zos {s:St} (h:RightS s) {c:Int} (hc:isClient c=true) (hN:s.num+1≤zbE):DoneR s (zdb s c).1 (zdb s c).2:=by
 unfold zdb
 cases hf:zaH s.sess c with
 |some x=>exact⟨h,by simp only;omega,by simp only;omega,rfl,by simp only;decide⟩
 |none=>
  simp only
  rw[zq5 h hc hN hf]
  by_cases h5:s.sess.length≥5
  ·rw[if_pos h5,if_pos (by simp)]
   exact⟨h,by simp only;omega,by simp only;omega,rfl,by simp only;decide⟩
  ·rw[if_neg h5,if_neg (by simp)]
   exact⟨zsc h hc hN hf (by omega),by simp only;omega,by simp only;omega,rfl,by simp only;decide⟩
theorem ziw {s:St} (h:RightS s) {r:Req} (hr:Req.may r=true) (hN:s.num+1≤zbE) (hT:s.token+4≤zbE):DoneR s (zbH s r).1 (zbH s r).2:=by
 obtain⟨hc,_,hnm⟩:=zmL hr
 unfold zbH
 split
 ·exact zos h hc hN
 ·cases hf:zaH s.sess r.client with
  |none=>exact⟨h,by simp only;omega,by simp only;omega,rfl,by simp only;decide⟩
  |some x=>
   simp only
   split
   ·exact⟨h,by simp only;omega,by simp only;omega,rfl,by simp only;decide⟩
   ·have h1:=zkl h hf
    have hf1:(zaH (zcX s.sess r.client s.time).1 r.client).isSome=true:=by
     rw[zhW h hf,zjn (zkk h hf).1,hf];rfl
    split
    ·rename_i hk
     obtain⟨t0,t10,tc,ta⟩:=zlU (w:=r.kind==3) h1 (hnm hk) hc hf1 hT
     simp only at t0 t10 tc ta
     by_cases e0:(za6 s.locks r.name r.client s.token (r.kind==3)).2.2=0
     ·rw[if_pos e0]
      exact⟨t0 e0,by simp only;omega,by simp only;omega,rfl,by simp only;omega⟩
     ·rw[if_neg e0]
      by_cases e10:(za6 s.locks r.name r.client s.token (r.kind==3)).2.2=10
      ·rw[if_pos e10]
       exact⟨t10 e10,by simp only;omega,by simp only;omega,rfl,by simp only;omega⟩
      ·rw[if_neg e10]
       exact⟨h1,by simp only;omega,by simp only;omega,rfl,by simp only;omega⟩
    ·split
     ·obtain⟨t0,tc,ta⟩:=zsd (name:=r.name) (c:=r.client) h1 hT
      simp only at t0 tc ta
      by_cases e0:(zb8 s.locks r.name r.client s.token).2.2=0
      ·rw[if_pos e0]
       exact⟨t0 e0,by simp only;omega,by simp only;omega,rfl,by simp only;omega⟩
      ·rw[if_neg e0]
       exact⟨h1,by simp only;omega,by simp only;omega,rfl,by simp only;omega⟩
     ·split
      ·obtain⟨a,b,c⟩:=zhY h1 [r.client] hT
       exact⟨a,⟨b,c⟩,by simp only[zbS];omega,rfl,by simp only;decide⟩
      ·exact⟨h1,by simp only;omega,by simp only;omega,rfl,by simp only;decide⟩
theorem zuF {s:St} (h:RightS s) {c:Int}:0≤(((zct s.memos c).map Memo.reply).getD ⟨0,0,0,[]⟩).code∧(((zct s.memos c).map Memo.reply).getD ⟨0,0,0,[]⟩).code≤12:=by
 cases hf:zct s.memos c with
 |none=>simp
 |some m=>
  have:=h.mok m (List.mem_of_find?_eq_some hf)
  unfold answerB zbR at this
  simp at this
  simp;omega
theorem zpH {s:St} (h:RightS s) (r:Req) (hN:s.num+1≤zbE) (hT:s.token+4≤zbE):DoneR s (zfg s r).1 (zfg s r).2.1:=by
 unfold zfg
 split
 ·exact⟨h,by simp only;omega,by simp only;omega,rfl,by simp only;decide⟩
 ·rename_i hm
  split
  ·exact⟨h,by simp only;omega,by simp only;omega,rfl,by simp only;decide⟩
  ·split
   ·exact⟨h,by simp only;omega,by simp only;omega,rfl,zuF h⟩
   ·have hd:=ziw h (r:=r) (by simpa using hm) hN hT
    exact⟨zse hd.rt _,hd.tok,hd.num,hd.time,hd.code⟩
def zyL {α:Type} (p:α→Bool) (x:α):List α→List α
 |[]=>[x]
 |y::r=>if p y=true then x::y::r else y::zyL p x r
theorem zre {α:Type} {p q:α→Bool} {x:α}:∀{l:List α},(∀y∈l,p y= !(q y))→zyL p x l=l.take (zq8 q l)++x::l.drop (zq8 q l)
 |[],_=>rfl
 |y::r,h=>by
  rw[zyL,zdt,h y (List.mem_cons_self ..)]
  cases hq:q y
  ·simp
  ·simp only[Bool.not_true,Bool.false_eq_true,if_false,if_true,List.take_succ_cons,List.drop_succ_cons,List.cons_append]
   rw[zre fun z hz=>h z (List.mem_cons_of_mem _ hz)]
theorem zE7 {l:List Sess} {c:Int} {x:Sess} (hf:zaH l c=none):zyL (fun y:Sess=>decide (y.client>c)) x l=l.take (zhe l c)++x::l.drop (zhe l c):=by
 refine zre fun y hy=> ?_
 have:y.client≠c:=fun e=>by
  have:=zdD.2 ⟨y,hy,e⟩
  rw[hf]at this;cases this
 rw[Bool.eq_iff_iff]
 simp
 omega
theorem zu9 {α:Type} {p:α→Bool} {x:α} {l:List α} {i:Nat} {put:Bool} (hi:i<l.length):
  (if put=true then l.drop i else zyL p x (l.drop i))=if(!put&&p l[i])=true then x::l[i]::l.drop (i+1)else l[i]::(if put=true then l.drop (i+1)else zyL p x (l.drop (i+1))):=by
 rw[List.drop_eq_getElem_cons hi]
 cases put
 ·simp only[Bool.not_false,Bool.true_and,Bool.false_eq_true,if_false,zyL]
 ·simp
set_option maxHeartbeats 1000000 in
theorem zxr (l:List Sess) (hs:SS l) (hl:l.length<2^30) (c num now:Int) (hc:isClient c=true) (h1:1≤num) (hn:0≤now∧now≤zbE) (hf:zaH l c=none) (hnum:numbered l num=false):
  CallOK prog 216 [.f (al l.length (za1 l)), .f (ai c), .f (ai num), .f (ai now)]
  (fun r o=>r=[.one (.own 3 (zea l c num now).1.length (za1 (zea l c num now).1) false),ri (zea l c num now).2]∧o=[]):=by
 refine CallOK.nil ?_
 refine zh func216 results216 ntmps216 call216 ?_
 simp only[f216,Option.getD]
 have hcl:=zsr c
 rw[hc]at hcl
 have hg1:=zkt num 1
 have hg2:=zkt now 0
 have hH:zbE=2305843009213693952:=rfl
 rw[show(decide (now≥0)&&decide (now≤2305843009213693952))=true by simp;omega]at hg2
 have hfi:=zfu l (by omega) c
 rw[hf]at hfi
 simp only[Option.isSome_none,Option.getD_none]at hfi
 have eo:zea l c num now=if decide (num>zbE)=true then([],1)else if decide ((l.length:Int)≥5)=true then([],5)else(l.take (zhe l c)++⟨c,num,now⟩::l.drop (zhe l c),0):=by
  have e1:decide (num<1)=false:=by simp;omega
  have e2:decide (now<0)=false:=by simp;omega
  have e3:decide (now>zbE)=false:=by simp;omega
  unfold zea
  rw[hf,hnum,hc,e1,e2,e3]
  cases decide (num>zbE)<;>simp
 generalize zea l c num now=R at eo⊢
 cases e4:decide (num>zbE)
 ·rw[e4,if_neg (by simp)]at eo
  rw[show(decide (num≥1)&&decide (num≤2305843009213693952))=true by simp at e4⊢;omega]at hg1
  refine zL trivial (I (hcl) (I (hg1) (hg2))) ?_
  refine zaf (τ:=Nat) (fun i=>⟨(al l.length (za1 l)::ai c::ai num::ai now::dq6 (ai i::zAq (zec (zec [])))),[(8,⟨2,[]⟩)]⟩)
   (fun i=>i≤l.length) (fun _=>()) (fun i=>l.length - i) 0
   (Gh.canon [] [8] [] zK rfl rfl) (Nat.zero_le _) ?_
  intro i hi0 hF K hK
  refine zw ?_
  refine zaa (fun hlt=> ?_) (fun hge=> ?_)
  ·have hi:i<l.length:=by simpa using hlt
   have hat:=zco hi
   have hw:=zai hi (by omega)
   have hne:(l[i].num==num)=false:=by
    have:=List.any_eq_false.1 hnum _ (List.getElem_mem hi)
    simpa using this
   refine zL0 (I hat (I hne (I @zax zca))) ?_
   exact hK _ (i+1) (Gh.canon [] [] [] (zk hw) rfl rfl) hi rfl (by omega)
  ·cases e5:decide ((l.length:Int)≥5)
   ·rw[e5,if_neg (by simp)]at eo
    refine zL e5 (hfi) ?_
    refine zaf (τ:=Nat×Bool×List Sess) (fun t=>⟨(al l.length (za1 l)::ai c::ai num::ai now::dq9 (.one (.own ⟨13,1,1⟩ 0 t.2.2.length)::ab t.2.1::ai t.1::dq6 (zec (zec [])))),[(8,⟨2,[]⟩),(11,⟨2,[]⟩),(13,⟨2,[none,roq 1 3 (za1 t.2.2)]⟩),(83,⟨2,[]⟩),(84,⟨2,[]⟩),(90,⟨2,[]⟩),(91,⟨2,[]⟩)]⟩)
     (fun t=>t.1≤l.length∧t.2.2.length≤2*t.1) (fun t=>t.2.2++(if t.2.1=true then l.drop t.1 else zyL (fun y:Sess=>decide (y.client>c)) ⟨c,num,now⟩ (l.drop t.1))) (fun t=>l.length - t.1) (0,false,[])
     ((Gh.nil (i:=13) (s:=13) (sz:=3) rfl).trans (Gh.canon [13] [83,84,90,91] [] zK rfl rfl)) ⟨Nat.zero_le _,by simp⟩ ?_
    intro⟨j,put,acc⟩ ⟨hj0,hac⟩ hF2 K2 hK2
    simp only[List.drop_zero,List.nil_append,Bool.false_eq_true,if_false]at hj0 hac hF2 hK2⊢
    refine zw ?_
    refine zaa (fun hlt2=> ?_) (fun hge2=> ?_)
    ·have hj:j<l.length:=by simpa using hlt2
     have haj:=zco hj
     have hwj:=zai hj (by omega)
     have hst:=zu9 (p:=fun y:Sess=>decide (y.client>c)) (x:=⟨c,num,now⟩) (put:=put) hj
     have htk:(za1 acc++[iD c,iD num,iD now]).take ((acc.length+1)*3)=za1 acc++[iD c,iD num,iD now]:=List.take_of_length_le (by rw[List.length_append,zax];simp only[List.length_cons,List.length_nil];omega)
     cases hb:(!put&&decide (l[j].client>c))
     ·simp only[hb,Bool.false_eq_true,if_false]at hst
      refine zL0 (I haj (I hb (I @zax zca))) ?_
      exact hK2 _ (j+1,put,acc++[l[j]]) (Gh.canon [13] [] [] (zk (I hwj (I @List.length_append.{0} @List.length_singleton.{0}))) rfl (by simp only[List.length_append,List.length_singleton];rw[zeZ];rfl)) ⟨hj,by simp only[List.length_append,List.length_singleton];omega⟩ (by simp only[List.append_assoc,List.singleton_append];rw[hst]) (by simp only;omega)
     ·simp only[hb,if_true]at hst
      refine zL0 (I haj (I hb (I htk (I @zax zca)))) ?_
      refine hK2 _ (j+1,true,acc++[⟨c,num,now⟩]++[l[j]]) (Gh.canon [13] [] [] (zk (I hwj (I @List.length_append.{0} @List.length_singleton.{0}))) rfl (by simp only[List.length_append,List.length_singleton];rw[zeZ,zeZ];rfl)) ⟨hj, ?_⟩ (by simp only[List.append_assoc,List.singleton_append];rw[hst];rfl) (by simp only;omega)
      simp only[List.length_append,List.length_singleton]
      omega
    ·have hj:j=l.length:=by
      have:¬(j:Int)<l.length:=by simpa using hge2
      omega
     rw[hj,List.drop_length]at hF2
     rw[zE7 hf]at hF2
     rw[←hF2]at eo
     cases put
     ·have hF3:R=(acc++[⟨c,num,now⟩],0):=eo
      rw[hF3]
      refine zL0 trivial ?_
      simp[zz1,zaA]
     ·have hF3:R=(acc++[],0):=eo
      rw[hF3,List.append_nil]
      refine zL0 trivial ?_
      simp[zz1,zaA]
   ·rw[e5,if_pos rfl]at eo
    rw[eo]
    refine zL e5 (hfi) ?_
    simp[zz1,zaA]
 ·rw[e4,if_pos rfl]at eo
  rw[eo]
  rw[show(decide (num≥1)&&decide (num≤2305843009213693952))=false by simp at e4⊢;omega]at hg1
  refine zL trivial (I (hcl) (I (hg1) (hg2))) ?_
  simp[zz1,zaA]
def zdS (c now:Int) (y:Sess):Sess:=if(y.client==c)=true then⟨y.client,y.num,max y.renewed now⟩else y
def zo4 (l:List Sess) (c now:Int) (i:Nat):List Sess:=(l.take i).map (zdS c now)++l.drop i
theorem zrf {l:List Sess} {c now:Int} {i:Nat} (hi:i≤l.length):(zo4 l c now i).length=l.length:=by
 unfold zo4
 rw[List.length_append,List.length_map,List.length_take,List.length_drop];omega
theorem zz4 {l:List Sess} {c now:Int} {i:Nat} (hi:i<l.length):∃h:i<(zo4 l c now i).length,(zo4 l c now i)[i]=l[i]:=by
 have hl:((l.take i).map (zdS c now)).length=i:=by rw[List.length_map,List.length_take];omega
 have h:(zo4 l c now i)[i]? =some l[i]:=by
  unfold zo4
  rw[List.getElem?_append_right (by omega),hl,Nat.sub_self,List.getElem?_drop,Nat.add_zero,List.getElem?_eq_getElem hi]
 exact zox h
theorem zva {l:List Sess} {c now:Int} {i:Nat} (hi:i<l.length):(zo4 l c now i).set i (zdS c now l[i])=zo4 l c now (i+1):=by
 have hl:((l.take i).map (zdS c now)).length=i:=by rw[List.length_map,List.length_take];omega
 unfold zo4
 rw[List.set_append_right _ _ (by omega),hl,Nat.sub_self,List.drop_eq_getElem_cons hi,List.set_cons_zero,List.take_add_one,List.getElem?_eq_getElem hi]
 simp only[Option.toList,List.map_append,List.map_cons,List.map_nil,List.append_assoc,List.cons_append,List.nil_append]
theorem zoK {l:List Sess} (hs:SS l) {c now:Int} {x:Sess} (hx:zaH l c=some x):l.map (zdS c now)=l.set (zhe l c) ⟨x.client,x.num,max x.renewed now⟩:=by
 obtain⟨⟨hi,he⟩,hc⟩:=zmT hs hx
 apply List.ext_getElem (by simp)
 intro j h1 h2
 have hj:j<l.length:=by simpa using h1
 rw[List.getElem_map,List.getElem_set]
 split
 ·rename_i e
  subst e
  rw[he]
  unfold zdS
  rw[if_pos (by simpa using hc)]
 ·rename_i e
  unfold zdS
  rw[if_neg]
  intro h
  have hjc:l[j].client=c:=by simpa using h
  have hpc:l[zhe l c].client=c:=by rw[he];exact hc
  rcases Nat.lt_or_ge j (zhe l c)with q|q
  ·have:=List.pairwise_iff_getElem.1 hs j (zhe l c) hj hi q
   omega
  ·have:=List.pairwise_iff_getElem.1 hs (zhe l c) j hi hj (by omega)
   omega
theorem zvb (l:List Sess) (hs:SS l) (hl:l.length<2^30) (c now:Int) (hn:0≤now∧now≤zbE) (hf:(zaH l c).isSome=true):CallOK prog 206 [.f (al l.length (za1 l)), .f (ai c), .f (ai now)]
  (fun r o=>r=[.one (.own 3 (zcX l c now).1.length (za1 (zcX l c now).1) false),ri (zcX l c now).2]∧o=[]):=by
 refine CallOK.nil ?_
 refine zh func206 results206 ntmps206 call206 ?_
 simp only[f206,Option.getD]
 have hg2:=zkt now 0
 have hH:zbE=2305843009213693952:=rfl
 rw[show(decide (now≥0)&&decide (now≤2305843009213693952))=true by simp;omega]at hg2
 have hfi:=zfu l (by omega) c
 rw[hf]at hfi
 obtain⟨x,hx⟩:=Option.isSome_iff_exists.1 hf
 have hr:zcX l c now=(l.map (zdS c now),0):=by
  unfold zcX
  rw[if_neg (by simp;omega),hx,zoK hs hx]
 rw[hr]
 refine zL @zax (I (hg2) (hfi)) ?_
 refine zaf (τ:=Nat) (fun i=>⟨(dd::ai c::ai now::dq7 (.one (.own ⟨10,1,1⟩ 0 l.length)::ai i::zAt [])),[(8,⟨2,[]⟩),(23,⟨2,[]⟩),(10,⟨2,[none,roq 1 3 (za1 (zo4 l c now i))]⟩)]⟩)
  (fun i=>i≤l.length) (fun _=>()) (fun i=>l.length - i) 0
  (Gh.canon [10] [] [] zK rfl rfl) (Nat.zero_le _) ?_
 intro i hi0 hF K hK
 refine zw ?_
 refine zaa (fun hlt=> ?_) (fun hge=> ?_)
 ·have hi:i<l.length:=by simpa using hlt
  have hw:=zai hi (by omega)
  obtain⟨hic,hce⟩:=zz4 (c:=c) (now:=now) hi
  have hat:=zco hic
  rw[hce]at hat
  have hat2:(za1 (zo4 l c now i)).drop (i*3+2)=iD l[i].renewed::za1 ((zo4 l c now i).drop (i+1)):=by rw[←List.drop_drop,hat];rfl
  have hsu:=zva (c:=c) (now:=now) hi
  cases hb:l[i].client==c
  ·have hrx:zdS c now l[i]=l[i]:=by unfold zdS;rw[if_neg (by rw[hb];simp)]
   have hsame:zo4 l c now (i+1)=zo4 l c now i:=by
    rw[←hsu,hrx]
    conv=>lhs;rw[←hce]
    exact List.set_getElem_self ..
   repeat'(first|(with_reducible first|refine zae _ _ ?_|refine zcm ?_|refine zcn ?_)|rw[zbP]|simp only[hat,hb,←List.map_drop,List.map_cons,List.cons_append,List.nil_append,zax,zrf hi0,zY,Int.reduceEq,Int.reduceBEq,Int.reduceBNe,Nat.reduceSub,Nat.reduceEqDiff,Nat.reduceAdd,Nat.reduceMul,Nat.reduceLeDiff,Nat.reduceLT,Nat.reduceBEq,reduceCtorEq]|refine zbb ?_|refine zaa (fun hb=> ?_) (fun hb=> ?_)|(refine And.intro ?_ ?_;exact zI)|refine And.intro (fun hg=> ?_) (fun hg=> ?_)|exact zC|fail)
   exact hK _ (i+1) (Gh.canon [10] [] [] (zk hw) rfl (by rw[hsame];rfl)) hi rfl (by omega)
  ·have hrx:zdS c now l[i]=⟨l[i].client,l[i].num,max l[i].renewed now⟩:=by unfold zdS;rw[if_pos hb]
   have hset:=zhg Sess.enc 3 (fun _=>rfl) hic (k:=2) (by decide) (iD (max l[i].renewed now)) (zdS c now l[i]) (by rw[hce,hrx];rfl)
   rw[hsu]at hset
   repeat'(first|(with_reducible first|refine zae _ _ ?_|refine zcm ?_|refine zcn ?_)|rw[zbP]|simp only[hat,hat2,hb,hset,←List.map_drop,List.map_cons,List.cons_append,List.nil_append,zax,zrf hi0,zY,Int.reduceEq,Int.reduceBEq,Int.reduceBNe,Nat.reduceSub,Nat.reduceEqDiff,Nat.reduceAdd,Nat.reduceMul,Nat.reduceLeDiff,Nat.reduceLT,Nat.reduceBEq,reduceCtorEq]|refine zbb ?_|refine zaa (fun hb=> ?_) (fun hb=> ?_)|(refine And.intro ?_ ?_;exact zI)|refine And.intro (fun hg=> ?_) (fun hg=> ?_)|exact zC|fail)
   exact hK _ (i+1) (Gh.canon [10] [] [] (zk hw) rfl rfl) hi rfl (by omega)
 ·have hi:i=l.length:=by
   have:¬(i:Int)<l.length:=by simpa using hge
   omega
  have hcu:zo4 l c now i=l.map (zdS c now):=by rw[hi];unfold zo4;rw[List.take_length,List.drop_length,List.append_nil]
  rw[hcu]
  refine zL0 trivial ?_
  simp[zz1,zaA]
theorem zvc (l:List Sess) (hl:l.length<2^30) (c:Int):CallOK prog 204 [.f (al l.length (za1 l)), .f (ai c)]
  (fun r o=>r=[.one (.own 3 (if(zaH l c).isSome=true then l.filter (fun x=>x.client !=c)else []).length (za1 (if(zaH l c).isSome=true then l.filter (fun x=>x.client !=c)else [])) false),ri (if(zaH l c).isSome=true then 0 else 6)]∧o=[]):=by
 refine CallOK.nil ?_
 refine zh func204 results204 ntmps204 call204 ?_
 simp only[f204,Option.getD]
 have hfi:=zfu l (by omega) c
 cases hf:(zaH l c).isSome
 ·rw[hf]at hfi
  rw[if_neg (by simp),if_neg (by simp)]
  refine zL trivial (hfi) ?_
  simp[zz1,zaA]
 ·rw[hf]at hfi
  rw[if_pos rfl,if_pos rfl]
  refine zL trivial (hfi) ?_
  refine zaf (τ:=Nat×List Sess) (fun t=>⟨(al l.length (za1 l)::ai c::dq6 (.one (.own ⟨8,1,1⟩ 0 t.2.length)::ai t.1::zy3 [])),[(6,⟨2,[]⟩),(8,⟨2,[none,roq 1 3 (za1 t.2)]⟩),(36,⟨2,[]⟩),(37,⟨2,[]⟩)]⟩)
   (fun t=>t.1≤l.length∧t.2.length≤t.1) (fun t=>t.2++(l.drop t.1).filter (fun x=>x.client !=c)) (fun t=>l.length - t.1) (0,[])
   ((Gh.nil (i:=8) (s:=8) (sz:=3) rfl).trans (Gh.canon [8] [36,37] [] zK rfl rfl)) ⟨Nat.zero_le _,Nat.zero_le _⟩ ?_
  intro⟨i,acc⟩ ⟨hi0,hac⟩ hF K hK
  simp only[List.drop_zero,List.nil_append]at hi0 hac hF hK⊢
  refine zw ?_
  refine zaa (fun hlt=> ?_) (fun hge=> ?_)
  ·have hi:i<l.length:=by simpa using hlt
   have hat:=zco hi
   have hw:=zai hi (by omega)
   have hFs:=List.drop_eq_getElem_cons hi
   cases hb:l[i].client !=c
   ·refine zL0 (I hat (I hb (I @zax zca))) ?_
    exact hK _ (i+1,acc) (Gh.canon [8] [] [] (zk hw) rfl rfl) ⟨hi,by simp only;omega⟩ (by simp only;rw[hFs,List.filter_cons,hb,if_neg (by simp)]) (by simp only;omega)
   ·refine zL0 (I hat (I hb (I @zax zca))) ?_
    exact hK _ (i+1,acc++[l[i]]) (Gh.canon [8] [] [] (zk (I hw (I @List.length_append.{0} @List.length_singleton.{0}))) rfl (by simp only[List.length_append,List.length_singleton];rw[zeZ];rfl)) ⟨hi,by simp only[List.length_append,List.length_singleton];omega⟩ (by simp only[List.append_assoc,List.singleton_append];rw[hFs,List.filter_cons,hb,if_pos rfl]) (by simp only;omega)
  ·have hi:i=l.length:=by
    have:¬(i:Int)<l.length:=by simpa using hge
    omega
   rw[hi,List.drop_length,List.filter_nil,List.append_nil]at hF
   rw[←hF]
   refine zL0 trivial ?_
   simp[zz1,zaA]
def zcu (r:Reply):Prop:=r.held.length<2^30∧∀g∈r.held,g.name.size<2^62
theorem zhh (r:Reply) (hr:zcu r):CallOK prog 74 [.f (.agg r.lent)] (fun x o=>x=[rb (zbR r)]∧o=[]):=by
 refine zh func74 results74 ntmps74 call74 ?_
 simp only[f74,Option.getD]
 obtain⟨h1,h2⟩:=hr
 cases hA:(decide (r.code<0)||decide (r.code>12)||decide (r.session<0)||decide (r.session>2305843009213693952)||decide (r.ahead<0)||decide (r.ahead>3))
 ·cases hB:(decide ((r.held.length:Int)>4)||(r.session==0)&&decide ((r.held.length:Int)>0))
  ·have hs:zbR r=zbN (zcG r.held) 0 r.held:=by
    unfold zbR
    rw[show(decide (r.code<0)||decide (r.code>12)||decide (r.session<0)||decide (r.session>zbE)||decide (r.ahead<0)||decide (r.ahead>3))=false from hA,hB]
    rfl
   rw[hs]
   refine zL0 (I hA hB) ?_
   refine zaf (τ:=Nat) (fun i=>⟨(dd::ptq 1::dq7 (zec (al r.held.length (zaK r.held)::ai r.held.length::ai i::zy5 []))),[(1,⟨2,[obq 1 [di r.code,di r.session,di r.ahead, .lent r.held.length (zaK r.held)],none,none,none,none]⟩),(4,⟨2,[]⟩)]⟩)
    (fun i=>i≤r.held.length) (fun i=>zbN (zcG r.held) i (r.held.drop i)) (fun i=>r.held.length - i) 0
    (Gh.canon [1] [4] [] zK rfl rfl) (Nat.zero_le _) ?_
   intro i hi0 hF K hK
   rw[List.drop_zero]at hF
   refine zw ?_
   refine zaa (fun hlt=> ?_) (fun hge=> ?_)
   ·have hi:i<r.held.length:=by simpa using hlt
    have hat:=zcD hi
    have hw:=zai hi (by omega)
    rw[za2 hi]at hF
    have hnm:=zmY r.held[i].name (h2 _ (List.getElem_mem hi))
    cases e0:decide ((i:Int)>0)
    ·have h0:i=0:=by simpa using e0
     have hq:zcG r.held i r.held[i]= !(!nameP r.held[i].name||decide (r.held[i].token<1)||decide (r.held[i].token>2305843009213693952)):=by
      unfold zcG
      have:decide (i>0)=false:=by simpa using e0
      rw[this,Bool.false_and,Bool.or_false]
     have hp:(zaK r.held).drop ((IntKind.i64.wrap ((i:Int) - 1)).toNat*2)=r.held[i].enc++zaK (r.held.drop (i+1)):=by
      rw[←zcD hi,h0];rfl
     repeat'(first|exact zC|refine zq (I hat (I hp (I e0 (I @zas zca)))) ?_|refine zx (hnm) ?_|(apply zaa<;>intro hb)|(apply I;exact zI)|(apply I<;>intro hg))
     ·rw[hq,hb,if_neg (by simp)]at hF
      rw[←hF]
     ·exact hK _ (i+1) (Gh.canon [1] [] [] (zk hw) rfl rfl) hi (by rw[za2 hi,hq,hb];rfl) (by omega)
    ·have h0:0<i:=by simpa using e0
     have hq:zcG r.held i r.held[i]= !(!nameP r.held[i].name||decide (r.held[i].token<1)||decide (r.held[i].token>2305843009213693952)|| !(zeF (r.held[i - 1]'(by omega)).name r.held[i].name)):=by
      unfold zcG zsg
      have:decide (i>0)=true:=by simpa using e0
      rw[this,List.getElem?_eq_getElem (by omega)]
      simp only[Bool.true_and,Option.map_some,Option.getD_some]
     have hp:=zcD (show i - 1<r.held.length by omega)
     have hw1:IntKind.i64.wrap ((i:Int) - 1)=((i - 1:Nat):Int):=by rw[wrap64 (by omega) (by omega)];omega
     repeat'(first|exact zC|refine zq (I hat (I hp (I hw1 (I e0 (I @zas zca))))) ?_|refine zx (hnm) ?_|(apply zaa<;>intro hb)|(apply I;exact zI)|(apply I<;>intro hg))
     ·rw[hq,hb,if_neg (by simp)]at hF
      rw[←hF]
     ·exact hK _ (i+1) (Gh.canon [1] [] [] (zk hw) rfl rfl) hi (by rw[za2 hi,hq,hb];rfl) (by omega)
   ·have hi:i=r.held.length:=by
     have:¬(i:Int)<r.held.length:=by simpa using hge
     omega
    rw[zeh hi]at hF
    rw[←hF]
    exact zW0 trivial
  ·have hs:zbR r=false:=by
    unfold zbR
    rw[hB,Bool.not_true,Bool.and_false,Bool.false_and]
   rw[hs]
   exact zW0 (I hA hB)
 ·have hs:zbR r=false:=by
   unfold zbR
   rw[show(decide (r.code<0)||decide (r.code>12)||decide (r.session<0)||decide (r.session>zbE)||decide (r.ahead<0)||decide (r.ahead>3))=true from hA]
   rfl
  rw[hs]
  exact zW0 hA
theorem zeQ (m:Memo) (hr:zcu m.reply):CallOK prog 35 [.f (.agg m.lent)] (fun x o=>x=[rb (answerB m)]∧o=[]):=by
 refine zh func35 results35 ntmps35 call35 ?_
 simp only[f35,Option.getD]
 refine zL trivial (zhh m.reply hr) ?_
 rfl
def zgY:Memo:=⟨0,0,⟨0,0,0,[]⟩⟩
theorem zoA (l:List Memo) (hl:l.length<2^30) (hll:∀m∈l,zcu m.reply):CallOK prog 122 [.f (al l.length (zaM l))] (fun r o=>r=[rb (memoB l)]∧o=[]):=by
 refine zh func122 results122 ntmps122 call122 ?_
 simp only[f122,Option.getD]
 refine zL0 @zaC ?_
 refine zaf (τ:=Nat) (fun i=>⟨(al l.length (zaM l)::dq4 (al l.length (zaM l)::ai l.length::ai i::zy3 [])),[(4,⟨2,[]⟩)]⟩)
  (fun i=>i≤l.length) (fun i=>zbN (zow l) i (l.drop i)) (fun i=>l.length - i) 0
  (Gh.canon [] [4] [] zK rfl rfl) (Nat.zero_le _) ?_
 intro i hi0 hF K hK
 rw[List.drop_zero]at hF
 refine zw ?_
 refine zaa (fun hlt=> ?_) (fun hge=> ?_)
 ·have hi:i<l.length:=by simpa using hlt
  have hat:=zdI hi
  have hw:=zai hi (by omega)
  rw[za2 hi]at hF
  have hma:=zeQ l[i] (hll _ (List.getElem_mem hi))
  cases e0:decide ((i:Int)>0)
  ·have h0:i=0:=by simpa using e0
   have hq:zow l i l[i]= !(!answerB l[i]):=by
    unfold zow
    have:decide (i>0)=false:=by simpa using e0
    rw[this,Bool.false_and,Bool.or_false]
   have hp:(zaM l).drop ((IntKind.i64.wrap ((i:Int) - 1)).toNat*6)=l[i].enc++zaM (l.drop (i+1)):=by
    rw[←zdI hi,h0];rfl
   repeat'(first|exact zC|refine zq (I hat (I hp (I e0 (I @zaC zca)))) ?_|refine zx (hma) ?_|(apply zaa<;>intro hb)|(apply I;exact zI)|(apply I<;>intro hg))
   ·rw[hq,hb,if_neg (by simp)]at hF
    unfold memoB
    rw[←hF]
   ·exact hK _ (i+1) (Gh.canon [] [] [] (zk hw) rfl rfl) hi (by rw[za2 hi,hq,hb];rfl) (by omega)
  ·have h0:0<i:=by simpa using e0
   have hq:zow l i l[i]= !(!answerB l[i]||decide ((l[i - 1]'(by omega)).client≥l[i].client)):=by
    unfold zow zuN
    have:decide (i>0)=true:=by simpa using e0
    rw[this,List.getElem?_eq_getElem (by omega)]
    simp only[Bool.true_and,Option.map_some,Option.getD_some]
   have hp:=zdI (show i - 1<l.length by omega)
   have hw1:IntKind.i64.wrap ((i:Int) - 1)=((i - 1:Nat):Int):=by rw[wrap64 (by omega) (by omega)];omega
   repeat'(first|exact zC|refine zq (I hat (I hp (I hw1 (I e0 (I @zaC zca))))) ?_|refine zx (hma) ?_|(apply zaa<;>intro hb)|(apply I;exact zI)|(apply I<;>intro hg))
   ·rw[hq,hb,if_neg (by simp)]at hF
    unfold memoB
    rw[←hF]
   ·exact hK _ (i+1) (Gh.canon [] [] [] (zk hw) rfl rfl) hi (by rw[za2 hi,hq,hb];rfl) (by omega)
 ·have hi:i=l.length:=by
   have:¬(i:Int)<l.length:=by simpa using hge
   omega
  rw[zeh hi]at hF
  unfold memoB
  rw[←hF]
  exact zW0 trivial
end Go.Proofs.YtliimajkpggbhaaGreat
