import Derived.Test.YtngleemijkaeoaaGreatVC
namespace Go.Proofs.YtngleemijkaeoaaGreat
open Go.Pk
set_option maxRecDepth 100000
set_option linter.unusedSimpArgs false
set_option linter.unusedVariables false
structure RightS (s:St):Prop where
 time:0≤s.time∧s.time≤zaT
 num:0≤s.num∧s.num≤zaT
 token:0≤s.token∧s.token≤zaT
 ss:SS s.sess
 sok:∀x∈s.sess,zfJ x=true∧x.num≤s.num
 snd:s.sess.Pairwise fun a b=>a.num≠b.num
 sl:s.sess.length≤5
 ls:SL s.locks
 lok:∀k∈s.locks,zmj k=true∧k.token≤s.token∧lineB k.line=true∧hasI k.line k.holder=false
 lnd:s.locks.Pairwise fun a b=>a.token≠b.token
 ll:s.locks.length≤4
 ms:SM s.memos
 mok:∀m∈s.memos,answerB m=true
 seat:∀k∈s.locks,(zaC s.sess k.holder).isSome=true∧∀c∈k.line,(zaC s.sess c).isSome=true
theorem zda {α:Type} {r:α→α→Prop} (ht:∀a b c,r a b→r b c→r a c):∀{l:List α},(∀j (hj:j<l.length),0<j→r (l[j - 1]'(by omega)) l[j])→l.Pairwise r
 |[],_=>List.Pairwise.nil
 |[x],_=>by simp
 |x::y::l,h=>by
  have h1:r x y:=h 1 (by simp) (by decide)
  have ih:(y::l).Pairwise r:=zda ht fun j hj h0=>by
   have:=h (j+1) (by simpa using hj) (by omega)
   obtain⟨k,rfl⟩:∃k,j=k+1:=⟨j - 1,by omega⟩
   simpa using this
  refine List.pairwise_cons.2 ⟨fun z hz=> ?_,ih⟩
  rcases List.mem_cons.1 hz with rfl|hz
  ·exact h1
  ·exact ht _ _ _ h1 ((List.pairwise_cons.1 ih).1 z hz)
theorem zdb {α:Type} {r:α→α→Prop} {l:List α} (h:l.Pairwise r) (j:Nat) (hj:j<l.length) (h0:0<j):r (l[j - 1]'(by omega)) l[j]:=
 List.pairwise_iff_getElem.1 h (j - 1) j (by omega) hj (by omega)
theorem zd8 {α:Type} {l:List α} {i:Nat} {p:α→Bool} (hi:i<l.length):(l.take i).any p=false↔∀j (hj:j<l.length),j<i→p l[j]=false:=by
 rw[List.any_eq_false]
 constructor
 ·intro h j hj hji
  have hm:l[j]∈l.take i:=by
   rw[List.mem_take_iff_getElem]
   exact⟨j,by omega,rfl⟩
  simpa using h _ hm
 ·intro h x hx
  rw[List.mem_take_iff_getElem]at hx
  obtain⟨j,hj,rfl⟩:=hx
  simp[h j (by omega) (by omega)]
theorem zng {l:List Sess}:sessB l=true↔l.length≤5∧(∀x∈l,zfJ x=true)∧SS l∧l.Pairwise fun a b=>a.num≠b.num:=by
 unfold sessB
 rw[Bool.and_eq_true,zb4]
 simp only[Nat.zero_add,Bool.not_eq_true',decide_eq_false_iff_not]
 constructor
 ·rintro⟨h1,h2⟩
  have q:∀j (hj:j<l.length),zfJ l[j]=true∧(0<j→znj l j<l[j].client)∧(∀k (hk:k<l.length),k<j→l[k].num≠l[j].num):=by
   intro j hj
   have:=h2 j hj
   unfold zhT at this
   simp only[Bool.and_eq_true,Bool.not_eq_true',Bool.or_eq_false_iff,Bool.and_eq_false_iff,decide_eq_false_iff_not]at this
   obtain⟨a,b,c⟩:=this
   refine⟨a,fun h0=> ?_,fun k hk hkj=> ?_⟩
   ·rcases b with b|b
    ·omega
    ·omega
   ·have:=(zd8 hj).1 c k hk hkj
    simpa using this
  refine⟨by omega,fun x hx=> ?_, ?_, ?_⟩
  ·obtain⟨j,hj,rfl⟩:=List.getElem_of_mem hx
   exact(q j hj).1
  ·refine zda (fun a b c h1 h2=>by omega) fun j hj h0=> ?_
   have:=(q j hj).2.1 h0
   unfold znj at this
   rw[List.getElem?_eq_getElem (by omega)]at this
   simpa using this
  ·rw[List.pairwise_iff_getElem]
   intro i j hi hj hij
   exact(q j hj).2.2 i hi hij
 ·rintro⟨h1,h2,h3,h4⟩
  refine⟨by omega,fun j hj=> ?_⟩
  unfold zhT
  simp only[Bool.and_eq_true,Bool.not_eq_true',Bool.or_eq_false_iff,Bool.and_eq_false_iff,decide_eq_false_iff_not]
  refine⟨h2 _ (List.getElem_mem hj), ?_, ?_⟩
  ·by_cases h0:0<j
   ·right
    have:=zdb h3 j hj h0
    unfold znj
    rw[List.getElem?_eq_getElem (by omega)]
    simpa using this
   ·left;omega
  ·exact(zd8 hj).2 fun k hk hkj=>by
    have:=List.pairwise_iff_getElem.1 h4 k j hk hj hkj
    simpa using this
theorem zbB {l:List Int}:lineB l=true↔l.length≤3∧(∀c∈l,isClient c=true)∧l.Nodup:=by
 unfold lineB
 rw[Bool.and_eq_true,zb4]
 simp only[Nat.zero_add,decide_eq_true_eq]
 constructor
 ·rintro⟨h1,h2⟩
  have q:∀j (hj:j<l.length),isClient l[j]=true∧(∀k (hk:k<l.length),k<j→l[k]≠l[j]):=by
   intro j hj
   have:=h1 j hj
   unfold zmi at this
   simp only[Bool.not_eq_true',Bool.or_eq_false_iff,Bool.not_eq_false']at this
   refine⟨this.1,fun k hk hkj=> ?_⟩
   have h3:=(zd8 hj).1 this.2 k hk hkj
   have h4:¬l[j]=l[k]:=by simpa using h3
   exact fun h=>h4 h.symm
  refine⟨by omega,fun x hx=> ?_, ?_⟩
  ·obtain⟨j,hj,rfl⟩:=List.getElem_of_mem hx
   exact(q j hj).1
  ·unfold List.Nodup
   rw[List.pairwise_iff_getElem]
   intro i j hi hj hij
   exact(q j hj).2 i hi hij
 ·rintro⟨h1,h2,h3⟩
  refine⟨fun j hj=> ?_,by omega⟩
  unfold zmi
  simp only[Bool.not_eq_true',Bool.or_eq_false_iff,Bool.not_eq_false']
  refine⟨h2 _ (List.getElem_mem hj), ?_⟩
  exact(zd8 hj).2 fun k hk hkj=>by
   unfold List.Nodup at h3
   have:=List.pairwise_iff_getElem.1 h3 k j hk hj hkj
   simpa using fun h=>this h.symm
theorem znh {l:List Lk}:lockB l=true↔l.length≤4∧(∀k∈l,zmj k=true∧lineB k.line=true∧hasI k.line k.holder=false)∧SL l∧l.Pairwise fun a b=>a.token≠b.token:=by
 unfold lockB
 rw[Bool.and_eq_true,zb4]
 simp only[Nat.zero_add,decide_eq_true_eq]
 constructor
 ·rintro⟨h1,h2⟩
  have q:∀j (hj:j<l.length),(zmj l[j]=true∧lineB l[j].line=true∧hasI l[j].line l[j].holder=false)∧(0<j→zdh (znk l j) l[j].name=true)∧(∀k (hk:k<l.length),k<j→l[k].token≠l[j].token):=by
   intro j hj
   have:=h1 j hj
   unfold zhV at this
   simp only[Bool.and_eq_true,Bool.not_eq_true',Bool.or_eq_false_iff,Bool.and_eq_false_iff,decide_eq_false_iff_not,Bool.not_eq_false']at this
   obtain⟨⟨a,⟨b1,b2⟩,b3⟩,c⟩:=this
   refine⟨⟨a,b1,b2⟩,fun h0=> ?_,fun k hk hkj=> ?_⟩
   ·rcases b3 with b|b
    ·omega
    ·exact b
   ·have:=(zd8 hj).1 c k hk hkj
    simpa using this
  refine⟨by omega,fun x hx=> ?_, ?_, ?_⟩
  ·obtain⟨j,hj,rfl⟩:=List.getElem_of_mem hx
   exact(q j hj).1
  ·refine zda (r:=fun x y:Lk=>zdh x.name y.name=true) (fun a b c h1 h2=>zfX h1 h2) fun j hj h0=> ?_
   have:=(q j hj).2.1 h0
   unfold znk at this
   rw[List.getElem?_eq_getElem (by omega)]at this
   simpa using this
  ·rw[List.pairwise_iff_getElem]
   intro i j hi hj hij
   exact(q j hj).2.2 i hi hij
 ·rintro⟨h1,h2,h3,h4⟩
  refine⟨fun j hj=> ?_,by omega⟩
  unfold zhV
  simp only[Bool.and_eq_true,Bool.not_eq_true',Bool.or_eq_false_iff,Bool.and_eq_false_iff,decide_eq_false_iff_not,Bool.not_eq_false']
  obtain⟨a,b,c⟩:=h2 _ (List.getElem_mem hj)
  refine⟨⟨a,⟨b,c⟩, ?_⟩, ?_⟩
  ·by_cases h0:0<j
   ·right
    have:=zdb h3 j hj h0
    unfold znk
    rw[List.getElem?_eq_getElem (by omega)]
    simpa using this
   ·left;omega
  ·exact(zd8 hj).2 fun k hk hkj=>by
    have:=List.pairwise_iff_getElem.1 h4 k j hk hj hkj
    simpa using this
theorem zni {l:List Memo}:memoB l=true↔(∀m∈l,answerB m=true)∧SM l:=by
 unfold memoB
 rw[zb4]
 simp only[Nat.zero_add]
 constructor
 ·intro h1
  have q:∀j (hj:j<l.length),answerB l[j]=true∧(0<j→znl l j<l[j].client):=by
   intro j hj
   have:=h1 j hj
   unfold zhW at this
   simp only[Bool.not_eq_true',Bool.or_eq_false_iff,Bool.and_eq_false_iff,decide_eq_false_iff_not,Bool.not_eq_false']at this
   refine⟨this.1,fun h0=> ?_⟩
   rcases this.2 with b|b
   ·omega
   ·omega
  refine⟨fun x hx=> ?_, ?_⟩
  ·obtain⟨j,hj,rfl⟩:=List.getElem_of_mem hx
   exact(q j hj).1
  ·refine zda (fun a b c h1 h2=>by omega) fun j hj h0=> ?_
   have:=(q j hj).2 h0
   unfold znl at this
   rw[List.getElem?_eq_getElem (by omega)]at this
   simpa using this
 ·rintro⟨h2,h3⟩ j hj
  unfold zhW
  simp only[Bool.not_eq_true',Bool.or_eq_false_iff,Bool.and_eq_false_iff,decide_eq_false_iff_not,Bool.not_eq_false']
  refine⟨h2 _ (List.getElem_mem hj), ?_⟩
  by_cases h0:0<j
  ·right
   have:=zdb h3 j hj h0
   unfold znl
   rw[List.getElem?_eq_getElem (by omega)]
   simpa using this
  ·left;omega
theorem zmh {s:St}:zfK s=true↔RightS s:=by
 unfold zfK zhX within
 simp only[Bool.and_eq_true,decide_eq_true_eq,zng,znh,zni,List.all_eq_true,List.mem_cons,forall_eq_or_imp]
 constructor
 ·rintro⟨⟨⟨⟨⟨⟨⟨⟨h1,h2⟩,h3⟩,a,b,c,d⟩,e,f,g,h⟩,i,j⟩,k⟩,l⟩,m⟩
  exact⟨h1,h2,h3,c,fun x hx=>⟨b x hx,k x hx⟩,d,a,g,fun k hk=>⟨(f k hk).1,l k hk,(f k hk).2⟩,h,e,j,i,m⟩
 ·intro h
  exact⟨⟨⟨⟨⟨⟨⟨⟨h.time,h.num⟩,h.token⟩,h.sl,fun x hx=>(h.sok x hx).1,h.ss,h.snd⟩,h.ll,fun k hk=>⟨(h.lok k hk).1,(h.lok k hk).2.2⟩,h.ls,h.lnd⟩,h.mok,h.ms⟩,fun x hx=>(h.sok x hx).2⟩,fun k hk=>(h.lok k hk).2.1⟩,h.seat⟩
theorem zpn {l:List Int} {v:Int}:hasI l v=true↔v∈l:=by
 unfold hasI
 simp[List.any_eq_true]
theorem zb3 {l:List Int} {v:Int}:hasI l v=false↔v ∉ l:=by
 rw[←Bool.not_eq_true,zpn]
theorem zcq {l:List Sess} {c:Int}:(zaC l c).isSome=true↔∃x∈l,x.client=c:=by
 unfold zaC
 simp
theorem zeS {α:Type} {r:α→α→Prop} {l:List α} {x:α} {k:Nat} (hl:l.Pairwise r) (h1:∀y∈l.take k,r y x) (h2:∀y∈l.drop k,r x y):(l.take k++x::l.drop k).Pairwise r:=by
 rw[←List.take_append_drop k l]at hl
 obtain⟨a,b,c⟩:=List.pairwise_append.1 hl
 refine List.pairwise_append.2 ⟨a,List.pairwise_cons.2 ⟨h2,b⟩,fun y hy z hz=> ?_⟩
 rcases List.mem_cons.1 hz with rfl|hz
 ·exact h1 y hy
 ·exact c y hy z hz
theorem zgl {α:Type} {p:α→Bool} {l:List α} {y:α} (h:y∈l.take (zk5 p l)):p y=true:=by
 rw[List.mem_take_iff_getElem]at h
 obtain⟨j,hj,rfl⟩:=h
 exact zfs (by omega) (by omega)
theorem zgm {α:Type} {p:α→Bool} {l:List α} {y:α} (hm:zsB p l) (h:y∈l.drop (zk5 p l)):p y=false:=by
 obtain⟨j,hj,rfl⟩:=List.getElem_of_mem h
 rw[List.getElem_drop]
 exact zft _ hm (by omega)
theorem zhR {α β:Type} {f:α→β} {l:List α} {j:Nat} {x:α} (hj:j<l.length) (h:f x=f l[j]):(l.set j x).map f=l.map f:=by
 rw[List.map_set,h]
 apply List.ext_getElem (by simp)
 intro k h1 h2
 rw[List.getElem_set]
 split
 ·rename_i e;subst e;simp
 ·rfl
theorem zhS {α:Type} {l:List α} {j:Nat} {x y:α} (h:y∈l.set j x):y=x∨y∈l:=by
 rcases List.mem_or_eq_of_mem_set h with h|h
 ·exact .inr h
 ·exact .inl h
theorem zqF {l:List Sess}:SS l↔(l.map Sess.client).Pairwise (·<·):=by unfold SS;rw[List.pairwise_map]
theorem zk4 {l:List Lk}:SL l↔(l.map Lk.name).Pairwise (fun a b=>zdh a b=true):=by unfold SL;rw[List.pairwise_map]
theorem znf {l:List Memo}:SM l↔(l.map Memo.client).Pairwise (·<·):=by unfold SM;rw[List.pairwise_map]
theorem zcL (gone:List Int) (token:Int):∀(l:List Lk) (g:Int),0≤g→
  (g≤(zbz gone token l g).2∧(zbz gone token l g).2≤g+l.length)∧((zbz gone token l g).1.map Lk.name).Sublist (l.map Lk.name)∧
  (∀k∈(zbz gone token l g).1,(k∈l∧hasI gone k.holder=false)∨(token+g<k.token∧k.token≤token+(zbz gone token l g).2∧∃k0∈l,k0.name=k.name∧k0.line=k.holder::k.line))∧
  ((∀k∈l,k.token≤token)→(l.Pairwise fun a b=>a.token≠b.token)→(zbz gone token l g).1.Pairwise fun a b=>a.token≠b.token)
 |[],g,hg=>by simp[zbz]
 |k::r,g,hg=>by
  cases hk:hasI gone k.holder
  ·obtain⟨⟨a1,a2⟩,b,c,d⟩:=zcL gone token r g hg
   have e:zbz gone token (k::r) g=(k::(zbz gone token r g).1,(zbz gone token r g).2):=by rw[zbz,if_neg (by simp[hk])]
   rw[e]
   refine⟨⟨a1,by simp only[List.length_cons];omega⟩,b.cons_cons _,fun x hx=> ?_,fun ht hp=> ?_⟩
   ·rcases List.mem_cons.1 hx with rfl|hx
    ·exact .inl ⟨List.mem_cons_self ..,hk⟩
    ·rcases c x hx with⟨h1,h2⟩|⟨h1,h2,k0,h3,h4⟩
     ·exact .inl ⟨List.mem_cons_of_mem _ h1,h2⟩
     ·exact .inr ⟨h1,h2,k0,List.mem_cons_of_mem _ h3,h4⟩
   ·have hp':=List.pairwise_cons.1 hp
    have hkt:=ht k (List.mem_cons_self ..)
    refine List.pairwise_cons.2 ⟨fun x hx=> ?_,d (fun x hx=>ht x (List.mem_cons_of_mem _ hx)) hp'.2⟩
    rcases c x hx with⟨h1,h2⟩|⟨h1,h2,k0,h3,h4⟩
    ·exact hp'.1 x h1
    ·omega
  ·cases hl:k.line with
   |nil=>
    obtain⟨⟨a1,a2⟩,b,c,d⟩:=zcL gone token r g hg
    have e:zbz gone token (k::r) g=zbz gone token r g:=by rw[zbz,if_pos hk,hl]
    rw[e]
    refine⟨⟨a1,by simp only[List.length_cons];omega⟩,b.cons _,fun x hx=> ?_,fun ht hp=> ?_⟩
    ·rcases c x hx with⟨h1,h2⟩|⟨h1,h2,k0,h3,h4⟩
     ·exact .inl ⟨List.mem_cons_of_mem _ h1,h2⟩
     ·exact .inr ⟨h1,h2,k0,List.mem_cons_of_mem _ h3,h4⟩
    ·exact d (fun x hx=>ht x (List.mem_cons_of_mem _ hx)) (List.pairwise_cons.1 hp).2
   |cons c0 rest=>
    obtain⟨⟨a1,a2⟩,b,c,d⟩:=zcL gone token r (g+1) (by omega)
    have e:zbz gone token (k::r) g=(⟨k.name,c0,token+g+1,rest⟩::(zbz gone token r (g+1)).1,(zbz gone token r (g+1)).2):=by rw[zbz,if_pos hk,hl]
    rw[e]
    refine⟨⟨by simp only;omega,by simp only[List.length_cons];omega⟩,b.cons_cons _,fun x hx=> ?_,fun ht hp=> ?_⟩
    ·rcases List.mem_cons.1 hx with rfl|hx
     ·exact .inr ⟨by simp only;omega,by simp only;omega,k,List.mem_cons_self ..,rfl,hl⟩
     ·rcases c x hx with⟨h1,h2⟩|⟨h1,h2,k0,h3,h4⟩
      ·exact .inl ⟨List.mem_cons_of_mem _ h1,h2⟩
      ·exact .inr ⟨by omega,h2,k0,List.mem_cons_of_mem _ h3,h4⟩
    ·have hp':=List.pairwise_cons.1 hp
     refine List.pairwise_cons.2 ⟨fun x hx=> ?_,d (fun x hx=>ht x (List.mem_cons_of_mem _ hx)) hp'.2⟩
     simp only
     rcases c x hx with⟨h1,h2⟩|⟨h1,h2,k0,h3,h4⟩
     ·have:=ht x (List.mem_cons_of_mem _ h1);omega
     ·omega
theorem zb7 {k:Lk}:zmj k=true↔nameP k.name=true∧(0≤k.holder∧k.holder<8)∧1≤k.token∧k.token≤zaT:=by
 unfold zmj
 simp only[Bool.and_eq_true,Bool.not_eq_true',decide_eq_false_iff_not]
 constructor
 ·rintro⟨⟨⟨⟨a,b⟩,c⟩,d⟩,e⟩;exact⟨a,⟨by omega,by omega⟩,by omega,by omega⟩
 ·rintro⟨a,⟨b,c⟩,d,e⟩;exact⟨⟨⟨⟨a,by omega⟩,by omega⟩,by omega⟩,by omega⟩
theorem zcB {c:Int}:isClient c=true↔0≤c∧c<8:=by
 unfold isClient;simp
theorem zc9 {l gone:List Int} {c:Int}:c∈zaS l gone↔c∈l∧hasI gone c=false:=by
 unfold zaS;simp
theorem zeT {s:St} (h:RightS s) (gone:List Int) (hT:s.token+4≤zaT):RightS (zbd s gone)∧s.token≤(zbd s gone).token∧(zbd s gone).token≤s.token+4:=by
 obtain⟨⟨a1,a2⟩,b,c,d⟩:=zcL gone s.token (s.locks.map (zaq gone)) 0 (Int.le_refl _)
 have hlen:((s.locks.map (zaq gone)).length:Int)≤4:=by rw[List.length_map];have:=h.ll;omega
 have hl1:∀k∈s.locks.map (zaq gone),zmj k=true∧k.token≤s.token∧lineB k.line=true∧hasI k.line k.holder=false∧(∀c∈k.line,hasI gone c=false)∧(zaC s.sess k.holder).isSome=true∧∀c∈k.line,(zaC s.sess c).isSome=true:=by
  intro k hk
  obtain⟨k0,hk0,rfl⟩:=List.mem_map.1 hk
  obtain⟨e1,e2,e3,e4⟩:=h.lok k0 hk0
  obtain⟨f1,f2⟩:=h.seat k0 hk0
  obtain⟨g1,g2,g3⟩:=zbB.1 e3
  refine⟨e1,e2,zbB.2 ⟨?_,fun c hc=>g2 c (zc9.1 hc).1, ?_⟩, ?_,fun c hc=>(zc9.1 hc).2,f1,fun c hc=>f2 c (zc9.1 hc).1⟩
  ·exact Nat.le_trans (List.length_filter_le ..) g1
  ·exact g3.sublist (List.filter_sublist ..)
  ·rw[zb3]at e4⊢
   exact fun hc=>e4 (zc9.1 hc).1
 have hfind:∀c,(zaC s.sess c).isSome=true→hasI gone c=false→(zaC (s.sess.filter fun x=> !hasI gone x.client) c).isSome=true:=by
  intro c hc hg
  obtain⟨x,hx,rfl⟩:=zcq.1 hc
  exact zcq.2 ⟨x,List.mem_filter.2 ⟨hx,by simp[hg]⟩,rfl⟩
 have hok:∀k∈(zbW s.locks gone s.token).1,zmj k=true∧k.token≤s.token+(zbW s.locks gone s.token).2∧lineB k.line=true∧hasI k.line k.holder=false∧(hasI gone k.holder=false∧∀c∈k.line,hasI gone c=false)∧(zaC s.sess k.holder).isSome=true∧∀c∈k.line,(zaC s.sess c).isSome=true:=by
  intro k hk
  rcases c k hk with⟨h1,h2⟩|⟨h1,h2,k0,h3,h4,h5⟩
  ·obtain⟨e1,e2,e3,e4,e5,e6,e7⟩:=hl1 k h1
   refine⟨e1, ?_,e3,e4,⟨h2,e5⟩,e6,e7⟩
   have:0≤(zbW s.locks gone s.token).2:=a1
   omega
  ·obtain⟨e1,e2,e3,e4,e5,e6,e7⟩:=hl1 k0 h3
   rw[h5]at e3 e5 e7
   obtain⟨g1,g2,g3⟩:=zbB.1 e3
   have g3':=List.nodup_cons.1 g3
   have i1:=zb7.1 e1
   have i2:=zcB.1 (g2 k.holder (List.mem_cons_self ..))
   have a2':(zbW s.locks gone s.token).2≤4:=by have:(zbW s.locks gone s.token).2=(zbz gone s.token (s.locks.map (zaq gone)) 0).2:=rfl;omega
   have h2':k.token≤s.token+(zbW s.locks gone s.token).2:=h2
   have:=h.token
   refine⟨zb7.2 ⟨h4▸i1.1,i2,by omega,by omega⟩,h2',zbB.2 ⟨?_,fun c hc=>g2 c (List.mem_cons_of_mem _ hc),g3'.2⟩,zb3.2 g3'.1,⟨e5 _ (List.mem_cons_self ..),fun c hc=>e5 c (List.mem_cons_of_mem _ hc)⟩,e7 _ (List.mem_cons_self ..),fun c hc=>e7 c (List.mem_cons_of_mem _ hc)⟩
   simp only[List.length_cons]at g1;omega
 have hnm:(s.locks.map (zaq gone)).map Lk.name=s.locks.map Lk.name:=by rw[List.map_map];rfl
 have a2':(zbW s.locks gone s.token).2≤4:=by have:(zbW s.locks gone s.token).2=(zbz gone s.token (s.locks.map (zaq gone)) 0).2:=rfl;omega
 have a1':0≤(zbW s.locks gone s.token).2:=a1
 have hT0:=h.token
 refine⟨⟨h.time,h.num,⟨by simp only[zbd];omega,by simp only[zbd];omega⟩, ?_, ?_, ?_, ?_, ?_, ?_, ?_, ?_,h.ms,h.mok, ?_⟩,by simp only[zbd];omega,by simp only[zbd];omega⟩
 ·exact List.Pairwise.sublist (List.filter_sublist ..) h.ss
 ·exact fun x hx=>h.sok x (List.mem_filter.1 hx).1
 ·exact List.Pairwise.sublist (List.filter_sublist ..) h.snd
 ·exact Nat.le_trans (List.length_filter_le ..) h.sl
 ·rw[zk4]
  rw[hnm]at b
  exact List.Pairwise.sublist b (zk4.1 h.ls)
 ·exact fun k hk=>⟨(hok k hk).1,(hok k hk).2.1,(hok k hk).2.2.1,(hok k hk).2.2.2.1⟩
 ·refine d (fun k hk=>(hl1 k hk).2.1) ?_
  rw[List.pairwise_map]
  exact h.lnd
 ·have:=b.length_le
  rw[hnm,List.length_map,List.length_map]at this
  exact Nat.le_trans this h.ll
 ·intro k hk
  obtain⟨_,_,_,_,⟨g1,g2⟩,f1,f2⟩:=hok k hk
  exact⟨hfind _ f1 g1,fun c hc=>hfind c (f2 c hc) (g2 c hc)⟩
theorem zcJ {s:St} (h:RightS s) (time lease:Int) (hT:s.token+4≤zaT):
  RightS (zbk s time lease)∧s.token≤(zbk s time lease).token∧(zbk s time lease).token≤s.token+4∧(zbk s time lease).num=s.num∧s.time≤(zbk s time lease).time:=by
 have ht:s.time≤zb8 s time∧zb8 s time≤zaT:=by
  have:=h.time
  unfold zb8
  split
  ·rename_i hc;simp at hc;omega
  ·omega
 have h':RightS {s with time:=zb8 s time}:=⟨⟨by have:=h.time;simp only;omega,ht.2⟩,h.num,h.token,h.ss,h.sok,h.snd,h.sl,h.ls,h.lok,h.lnd,h.ll,h.ms,h.mok,h.seat⟩
 obtain⟨a,b,c⟩:=zeT h' (zhU s.sess (zb8 s time) (max lease 1)) hT
 exact⟨a,b,c,rfl,ht.1⟩
theorem zgh {α:Type} {l:List α} {k:Nat} {x y:α}:y∈l.take k++x::l.drop k↔y=x∨y∈l:=by
 rw[List.mem_append,List.mem_cons]
 constructor
 ·rintro(h|h|h)
  ·exact .inr (List.mem_of_mem_take h)
  ·exact .inl h
  ·exact .inr (List.mem_of_mem_drop h)
 ·rintro(h|h)
  ·exact .inr (.inl h)
  ·rw[←List.take_append_drop k l]at h
   rcases List.mem_append.1 h with h|h
   ·exact .inl h
   ·exact .inr (.inr h)
theorem zne {α:Type} {l:List α} {k:Nat} {x:α}:(l.take k++x::l.drop k).length=l.length+1:=by
 simp only[List.length_append,List.length_take,List.length_cons,List.length_drop];omega
theorem zb2 {x:Sess}:zfJ x=true↔isClient x.client=true∧(1≤x.num∧x.num≤zaT)∧0≤x.renewed∧x.renewed≤zaT:=by
 unfold zfJ
 simp only[Bool.and_eq_true,Bool.not_eq_true',decide_eq_false_iff_not]
 constructor
 ·rintro⟨⟨⟨⟨a,b⟩,c⟩,d⟩,e⟩;exact⟨a,⟨by omega,by omega⟩,by omega,by omega⟩
 ·rintro⟨a,⟨b,c⟩,d,e⟩;exact⟨⟨⟨⟨a,by omega⟩,by omega⟩,by omega⟩,by omega⟩
theorem zdx {s:St} (h:RightS s):numbered s.sess (s.num+1)=false:=by
 unfold numbered
 rw[List.any_eq_false]
 intro x hx
 have:=(h.sok x hx).2
 simp;omega
theorem zk3 {s:St} (h:RightS s) {c:Int} (hc:isClient c=true) (hN:s.num+1≤zaT) (hf:zaC s.sess c=none):
  zbR s.sess c (s.num+1) s.time=if s.sess.length≥5 then([],5)else(s.sess.take (zdf s.sess c)++⟨c,s.num+1,s.time⟩::s.sess.drop (zdf s.sess c),0):=by
 unfold zbR
 have h1:=h.num
 have h2:=h.time
 rw[if_neg (by
  rw[zdx h,hc,hf]
  have e1:decide (s.num+1<1)=false:=by simp;omega
  have e2:decide (s.num+1>zaT)=false:=by simp;omega
  have e3:decide (s.time<0)=false:=by simp;omega
  have e4:decide (s.time>zaT)=false:=by simp;omega
  rw[e1,e2,e3,e4];simp),if_neg (by rw[hf];simp)]
 by_cases h5:s.sess.length≥5
 ·rw[if_pos (by simp;omega),if_pos h5]
 ·rw[if_neg (by simp;omega),if_neg h5]
theorem zme {s:St} (h:RightS s) {c:Int} (hc:isClient c=true) (hN:s.num+1≤zaT) (hf:zaC s.sess c=none) (h5:s.sess.length<5):
  RightS {s with sess:=s.sess.take (zdf s.sess c)++⟨c,s.num+1,s.time⟩::s.sess.drop (zdf s.sess c),num:=s.num+1}:=by
 have h1:=h.num
 have h2:=h.time
 have hne:∀y∈s.sess,y.client≠c:=by
  intro y hy he
  have:(zaC s.sess c).isSome=true:=zcq.2 ⟨y,hy,he⟩
  rw[hf]at this;cases this
 refine⟨h.time,⟨by simp only;omega,hN⟩,h.token, ?_, ?_, ?_, ?_,h.ls,h.lok,h.lnd,h.ll,h.ms,h.mok, ?_⟩
 ·refine zeS h.ss (fun y hy=> ?_) (fun y hy=> ?_)
  ·simpa using zgl hy
  ·have:=zgm (zkw h.ss c) hy
   have:=hne y (List.mem_of_mem_drop hy)
   simp at*;omega
 ·intro x hx
  rcases zgh.1 hx with rfl|hx
  ·exact⟨zb2.2 ⟨hc,⟨by simp only;omega,hN⟩,h2⟩,Int.le_refl _⟩
  ·exact⟨(h.sok x hx).1,by have:=(h.sok x hx).2;simp only;omega⟩
 ·refine zeS h.snd (fun y hy=> ?_) (fun y hy=> ?_)
  ·have:=(h.sok y (List.mem_of_mem_take hy)).2;simp only;omega
  ·have:=(h.sok y (List.mem_of_mem_drop hy)).2;simp only;omega
 ·simp only[zne];omega
 ·intro k hk
  have:∀c',(zaC s.sess c').isSome=true→(zaC (s.sess.take (zdf s.sess c)++⟨c,s.num+1,s.time⟩::s.sess.drop (zdf s.sess c)) c').isSome=true:=fun c' hc'=>by
   obtain⟨x,hx,e⟩:=zcq.1 hc'
   exact zcq.2 ⟨x,zgh.2 (.inr hx),e⟩
  exact⟨this _ (h.seat k hk).1,fun c' hc'=>this _ ((h.seat k hk).2 c' hc')⟩
theorem zdK {s:St} (h:RightS s) {c:Int} {x:Sess} (hf:zaC s.sess c=some x):zbf s.sess c s.time=(s.sess.set (zdf s.sess c) ⟨x.client,x.num,max x.renewed s.time⟩,0):=by
 have:=h.time
 unfold zbf
 rw[if_neg (by simp;omega),hf]
theorem zgi {s:St} (h:RightS s) {c:Int} {x:Sess} (hf:zaC s.sess c=some x):
  (s.sess.set (zdf s.sess c) ⟨x.client,x.num,max x.renewed s.time⟩).map Sess.client=s.sess.map Sess.client∧(s.sess.set (zdf s.sess c) ⟨x.client,x.num,max x.renewed s.time⟩).map Sess.num=s.sess.map Sess.num:=by
 obtain⟨⟨hi,he⟩,_⟩:=zfY h.ss hf
 exact⟨zhR hi (by rw[he]),zhR hi (by rw[he])⟩
theorem zfW {l m:List Sess} (h:l.map Sess.client=m.map Sess.client) (c:Int):(zaC l c).isSome=(zaC m c).isSome:=by
 have key:∀l:List Sess,(zaC l c).isSome=(l.map Sess.client).any fun x=>x==c:=fun l=>by
  rw[List.any_map,Bool.eq_iff_iff,zcq,List.any_eq_true]
  simp
 rw[key,key,h]
theorem zgj {s:St} (h:RightS s) {c:Int} {x:Sess} (hf:zaC s.sess c=some x):RightS {s with sess:=(zbf s.sess c s.time).1}:=by
 rw[zdK h hf]
 simp only
 obtain⟨⟨hi,he⟩,hxc⟩:=zfY h.ss hf
 obtain⟨m1,m2⟩:=zgi h hf
 have hx:x∈s.sess:=he▸List.getElem_mem hi
 refine⟨h.time,h.num,h.token, ?_, ?_, ?_, ?_,h.ls,h.lok,h.lnd,h.ll,h.ms,h.mok, ?_⟩
 ·rw[zqF,m1];exact zqF.1 h.ss
 ·intro y hy
  rcases zhS hy with rfl|hy
  ·obtain⟨a,b⟩:=h.sok x hx
   obtain⟨a1,a2,a3,a4⟩:=zb2.1 a
   have:=h.time
   exact⟨zb2.2 ⟨a1,a2,by simp only;omega,by simp only;omega⟩,b⟩
  ·exact h.sok y hy
 ·have:((s.sess.set (zdf s.sess c) ⟨x.client,x.num,max x.renewed s.time⟩).map Sess.num).Pairwise (·≠·):=by rw[m2,List.pairwise_map];exact h.snd
  rwa[List.pairwise_map]at this
 ·simp only[List.length_set];exact h.sl
 ·intro k hk
  exact⟨by simp only;rw[zfW m1];exact(h.seat k hk).1,fun c' hc'=>by simp only;rw[zfW m1];exact(h.seat k hk).2 c' hc'⟩
theorem zeA {s:St} (h:RightS s) {L:List Lk} {t:Int} (ht:s.token≤t∧t≤zaT) (h1:SL L) (h2:∀k∈L,zmj k=true∧k.token≤t∧lineB k.line=true∧hasI k.line k.holder=false) (h3:L.Pairwise fun a b=>a.token≠b.token)
  (h4:L.length≤4) (h5:∀k∈L,(zaC s.sess k.holder).isSome=true∧∀c∈k.line,(zaC s.sess c).isSome=true):RightS {s with locks:=L,token:=t}:=
 ⟨h.time,h.num,⟨by have:=h.token;simp only;omega,ht.2⟩,h.ss,h.sok,h.snd,h.sl,h1,h2,h3,h4,h.ms,h.mok,h5⟩
theorem zgk {s:St} (h:RightS s) {j:Nat} (hj:j<s.locks.length) {k:Lk} {t:Int} (ht:s.token≤t∧t≤zaT) (hn:k.name=s.locks[j].name) (hk:zmj k=true∧k.token≤t∧lineB k.line=true∧hasI k.line k.holder=false)
  (hd:k.token=s.locks[j].token∨s.token<k.token) (hs:(zaC s.sess k.holder).isSome=true∧∀c∈k.line,(zaC s.sess c).isSome=true):RightS {s with locks:=s.locks.set j k,token:=t}:=by
 refine zeA h ht ?_ ?_ ?_ ?_ ?_
 ·rw[zk4,zhR hj hn];exact zk4.1 h.ls
 ·intro x hx
  rcases zhS hx with rfl|hx
  ·exact hk
  ·obtain⟨a,b,c⟩:=h.lok x hx
   exact⟨a,by omega,c⟩
 ·rw[List.pairwise_iff_getElem]
  intro i m hi hm him
  have hi':i<s.locks.length:=by simpa using hi
  have hm':m<s.locks.length:=by simpa using hm
  have hp:=List.pairwise_iff_getElem.1 h.lnd
  have hb:∀q (hq:q<s.locks.length),s.locks[q].token≤s.token:=fun q hq=>(h.lok _ (List.getElem_mem hq)).2.1
  rw[List.getElem_set,List.getElem_set]
  split
  ·rename_i e
   subst e
   rw[if_neg (by omega)]
   have:=hb m hm'
   rcases hd with hd|hd
   ·rw[hd];exact hp j m hj hm' him
   ·omega
  ·split
   ·rename_i e
    subst e
    have:=hb i hi'
    rcases hd with hd|hd
    ·rw[hd];exact hp i j hi' hj him
    ·omega
   ·exact hp i m hi' hm' him
 ·rw[List.length_set];exact h.ll
 ·intro x hx
  rcases zhS hx with rfl|hx
  ·exact hs
  ·exact h.seat x hx
theorem zku {s:St} (h:RightS s) (j:Nat):RightS {s with locks:=s.locks.eraseIdx j,token:=s.token}:=by
 have hsub:(s.locks.eraseIdx j).Sublist s.locks:=List.eraseIdx_sublist ..
 refine zeA h ⟨Int.le_refl _,h.token.2⟩ (List.Pairwise.sublist hsub h.ls) (fun k hk=>h.lok k (hsub.subset hk)) (List.Pairwise.sublist hsub h.lnd) (Nat.le_trans hsub.length_le h.ll) (fun k hk=>h.seat k (hsub.subset hk))
theorem zha {s:St} (h:RightS s) {name:ByteArray} {c:Int} {w:Bool} (hnm:nameP name=true) (hc:isClient c=true) (hf:(zaC s.sess c).isSome=true) (hT:s.token+4≤zaT):
  ((zaH s.locks name c s.token w).2.2=0→RightS {s with locks:=(zaH s.locks name c s.token w).1,token:=s.token+1})∧
  ((zaH s.locks name c s.token w).2.2=10→RightS {s with locks:=(zaH s.locks name c s.token w).1,token:=s.token})∧
  (0≤(zaH s.locks name c s.token w).2.2∧(zaH s.locks name c s.token w).2.2≤10)∧(0≤(zaH s.locks name c s.token w).2.1∧(zaH s.locks name c s.token w).2.1≤3):=by
 have hT0:=h.token
 unfold zaH
 cases hl:zcc s.locks name with
 |none=>
  simp only
  split
  ·refine⟨fun h=>by simp at h,fun h=>by simp at h,⟨by simp only;decide,by simp only;decide⟩,⟨by simp only;decide,by simp only;decide⟩⟩
  ·rename_i h4
   simp only[decide_eq_true_eq]at h4
   refine⟨fun _=> ?_,fun h=>by simp at h,⟨by simp only;decide,by simp only;decide⟩,⟨by simp only;decide,by simp only;decide⟩⟩
   have hne:∀y∈s.locks,isL name y=false:=by
    intro y hy
    have:=List.find?_eq_none.1 hl y hy
    simpa using this
   refine zeA h ⟨by omega,by omega⟩ ?_ ?_ ?_ ?_ ?_
   ·refine zeS h.ls (fun y hy=>zgl (p:=fun x:Lk=>zdh x.name name) hy) (fun y hy=> ?_)
    have h1:=zgm (zhY h.ls name) hy
    have h2:=hne y (List.mem_of_mem_drop hy)
    cases h3:zdh name y.name
    ·have:=zk6 h1 h3
     rw[isL,this]at h2
     simp at h2
    ·rfl
   ·intro x hx
    rcases zgh.1 hx with rfl|hx
    ·exact⟨zb7.2 ⟨hnm,zcB.1 hc,by simp only;omega,by simp only;omega⟩,Int.le_refl _,by simp[lineB,zbq],rfl⟩
    ·obtain⟨a,b,d⟩:=h.lok x hx
     exact⟨a,by omega,d⟩
   ·refine zeS h.lnd (fun y hy=> ?_) (fun y hy=> ?_)
    ·have:=(h.lok y (List.mem_of_mem_take hy)).2.1;simp only;omega
    ·have:=(h.lok y (List.mem_of_mem_drop hy)).2.1;simp only;omega
   ·rw[zne];omega
   ·intro x hx
    rcases zgh.1 hx with rfl|hx
    ·exact⟨hf,fun c hc=>by simp at hc⟩
    ·exact h.seat x hx
 |some k=>
  simp only
  obtain⟨⟨hi,he⟩,hn⟩:=zcd h.ls hl
  have hk:k∈s.locks:=he▸List.getElem_mem hi
  have hlk:=h.lok k hk
  split
  ·refine⟨fun h=>by simp at h,fun h=>by simp at h,⟨by simp only;decide,by simp only;decide⟩,⟨by simp only;decide,by simp only;decide⟩⟩
  ·rename_i hh
   split
   ·refine⟨fun h=>by simp at h,fun h=>by simp at h,⟨by simp only;decide,by simp only;decide⟩,⟨by simp only;decide,by simp only;decide⟩⟩
   ·split
    ·rename_i hin
     obtain⟨g1,g2,g3⟩:=zbB.1 hlk.2.2.1
     refine⟨fun h=>by simp at h,fun _=>h,⟨by simp only;decide,by simp only;decide⟩, ?_⟩
     unfold zgn
     rcases zdA (fun x=>c==x) k.line 0 with⟨q1,q2⟩|⟨q,hq,q1,_⟩
     ·rw[show((0:Nat):Int)=0 from rfl]at q2
      rw[q2];simp
     ·rw[show((0:Nat):Int)=0 from rfl]at q1
      rw[q1];simp;omega
    ·rename_i hin
     split
     ·rename_i hj
      unfold zc7 at hj⊢
      rw[if_neg (by simp[hc]),if_neg (by simpa using hin)]at*
      split
      ·refine⟨fun h=>by simp at h,fun h=>by simp at h,⟨by simp only;decide,by simp only;decide⟩,⟨by simp only;decide,by simp only;decide⟩⟩
      ·rename_i h3;rw[if_neg h3]at hj;simp at hj
     ·rename_i hj
      have h3:¬decide ((k.line.length:Int)≥3)=true:=by
       intro h3
       unfold zc7 at hj
       rw[if_neg (by simp[hc]),if_neg (by simpa using hin),if_pos h3]at hj
       simp at hj
      have ej:zc7 k.line c=(k.line++[c],(k.line.length:Int),0):=by
       unfold zc7
       rw[if_neg (by simp[hc]),if_neg (by simpa using hin),if_neg h3]
      rw[ej]
      simp only[decide_eq_true_eq]at h3
      refine⟨fun h=>by simp at h,fun _=> ?_,⟨by simp only;decide,by simp only;decide⟩,⟨by simp only;omega,by simp only;omega⟩⟩
      obtain⟨g1,g2,g3⟩:=zbB.1 hlk.2.2.1
      have hin':c ∉ k.line:=zb3.1 (by simpa using hin)
      refine zgk h hi ⟨Int.le_refl _,hT0.2⟩ (by simp only;rw[he]) ⟨?_,hlk.2.1,zbB.2 ⟨?_, ?_, ?_⟩, ?_⟩ (.inl (by simp only;rw[he])) ⟨(h.seat k hk).1, ?_⟩
      ·have:=zb7.1 hlk.1;exact zb7.2 this
      ·simp only[List.length_append,List.length_singleton];omega
      ·intro x hx
       rcases List.mem_append.1 hx with hx|hx
       ·exact g2 x hx
       ·rw[List.mem_singleton]at hx;subst hx;exact hc
      ·rw[List.nodup_append]
       refine⟨g3,by simp,fun a ha b hb=> ?_⟩
       rw[List.mem_singleton]at hb;subst hb
       exact fun e=>hin' (e▸ha)
      ·rw[zb3]
       intro hx
       rcases List.mem_append.1 hx with hx|hx
       ·exact zb3.1 hlk.2.2.2 hx
       ·rw[List.mem_singleton]at hx;rw[hx]at hh;simp at hh
      ·intro x hx
       rcases List.mem_append.1 hx with hx|hx
       ·exact(h.seat k hk).2 x hx
       ·rw[List.mem_singleton]at hx;subst hx;exact hf
theorem zkv {α:Type} {l:List α} {j:Nat} {x:α} (h:x∈l.eraseIdx j):x∈l:=(List.eraseIdx_sublist ..).subset h
theorem zmf {s:St} (h:RightS s) {name:ByteArray} {c:Int} (hT:s.token+4≤zaT):
  ((za2 s.locks name c s.token).2.2=0→RightS {s with locks:=(za2 s.locks name c s.token).1,token:=s.token+(za2 s.locks name c s.token).2.1})∧
  (0≤(za2 s.locks name c s.token).2.2∧(za2 s.locks name c s.token).2.2≤10)∧(0≤(za2 s.locks name c s.token).2.1∧(za2 s.locks name c s.token).2.1≤1):=by
 have hT0:=h.token
 unfold za2
 cases hl:zcc s.locks name with
 |none=>exact⟨fun h=>by simp at h,⟨by simp only;decide,by simp only;decide⟩,⟨by simp only;decide,by simp only;decide⟩⟩
 |some k=>
  simp only
  obtain⟨⟨hi,he⟩,hn⟩:=zcd h.ls hl
  have hk:k∈s.locks:=he▸List.getElem_mem hi
  have hlk:=h.lok k hk
  obtain⟨g1,g2,g3⟩:=zbB.1 hlk.2.2.1
  split
  ·unfold zco
   split
   ·refine⟨fun _=> ?_,⟨by simp only;decide,by simp only;decide⟩,⟨by simp only;decide,by simp only;decide⟩⟩
    simp only[Int.add_zero]
    exact zku h _
   ·rename_i c0 rest hline
    rw[hline]at g1 g2 g3
    refine⟨fun _=> ?_,⟨by simp only;decide,by simp only;decide⟩,⟨by simp only;decide,by simp only;decide⟩⟩
    have g3':=List.nodup_cons.1 g3
    have hs:=(h.seat k hk).2
    rw[hline]at hs
    simp only[List.length_cons]at g1
    refine zgk h hi ⟨by simp only;omega,by simp only;omega⟩ (by simp only;rw[he]) ⟨zb7.2 ⟨(zb7.1 hlk.1).1,zcB.1 (g2 _ (List.mem_cons_self ..)),by simp only;omega,by simp only;omega⟩,Int.le_refl _,zbB.2 ⟨by simp only[List.length_cons]at g1⊢;omega,fun x hx=>g2 x (List.mem_cons_of_mem _ hx),g3'.2⟩,zb3.2 g3'.1⟩ (.inr (by simp only;omega)) ⟨hs _ (List.mem_cons_self ..),fun x hx=>hs x (List.mem_cons_of_mem _ hx)⟩
  ·split
   ·refine⟨fun _=> ?_,⟨by simp only;decide,by simp only;decide⟩,⟨by simp only;decide,by simp only;decide⟩⟩
    simp only[Int.add_zero]
    have hle:∀x∈(zce k.line c).1,x∈k.line:=by
     intro x hx
     unfold zce at hx
     split at hx
     ·exact hx
     ·exact zkv hx
    have hsub:(zce k.line c).1.Sublist k.line:=by
     unfold zce
     split
     ·exact List.Sublist.refl _
     ·exact List.eraseIdx_sublist ..
    refine zgk h hi ⟨Int.le_refl _,hT0.2⟩ (by simp only;rw[he]) ⟨zb7.2 (zb7.1 hlk.1),hlk.2.1,zbB.2 ⟨Nat.le_trans hsub.length_le g1,fun x hx=>g2 x (hle x hx),g3.sublist hsub⟩, ?_⟩ (.inl (by simp only;rw[he])) ⟨(h.seat k hk).1,fun x hx=>(h.seat k hk).2 x (hle x hx)⟩
    rw[zb3]
    exact fun hx=>zb3.1 hlk.2.2.2 (hle _ hx)
   ·exact⟨fun h=>by simp at h,⟨by simp only;decide,by simp only;decide⟩,⟨by simp only;decide,by simp only;decide⟩⟩
theorem zmg {s:St} (h:RightS s) (a:Memo):RightS {s with memos:=zdJ s.memos a}:=by
 unfold zdJ
 split
 ·exact h
 ·rename_i hc
  simp only[Bool.or_eq_true,Bool.not_eq_true',not_or,Bool.not_eq_false]at hc
  split
  ·rename_i hf
   obtain⟨x,hx⟩:=Option.isSome_iff_exists.1 hf
   obtain⟨⟨hi,he⟩,hxc⟩:=zfZ h.ms hx
   refine⟨h.time,h.num,h.token,h.ss,h.sok,h.snd,h.sl,h.ls,h.lok,h.lnd,h.ll, ?_, ?_,h.seat⟩
   ·rw[znf,zhR hi (by rw[he,hxc])];exact znf.1 h.ms
   ·intro m hm
    rcases zhS hm with rfl|hm
    ·exact hc.1
    ·exact h.mok m hm
  ·rename_i hf
   have hne:∀y∈s.memos,y.client≠a.client:=by
    intro y hy e
    refine hf ?_
    unfold zbe
    rw[List.find?_isSome]
    exact⟨y,hy,by simpa using e⟩
   refine⟨h.time,h.num,h.token,h.ss,h.sok,h.snd,h.sl,h.ls,h.lok,h.lnd,h.ll, ?_, ?_,h.seat⟩
   ·refine zeS h.ms (fun y hy=> ?_) (fun y hy=> ?_)
    ·simpa using zgl hy
    ·have:=zgm (zkx h.ms a.client) hy
     have:=hne y (List.mem_of_mem_drop hy)
     simp at*;omega
   ·intro m hm
    rcases zgh.1 hm with rfl|hm
    ·exact hc.1
    ·exact h.mok m hm
theorem zgg {r:Req} (h:Req.may r=true):isClient r.client=true∧(1≤r.seq∧r.seq≤zaT)∧((r.kind==3||r.kind==4)=true→nameP r.name=true):=by
 unfold Req.may at h
 simp only[Bool.and_eq_true,decide_eq_true_eq]at h
 obtain⟨⟨⟨⟨a,b⟩,c⟩,d⟩,e⟩:=h
 refine⟨zcB.2 ⟨a,b⟩,⟨c,d⟩,fun hk=> ?_⟩
 unfold zph at e
 split at e
 ·cases e
 ·split at e
  ·cases e
  ·rename_i h2
   have h3:(r.kind==3||r.kind==4||r.kind==5)=true:=by rw[hk];rfl
   rw[h3]at h2
   simpa using h2
structure DoneR (s t:St) (a:Reply):Prop where
 rt:RightS t
 tok:s.token≤t.token∧t.token≤s.token+4
 num:s.num≤t.num∧t.num≤s.num+1
 time:t.time=s.time
 code:0≤a.code∧a.code≤12
theorem ziW {s:St} (h:RightS s) {c:Int} (hc:isClient c=true) (hN:s.num+1≤zaT):DoneR s (zbr s c).1 (zbr s c).2:=by
 unfold zbr
 cases hf:zaC s.sess c with
 |some x=>exact⟨h,by simp only;omega,by simp only;omega,rfl,by simp only;decide⟩
 |none=>
  simp only
  rw[zk3 h hc hN hf]
  by_cases h5:s.sess.length≥5
  ·rw[if_pos h5,if_pos (by simp)]
   exact⟨h,by simp only;omega,by simp only;omega,rfl,by simp only;decide⟩
  ·rw[if_neg h5,if_neg (by simp)]
   exact⟨zme h hc hN hf (by omega),by simp only;omega,by simp only;omega,rfl,by simp only;decide⟩
theorem zfr {s:St} (h:RightS s) {r:Req} (hr:Req.may r=true) (hN:s.num+1≤zaT) (hT:s.token+4≤zaT):DoneR s (zaV s r).1 (zaV s r).2:=by
 obtain⟨hc,_,hnm⟩:=zgg hr
 unfold zaV
 split
 ·exact ziW h hc hN
 ·cases hf:zaC s.sess r.client with
  |none=>exact⟨h,by simp only;omega,by simp only;omega,rfl,by simp only;decide⟩
  |some x=>
   simp only
   split
   ·exact⟨h,by simp only;omega,by simp only;omega,rfl,by simp only;decide⟩
   ·have h1:=zgj h hf
    have hf1:(zaC (zbf s.sess r.client s.time).1 r.client).isSome=true:=by
     rw[zdK h hf,zfW (zgi h hf).1,hf];rfl
    split
    ·rename_i hk
     obtain⟨t0,t10,tc,ta⟩:=zha (w:=r.kind==3) h1 (hnm hk) hc hf1 hT
     simp only at t0 t10 tc ta
     by_cases e0:(zaH s.locks r.name r.client s.token (r.kind==3)).2.2=0
     ·rw[if_pos e0]
      exact⟨t0 e0,by simp only;omega,by simp only;omega,rfl,by simp only;omega⟩
     ·rw[if_neg e0]
      by_cases e10:(zaH s.locks r.name r.client s.token (r.kind==3)).2.2=10
      ·rw[if_pos e10]
       exact⟨t10 e10,by simp only;omega,by simp only;omega,rfl,by simp only;omega⟩
      ·rw[if_neg e10]
       exact⟨h1,by simp only;omega,by simp only;omega,rfl,by simp only;omega⟩
    ·split
     ·obtain⟨t0,tc,ta⟩:=zmf (name:=r.name) (c:=r.client) h1 hT
      simp only at t0 tc ta
      by_cases e0:(za2 s.locks r.name r.client s.token).2.2=0
      ·rw[if_pos e0]
       exact⟨t0 e0,by simp only;omega,by simp only;omega,rfl,by simp only;omega⟩
      ·rw[if_neg e0]
       exact⟨h1,by simp only;omega,by simp only;omega,rfl,by simp only;omega⟩
     ·split
      ·obtain⟨a,b,c⟩:=zeT h1 [r.client] hT
       exact⟨a,⟨b,c⟩,by simp only[zbd];omega,rfl,by simp only;decide⟩
      ·exact⟨h1,by simp only;omega,by simp only;omega,rfl,by simp only;decide⟩
theorem znd {s:St} (h:RightS s) {c:Int}:0≤(((zbe s.memos c).map Memo.reply).getD ⟨0,0,0,[]⟩).code∧(((zbe s.memos c).map Memo.reply).getD ⟨0,0,0,[]⟩).code≤12:=by
 cases hf:zbe s.memos c with
 |none=>simp
 |some m=>
  have:=h.mok m (List.mem_of_find?_eq_some hf)
  unfold answerB zcC at this
  simp at this
  simp;omega
theorem zdw {s:St} (h:RightS s) (r:Req) (hN:s.num+1≤zaT) (hT:s.token+4≤zaT):DoneR s (za6 s r).1 (za6 s r).2.1:=by
 unfold za6
 split
 ·exact⟨h,by simp only;omega,by simp only;omega,rfl,by simp only;decide⟩
 ·rename_i hm
  split
  ·exact⟨h,by simp only;omega,by simp only;omega,rfl,by simp only;decide⟩
  ·split
   ·exact⟨h,by simp only;omega,by simp only;omega,rfl,znd h⟩
   ·have hd:=zfr h (r:=r) (by simpa using hm) hN hT
    exact⟨zmg hd.rt _,hd.tok,hd.num,hd.time,hd.code⟩
def zrm {α:Type} (p:α→Bool) (x:α):List α→List α
 |[]=>[x]
 |y::r=>if p y=true then x::y::r else y::zrm p x r
theorem zlV {α:Type} {p q:α→Bool} {x:α}:∀{l:List α},(∀y∈l,p y= !(q y))→zrm p x l=l.take (zk5 q l)++x::l.drop (zk5 q l)
 |[],_=>rfl
 |y::r,h=>by
  rw[zrm,zcb,h y (List.mem_cons_self ..)]
  cases hq:q y
  ·simp
  ·simp only[Bool.not_true,Bool.false_eq_true,if_false,if_true,List.take_succ_cons,List.drop_succ_cons,List.cons_append]
   rw[zlV fun z hz=>h z (List.mem_cons_of_mem _ hz)]
theorem zwb {l:List Sess} {c:Int} {x:Sess} (hf:zaC l c=none):zrm (fun y:Sess=>decide (y.client>c)) x l=l.take (zdf l c)++x::l.drop (zdf l c):=by
 refine zlV fun y hy=> ?_
 have:y.client≠c:=fun e=>by
  have:=zcq.2 ⟨y,hy,e⟩
  rw[hf]at this;cases this
 rw[Bool.eq_iff_iff]
 simp
 omega
theorem zoH {α:Type} {p:α→Bool} {x:α} {l:List α} {i:Nat} {put:Bool} (hi:i<l.length):
  (if put=true then l.drop i else zrm p x (l.drop i))=if(!put&&p l[i])=true then x::l[i]::l.drop (i+1)else l[i]::(if put=true then l.drop (i+1)else zrm p x (l.drop (i+1))):=by
 rw[List.drop_eq_getElem_cons hi]
 cases put
 ·simp only[Bool.not_false,Bool.true_and,Bool.false_eq_true,if_false,zrm]
 ·simp
set_option maxHeartbeats 1000000 in
theorem zqq (l:List Sess) (hs:SS l) (hl:l.length<2^30) (c num now:Int) (hc:isClient c=true) (h1:1≤num) (hn:0≤now∧now≤zaT) (hf:zaC l c=none) (hnum:numbered l num=false):
  CallOK Tryz.prog 139 [.f (al l.length (zaF l)), .f (ai c), .f (ai num), .f (ai now)]
  (fun r o=>r=[.one (.own 3 (zbR l c num now).1.length (zaF (zbR l c num now).1) false),ri (zbR l c num now).2]∧o=[]):=by
 refine CallOK.nil ?_
 refine zac zar mixed (T:=Ty) (n:=102) Tryz.func139 (c:=Tryz.f139.body.getD .skip) rfl Tryz.results139 Tryz.ntmps139 Tryz.call139 ?_
 simp only[Tryz.f139,Option.getD]
 have hcl:=zep c
 rw[hc]at hcl
 have hg1:=zc5 num 1
 have hg2:=zc5 now 0
 have hH:zaT=2305843009213693952:=rfl
 rw[show(decide (now≥0)&&decide (now≤2305843009213693952))=true by simp;omega]at hg2
 have hfi:=zcK l (by omega) c
 rw[hf]at hfi
 simp only[Option.isSome_none,Option.getD_none]at hfi
 have eo:zbR l c num now=if decide (num>zaT)=true then([],1)else if decide ((l.length:Int)≥5)=true then([],5)else(l.take (zdf l c)++⟨c,num,now⟩::l.drop (zdf l c),0):=by
  have e1:decide (num<1)=false:=by simp;omega
  have e2:decide (now<0)=false:=by simp;omega
  have e3:decide (now>zaT)=false:=by simp;omega
  unfold zbR
  rw[hf,hnum,hc,e1,e2,e3]
  cases decide (num>zaT)<;>simp
 generalize zbR l c num now=R at eo⊢
 cases e4:decide (num>zaT)
 ·rw[e4,if_neg (by simp)]at eo
  rw[show(decide (num≥1)&&decide (num≤2305843009213693952))=true by simp at e4⊢;omega]at hg1
  repeat'(first|refine zq0 ?_|exact zd0|refine zc (hcl) ?_|refine zg (hcl) ?_|refine zc (hg1) ?_|refine zg (hg1) ?_|refine zc (hg2) ?_|refine zg (hg2) ?_|(refine zaa ?_ ?_<;>intro hb)|(refine And.intro ?_ ?_;exact zI)|(refine And.intro ?_ ?_<;>intro hg)|exact zC|fail)
  refine zao (τ:=Nat) (fun i=>⟨[al l.length (zaF l),ai c,ai num,ai now,dd,dd,dd,dd,dd,dd,ai i,dd,dd,dd,dd,dd,dd,dd,dd,dd,dd,dd,dd,dd,dd,dd,dd,dd,dd,dd,dd,dd,dd,dd,dd,dd,dd,dd,dd,dd,dd,dd,dd,dd,dd,dd,dd,dd,dd,dd,dd,dd,dd,dd,dd,dd,dd,dd,dd,dd,dd,dd,dd,dd,dd,dd,dd,dd,dd,dd,dd,dd,dd,dd,dd,dd,dd,dd,dd,dd,dd,dd,dd,dd,dd,dd,dd,dd,dd,dd,dd,dd,dd,dd,dd,dd,dd,dd,dd,dd,dd,dd],[(8,⟨2,[]⟩)]⟩)
   (fun i=>i≤l.length) (fun _=>()) (fun i=>l.length - i) 0
   (Gh.canon [] [8] [] zK rfl rfl) (Nat.zero_le _) ?_
  intro i hi0 hF K hK
  refine zw ?_
  refine zaa (fun hlt=> ?_) (fun hge=> ?_)
  ·have hi:i<l.length:=by simpa using hlt
   have hat:=zbs hi
   have hw:=zan hi (by omega)
   have hne:(l[i].num==num)=false:=by
    have:=List.any_eq_false.1 hnum _ (List.getElem_mem hi)
    simpa using this
   repeat'(first|refine zq (I hat (I hne (I @zai zca))) ?_|exact zd (I hat (I hne (I @zai zca)))|(refine zaa ?_ ?_<;>intro hb)|(refine And.intro ?_ ?_;exact zI)|(refine And.intro ?_ ?_<;>intro hg)|exact zC|fail)
   exact hK _ (i+1) (Gh.canon [] [] [] (zk hw) rfl rfl) hi rfl (by omega)
  ·cases e5:decide ((l.length:Int)≥5)
   ·rw[e5,if_neg (by simp)]at eo
    repeat'(first|refine zq e5 ?_|exact zd e5|refine zc (hfi) ?_|refine zg (hfi) ?_|(refine zaa ?_ ?_<;>intro hb)|(refine And.intro ?_ ?_;exact zI)|(refine And.intro ?_ ?_<;>intro hg)|exact zC|fail)
    refine zao (τ:=Nat×Bool×List Sess) (fun t=>⟨[al l.length (zaF l),ai c,ai num,ai now,dd,dd,dd,dd,dd,dd,dd,dd,dd, .one (.own ⟨13,1,1⟩ 0 t.2.2.length),ab t.2.1,ai t.1,dd,dd,dd,dd,dd,dd,dd,dd,dd,dd,dd,dd,dd,dd,dd,dd,dd,dd,dd,dd,dd,dd,dd,dd,dd,dd,dd,dd,dd,dd,dd,dd,dd,dd,dd,dd,dd,dd,dd,dd,dd,dd,dd,dd,dd,dd,dd,dd,dd,dd,dd,dd,dd,dd,dd,dd,dd,dd,dd,dd,dd,dd,dd,dd,dd,dd,dd,dd,dd,dd,dd,dd,dd,dd,dd,dd,dd,dd,dd,dd,dd,dd,dd,dd,dd,dd],[(8,⟨2,[]⟩),(11,⟨2,[]⟩),(13,{next:=2,l:=[none,some {e:=1,var:=false,fz:=false,sz:=3,cells:=(zaF t.2.2).map C.d}]}),(83,⟨2,[]⟩),(84,⟨2,[]⟩),(90,⟨2,[]⟩),(91,⟨2,[]⟩)]⟩)
     (fun t=>t.1≤l.length∧t.2.2.length≤2*t.1) (fun t=>t.2.2++(if t.2.1=true then l.drop t.1 else zrm (fun y:Sess=>decide (y.client>c)) ⟨c,num,now⟩ (l.drop t.1))) (fun t=>l.length - t.1) (0,false,[])
     ((Gh.nil (i:=13) (s:=13) (sz:=3) rfl).trans (Gh.canon [13] [83,84,90,91] [] zK rfl rfl)) ⟨Nat.zero_le _,by simp⟩ ?_
    intro⟨j,put,acc⟩ ⟨hj0,hac⟩ hF2 K2 hK2
    simp only[List.drop_zero,List.nil_append,Bool.false_eq_true,if_false]at hj0 hac hF2 hK2⊢
    refine zw ?_
    refine zaa (fun hlt2=> ?_) (fun hge2=> ?_)
    ·have hj:j<l.length:=by simpa using hlt2
     have haj:=zbs hj
     have hwj:=zan hj (by omega)
     have hst:=zoH (p:=fun y:Sess=>decide (y.client>c)) (x:=⟨c,num,now⟩) (put:=put) hj
     have htk:(zaF acc++[iD c,iD num,iD now]).take ((acc.length+1)*3)=zaF acc++[iD c,iD num,iD now]:=List.take_of_length_le (by rw[List.length_append,zai];simp only[List.length_cons,List.length_nil];omega)
     cases hb:(!put&&decide (l[j].client>c))
     ·simp only[hb,Bool.false_eq_true,if_false]at hst
      repeat'(first|refine zq (I haj (I hb (I @zai zca))) ?_|exact zd (I haj (I hb (I @zai zca)))|(refine zaa ?_ ?_<;>intro hb)|(refine And.intro ?_ ?_;exact zI)|(refine And.intro ?_ ?_<;>intro hg)|exact zC|fail)
      exact hK2 _ (j+1,put,acc++[l[j]]) (Gh.canon [13] [] [] (zk (I hwj (I @List.length_append.{0} @List.length_singleton.{0}))) rfl (by simp only[List.length_append,List.length_singleton];rw[zed];rfl)) ⟨hj,by simp only[List.length_append,List.length_singleton];omega⟩ (by simp only[List.append_assoc,List.singleton_append];rw[hst]) (by simp only;omega)
     ·simp only[hb,if_true]at hst
      repeat'(first|refine zq (I haj (I hb (I htk (I @zai zca)))) ?_|exact zd (I haj (I hb (I htk (I @zai zca))))|(refine zaa ?_ ?_<;>intro hb)|(refine And.intro ?_ ?_;exact zI)|(refine And.intro ?_ ?_<;>intro hg)|exact zC|fail)
      refine hK2 _ (j+1,true,acc++[⟨c,num,now⟩]++[l[j]]) (Gh.canon [13] [] [] (zk (I hwj (I @List.length_append.{0} @List.length_singleton.{0}))) rfl (by simp only[List.length_append,List.length_singleton];rw[zed,zed];rfl)) ⟨hj, ?_⟩ (by simp only[List.append_assoc,List.singleton_append];rw[hst];rfl) (by simp only;omega)
      simp only[List.length_append,List.length_singleton]
      omega
    ·have hj:j=l.length:=by
      have:¬(j:Int)<l.length:=by simpa using hge2
      omega
     rw[hj,List.drop_length]at hF2
     rw[zwb hf]at hF2
     rw[←hF2]at eo
     cases put
     ·have hF3:R=(acc++[⟨c,num,now⟩],0):=eo
      rw[hF3]
      repeat'(first|refine zq0 ?_|exact zd0|(refine zaa ?_ ?_<;>intro hb)|(refine And.intro ?_ ?_;exact zI)|(refine And.intro ?_ ?_<;>intro hg)|exact zC|fail)
      simp[zlR,zaY]
     ·have hF3:R=(acc++[],0):=eo
      rw[hF3,List.append_nil]
      repeat'(first|refine zq0 ?_|exact zd0|(refine zaa ?_ ?_<;>intro hb)|(refine And.intro ?_ ?_;exact zI)|(refine And.intro ?_ ?_<;>intro hg)|exact zC|fail)
      simp[zlR,zaY]
   ·rw[e5,if_pos rfl]at eo
    rw[eo]
    repeat'(first|refine zq e5 ?_|exact zd e5|refine zc (hfi) ?_|refine zg (hfi) ?_|(refine zaa ?_ ?_<;>intro hb)|(refine And.intro ?_ ?_;exact zI)|(refine And.intro ?_ ?_<;>intro hg)|exact zC|fail)
    simp[zlR,zaY]
 ·rw[e4,if_pos rfl]at eo
  rw[eo]
  rw[show(decide (num≥1)&&decide (num≤2305843009213693952))=false by simp at e4⊢;omega]at hg1
  repeat'(first|refine zq0 ?_|exact zd0|refine zc (hcl) ?_|refine zg (hcl) ?_|refine zc (hg1) ?_|refine zg (hg1) ?_|refine zc (hg2) ?_|refine zg (hg2) ?_|(refine zaa ?_ ?_<;>intro hb)|(refine And.intro ?_ ?_;exact zI)|(refine And.intro ?_ ?_<;>intro hg)|exact zC|fail)
  simp[zlR,zaY]
def zcF (c now:Int) (y:Sess):Sess:=if(y.client==c)=true then⟨y.client,y.num,max y.renewed now⟩else y
def zkj (l:List Sess) (c now:Int) (i:Nat):List Sess:=(l.take i).map (zcF c now)++l.drop i
theorem zlW {l:List Sess} {c now:Int} {i:Nat} (hi:i≤l.length):(zkj l c now i).length=l.length:=by
 unfold zkj
 rw[List.length_append,List.length_map,List.length_take,List.length_drop];omega
theorem zso {l:List Sess} {c now:Int} {i:Nat} (hi:i<l.length):∃h:i<(zkj l c now i).length,(zkj l c now i)[i]=l[i]:=by
 have hl:((l.take i).map (zcF c now)).length=i:=by rw[List.length_map,List.length_take];omega
 have h:(zkj l c now i)[i]? =some l[i]:=by
  unfold zkj
  rw[List.getElem?_append_right (by omega),hl,Nat.sub_self,List.getElem?_drop,Nat.add_zero,List.getElem?_eq_getElem hi]
 exact ziZ h
theorem zoI {l:List Sess} {c now:Int} {i:Nat} (hi:i<l.length):(zkj l c now i).set i (zcF c now l[i])=zkj l c now (i+1):=by
 have hl:((l.take i).map (zcF c now)).length=i:=by rw[List.length_map,List.length_take];omega
 unfold zkj
 rw[List.set_append_right _ _ (by omega),hl,Nat.sub_self,List.drop_eq_getElem_cons hi,List.set_cons_zero,List.take_add_one,List.getElem?_eq_getElem hi]
 simp only[Option.toList,List.map_append,List.map_cons,List.map_nil,List.append_assoc,List.cons_append,List.nil_append]
theorem zj5 {l:List Sess} (hs:SS l) {c now:Int} {x:Sess} (hx:zaC l c=some x):l.map (zcF c now)=l.set (zdf l c) ⟨x.client,x.num,max x.renewed now⟩:=by
 obtain⟨⟨hi,he⟩,hc⟩:=zfY hs hx
 apply List.ext_getElem (by simp)
 intro j h1 h2
 have hj:j<l.length:=by simpa using h1
 rw[List.getElem_map,List.getElem_set]
 split
 ·rename_i e
  subst e
  rw[he]
  unfold zcF
  rw[if_pos (by simpa using hc)]
 ·rename_i e
  unfold zcF
  rw[if_neg]
  intro h
  have hjc:l[j].client=c:=by simpa using h
  have hpc:l[zdf l c].client=c:=by rw[he];exact hc
  rcases Nat.lt_or_ge j (zdf l c)with q|q
  ·have:=List.pairwise_iff_getElem.1 hs j (zdf l c) hj hi q
   omega
  ·have:=List.pairwise_iff_getElem.1 hs (zdf l c) j hi hj (by omega)
   omega
theorem zoJ (l:List Sess) (hs:SS l) (hl:l.length<2^30) (c now:Int) (hn:0≤now∧now≤zaT) (hf:(zaC l c).isSome=true):CallOK Tryz.prog 102 [.f (al l.length (zaF l)), .f (ai c), .f (ai now)]
  (fun r o=>r=[.one (.own 3 (zbf l c now).1.length (zaF (zbf l c now).1) false),ri (zbf l c now).2]∧o=[]):=by
 refine CallOK.nil ?_
 refine zac zar mixed (T:=Ty) (n:=51) Tryz.func102 (c:=Tryz.f102.body.getD .skip) rfl Tryz.results102 Tryz.ntmps102 Tryz.call102 ?_
 simp only[Tryz.f102,Option.getD]
 have hg2:=zc5 now 0
 have hH:zaT=2305843009213693952:=rfl
 rw[show(decide (now≥0)&&decide (now≤2305843009213693952))=true by simp;omega]at hg2
 have hfi:=zcK l (by omega) c
 rw[hf]at hfi
 obtain⟨x,hx⟩:=Option.isSome_iff_exists.1 hf
 have hr:zbf l c now=(l.map (zcF c now),0):=by
  unfold zbf
  rw[if_neg (by simp;omega),hx,zj5 hs hx]
 rw[hr]
 repeat'(first|refine zq @zai ?_|exact zd @zai|refine zc (hg2) ?_|refine zg (hg2) ?_|refine zc (hfi) ?_|refine zg (hfi) ?_|(refine zaa ?_ ?_<;>intro hb)|(refine And.intro ?_ ?_;exact zI)|(refine And.intro ?_ ?_<;>intro hg)|exact zC|fail)
 refine zao (τ:=Nat) (fun i=>⟨[dd,ai c,ai now,dd,dd,dd,dd,dd,dd,dd, .one (.own ⟨10,1,1⟩ 0 l.length),ai i,dd,dd,dd,dd,dd,dd,dd,dd,dd,dd,dd,dd,dd,dd,dd,dd,dd,dd,dd,dd,dd,dd,dd,dd,dd,dd,dd,dd,dd,dd,dd,dd,dd,dd,dd,dd,dd,dd,dd],[(8,⟨2,[]⟩),(23,⟨2,[]⟩),(10,{next:=2,l:=[none,some {e:=1,var:=false,fz:=false,sz:=3,cells:=(zaF (zkj l c now i)).map C.d}]})]⟩)
  (fun i=>i≤l.length) (fun _=>()) (fun i=>l.length - i) 0
  (Gh.canon [10] [] [] zK rfl rfl) (Nat.zero_le _) ?_
 intro i hi0 hF K hK
 refine zw ?_
 refine zaa (fun hlt=> ?_) (fun hge=> ?_)
 ·have hi:i<l.length:=by simpa using hlt
  have hw:=zan hi (by omega)
  obtain⟨hic,hce⟩:=zso (c:=c) (now:=now) hi
  have hat:=zbs hic
  rw[hce]at hat
  have hat2:(zaF (zkj l c now i)).drop (i*3+2)=iD l[i].renewed::zaF ((zkj l c now i).drop (i+1)):=by rw[←List.drop_drop,hat];rfl
  have hsu:=zoI (c:=c) (now:=now) hi
  cases hb:l[i].client==c
  ·have hrx:zcF c now l[i]=l[i]:=by unfold zcF;rw[if_neg (by rw[hb];simp)]
   have hsame:zkj l c now (i+1)=zkj l c now i:=by
    rw[←hsu,hrx]
    conv=>lhs;rw[←hce]
    exact List.set_getElem_self ..
   repeat'(first|(with_reducible first|refine zab _ _ ?_|refine zaP ?_|refine zaQ ?_)|rw[zak]|simp only[hat,hb,←List.map_drop,List.map_cons,List.cons_append,List.nil_append,zai,zlW hi0,zY,Int.reduceEq,Int.reduceBEq,Int.reduceBNe,Nat.reduceSub,Nat.reduceEqDiff,Nat.reduceAdd,Nat.reduceMul,Nat.reduceLeDiff,Nat.reduceLT,Nat.reduceBEq,reduceCtorEq]|refine zam ?_|refine zaa (fun hb=> ?_) (fun hb=> ?_)|(refine And.intro ?_ ?_;exact zI)|refine And.intro (fun hg=> ?_) (fun hg=> ?_)|exact zC|fail)
   exact hK _ (i+1) (Gh.canon [10] [] [] (zk hw) rfl (by rw[hsame];rfl)) hi rfl (by omega)
  ·have hrx:zcF c now l[i]=⟨l[i].client,l[i].num,max l[i].renewed now⟩:=by unfold zcF;rw[if_pos hb]
   have hset:=zbP Sess.enc 3 (fun _=>rfl) hic (k:=2) (by decide) (iD (max l[i].renewed now)) (zcF c now l[i]) (by rw[hce,hrx];rfl)
   rw[hsu]at hset
   repeat'(first|(with_reducible first|refine zab _ _ ?_|refine zaP ?_|refine zaQ ?_)|rw[zak]|simp only[hat,hat2,hb,hset,←List.map_drop,List.map_cons,List.cons_append,List.nil_append,zai,zlW hi0,zY,Int.reduceEq,Int.reduceBEq,Int.reduceBNe,Nat.reduceSub,Nat.reduceEqDiff,Nat.reduceAdd,Nat.reduceMul,Nat.reduceLeDiff,Nat.reduceLT,Nat.reduceBEq,reduceCtorEq]|refine zam ?_|refine zaa (fun hb=> ?_) (fun hb=> ?_)|(refine And.intro ?_ ?_;exact zI)|refine And.intro (fun hg=> ?_) (fun hg=> ?_)|exact zC|fail)
   exact hK _ (i+1) (Gh.canon [10] [] [] (zk hw) rfl rfl) hi rfl (by omega)
 ·have hi:i=l.length:=by
   have:¬(i:Int)<l.length:=by simpa using hge
   omega
  have hcu:zkj l c now i=l.map (zcF c now):=by rw[hi];unfold zkj;rw[List.take_length,List.drop_length,List.append_nil]
  rw[hcu]
  repeat'(first|refine zq0 ?_|exact zd0|(refine zaa ?_ ?_<;>intro hb)|(refine And.intro ?_ ?_;exact zI)|(refine And.intro ?_ ?_<;>intro hg)|exact zC|fail)
  simp[zlR,zaY]
theorem zoK (l:List Sess) (hl:l.length<2^30) (c:Int):CallOK Tryz.prog 98 [.f (al l.length (zaF l)), .f (ai c)]
  (fun r o=>r=[.one (.own 3 (if(zaC l c).isSome=true then l.filter (fun x=>x.client !=c)else []).length (zaF (if(zaC l c).isSome=true then l.filter (fun x=>x.client !=c)else [])) false),ri (if(zaC l c).isSome=true then 0 else 6)]∧o=[]):=by
 refine CallOK.nil ?_
 refine zac zar mixed (T:=Ty) (n:=39) Tryz.func98 (c:=Tryz.f98.body.getD .skip) rfl Tryz.results98 Tryz.ntmps98 Tryz.call98 ?_
 simp only[Tryz.f98,Option.getD]
 have hfi:=zcK l (by omega) c
 cases hf:(zaC l c).isSome
 ·rw[hf]at hfi
  rw[if_neg (by simp),if_neg (by simp)]
  repeat'(first|refine zq0 ?_|exact zd0|refine zc (hfi) ?_|refine zg (hfi) ?_|(refine zaa ?_ ?_<;>intro hb)|(refine And.intro ?_ ?_;exact zI)|(refine And.intro ?_ ?_<;>intro hg)|exact zC|fail)
  simp[zlR,zaY]
 ·rw[hf]at hfi
  rw[if_pos rfl,if_pos rfl]
  repeat'(first|refine zq0 ?_|exact zd0|refine zc (hfi) ?_|refine zg (hfi) ?_|(refine zaa ?_ ?_<;>intro hb)|(refine And.intro ?_ ?_;exact zI)|(refine And.intro ?_ ?_<;>intro hg)|exact zC|fail)
  refine zao (τ:=Nat×List Sess) (fun t=>⟨[al l.length (zaF l),ai c,dd,dd,dd,dd,dd,dd, .one (.own ⟨8,1,1⟩ 0 t.2.length),ai t.1,dd,dd,dd,dd,dd,dd,dd,dd,dd,dd,dd,dd,dd,dd,dd,dd,dd,dd,dd,dd,dd,dd,dd,dd,dd,dd,dd,dd,dd],[(6,⟨2,[]⟩),(8,{next:=2,l:=[none,some {e:=1,var:=false,fz:=false,sz:=3,cells:=(zaF t.2).map C.d}]}),(36,⟨2,[]⟩),(37,⟨2,[]⟩)]⟩)
   (fun t=>t.1≤l.length∧t.2.length≤t.1) (fun t=>t.2++(l.drop t.1).filter (fun x=>x.client !=c)) (fun t=>l.length - t.1) (0,[])
   ((Gh.nil (i:=8) (s:=8) (sz:=3) rfl).trans (Gh.canon [8] [36,37] [] zK rfl rfl)) ⟨Nat.zero_le _,Nat.zero_le _⟩ ?_
  intro⟨i,acc⟩ ⟨hi0,hac⟩ hF K hK
  simp only[List.drop_zero,List.nil_append]at hi0 hac hF hK⊢
  refine zw ?_
  refine zaa (fun hlt=> ?_) (fun hge=> ?_)
  ·have hi:i<l.length:=by simpa using hlt
   have hat:=zbs hi
   have hw:=zan hi (by omega)
   have hFs:=List.drop_eq_getElem_cons hi
   cases hb:l[i].client !=c
   ·repeat'(first|refine zq (I hat (I hb (I @zai zca))) ?_|exact zd (I hat (I hb (I @zai zca)))|(refine zaa ?_ ?_<;>intro hb)|(refine And.intro ?_ ?_;exact zI)|(refine And.intro ?_ ?_<;>intro hg)|exact zC|fail)
    exact hK _ (i+1,acc) (Gh.canon [8] [] [] (zk hw) rfl rfl) ⟨hi,by simp only;omega⟩ (by simp only;rw[hFs,List.filter_cons,hb,if_neg (by simp)]) (by simp only;omega)
   ·repeat'(first|refine zq (I hat (I hb (I @zai zca))) ?_|exact zd (I hat (I hb (I @zai zca)))|(refine zaa ?_ ?_<;>intro hb)|(refine And.intro ?_ ?_;exact zI)|(refine And.intro ?_ ?_<;>intro hg)|exact zC|fail)
    exact hK _ (i+1,acc++[l[i]]) (Gh.canon [8] [] [] (zk (I hw (I @List.length_append.{0} @List.length_singleton.{0}))) rfl (by simp only[List.length_append,List.length_singleton];rw[zed];rfl)) ⟨hi,by simp only[List.length_append,List.length_singleton];omega⟩ (by simp only[List.append_assoc,List.singleton_append];rw[hFs,List.filter_cons,hb,if_pos rfl]) (by simp only;omega)
  ·have hi:i=l.length:=by
    have:¬(i:Int)<l.length:=by simpa using hge
    omega
   rw[hi,List.drop_length,List.filter_nil,List.append_nil]at hF
   rw[←hF]
   repeat'(first|refine zq0 ?_|exact zd0|(refine zaa ?_ ?_<;>intro hb)|(refine And.intro ?_ ?_;exact zI)|(refine And.intro ?_ ?_<;>intro hg)|exact zC|fail)
   simp[zlR,zaY]
end Go.Proofs.YtngleemijkaeoaaGreat
