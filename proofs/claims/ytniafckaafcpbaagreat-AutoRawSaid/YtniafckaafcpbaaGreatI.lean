import Derived.Test.YtniafckaafcpbaaGreatH
namespace Go.Proofs.YtniafckaafcpbaaGreat
open Go.Pk
set_option linter.unusedSimpArgs false
set_option linter.unusedVariables false
structure RightS (s:St):Prop where
 time:0≤s.time∧s.time≤High
 num:0≤s.num∧s.num≤High
 token:0≤s.token∧s.token≤High
 ss:SS s.sess
 sok:∀x∈s.sess,okSess x=true∧x.num≤s.num
 snd:s.sess.Pairwise fun a b=>a.num≠b.num
 sl:s.sess.length≤5
 ls:SL s.locks
 lok:∀k∈s.locks,okLk k=true∧k.token≤s.token∧lineB k.line=true∧hasI k.line k.holder=false
 lnd:s.locks.Pairwise fun a b=>a.token≠b.token
 ll:s.locks.length≤4
 ms:SM s.memos
 mok:∀m∈s.memos,answerB m=true
 seat:∀k∈s.locks,(findS s.sess k.holder).isSome=true∧∀c∈k.line,(findS s.sess c).isSome=true
theorem zb7 {α:Type} {r:α→α→Prop} (ht:∀a b c,r a b→r b c→r a c):∀{l:List α},(∀j (hj:j<l.length),0<j→r (l[j - 1]'(by omega)) l[j])→l.Pairwise r
 |[],_=>List.Pairwise.nil
 |[x],_=>by simp
 |x::y::l,h=>by
  have h1:r x y:=h 1 (by simp) (by decide)
  have ih:(y::l).Pairwise r:=zb7 ht fun j hj h0=>by
   have:=h (j+1) (by simpa using hj) (by omega)
   obtain⟨k,rfl⟩:∃k,j=k+1:=⟨j - 1,by omega⟩
   simpa using this
  refine List.pairwise_cons.2 ⟨fun z hz=> ?_,ih⟩
  rcases List.mem_cons.1 hz with rfl|hz
  ·exact h1
  ·exact ht _ _ _ h1 ((List.pairwise_cons.1 ih).1 z hz)
theorem zb8 {α:Type} {r:α→α→Prop} {l:List α} (h:l.Pairwise r) (j:Nat) (hj:j<l.length) (h0:0<j):r (l[j - 1]'(by omega)) l[j]:=
 List.pairwise_iff_getElem.1 h (j - 1) j (by omega) hj (by omega)
theorem zcW {α:Type} {l:List α} {i:Nat} {p:α→Bool} (hi:i<l.length):(l.take i).any p=false↔∀j (hj:j<l.length),j<i→p l[j]=false:=by
 rw[List.any_eq_false]
 constructor
 ·intro h j hj hji
  have hm:l[j]∈l.take i:=by
   rw[List.mem_take_iff_getElem]
   exact⟨j,by omega,rfl⟩
  simpa using h _ hm
 ·intro h x hx
  rw[List.mem_take_iff_getElem]at hx
  obtain⟨j,hj,rfl⟩:=hx
  simp[h j (by omega) (by omega)]
theorem zgO {l:List Sess}:sessB l=true↔l.length≤5∧(∀x∈l,okSess x=true)∧SS l∧l.Pairwise fun a b=>a.num≠b.num:=by
 unfold sessB
 rw[Bool.and_eq_true,zbu]
 simp only[Nat.zero_add,Bool.not_eq_true',decide_eq_false_iff_not]
 constructor
 ·rintro⟨h1,h2⟩
  have q:∀j (hj:j<l.length),okSess l[j]=true∧(0<j→prevS l j<l[j].client)∧(∀k (hk:k<l.length),k<j→l[k].num≠l[j].num):=by
   intro j hj
   have:=h2 j hj
   unfold sessQ at this
   simp only[Bool.and_eq_true,Bool.not_eq_true',Bool.or_eq_false_iff,Bool.and_eq_false_iff,decide_eq_false_iff_not]at this
   obtain⟨a,b,c⟩:=this
   refine⟨a,fun h0=> ?_,fun k hk hkj=> ?_⟩
   ·rcases b with b|b
    ·omega
    ·omega
   ·have:=(zcW hj).1 c k hk hkj
    simpa using this
  refine⟨by omega,fun x hx=> ?_, ?_, ?_⟩
  ·obtain⟨j,hj,rfl⟩:=List.getElem_of_mem hx
   exact(q j hj).1
  ·refine zb7 (fun a b c h1 h2=>by omega) fun j hj h0=> ?_
   have:=(q j hj).2.1 h0
   unfold prevS at this
   rw[List.getElem?_eq_getElem (by omega)]at this
   simpa using this
  ·rw[List.pairwise_iff_getElem]
   intro i j hi hj hij
   exact(q j hj).2.2 i hi hij
 ·rintro⟨h1,h2,h3,h4⟩
  refine⟨by omega,fun j hj=> ?_⟩
  unfold sessQ
  simp only[Bool.and_eq_true,Bool.not_eq_true',Bool.or_eq_false_iff,Bool.and_eq_false_iff,decide_eq_false_iff_not]
  refine⟨h2 _ (List.getElem_mem hj), ?_, ?_⟩
  ·by_cases h0:0<j
   ·right
    have:=zb8 h3 j hj h0
    unfold prevS
    rw[List.getElem?_eq_getElem (by omega)]
    simpa using this
   ·left;omega
  ·exact(zcW hj).2 fun k hk hkj=>by
    have:=List.pairwise_iff_getElem.1 h4 k j hk hj hkj
    simpa using this
theorem za7 {l:List Int}:lineB l=true↔l.length≤3∧(∀c∈l,isClient c=true)∧l.Nodup:=by
 unfold lineB
 rw[Bool.and_eq_true,zbu]
 simp only[Nat.zero_add,decide_eq_true_eq]
 constructor
 ·rintro⟨h1,h2⟩
  have q:∀j (hj:j<l.length),isClient l[j]=true∧(∀k (hk:k<l.length),k<j→l[k]≠l[j]):=by
   intro j hj
   have:=h1 j hj
   unfold lineQ at this
   simp only[Bool.not_eq_true',Bool.or_eq_false_iff,Bool.not_eq_false']at this
   refine⟨this.1,fun k hk hkj=> ?_⟩
   have h3:=(zcW hj).1 this.2 k hk hkj
   have h4:¬l[j]=l[k]:=by simpa using h3
   exact fun h=>h4 h.symm
  refine⟨by omega,fun x hx=> ?_, ?_⟩
  ·obtain⟨j,hj,rfl⟩:=List.getElem_of_mem hx
   exact(q j hj).1
  ·unfold List.Nodup
   rw[List.pairwise_iff_getElem]
   intro i j hi hj hij
   exact(q j hj).2 i hi hij
 ·rintro⟨h1,h2,h3⟩
  refine⟨fun j hj=> ?_,by omega⟩
  unfold lineQ
  simp only[Bool.not_eq_true',Bool.or_eq_false_iff,Bool.not_eq_false']
  refine⟨h2 _ (List.getElem_mem hj), ?_⟩
  exact(zcW hj).2 fun k hk hkj=>by
   unfold List.Nodup at h3
   have:=List.pairwise_iff_getElem.1 h3 k j hk hj hkj
   simpa using fun h=>this h.symm
theorem zkc {l:List Lk}:lockB l=true↔l.length≤4∧(∀k∈l,okLk k=true∧lineB k.line=true∧hasI k.line k.holder=false)∧SL l∧l.Pairwise fun a b=>a.token≠b.token:=by
 unfold lockB
 rw[Bool.and_eq_true,zbu]
 simp only[Nat.zero_add,decide_eq_true_eq]
 constructor
 ·rintro⟨h1,h2⟩
  have q:∀j (hj:j<l.length),(okLk l[j]=true∧lineB l[j].line=true∧hasI l[j].line l[j].holder=false)∧(0<j→bLess (prevL l j) l[j].name=true)∧(∀k (hk:k<l.length),k<j→l[k].token≠l[j].token):=by
   intro j hj
   have:=h1 j hj
   unfold lockQ at this
   simp only[Bool.and_eq_true,Bool.not_eq_true',Bool.or_eq_false_iff,Bool.and_eq_false_iff,decide_eq_false_iff_not,Bool.not_eq_false']at this
   obtain⟨⟨a,⟨b1,b2⟩,b3⟩,c⟩:=this
   refine⟨⟨a,b1,b2⟩,fun h0=> ?_,fun k hk hkj=> ?_⟩
   ·rcases b3 with b|b
    ·omega
    ·exact b
   ·have:=(zcW hj).1 c k hk hkj
    simpa using this
  refine⟨by omega,fun x hx=> ?_, ?_, ?_⟩
  ·obtain⟨j,hj,rfl⟩:=List.getElem_of_mem hx
   exact(q j hj).1
  ·refine zb7 (r:=fun x y:Lk=>bLess x.name y.name=true) (fun a b c h1 h2=>zel h1 h2) fun j hj h0=> ?_
   have:=(q j hj).2.1 h0
   unfold prevL at this
   rw[List.getElem?_eq_getElem (by omega)]at this
   simpa using this
  ·rw[List.pairwise_iff_getElem]
   intro i j hi hj hij
   exact(q j hj).2.2 i hi hij
 ·rintro⟨h1,h2,h3,h4⟩
  refine⟨fun j hj=> ?_,by omega⟩
  unfold lockQ
  simp only[Bool.and_eq_true,Bool.not_eq_true',Bool.or_eq_false_iff,Bool.and_eq_false_iff,decide_eq_false_iff_not,Bool.not_eq_false']
  obtain⟨a,b,c⟩:=h2 _ (List.getElem_mem hj)
  refine⟨⟨a,⟨b,c⟩, ?_⟩, ?_⟩
  ·by_cases h0:0<j
   ·right
    have:=zb8 h3 j hj h0
    unfold prevL
    rw[List.getElem?_eq_getElem (by omega)]
    simpa using this
   ·left;omega
  ·exact(zcW hj).2 fun k hk hkj=>by
    have:=List.pairwise_iff_getElem.1 h4 k j hk hj hkj
    simpa using this
theorem zkd {l:List Memo}:memoB l=true↔(∀m∈l,answerB m=true)∧SM l:=by
 unfold memoB
 rw[zbu]
 simp only[Nat.zero_add]
 constructor
 ·intro h1
  have q:∀j (hj:j<l.length),answerB l[j]=true∧(0<j→prevM l j<l[j].client):=by
   intro j hj
   have:=h1 j hj
   unfold memoQ at this
   simp only[Bool.not_eq_true',Bool.or_eq_false_iff,Bool.and_eq_false_iff,decide_eq_false_iff_not,Bool.not_eq_false']at this
   refine⟨this.1,fun h0=> ?_⟩
   rcases this.2 with b|b
   ·omega
   ·omega
  refine⟨fun x hx=> ?_, ?_⟩
  ·obtain⟨j,hj,rfl⟩:=List.getElem_of_mem hx
   exact(q j hj).1
  ·refine zb7 (fun a b c h1 h2=>by omega) fun j hj h0=> ?_
   have:=(q j hj).2 h0
   unfold prevM at this
   rw[List.getElem?_eq_getElem (by omega)]at this
   simpa using this
 ·rintro⟨h2,h3⟩ j hj
  unfold memoQ
  simp only[Bool.not_eq_true',Bool.or_eq_false_iff,Bool.and_eq_false_iff,decide_eq_false_iff_not,Bool.not_eq_false']
  refine⟨h2 _ (List.getElem_mem hj), ?_⟩
  by_cases h0:0<j
  ·right
   have:=zb8 h3 j hj h0
   unfold prevM
   rw[List.getElem?_eq_getElem (by omega)]
   simpa using this
  ·left;omega
theorem zdZ {s:St}:rightB s=true↔RightS s:=by
 unfold rightB seatedB within
 simp only[Bool.and_eq_true,decide_eq_true_eq,zgO,zkc,zkd,List.all_eq_true,List.mem_cons,forall_eq_or_imp]
 constructor
 ·rintro⟨⟨⟨⟨⟨⟨⟨⟨h1,h2⟩,h3⟩,a,b,c,d⟩,e,f,g,h⟩,i,j⟩,k⟩,l⟩,m⟩
  exact⟨h1,h2,h3,c,fun x hx=>⟨b x hx,k x hx⟩,d,a,g,fun k hk=>⟨(f k hk).1,l k hk,(f k hk).2⟩,h,e,j,i,m⟩
 ·intro h
  exact⟨⟨⟨⟨⟨⟨⟨⟨h.time,h.num⟩,h.token⟩,h.sl,fun x hx=>(h.sok x hx).1,h.ss,h.snd⟩,h.ll,fun k hk=>⟨(h.lok k hk).1,(h.lok k hk).2.2⟩,h.ls,h.lnd⟩,h.mok,h.ms⟩,fun x hx=>(h.sok x hx).2⟩,fun k hk=>(h.lok k hk).2.1⟩,h.seat⟩
end Go.Proofs.YtniafckaafcpbaaGreat
