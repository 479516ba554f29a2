import Derived.Test.YtniafckaafcpbaaGreatVK
import Derived.Test.YtniafckaafcpbaaGreatVL
namespace Go.Proofs.YtniafckaafcpbaaGreat
open Go.Pk
set_option maxRecDepth 100000
set_option linter.unusedSimpArgs false
set_option linter.unusedVariables false
structure TmB (s:St) (i:Nat):Prop where
 time:s.time≤16*i
 ren:∀x∈s.sess,x.renewed≤s.time
theorem zn4 {s:St} (h:RightS s) {r:Req} (hm:Req.may r=true) (hN:s.num+1≤High) (hT:s.token+4≤High) (hr:∀x∈s.sess,x.renewed≤s.time):∀x∈(doneP s r).1.sess,x.renewed≤s.time:=by
 obtain⟨hc,_⟩:=zd7 hm
 unfold doneP
 split
 ·unfold openedP
  cases hf:findS s.sess r.client with
  |some x=>exact hr
  |none=>
   simp only
   rw[zgw h hc hN hf]
   by_cases h5:s.sess.length≥5
   ·rw[if_pos h5,if_pos (by simp)];exact hr
   ·rw[if_neg h5,if_neg (by simp)]
    intro x hx
    simp only at hx
    rcases List.mem_append.1 hx with hx|hx
    ·exact hr x (List.mem_of_mem_take hx)
    ·rcases List.mem_cons.1 hx with rfl|hx
     ·exact Int.le_refl _
     ·exact hr x (List.mem_of_mem_drop hx)
 ·cases hf:findS s.sess r.client with
  |none=>exact hr
  |some x=>
   simp only
   split
   ·exact hr
   ·have hx:=hr x (List.mem_of_find?_eq_some hf)
    have h1:∀y∈(renewP s.sess r.client s.time).1,y.renewed≤s.time:=by
     rw[zcb h hf]
     intro y hy
     rcases List.mem_or_eq_of_mem_set hy with hy|hy
     ·exact hr y hy
     ·rw[hy];simp only;omega
    split
    ·split
     ·exact h1
     ·split<;>exact h1
    ·split
     ·split<;>exact h1
     ·split
      ·intro y hy
       exact h1 y (List.mem_filter.1 hy).1
      ·exact h1
theorem zmu {s:St} (h:RightS s) {r:Req} (hN:s.num+1≤High) (hT:s.token+4≤High) (hr:∀x∈s.sess,x.renewed≤s.time):∀x∈(applyP s r).1.sess,x.renewed≤s.time:=by
 unfold applyP
 split
 ·exact hr
 ·rename_i hm
  split
  ·exact hr
  ·split
   ·exact hr
   ·exact zn4 h (by simpa using hm) hN hT hr
theorem zeF {s:St} {t:Int} (h:s.time≤t) (hH:t≤High):timeP s t=t:=by
 unfold timeP
 split
 ·rfl
 ·rename_i h1
  simp only[Bool.and_eq_true,decide_eq_true_eq,not_and]at h1
  omega
theorem zli:∀{l:List Act} {s:St} {i:Nat},(∀a∈l,actOk a)→Mk s i→TmB s i→i+l.length≤1000→TmB (madeP l s) (i+l.length)
 |[],_,_,_,_,h,_=>h
 |a::l,s,i,ha,hk,h,hi=>by
  simp only[List.length_cons]at hi⊢
  have hH:High=2305843009213693952:=rfl
  obtain⟨h1,h2,h3⟩:=hk
  obtain⟨t1,t2⟩:=h
  obtain⟨r1,r2,r3,r4,r5⟩:=zbg h1 (s.time+a.time % 16) 60 (by omega)
  have e1:timeP s (s.time+a.time % 16)=s.time+a.time % 16:=zeF (by omega) (by omega)
  have e2:(advanceP s (s.time+a.time % 16) 60).time=s.time+a.time % 16:=e1
  have d4:=(zcB r1 (reqA (advanceP s (s.time+a.time % 16) 60) a) (by omega) (by omega)).time
  have hr1:∀x∈(advanceP s (s.time+a.time % 16) 60).sess,x.renewed≤(advanceP s (s.time+a.time % 16) 60).time:=fun x hx=>by
   have:=t2 x (List.mem_filter.1 hx).1
   rw[e2];omega
  have h2':=zmu (r:=reqA (advanceP s (s.time+a.time % 16) 60) a) r1 (by omega) (by omega) hr1
  have hst:TmB (stepP s a) (i+1):=⟨by
   show(applyP _ _).1.time≤_
   rw[d4,e2];omega,fun x hx=>by
   have:=h2' x hx
   show x.renewed≤(applyP _ _).1.time
   rw[d4];exact this⟩
  have:=zli (l:=l) (fun a ha'=>ha a (List.mem_cons_of_mem _ ha')) (zgK ⟨h1,h2,h3⟩ (by omega) a) hst (by omega)
  rwa[show i+1+l.length=i+(l.length+1) by omega]at this
theorem zmv (acts:List Act) (ha:∀a∈acts,actOk a):TmB (madeS acts) 60:=by
 have h:=zli (l:=acts.take 60) (s:=st0) (i:=0) (fun a h=>ha a (List.mem_of_mem_take h)) ⟨zbQ,by decide,by decide⟩ ⟨by decide,fun x hx=>by cases hx⟩ (by simp;omega)
 have hl:(acts.take 60).length≤60:=by simp;omega
 exact⟨by have:=h.time;show(madeP (acts.take 60) st0).time≤_;omega,h.ren⟩
theorem zlj {l:List Sess} {c:Int} {y:Sess} {p:Sess→Bool} (h:findS l c=some y) (hp:∀x∈l,x.client=c→p x=true):findS (l.filter p) c=some y:=by
 induction l with
 |nil=>cases h
 |cons a l ih=>
  unfold findS at h ih⊢
  rw[List.find?_cons]at h
  rw[List.filter_cons]
  cases hq:a.client==c
  ·rw[hq]at h
   split
   ·rw[List.find?_cons,hq];exact ih h fun x hx=>hp x (List.mem_cons_of_mem _ hx)
   ·exact ih h fun x hx=>hp x (List.mem_cons_of_mem _ hx)
  ·rw[if_pos (hp a (List.mem_cons_self ..) (by simpa using hq)),List.find?_cons,hq]
   rw[hq]at h
   exact h
theorem zlk {l:List Sess} {c:Int} {p:Sess→Bool} (hp:∀x∈l,x.client=c→p x=false):findS (l.filter p) c=none:=by
 unfold findS
 rw[List.find?_eq_none]
 intro x hx
 obtain⟨h1,h2⟩:=List.mem_filter.1 hx
 intro hc
 rw[hp x h1 (by simpa using hc)]at h2
 cases h2
theorem zdX (gone:List Int) (token:Int):∀{l:List Lk} {g:Int} {k:Lk},k∈l→hasI gone k.holder=false→k∈(dropR gone token l g).1
 |a::l,g,k,hk,hg=>by
  rw[dropR]
  rcases List.mem_cons.1 hk with rfl|hk
  ·rw[if_neg (by rw[hg];simp)]
   exact List.mem_cons_self ..
  ·split
   ·split
    ·exact zdX gone token hk hg
    ·exact List.mem_cons_of_mem _ (zdX gone token hk hg)
   ·exact List.mem_cons_of_mem _ (zdX gone token hk hg)
theorem zi9 {l:List Lk} {c:Int} {g:Grant}:g∈heldP l c↔∃k∈l,k.holder=c∧g=⟨k.name,k.token⟩:=by
 unfold heldP
 rw[List.mem_map]
 constructor
 ·rintro⟨k,h1,h2⟩
  obtain⟨h3,h4⟩:=List.mem_filter.1 h1
  exact⟨k,h3,by simpa using h4,h2.symm⟩
 ·rintro⟨k,h1,h2,h3⟩
  exact⟨k,List.mem_filter.2 ⟨h1,by simpa using h2⟩,h3.symm⟩
theorem zll {l:List Lk} {gone:List Int} {token c:Int} (hg:hasI gone c=false) {g:Grant} (h:g∈heldP l c):g∈heldP (dropP l gone token).1 c:=by
 obtain⟨k,h1,h2,h3⟩:=zi9.1 h
 refine zi9.2 ⟨lockWithout gone k,zdX gone token (List.mem_map_of_mem h1) (by simpa[lockWithout,h2]using hg),h2,h3⟩
def tokP (l:List Grant) (s:ByteArray):Int:=((l.find? fun g=>g.name.toList==s.toList).map Grant.token).getD 0
theorem zn5 {l:List Grant} (h:l.Pairwise fun a b=>bLess a.name b.name=true) {g:Grant} (hg:g∈l):tokP l g.name=g.token:=by
 induction l with
 |nil=>cases hg
 |cons a l ih=>
  unfold tokP at ih⊢
  rw[List.find?_cons]
  obtain⟨h1,h2⟩:=List.pairwise_cons.1 h
  rcases List.mem_cons.1 hg with rfl|hg
  ·rw[show(g.name.toList==g.name.toList)=true from by simp];rfl
  ·have hb:=h1 g hg
   cases hq:a.name.toList==g.name.toList
   ·exact ih h2 hg
   ·have e:a.name.toList=g.name.toList:=by simpa using hq
    unfold bLess at hb
    rw[e,zfY]at hb;cases hb
theorem zlm {l:List Lk} (hs:SL l) {c:Int} {g:Grant} (h:g∈heldP l c):tokP (heldP l c) g.name=g.token:=by
 refine zn5 ?_ h
 unfold heldP
 rw[List.pairwise_map]
 exact List.Pairwise.sublist (List.filter_sublist ..) hs
theorem zln {l:List Sess} {now lease c:Int} (h1:0≤now) (h2:now≤High) (h3:0≤lease) (h4:lease≤High):hasI (dueP l now lease) c=true↔∃x∈l,x.client=c∧now - x.renewed≥lease:=by
 rw[zgx]
 unfold dueP
 rw[if_neg (by simp;omega),List.mem_map]
 constructor
 ·rintro⟨x,hx,rfl⟩
  obtain⟨h5,h6⟩:=List.mem_filter.1 hx
  exact⟨x,h5,rfl,by simpa using h6⟩
 ·rintro⟨x,h5,h6,h7⟩
  exact⟨x,List.mem_filter.2 ⟨h5,by simpa using h7⟩,h6⟩
theorem zhW {l:List Sess} (h:SS l) {c:Int} {x y:Sess} (hy:findS l c=some y) (hx:x∈l) (hc:x.client=c):x=y:=by
 induction l with
 |nil=>cases hx
 |cons a l ih=>
  obtain⟨h1,h2⟩:=List.pairwise_cons.1 h
  unfold findS at hy ih
  rw[List.find?_cons]at hy
  cases hq:a.client==c
  ·rw[hq]at hy
   rcases List.mem_cons.1 hx with rfl|hx
   ·rw[hc]at hq;simp at hq
   ·exact ih h2 hy hx
  ·rw[hq]at hy
   cases hy
   rcases List.mem_cons.1 hx with e|hx
   ·exact e
   ·have:=h1 x hx
    have:y.client=c:=by simpa using hq
    omega
structure EI (c nu d q0:Int) (H:List Grant) (i:Nat) (t:St):Prop where
 rt:RightS t
 num:t.num≤60
 tok:t.token≤500+10*i
 time:t.time≤1000+300*i
 ses:∃y,findS t.sess c=some y∧y.num=nu∧y.renewed≤t.time∧(0<i→t.time=y.renewed+d - 1)
 mem:((findM t.memos c).getD noMemo).seq=q0+i
 held:∀g∈H,g∈heldP t.locks c
 fst:i=0→heldP t.locks c=H
theorem zfr {t:St} {c q nu:Int} {y:Sess} (h:findS t.sess c=some y) (hn:y.num=nu):doneP t ⟨c,q,2,nu, .empty⟩=({t with sess:=(renewP t.sess c t.time).1},⟨0,nu,0,heldP t.locks c⟩):=by
 unfold doneP
 rw[if_neg (by simp)]
 simp only
 rw[h]
 simp only
 rw[if_neg (by simp[hn]),if_neg (by simp),if_neg (by simp),if_neg (by simp),hn]
theorem zn6 {c nu d q0:Int} {H:List Grant} {i:Nat} {t:St} (h:EI c nu d q0 H i t) (hi:i≤10) (hc:isClient c=true) (hnu:1≤nu∧nu≤60) (hd:2≤d∧d≤257) (hq:0≤q0∧q0≤66):
  ∃u:St,applyP t ⟨c,q0+i+1,2,nu, .empty⟩=(u,⟨0,nu,0,heldP t.locks c⟩,true)∧RightS u∧u.time=t.time∧EI c nu d q0 H (i+1) (advanceP u (u.time+d - 1) d)∧
   (advanceP u (u.time+d - 1) d).time=t.time+d - 1:=by
 have hH:High=2305843009213693952:=rfl
 obtain⟨h1,h2,h3,h4,⟨y,y1,y2,y3,y4⟩,h6,h7,h8⟩:=h
 have ht0:=h1.time
 have hc8:=zbd.1 hc
 have hm:Req.may ⟨c,q0+i+1,2,nu, .empty⟩=true:=by
  unfold Req.may mayP
  simp;omega
 have hap:=zjO (s:=t) hm (by simp only;omega)
 rw[zfr y1 y2]at hap
 have hR:=zcB h1 ⟨c,q0+i+1,2,nu, .empty⟩ (by omega) (by omega)
 have hdid:=zlI h1 (zaM h1) (q:=⟨c,q0+i+1,2,nu, .empty⟩) (by omega) (by omega) (by rw[hap])
 rw[hap]at hR hdid
 obtain⟨⟨hi1,he1⟩,hyc⟩:=zcD h1.ss y1
 have hsess:=zcb h1 y1
 have hmx:max y.renewed t.time=t.time:=by omega
 rw[hsess]at hap hR hdid
 simp only at hap hR hdid
 rw[hmx]at hap hR
 have hzm:(⟨y.client,y.num,t.time⟩:Sess)∈t.sess.set (posS t.sess c) ⟨y.client,y.num,t.time⟩:=List.mem_set hi1 _
 have hz:findS (t.sess.set (posS t.sess c) ⟨y.client,y.num,t.time⟩) c=some ⟨y.client,y.num,t.time⟩:=by
  obtain⟨z,hz⟩:=Option.isSome_iff_exists.1 (zbw.2 ⟨_,hzm,hyc⟩)
  rw[hz,zhW hR.rt.ss hz hzm hyc]
 generalize hS:t.sess.set (posS t.sess c) ⟨y.client,y.num,t.time⟩=S' at*
 generalize hK:keepP t.memos ⟨c,q0+i+1,⟨0,nu,0,heldP t.locks c⟩⟩=M' at*
 refine⟨_,hap,hR.rt,rfl, ?_, ?_⟩
 ·obtain⟨a1,a2,a3,a4,a5⟩:=zbg hR.rt (t.time+d - 1) d (by simp only;omega)
  simp only at a2 a3 a4 a5
  have hT:timeP ⟨t.time,t.num,t.token,S',t.locks,M'⟩ (t.time+d - 1)=t.time+d - 1:=zeF (by simp only;omega) (by omega)
  have hmd:max d 1=d:=by omega
  have hg:hasI (dueP S' (t.time+d - 1) d) c=false:=by
   rw[Bool.eq_false_iff]
   intro hh
   obtain⟨x,x1,x2,x3⟩:=(zln (by omega) (by omega) (by omega) (by omega)).1 hh
   rw[zhW hR.rt.ss hz x1 x2]at x3
   simp only at x3
   omega
  have eT:(advanceP ⟨t.time,t.num,t.token,S',t.locks,M'⟩ (t.time+d - 1) d).time=t.time+d - 1:=hT
  have eS:(advanceP ⟨t.time,t.num,t.token,S',t.locks,M'⟩ (t.time+d - 1) d).sess=S'.filter fun x=> !hasI (dueP S' (t.time+d - 1) d) x.client:=by
   unfold advanceP withoutSt;simp only;rw[hT,hmd]
  have eL:(advanceP ⟨t.time,t.num,t.token,S',t.locks,M'⟩ (t.time+d - 1) d).locks=(dropP t.locks (dueP S' (t.time+d - 1) d) t.token).1:=by
   unfold advanceP withoutSt;simp only;rw[hT,hmd]
  have eM:(advanceP ⟨t.time,t.num,t.token,S',t.locks,M'⟩ (t.time+d - 1) d).memos=M':=rfl
  simp only
  generalize advanceP ⟨t.time,t.num,t.token,S',t.locks,M'⟩ (t.time+d - 1) d=V at*
  refine⟨a1,by omega,by omega,by omega,⟨⟨y.client,y.num,t.time⟩, ?_,y2,by simp only;omega,fun _=>by simp only;omega⟩, ?_,fun g hg'=> ?_,fun h0=>by omega⟩
  ·rw[eS]
   exact zlj hz fun x hx hxc=>by rw[hxc,hg];rfl
  ·rw[eM]
   rw[hdid.2]
   simp only[Option.getD_some];omega
  ·rw[eL]
   exact zll hg (h7 g hg')
 ·exact zeF (by simp only;omega) (by simp only;omega)
theorem zoK {c nu d q0:Int} {H:List Grant} {i:Nat} {t:St} (h:EI c nu d q0 H i t) (h0:0<i) (hi:i≤10) (hd:2≤d∧d≤257):
  RightS (advanceP t (t.time+1) d)∧findS (advanceP t (t.time+1) d).sess c=none∧(∀k∈(advanceP t (t.time+1) d).locks,(k.holder==c)=false∧hasI k.line c=false)∧hasI (goneP t (advanceP t (t.time+1) d)) c=true:=by
 have hH:High=2305843009213693952:=rfl
 obtain⟨h1,h2,h3,h4,⟨y,y1,y2,y3,y4⟩,h6,h7,h8⟩:=h
 have ht0:=h1.time
 obtain⟨a1,a2,a3,a4,a5⟩:=zbg h1 (t.time+1) d (by omega)
 have hT:timeP t (t.time+1)=t.time+1:=zeF (by omega) (by omega)
 have hmd:max d 1=d:=by omega
 have hyc:y.client=c:=(zcD h1.ss y1).2
 have hg:hasI (dueP t.sess (t.time+1) d) c=true:=
  (zln (by omega) (by omega) (by omega) (by omega)).2 ⟨y,List.mem_of_find?_eq_some y1,hyc,by have:=y4 h0;omega⟩
 have hN:findS (advanceP t (t.time+1) d).sess c=none:=by
  have e:(advanceP t (t.time+1) d).sess=t.sess.filter fun x=> !hasI (dueP t.sess (t.time+1) d) x.client:=by
   unfold advanceP withoutSt;simp only;rw[hT,hmd]
  rw[e]
  exact zlk fun x hx hxc=>by rw[hxc,hg];rfl
 refine⟨a1,hN,fun k hk=> ?_, ?_⟩
 ·obtain⟨b1,b2⟩:=a1.seat k hk
  constructor
  ·cases hq:k.holder==c
   ·rfl
   ·rw[show k.holder=c by simpa using hq,hN]at b1;cases b1
  ·rw[zbo]
   intro hc
   have:=b2 c hc
   rw[hN]at this;cases this
 ·rw[zgx]
  unfold goneP
  refine List.mem_map.2 ⟨y,List.mem_filter.2 ⟨List.mem_of_find?_eq_some y1, ?_⟩,hyc⟩
  rw[hyc,hN]
  rfl
end Go.Proofs.YtniafckaafcpbaaGreat
