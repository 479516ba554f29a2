import Derived.Test.YtliimajkpggbhaaGreatM3
namespace Go.Proofs.YtliimajkpggbhaaGreat
open Go.Pk
set_option maxRecDepth 100000
set_option linter.unusedSimpArgs false
set_option linter.unusedVariables false
def zjR (bs:List Int) (p:Int):Rr Sess:=match zbv bs p with
 | .error e=> .error e
 | .ok c=>match zbn bs c.2 with
  | .error e=> .error e
  | .ok n=>match zbn bs n.2 with
   | .error e=> .error e
   | .ok r=> .ok (⟨c.1,n.1,r.1⟩,r.2)
def za2 {α:Type} (f:Int→Rr α):Nat→Int→List α→Rr (List α)
 |0,p,acc=> .ok (acc,p)
 |n+1,p,acc=>match f p with
  | .error e=> .error e
  | .ok x=>za2 f n x.2 (acc++[x.1])
def zfa (bs:List Int) (p:Int):Rr St:=match zbn bs p with
 | .error e=> .error e
 | .ok t=>match zbn bs t.2 with
  | .error e=> .error e
  | .ok u=>match zbn bs u.2 with
   | .error e=> .error e
   | .ok k=>match zbH bs k.2 5 with
    | .error e=> .error e
    | .ok n=>match za2 (zjR bs) n.1.toNat n.2 []with
     | .error e=> .error e
     | .ok ss=>match zbH bs ss.2 4 with
      | .error e=> .error e
      | .ok n2=>match za2 (zgl bs) n2.1.toNat n2.2 []with
       | .error e=> .error e
       | .ok ls=>match zbH bs ls.2 8 with
        | .error e=> .error e
        | .ok n3=>match za2 (zhz bs) n3.1.toNat n3.2 []with
         | .error e=> .error e
         | .ok ms=>if zdc ⟨t.1,u.1,k.1,ss.1,ls.1,ms.1⟩=true then .ok (⟨t.1,u.1,k.1,ss.1,ls.1,ms.1⟩,ms.2)else .error 4
theorem zdZ {α:Type} {f:Int→Rr α} {ok:α→Prop} (hf:∀p y,f p= .ok y→i64 y.2∧ok y.1):∀{n:Nat} {p:Int} {acc:List α} {y:List α×Int},i64 p→(∀x∈acc,ok x)→za2 f n p acc= .ok y→i64 y.2∧y.1.length=acc.length+n∧∀x∈y.1,ok x
 |0,p,acc,y,hp,ha,hy=>by cases hy;exact⟨hp,rfl,ha⟩
 |n+1,p,acc,y,hp,ha,hy=>by
  rw[za2]at hy
  cases hx:f p with
  |error x=>rw[hx]at hy;cases hy
  |ok x=>
   rw[hx]at hy
   have:=zdZ hf (hf _ _ hx).1 (fun z hz=>by
    rcases List.mem_append.1 hz with hz|hz
    ·exact ha z hz
    ·simp at hz;subst hz;exact(hf _ _ hx).2) hy
   rw[List.length_append,List.length_singleton]at this
   exact⟨this.1,by omega,this.2.2⟩
theorem ziI {bs:List Int} (h:BsOk bs) {p:Int} {y:Memo×Int} (hy:zhz bs p= .ok y):i64 y.2∧zcf y.1.reply:=by
 obtain⟨h0,rfl⟩:=zdu hy
 simp only
 unfold zhJ at h0⊢
 simp only at h0⊢
 split at h0
 ·rename_i h1;exact absurd h0 h1
 rename_i h1
 rw[if_neg h1]
 split at h0
 ·rename_i h2;exact absurd h0 h2
 rename_i h2
 rw[if_neg h2]
 split at h0
 ·rename_i h3;exact absurd h0 h3
 rename_i h3
 rw[if_neg h3]
 split at h0
 ·exact absurd h0 (by decide)
 rename_i h4
 rw[if_neg h4]
 obtain⟨g1,g2⟩:=zh6 h (p:=(zfZ bs (zbT bs p).2.1).2.1)
 exact⟨ze5 h.l g1,g2⟩
set_option maxHeartbeats 4000000 in
theorem zhY (bs:List Int) (p:Int) (h:BsOk bs) (hp:i64 p) (b:Bool) (y:St×Int) (e:Int) (hy:zl3 b y e (zfa bs p)):
  (b=true→CallOK Tryz.prog 145 [.obj (rds bs p)] (fun r o=>r=[y.1.rf]∧o=[rds bs y.2]))∧(b=false→zbL Tryz.prog 145 [.obj (rds bs p)] (zre e)):=by
 refine zhb Tryz.func145 Tryz.results145 Tryz.ntmps145 Tryz.call145 ?_
 simp only[Tryz.f145,Option.getD]
 unfold zfa at hy
 cases e1:zbn bs p with
 |error x=>
  rw[e1]at hy
  obtain⟨rfl,rfl⟩:=zax hy
  have hr:=zcZ bs p h hp e1
  repeat'(first|exact zC|refine zq0 ?_|(apply zaa<;>intro hb)|(apply I;exact zI)|(apply I<;>intro hg))
  refine zp (rds bs p) (hr) ?_
  first|refine zs (I @zal @zab) ?_|exact zt (I @zal @zab)
 |ok t=>
 have he1:=zdK bs p h hp e1
 rw[e1]at hy
 simp only at hy
 repeat'(first|exact zC|refine zq0 ?_|(apply zaa<;>intro hb)|(apply I;exact zI)|(apply I<;>intro hg))
 refine zj (he1) ?_
 cases e2:zbn bs t.2 with
 |error x=>
  rw[e2]at hy
  obtain⟨rfl,rfl⟩:=zax hy
  have hr:=zcZ bs _ h (zas h e1) e2
  repeat'(first|exact zC|refine zq0 ?_|(apply zaa<;>intro hb)|(apply I;exact zI)|(apply I<;>intro hg))
  refine zp (rds bs p) (hr) ?_
  first|refine zs (I @zal @zab) ?_|exact zt (I @zal @zab)
 |ok u=>
 have he2:=zdK bs _ h (zas h e1) e2
 rw[e2]at hy
 simp only at hy
 repeat'(first|exact zC|refine zq0 ?_|(apply zaa<;>intro hb)|(apply I;exact zI)|(apply I<;>intro hg))
 refine zj (he2) ?_
 cases e3:zbn bs u.2 with
 |error x=>
  rw[e3]at hy
  obtain⟨rfl,rfl⟩:=zax hy
  have hr:=zcZ bs _ h (zas h e2) e3
  repeat'(first|exact zC|refine zq0 ?_|(apply zaa<;>intro hb)|(apply I;exact zI)|(apply I<;>intro hg))
  refine zp (rds bs p) (hr) ?_
  first|refine zs (I @zal @zab) ?_|exact zt (I @zal @zab)
 |ok k=>
 have he3:=zdK bs _ h (zas h e2) e3
 rw[e3]at hy
 simp only at hy
 repeat'(first|exact zC|refine zq0 ?_|(apply zaa<;>intro hb)|(apply I;exact zI)|(apply I<;>intro hg))
 refine zj (he3) ?_
 cases e4:zbH bs k.2 5 with
 |error x=>
  rw[e4]at hy
  obtain⟨rfl,rfl⟩:=zax hy
  have hr:=zeM bs _ 5 h (zas h e3) e4
  repeat'(first|exact zC|refine zq0 ?_|(apply zaa<;>intro hb)|(apply I;exact zI)|(apply I<;>intro hg))
  refine zp (rds bs p) (hr) ?_
  first|refine zs (I @zal @zab) ?_|exact zt (I @zal @zab)
 |ok n=>
 have he4:=zfJ bs _ 5 h (zas h e3) e4
 rw[e4]at hy
 simp only at hy
 repeat'(first|exact zC|refine zq0 ?_|(apply zaa<;>intro hb)|(apply I;exact zI)|(apply I<;>intro hg))
 refine zj (he4) ?_
 obtain⟨hn1,hn2,hn3⟩:=zcR h e4
 repeat'(first|exact zC|refine zq0 ?_|(apply zaa<;>intro hb)|(apply I;exact zI)|(apply I<;>intro hg))
 refine zaf (τ:=Nat×Int×List Sess×Nat) (fun a=>⟨(.one (.ptr ⟨0,0,0⟩ 0)::dd::ptq 2::ptq 3::zrf (ai n.1::ai a.1::dq7 (zdP []))),[zyM bs a.2.1 a.2.2.2,(2,⟨2,[obq 1 [di 0,di 0,di 0, .d (.v (.slice none 0 0)), .d (.v (.slice none 0 0)), .d (.v (.slice none 0 0))],none,none,none,none,none,none]⟩),(3,⟨2,[obq 1 [di t.1,di u.1,di k.1, .own ⟨3,4,1⟩ 0 a.2.2.1.length, .d (.v (.slice none 0 0)), .d (.v (.slice none 0 0))],none,none,none,roq 1 3 (zaQ a.2.2.1),none,none]⟩),(4,⟨2,[]⟩),(31,⟨2,[]⟩),(32,⟨2,[]⟩)]⟩)
  (fun a=>a.1≤n.1.toNat∧i64 a.2.1∧a.2.2.1.length=a.1) (fun a=>za2 (zjR bs) (n.1.toNat - a.1) a.2.1 a.2.2.1) (fun a=>n.1.toNat - a.1) (0,n.2,[],5)
  ((Gh.nilF 3 3 3 rfl).trans (Gh.canon [0,2,3] [4,31,32] [0] zK rfl rfl)) ⟨Nat.zero_le _,hn1,rfl⟩ ?_
 intro⟨i,q,acc,nx⟩ ⟨hi0,hq,ha⟩ hF K hK
 simp only[Nat.sub_zero]at hi0 hq ha hF hK⊢
 rw[←hF]at hy
 refine zw ?_
 refine zaa (fun hlt=> ?_) (fun hge=> ?_)
 ·have hi:i<n.1.toNat:=by simp at hlt;omega
  have hw:=zai hi (by omega)
  have hst:n.1.toNat - i=(n.1.toNat - (i+1))+1:=by omega
  rw[hst,za2,zjR]at hy
  cases x1:zbv bs q with
  |error x=>
   rw[x1]at hy
   obtain⟨rfl,rfl⟩:=zax hy
   have hr:=zgK bs q h hq x1
   repeat'(first|exact zC|refine zq0 ?_|(apply zaa<;>intro hb)|(apply I;exact zI)|(apply I<;>intro hg))
   refine zp (rds bs p) (hr) ?_
   first|refine zs (I @zal @zab) ?_|exact zt (I @zal @zab)
  |ok c=>
  rw[x1]at hy
  simp only at hy
  have hr1:=zgJ bs q h hq x1
  repeat'(first|exact zC|refine zq0 ?_|(apply zaa<;>intro hb)|(apply I;exact zI)|(apply I<;>intro hg))
  refine zj (hr1) ?_
  cases x2:zbn bs c.2 with
  |error x=>
   rw[x2]at hy
   obtain⟨rfl,rfl⟩:=zax hy
   have hr:=zcZ bs _ h (zba h x1) x2
   repeat'(first|exact zC|refine zq0 ?_|(apply zaa<;>intro hb)|(apply I;exact zI)|(apply I<;>intro hg))
   refine zp (rds bs p) (hr) ?_
   first|refine zs (I @zal @zab) ?_|exact zt (I @zal @zab)
  |ok m=>
  rw[x2]at hy
  simp only at hy
  have hr2:=zdK bs _ h (zba h x1) x2
  repeat'(first|exact zC|refine zq0 ?_|(apply zaa<;>intro hb)|(apply I;exact zI)|(apply I<;>intro hg))
  refine zj (hr2) ?_
  cases x3:zbn bs m.2 with
  |error x=>
   rw[x3]at hy
   obtain⟨rfl,rfl⟩:=zax hy
   have hr:=zcZ bs _ h (zas h x2) x3
   repeat'(first|exact zC|refine zq0 ?_|(apply zaa<;>intro hb)|(apply I;exact zI)|(apply I<;>intro hg))
   refine zp (rds bs p) (hr) ?_
   first|refine zs (I @zal @zab) ?_|exact zt (I @zal @zab)
  |ok r=>
  have hr3:=zdK bs _ h (zas h x2) x3
  have hF2:za2 (zjR bs) (n.1.toNat - (i+1)) r.2 (acc++[⟨c.1,m.1,r.1⟩])=za2 (zjR bs) (n.1.toNat - i) q acc:=by rw[hst,za2,zjR,x1];simp only;rw[x2];simp only;rw[x3]
  repeat'(first|exact zC|refine zq0 ?_|(apply zaa<;>intro hb)|(apply I;exact zI)|(apply I<;>intro hg))
  refine zj (hr3) ?_
  repeat'(first|exact zC|refine zq @zat ?_|(apply zaa<;>intro hb)|(apply I;exact zI)|(apply I<;>intro hg))
  refine hK _ (i+1,r.2,acc++[⟨c.1,m.1,r.1⟩],nx+3) (Gh.canon [0,2,3] [] [0] (zk (I hw (I @List.length_append.{0} @List.length_singleton.{0}))) rfl (by simp only[List.length_append,List.length_singleton];rw[zep];rfl)) ⟨hi,zas h x3,by simp only[List.length_append,List.length_singleton];omega⟩ hF2 (by simp only;omega)
 ·have hi:i=n.1.toNat:=by
   have:¬(i:Int)<n.1:=by simpa using hge
   omega
  rw[hi,Nat.sub_self,za2]at hy
  simp only at hy
  clear hK hF
  have hpq:=hq
  cases e5:zbH bs q 4 with
  |error x=>
   rw[e5]at hy
   obtain⟨rfl,rfl⟩:=zax hy
   have hr:=zeM bs _ 4 h hq e5
   repeat'(first|exact zC|refine zq0 ?_|(apply zaa<;>intro hb)|(apply I;exact zI)|(apply I<;>intro hg))
   refine zp (rds bs p) (hr) ?_
   first|refine zs (I @zal @zab) ?_|exact zt (I @zal @zab)
  |ok n2=>
  have hr5:=zfJ bs _ 4 h hq e5
  obtain⟨hn4,hn5,hn6⟩:=zcR h e5
  rw[e5]at hy
  simp only at hy
  repeat'(first|exact zC|refine zq0 ?_|(apply zaa<;>intro hb)|(apply I;exact zI)|(apply I<;>intro hg))
  refine zj (hr5) ?_
  repeat'(first|exact zC|refine zq0 ?_|(apply zaa<;>intro hb)|(apply I;exact zI)|(apply I<;>intro hg))
  refine zaf (τ:=Nat×Int×List Lk×Nat) (fun a=>⟨(.one (.ptr ⟨0,0,0⟩ 0)::dd::ptq 2::ptq 3::zwa (ai n2.1::ai a.1::zyT [])),[zyM bs a.2.1 a.2.2.2,(2,⟨2,[obq 1 [di 0,di 0,di 0, .d (.v (.slice none 0 0)), .d (.v (.slice none 0 0)), .d (.v (.slice none 0 0))],none,none,none,none,none,none]⟩),(3,⟨2,[obq 1 [di t.1,di u.1,di k.1, .own ⟨3,4,1⟩ 0 acc.length, .own ⟨3,5,1⟩ 0 a.2.2.1.length, .d (.v (.slice none 0 0))],none,none,none,roq 1 3 (zaQ acc),roq 1 4 (zaj a.2.2.1),none]⟩),(4,⟨2,[]⟩),(31,⟨2,[]⟩),(32,⟨2,[]⟩),(42,⟨2,[]⟩),(43,⟨2,[]⟩),(44,⟨2,[]⟩)]⟩)
   (fun a=>a.1≤n2.1.toNat∧i64 a.2.1∧a.2.2.1.length=a.1∧∀k∈a.2.2.1,k.line.length≤3∧k.name.size≤bs.length) (fun a=>za2 (zgl bs) (n2.1.toNat - a.1) a.2.1 a.2.2.1) (fun a=>n2.1.toNat - a.1) (0,n2.2,[],nx+1)
   ((Gh.nilF 3 4 4 rfl).trans (Gh.canon [0,2,3] [42,43,44] [0] zK rfl rfl)) ⟨Nat.zero_le _,hn4,rfl,by simp⟩ ?_
  intro⟨j,q2,ls,nx2⟩ ⟨hj0,hq2,hl,hlk⟩ hF K hK
  simp only[Nat.sub_zero]at hj0 hq2 hl hlk hF hK⊢
  rw[←hF]at hy
  refine zw ?_
  refine zaa (fun hlt2=> ?_) (fun hge2=> ?_)
  ·have hj:j<n2.1.toNat:=by simp at hlt2;omega
   have hw:=zai hj (by omega)
   have hst:n2.1.toNat - j=(n2.1.toNat - (j+1))+1:=by omega
   rw[hst,za2]at hy
   cases x1:zgl bs q2 with
   |error x=>
    rw[x1]at hy
    obtain⟨rfl,rfl⟩:=zax hy
    have hr:=zp8 bs q2 h hq2 x1
    first|refine zs0 ?_|exact zt0
    refine zeR _ _ (zk4 zcI mixed 3 [false,false,false,true,true,true,true,true] (zre e) (fun g=> ?_) ?_)
    ·first|refine zs (I @zal @zab) ?_|exact zt (I @zal @zab)
    ·simp only[znY,znZ,ziT]
     repeat'(first|exact zC|refine zq0 ?_|(apply zaa<;>intro hb)|(apply I;exact zI)|(apply I<;>intro hg))
     exact zn (rds bs q) (hr)
   |ok x=>
   have hr1:=zrp bs q2 h hq2 x1
   obtain⟨g1,g2,g3⟩:=znR h x1
   have hF2:za2 (zgl bs) (n2.1.toNat - (j+1)) x.2 (ls++[x.1])=za2 (zgl bs) (n2.1.toNat - j) q2 ls:=by rw[hst,za2,x1]
   repeat'(first|exact zC|refine zq0 ?_|(apply zaa<;>intro hb)|(apply I;exact zI)|(apply I<;>intro hg))
   refine zj (hr1) ?_
   have htl:(zaB x.1.line).take x.1.line.length=zaB x.1.line:=ziQ
   repeat'(first|exact zC|refine zq (I @zah htl) ?_|(apply zaa<;>intro hb)|(apply I;exact zI)|(apply I<;>intro hg))
   refine hK _ (j+1,x.2,ls++[x.1],nx2+1) (Gh.canon [0,2,3] [] [0] (zk (I hw (I @List.length_append.{0} @List.length_singleton.{0}))) rfl (by simp only[List.length_append,List.length_singleton];rw[zf5];rfl)) ⟨hj,g1,by simp only[List.length_append,List.length_singleton];omega, ?_⟩ hF2 (by simp only;omega)
   intro k hk
   rcases List.mem_append.1 hk with hk|hk
   ·exact hlk k hk
   ·simp at hk;subst hk;exact⟨g2,g3⟩
  ·have hj:j=n2.1.toNat:=by
    have:¬(j:Int)<n2.1:=by simpa using hge2
    omega
   rw[hj,Nat.sub_self,za2]at hy
   simp only at hy
   clear hK hF
   cases e6:zbH bs q2 8 with
   |error x=>
    rw[e6]at hy
    obtain⟨rfl,rfl⟩:=zax hy
    have hr:=zeM bs _ 8 h hq2 e6
    repeat'(first|exact zC|refine zq0 ?_|(apply zaa<;>intro hb)|(apply I;exact zI)|(apply I<;>intro hg))
    refine zp (rds bs p) (hr) ?_
    first|refine zs (I @zal @zab) ?_|exact zt (I @zal @zab)
   |ok n3=>
   have hr6:=zfJ bs _ 8 h hq2 e6
   obtain⟨hn7,hn8,hn9⟩:=zcR h e6
   rw[e6]at hy
   simp only at hy
   repeat'(first|exact zC|refine zq0 ?_|(apply zaa<;>intro hb)|(apply I;exact zI)|(apply I<;>intro hg))
   refine zj (hr6) ?_
   repeat'(first|exact zC|refine zq0 ?_|(apply zaa<;>intro hb)|(apply I;exact zI)|(apply I<;>intro hg))
   refine zaf (τ:=Nat×Int×List Memo×Nat) (fun a=>⟨(.one (.ptr ⟨0,0,0⟩ 0)::dd::ptq 2::ptq 3::dq4 (zdP (ai n3.1::ai a.1::zyR []))),[zyM bs a.2.1 a.2.2.2,(2,⟨2,[obq 1 [di 0,di 0,di 0, .d (.v (.slice none 0 0)), .d (.v (.slice none 0 0)), .d (.v (.slice none 0 0))],none,none,none,none,none,none]⟩),(3,⟨2,[obq 1 [di t.1,di u.1,di k.1, .own ⟨3,4,1⟩ 0 acc.length, .own ⟨3,5,1⟩ 0 ls.length, .own ⟨3,6,1⟩ 0 a.2.2.1.length],none,none,none,roq 1 3 (zaQ acc),roq 1 4 (zaj ls),roq 1 6 (zaF a.2.2.1)]⟩),(4,⟨2,[]⟩),(31,⟨2,[]⟩),(32,⟨2,[]⟩),(42,⟨2,[]⟩),(43,⟨2,[]⟩),(44,⟨2,[]⟩),(54,⟨2,[]⟩),(55,⟨2,[]⟩),(56,⟨2,[]⟩)]⟩)
    (fun a=>a.1≤n3.1.toNat∧i64 a.2.1∧a.2.2.1.length=a.1∧∀m∈a.2.2.1,zcf m.reply) (fun a=>za2 (zhz bs) (n3.1.toNat - a.1) a.2.1 a.2.2.1) (fun a=>n3.1.toNat - a.1) (0,n3.2,[],nx2+1)
    ((Gh.nilF 3 5 6 rfl).trans (Gh.canon [0,2,3] [54,55,56] [0] zK rfl rfl)) ⟨Nat.zero_le _,hn7,rfl,by simp⟩ ?_
   intro⟨m,q3,ms,nx3⟩ ⟨hm0,hq3,hml,hmk⟩ hF K hK
   simp only[Nat.sub_zero]at hm0 hq3 hml hmk hF hK⊢
   rw[←hF]at hy
   refine zw ?_
   refine zaa (fun hlt3=> ?_) (fun hge3=> ?_)
   ·have hm:m<n3.1.toNat:=by simp at hlt3;omega
    have hw:=zai hm (by omega)
    have hst:n3.1.toNat - m=(n3.1.toNat - (m+1))+1:=by omega
    rw[hst,za2]at hy
    cases x1:zhz bs q3 with
    |error x=>
     rw[x1]at hy
     obtain⟨rfl,rfl⟩:=zax hy
     have hr:=zqa bs q3 h hq3 x1
     first|refine zs0 ?_|exact zt0
     refine zeR _ _ (zk4 zcI mixed 3 [false,false,false,true,true,true,true,true] (zre e) (fun g=> ?_) ?_)
     ·first|refine zs (I @zal @zab) ?_|exact zt (I @zal @zab)
     ·simp only[znY,znZ,ziT]
      repeat'(first|exact zC|refine zq0 ?_|(apply zaa<;>intro hb)|(apply I;exact zI)|(apply I<;>intro hg))
      exact zn (rds bs q) (hr)
    |ok x=>
    have hr1:=zrr bs q3 h hq3 x1
    obtain⟨g1,g2⟩:=ziI h x1
    have hF2:za2 (zhz bs) (n3.1.toNat - (m+1)) x.2 (ms++[x.1])=za2 (zhz bs) (n3.1.toNat - m) q3 ms:=by rw[hst,za2,x1]
    repeat'(first|exact zC|refine zq0 ?_|(apply zaa<;>intro hb)|(apply I;exact zI)|(apply I<;>intro hg))
    refine zj (hr1) ?_
    repeat'(first|exact zC|refine zq @zaz ?_|(apply zaa<;>intro hb)|(apply I;exact zI)|(apply I<;>intro hg))
    refine hK _ (m+1,x.2,ms++[x.1],nx3+1) (Gh.canon [0,2,3] [] [0] (zk (I hw (I @List.length_append.{0} @List.length_singleton.{0}))) rfl (by simp only[List.length_append,List.length_singleton];rw[zd1];rfl)) ⟨hm,g1,by simp only[List.length_append,List.length_singleton];omega, ?_⟩ hF2 (by simp only;omega)
    intro k hk
    rcases List.mem_append.1 hk with hk|hk
    ·exact hmk k hk
    ·simp at hk;subst hk;exact g2
   ·have hm:m=n3.1.toNat:=by
     have:¬(m:Int)<n3.1:=by simpa using hge3
     omega
    rw[hm,Nat.sub_self,za2]at hy
    simp only at hy
    clear hK hF
    have hbl:=h.l
    have hri:=zlx ⟨t.1,u.1,k.1,acc,ls,ms⟩ ⟨by simp only;omega,by simp only;omega,by simp only;omega,fun k hk=>⟨by have:=(hlk k hk).1;omega,by have:=(hlk k hk).2;omega⟩,hmk⟩
    cases hR:zdc ⟨t.1,u.1,k.1,acc,ls,ms⟩
    ·rw[hR]at hri hy
     rw[if_neg (by simp)]at hy
     obtain⟨rfl,rfl⟩:=zax hy
     repeat'(first|exact zC|refine zq (I @zal (I @zab (I @zdv (I @zaD @zcv)))) ?_|refine zx (hri) ?_|(apply zaa<;>intro hb)|(apply I;exact zI)|(apply I<;>intro hg))
    ·rw[hR]at hri hy
     rw[if_pos rfl]at hy
     obtain⟨rfl,rfl⟩:=zdC hy
     repeat'(first|exact zC|refine zq (I @zdB (I @zdv (I @zaD @zcv))) ?_|refine zx (hri) ?_|(apply zaa<;>intro hb)|(apply I;exact zI)|(apply I<;>intro hg))
     rfl
abbrev ze4:Value:= .slice none 0 0
def szS (k:Nat):Nat:=if k=4 then 6 else 1
def nwS (x:Value) (k:Nat):List Value:=if k=4 then [.int .i64 0, .int .i64 0, .int .i64 0,ze4,ze4,ze4]else if k=5 then [.int .i64 0]else [codeOf x]
theorem zCZ {l:List Value} (h:l.length=9):∃a b c d e f g i j,l=[a,b,c,d,e,f,g,i,j]:=by
 match l,h with
 |[a,b,c,d,e,f,g,i,j],_=>exact⟨a,b,c,d,e,f,g,i,j,rfl⟩
theorem zur:(Tryz.prog.info? 177).bind (·.zero)=some (.agg #[.int .i64 0]):=by kernel_rfl
def dSt (bs:List Int) (p:Int):St×Int×Int:=match zfa bs p with
 | .ok y=>(y.1,y.2,0)
 | .error e=>(st0,0,e)
structure Sn where
 done:Int
 view:Int
 slot:Int
 st:St
abbrev Sn.lent (s:Sn):List C:=di s.done::di s.view::di s.slot::s.st.lent
abbrev zAg (s:Sn):RF:= .agg (.d (iD s.done):: .d (iD s.view):: .d (iD s.slot)::(stE s.st).map RO.d)
def zbq (s:Sn):Bool:=within s.done&&(within s.view&&(within s.slot&&zdc s.st))
theorem zdt (n:Int):within n=(!(decide (n<0))&& !(decide (n>2305843009213693952))):=by
 unfold within
 have hH:zbs=2305843009213693952:=rfl
 rw[hH]
 by_cases h1:n<0<;>by_cases h2:n>2305843009213693952<;>simp[h1,h2]<;>omega
set_option maxHeartbeats 1000000 in
theorem zhw (s:Sn) (h:Small s.st):CallOK Tryz.prog 39 [.f (.agg s.lent)] (fun r o=>r=[rb (zbq s)]∧o=[]):=by
 refine zh Tryz.func39 Tryz.results39 Tryz.ntmps39 Tryz.call39 ?_
 simp only[Tryz.f39,Option.getD]
 have hri:=zlx s.st h
 have hagg:∀(Z:List Nat) (r:Rs) (xs ys:List AV),fgc Z r (AV.agg [di s.done,di s.view,di s.slot]::xs) (AV.agg [di s.done,di s.view,di s.slot]::ys)=fgc Z r xs ys:=fun Z r xs ys=>zik rfl rfl
 repeat'(first|exact zC|refine zq0 ?_|(apply zaa<;>intro hb)|(apply I;exact zI)|(apply I<;>intro hg))
 refine zaf (τ:=Nat) (fun i=>⟨(dd::ptq 1::zyr (.agg [di s.done,di s.view,di s.slot]::ai i::zrf [])),[(1,⟨2,[obq 1 [di s.done,di s.view,di s.slot,di s.st.time,di s.st.num,di s.st.token, .lent s.st.sess.length (zaQ s.st.sess), .lent s.st.locks.length (zaj s.st.locks), .lent s.st.memos.length (zaF s.st.memos)],none,none,none,none,none,none,none,none,none]⟩)]⟩)
  (fun i=>i≤3) (fun i=>if i=0 then zbq s else if i=1 then within s.view&&(within s.slot&&zdc s.st)else if i=2 then within s.slot&&zdc s.st else zdc s.st) (fun i=>3 - i) 0
  (Gh.canon [1] [] [] (zk hagg) rfl rfl) (Nat.zero_le _) ?_
 intro i hi0 hF K hK
 rw[if_pos rfl]at hF
 refine zw ?_
 refine zaa (fun hlt=> ?_) (fun hge=> ?_)
 ·have hi:i<3:=by simp at hlt;omega
  have hw:IntKind.i64.wrap ((i:Int)+1)=((i+1:Nat):Int):=zai hi (by omega)
  rcases(show i=0∨i=1∨i=2 by omega)with rfl|rfl|rfl
  ·have hb:=zdt s.done
   cases h1:decide (s.done<0)
   ·cases h2:decide (s.done>2305843009213693952)
    ·rw[h1,h2]at hb
     repeat'(first|exact zC|refine zq (I h1 h2) ?_|(apply zaa<;>intro hb)|(apply I;exact zI)|(apply I<;>intro hg))
     exact hK _ 1 (Gh.canon [1] [] [] (zk (I hw hagg)) rfl rfl) (by omega) (by simp[zbq,hb]) (by omega)
    ·rw[h1,h2]at hb
     have hz:zbq s=false:=by simp[zbq,hb]
     repeat'(first|exact zC|refine zq (I h1 (I h2 hz)) ?_|(apply zaa<;>intro hb)|(apply I;exact zI)|(apply I<;>intro hg))
   ·rw[h1]at hb
    have hz:zbq s=false:=by simp[zbq,hb]
    repeat'(first|exact zC|refine zq (I h1 hz) ?_|(apply zaa<;>intro hb)|(apply I;exact zI)|(apply I<;>intro hg))
  ·have hb:=zdt s.view
   simp only[Nat.reduceEqDiff,if_true,if_false]at hF
   rw[←hF]
   cases h1:decide (s.view<0)
   ·cases h2:decide (s.view>2305843009213693952)
    ·rw[h1,h2]at hb
     repeat'(first|exact zC|refine zq (I h1 h2) ?_|(apply zaa<;>intro hb)|(apply I;exact zI)|(apply I<;>intro hg))
     exact hK _ 2 (Gh.canon [1] [] [] (zk (I hw hagg)) rfl rfl) (by omega) (by simp[hb]) (by omega)
    ·rw[h1,h2]at hb
     have hz:(within s.view&&(within s.slot&&zdc s.st))=false:=by simp[hb]
     repeat'(first|exact zC|refine zq (I h1 (I h2 hz)) ?_|(apply zaa<;>intro hb)|(apply I;exact zI)|(apply I<;>intro hg))
   ·rw[h1]at hb
    have hz:(within s.view&&(within s.slot&&zdc s.st))=false:=by simp[hb]
    repeat'(first|exact zC|refine zq (I h1 hz) ?_|(apply zaa<;>intro hb)|(apply I;exact zI)|(apply I<;>intro hg))
  ·have hb:=zdt s.slot
   simp only[Nat.reduceEqDiff,if_true,if_false]at hF
   rw[←hF]
   cases h1:decide (s.slot<0)
   ·cases h2:decide (s.slot>2305843009213693952)
    ·rw[h1,h2]at hb
     repeat'(first|exact zC|refine zq (I h1 h2) ?_|(apply zaa<;>intro hb)|(apply I;exact zI)|(apply I<;>intro hg))
     exact hK _ 3 (Gh.canon [1] [] [] (zk (I hw hagg)) rfl rfl) (by omega) (by simp[hb]) (by omega)
    ·rw[h1,h2]at hb
     have hz:(within s.slot&&zdc s.st)=false:=by simp[hb]
     repeat'(first|exact zC|refine zq (I h1 (I h2 hz)) ?_|(apply zaa<;>intro hb)|(apply I;exact zI)|(apply I<;>intro hg))
   ·rw[h1]at hb
    have hz:(within s.slot&&zdc s.st)=false:=by simp[hb]
    repeat'(first|exact zC|refine zq (I h1 hz) ?_|(apply zaa<;>intro hb)|(apply I;exact zI)|(apply I<;>intro hg))
 ·have hi:i=3:=by
   have:¬(i:Int)<3:=by simpa using hge
   omega
  subst hi
  simp only[Nat.reduceEqDiff,if_false]at hF
  rw[←hF]
  repeat'(first|exact zC|refine zq0 ?_|refine zx (hri) ?_|(apply zaa<;>intro hb)|(apply I;exact zI)|(apply I<;>intro hg))
def snI (s:Sn):List Int:=zcl s.done++(zcl s.view++(zcl s.slot++zg9 s.st))
theorem within_iff {n:Int} (h:within n=true):0≤n∧n<4611686018427387904:=by
 rw[zdt]at h
 simp at h
 omega
theorem zgF {s:Sn} (h:zbq s=true):(0≤s.done∧s.done<4611686018427387904)∧(0≤s.view∧s.view<4611686018427387904)∧(0≤s.slot∧s.slot<4611686018427387904)∧RightS s.st:=by
 simp only[zbq,Bool.and_eq_true]at h
 exact⟨within_iff h.1,within_iff h.2.1,within_iff h.2.2.1,zdV.1 h.2.2.2⟩
theorem zp7 (s:Sn) (h:zbq s=true):CallOK Tryz.prog 27 [.f (.agg s.lent)] (fun r o=>r=[.one (.own 1 (snI s).length (zad (snI s)) false),ri 0]∧o=[]):=by
 obtain⟨f1,f2,f3,f4⟩:=zgF h
 refine zh Tryz.func27 Tryz.results27 Tryz.ntmps27 Tryz.call27 ?_
 simp only[Tryz.f27,Option.getD]
 have hm:=zhw s (zcc f4)
 rw[h]at hm
 have hp:=zqz s.st f4
 have m1:=zeS s.done f1
 have m2:=zeS s.view f2
 have m3:=zeS s.slot f3
 have hl:=zoh f4 s.st.memos.length
 have hml:=zlq f4
 have t8:∀v:Int,(zad (zcl v)).take 8=zad (zcl v):=fun v=>List.take_of_length_le (by rw[zeh];decide)
 have hcc:CallOK Tryz.prog 66 [.f (al 4 [.sl 8 (zad (zcl s.done)), .sl 8 (zad (zcl s.view)), .sl 8 (zad (zcl s.slot)), .sl (zg9 s.st).length (zad (zg9 s.st))])] (fun x o=>x=[.one (.own 1 (snI s).length (zad (snI s)) false)]∧o=[]):=by
  have hc:=zfA [zcl s.done,zcl s.view,zcl s.slot,zg9 s.st] (by simp) (fun l hl=>by
   simp only[List.mem_cons,List.not_mem_nil,or_false]at hl
   rcases hl with rfl|rfl|rfl|rfl
   ·rw[zb4];decide
   ·rw[zb4];decide
   ·rw[zb4];decide
   ·unfold zg9;omega)
  rw[show [zcl s.done,zcl s.view,zcl s.slot,zg9 s.st].flatten=snI s from by simp[snI]]at hc
  exact hc
 repeat'(first|exact zC|refine zq (I t8 @zav) ?_|refine zx (hm) ?_|refine zx (hp) ?_|refine zx (m1) ?_|refine zx (m2) ?_|refine zx (m3) ?_|refine zx (hcc) ?_|(apply zaa<;>intro hb)|(apply I;exact zI)|(apply I<;>intro hg))
def szG (k:Nat):Nat:=if k=4 then 9 else 1
def nwG (x:Value) (k:Nat):List Value:=if k=4 then [.int .i64 0, .int .i64 0, .int .i64 0, .int .i64 0, .int .i64 0, .int .i64 0,ze4,ze4,ze4]else if k=5 then [.int .i64 0]else [codeOf x]
theorem zyL {ls:List (List Value)} (h:ls.length=[4,5,6].length) (hs:∀(i k:Nat) (l:List Value),[4,5,6][i]? =some k→ls[i]? =some l→l.length=szG k):∃a b c d e f j k l g i,ls=[[a,b,c,d,e,f,j,k,l],[g],[i]]:=by
 match ls,h with
 |[x,y,z],_=>
  obtain⟨a,b,c,d,e,f,j,k,l,rfl⟩:=zCZ (hs 0 4 x rfl rfl)
  obtain⟨g,rfl⟩:=zyy (hs 1 5 y rfl rfl)
  obtain⟨i,rfl⟩:=zyy (hs 2 6 z rfl rfl)
  exact⟨a,b,c,d,e,f,j,k,l,g,i,rfl⟩
theorem znQ:ziY Tryz.prog 143 [4,5,6] szG nwG (zjj 177):=by
 refine zfe zcI mixed (T:=Ty) Tryz.func143 rfl rfl Tryz.ntmps143 rfl rfl rfl rfl rfl rfl rfl (by decide) (by decide) (by decide) ?_
 rintro x ⟨n,rfl⟩ ls hl hs
 obtain⟨a,b,c,d,e,f,j,k,l,g,i,rfl⟩:=zyL hl hs
 refine⟨.tuple #[.agg #[.int .i64 n], .bool true], .tup [.agg [di n],ab true], ?_, ?_,rfl, ?_⟩
 ·intro w
  simp[Instr.typeAssert,Tryz.underlying177]
 ·intro cx w r β
  simp[ReA,ReAs,ReC,ReCs,Rd,flat]
 ·simp only[zbr,plainO,List.map_cons,List.map_nil]
  first|refine zs0 ?_|exact zt0
  repeat'(first|exact zC|refine zq0 ?_|(apply zaa<;>intro hb)|(apply I;exact zI)|(apply I<;>intro hg))
  rfl
theorem zp6:zn1 Tryz.prog 143 3:=by
 refine zd2 zcI mixed (T:=Ty) Tryz.func143 rfl rfl Tryz.ntmps143 rfl rfl rfl rfl rfl rfl rfl (by decide) (y7:= .tuple #[.agg #[.int .i64 0], .bool false]) (V7:= .tup [.agg [di 0],ab false]) ?_ ?_ (by decide) rfl ?_
 ·intro w
  simp[Instr.typeAssert,Tryz.underlying177,zjk zur w]
 ·intro cx w r β
  simp[ReA,ReAs,ReC,ReCs,Rd,flat]
 ·simp only[List.replicate]
  first|refine zs0 ?_|exact zt0
  repeat'(first|exact zC|refine zq0 ?_|(apply zaa<;>intro hb)|(apply I;exact zI)|(apply I<;>intro hg))
def zkX (bs:List Int) (p:Int):Rr Sn:=match zbn bs p with
 | .error e=> .error e
 | .ok d=>match zbn bs d.2 with
  | .error e=> .error e
  | .ok v=>match zbn bs v.2 with
   | .error e=> .error e
   | .ok l=>match zfa bs l.2 with
    | .error e=> .error e
    | .ok s=>if zbq ⟨d.1,v.1,l.1,s.1⟩=true then .ok (⟨d.1,v.1,l.1,s.1⟩,s.2)else .error 4
abbrev sn0:Sn:=⟨0,0,0,st0⟩
def dSn (bs:List Int) (p:Int):Sn×Int×Int:=match zkX bs p with
 | .ok y=>(y.1,y.2,0)
 | .error e=>(sn0,0,e)
theorem zhX {bs:List Int} {p:Int} {y:St×Int} (hy:zfa bs p= .ok y):zdc y.1=true:=by
 unfold zfa at hy
 cases e1:zbn bs p with
 |error x=>rw[e1]at hy;cases hy
 |ok t=>
 rw[e1]at hy;simp only at hy
 cases e2:zbn bs t.2 with
 |error x=>rw[e2]at hy;cases hy
 |ok u=>
 rw[e2]at hy;simp only at hy
 cases e3:zbn bs u.2 with
 |error x=>rw[e3]at hy;cases hy
 |ok k=>
 rw[e3]at hy;simp only at hy
 cases e4:zbH bs k.2 5 with
 |error x=>rw[e4]at hy;cases hy
 |ok n=>
 rw[e4]at hy;simp only at hy
 cases e5:za2 (zjR bs) n.1.toNat n.2 []with
 |error x=>rw[e5]at hy;cases hy
 |ok ss=>
 rw[e5]at hy;simp only at hy
 cases e6:zbH bs ss.2 4 with
 |error x=>rw[e6]at hy;cases hy
 |ok n2=>
 rw[e6]at hy;simp only at hy
 cases e7:za2 (zgl bs) n2.1.toNat n2.2 []with
 |error x=>rw[e7]at hy;cases hy
 |ok ls=>
 rw[e7]at hy;simp only at hy
 cases e8:zbH bs ls.2 8 with
 |error x=>rw[e8]at hy;cases hy
 |ok n3=>
 rw[e8]at hy;simp only at hy
 cases e9:za2 (zhz bs) n3.1.toNat n3.2 []with
 |error x=>rw[e9]at hy;cases hy
 |ok ms=>
 rw[e9]at hy;simp only at hy
 split at hy
 ·rename_i hr;cases hy;exact hr
 ·cases hy
theorem ziH (e:Int):znL 37 [4,5,6] (nwG (ze6 177 e))=⟨(dq4 (.one (.ptr ⟨4,0,0⟩ 0):: .one (.ptr ⟨5,0,0⟩ 0):: .one (.ptr ⟨6,0,0⟩ 0)::zw5 [])),[(4,{next:=1,l:=[obq 0 [di 0,di 0,di 0,di 0,di 0,di 0, .d (.v ze4), .d (.v ze4), .d (.v ze4)]]}),(5,{next:=1,l:=[obq 0 [di 0]]}),(6,{next:=1,l:=[obq 0 [di e]]})]⟩:=rfl
set_option maxHeartbeats 2000000 in
theorem zjQ (bs:List Int) (p:Int) (h:BsOk bs) (hp:i64 p):
  CallOK Tryz.prog 95 [.f (asl bs.length (zad bs)), .f (ai p)] (fun r o=>r=[zAg (dSn bs p).1,ri (dSn bs p).2.1,ri (dSn bs p).2.2]∧o=[]):=by
 refine CallOK.nil ?_
 refine zbz zcI mixed (T:=Ty) Tryz.func95 rfl Tryz.results95 Tryz.ntmps95 Tryz.call95 Tryz.call143 (ks:=[4,5,6]) rfl rfl rfl rfl rfl rfl (by decide) (by decide)
  (xs:=[asl bs.length (zad bs),ai p]) (sz:=szG) (nw:=nwG) zp6 znQ ⟨(asl bs.length (zad bs)::ai p::dq2 (.one (.ptr ⟨4,0,0⟩ 0):: .one (.ptr ⟨5,0,0⟩ 0):: .one (.ptr ⟨6,0,0⟩ 0)::zw5 [])),[(4,{next:=1,l:=[obq 0 [di 0,di 0,di 0,di 0,di 0,di 0, .d (.v ze4), .d (.v ze4), .d (.v ze4)],none,none,none,none,none,none,none,none,none]}),(5,{next:=1,l:=[obq 0 [di 0],none]}),(6,{next:=1,l:=[obq 0 [di 0],none]})]⟩ ?_ ?_ rfl ?_
 ·simp only[List.map_cons,List.map_nil]
  repeat'(first|exact zC|refine zq0 ?_|(apply zaa<;>intro hb)|(apply I;exact zI)|(apply I<;>intro hg))
  exact fun _ _ _ h=>h
 ·exact⟨⟨_,rfl,rfl,rfl,rfl,rfl⟩,⟨_,rfl,rfl,rfl,rfl,rfl⟩,⟨_,rfl,rfl,rfl,rfl,rfl⟩,trivial⟩
 ·unfold dSn zkX
  cases e1:zbn bs p with
  |error e=>
   have hr:=zcZ bs p h hp e1
   repeat'(first|exact zC|refine zq0 ?_|(apply zaa<;>intro hb)|(apply I;exact zI)|(apply I<;>intro hg))
   refine zp (rds bs p) (hr) ?_
   simp only[zaV,zaW,zaU,za3]
   refine⟨⟨_,rfl⟩,rfl,⟨⟨_,rfl,rfl,rfl,rfl,rfl⟩,⟨_,rfl,rfl,rfl,rfl,rfl⟩,⟨_,rfl,rfl,rfl,rfl,rfl⟩,trivial⟩, ?_⟩
   rw[ziH]
   first|refine zs0 ?_|exact zt0
   simp[zaG,zcn,zaK,zaw,st0]
  |ok d=>
  have he1:=zdK bs p h hp e1
  simp only
  repeat'(first|exact zC|refine zq0 ?_|(apply zaa<;>intro hb)|(apply I;exact zI)|(apply I<;>intro hg))
  refine zj (he1) ?_
  cases e2:zbn bs d.2 with
  |error e=>
   have hr:=zcZ bs _ h (zas h e1) e2
   repeat'(first|exact zC|refine zq0 ?_|(apply zaa<;>intro hb)|(apply I;exact zI)|(apply I<;>intro hg))
   refine zp (rds bs p) (hr) ?_
   simp only[zaV,zaW,zaU,za3]
   refine⟨⟨_,rfl⟩,rfl,⟨⟨_,rfl,rfl,rfl,rfl,rfl⟩,⟨_,rfl,rfl,rfl,rfl,rfl⟩,⟨_,rfl,rfl,rfl,rfl,rfl⟩,trivial⟩, ?_⟩
   rw[ziH]
   first|refine zs0 ?_|exact zt0
   simp[zaG,zcn,zaK,zaw,st0]
  |ok v=>
  have he2:=zdK bs _ h (zas h e1) e2
  simp only
  repeat'(first|exact zC|refine zq0 ?_|(apply zaa<;>intro hb)|(apply I;exact zI)|(apply I<;>intro hg))
  refine zj (he2) ?_
  cases e3:zbn bs v.2 with
  |error e=>
   have hr:=zcZ bs _ h (zas h e2) e3
   repeat'(first|exact zC|refine zq0 ?_|(apply zaa<;>intro hb)|(apply I;exact zI)|(apply I<;>intro hg))
   refine zp (rds bs p) (hr) ?_
   simp only[zaV,zaW,zaU,za3]
   refine⟨⟨_,rfl⟩,rfl,⟨⟨_,rfl,rfl,rfl,rfl,rfl⟩,⟨_,rfl,rfl,rfl,rfl,rfl⟩,⟨_,rfl,rfl,rfl,rfl,rfl⟩,trivial⟩, ?_⟩
   rw[ziH]
   first|refine zs0 ?_|exact zt0
   simp[zaG,zcn,zaK,zaw,st0]
  |ok l=>
  have he3:=zdK bs _ h (zas h e2) e3
  simp only
  repeat'(first|exact zC|refine zq0 ?_|(apply zaa<;>intro hb)|(apply I;exact zI)|(apply I<;>intro hg))
  refine zj (he3) ?_
  cases e4:zfa bs l.2 with
  |error e=>
   have hr:=(zhY bs _ h (zas h e3) false (st0,0) e e4).2 rfl
   repeat'(first|exact zC|refine zq0 ?_|(apply zaa<;>intro hb)|(apply I;exact zI)|(apply I<;>intro hg))
   refine zp (rds bs p) (hr) ?_
   simp only[zaV,zaW,zaU,za3]
   refine⟨⟨_,rfl⟩,rfl,⟨⟨_,rfl,rfl,rfl,rfl,rfl⟩,⟨_,rfl,rfl,rfl,rfl,rfl⟩,⟨_,rfl,rfl,rfl,rfl,rfl⟩,trivial⟩, ?_⟩
   rw[ziH]
   first|refine zs0 ?_|exact zt0
   simp[zaG,zcn,zaK,zaw,st0]
  |ok s=>
  have he4:=(zhY bs _ h (zas h e3) true s 0 e4).1 rfl
  simp only
  repeat'(first|exact zC|refine zq0 ?_|(apply zaa<;>intro hb)|(apply I;exact zI)|(apply I<;>intro hg))
  refine zj (he4) ?_
  have hms:=zhw ⟨d.1,v.1,l.1,s.1⟩ (zcc (zdV.1 (zhX e4)))
  cases hm:zbq ⟨d.1,v.1,l.1,s.1⟩
  ·rw[hm]at hms
   rw[if_neg (by simp)]
   repeat'(first|exact zC|refine zq (I @zdv (I @zaD @zcv)) ?_|refine zx (hms) ?_|(apply zaa<;>intro hb)|(apply I;exact zI)|(apply I<;>intro hg))
   simp only[zaV,zaW,zaU,za3]
   refine⟨⟨_,rfl⟩,rfl,⟨⟨_,rfl,rfl,rfl,rfl,rfl⟩,⟨_,rfl,rfl,rfl,rfl,rfl⟩,⟨_,rfl,rfl,rfl,rfl,rfl⟩,trivial⟩, ?_⟩
   rw[ziH]
   first|refine zs0 ?_|exact zt0
   simp[zaG,zcn,zaK,zaw,st0]
  ·rw[hm]at hms
   rw[if_pos rfl]
   repeat'(first|exact zC|(with_reducible first|refine zbd 7 ?_|refine zaR 7 ?_|refine zaS 7 ?_)|refine zu (I @zdv (I @zaD @zcv)) ?_|(with_reducible first|refine zae _ _ ?_)|refine zx (hms) ?_|(apply zaa<;>intro hb)|(apply I;exact zI)|(apply I<;>intro hg))
   refine zbf (zbm (Gh.sealF 4 6 (.own ⟨4,7,7⟩ 0 s.1.sess.length) ?_) ?_)
   ·exact zo @zdv
   refine zf @zdv ?_
   refine zbm (Gh.sealF 4 7 (.own ⟨4,8,8⟩ 0 s.1.locks.length) ?_) ?_
   ·exact zo @zaD
   refine zf @zaD ?_
   refine zbm (Gh.sealF 4 8 (.own ⟨4,9,9⟩ 0 s.1.memos.length) ?_) ?_
   ·exact zo @zcv
   refine zf @zcv ?_
   repeat'(first|exact zC|refine zq @zfO ?_|(apply zaa<;>intro hb)|(apply I;exact zI)|(apply I<;>intro hg))
   simp[zaG,zcn,zaK,zaw]
theorem zj4 {bs:List Int}:∀{n:Nat} {p:Int} {acc:List Int},zgG bs n p acc=za2 (zbv bs) n p acc
 |0,_,_=>rfl
 |n+1,p,acc=>by
  rw[zgG,za2]
  cases zbv bs p with
  |error e=>rfl
  |ok x=>exact zj4
end Go.Proofs.YtliimajkpggbhaaGreat
