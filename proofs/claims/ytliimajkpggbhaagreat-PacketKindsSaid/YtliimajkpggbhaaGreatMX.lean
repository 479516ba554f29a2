import Derived.Test.YtliimajkpggbhaaGreatM3
namespace Go.Proofs.YtliimajkpggbhaaGreat
open Go.Pk
set_option maxRecDepth 100000
set_option linter.unusedSimpArgs false
set_option linter.unusedVariables false
def ziJ (bs:List Int) (p:Int):Rr Sess:=match zbt bs p with
 | .error e=> .error e
 | .ok c=>match zbf bs c.2 with
  | .error e=> .error e
  | .ok n=>match zbf bs n.2 with
   | .error e=> .error e
   | .ok r=> .ok (⟨c.1,n.1,r.1⟩,r.2)
def za4 {α:Type} (f:Int→Rr α):Nat→Int→List α→Rr (List α)
 |0,p,acc=> .ok (acc,p)
 |n+1,p,acc=>match f p with
  | .error e=> .error e
  | .ok x=>za4 f n x.2 (acc++[x.1])
def zeM (bs:List Int) (p:Int):Rr St:=match zbf bs p with
 | .error e=> .error e
 | .ok t=>match zbf bs t.2 with
  | .error e=> .error e
  | .ok u=>match zbf bs u.2 with
   | .error e=> .error e
   | .ok k=>match zbI bs k.2 5 with
    | .error e=> .error e
    | .ok n=>match za4 (ziJ bs) n.1.toNat n.2 []with
     | .error e=> .error e
     | .ok ss=>match zbI bs ss.2 4 with
      | .error e=> .error e
      | .ok n2=>match za4 (zfA bs) n2.1.toNat n2.2 []with
       | .error e=> .error e
       | .ok ls=>match zbI bs ls.2 8 with
        | .error e=> .error e
        | .ok n3=>match za4 (zgz bs) n3.1.toNat n3.2 []with
         | .error e=> .error e
         | .ok ms=>if zeG ⟨t.1,u.1,k.1,ss.1,ls.1,ms.1⟩=true then .ok (⟨t.1,u.1,k.1,ss.1,ls.1,ms.1⟩,ms.2)else .error 4
theorem zec {α:Type} {f:Int→Rr α} {ok:α→Prop} (hf:∀p y,f p= .ok y→i64 y.2∧ok y.1):∀{n:Nat} {p:Int} {acc:List α} {y:List α×Int},i64 p→(∀x∈acc,ok x)→za4 f n p acc= .ok y→i64 y.2∧y.1.length=acc.length+n∧∀x∈y.1,ok x
 |0,p,acc,y,hp,ha,hy=>by cases hy;exact⟨hp,rfl,ha⟩
 |n+1,p,acc,y,hp,ha,hy=>by
  rw[za4]at hy
  cases hx:f p with
  |error x=>rw[hx]at hy;cases hy
  |ok x=>
   rw[hx]at hy
   have:=zec hf (hf _ _ hx).1 (fun z hz=>by
    rcases List.mem_append.1 hz with hz|hz
    ·exact ha z hz
    ·simp at hz;subst hz;exact(hf _ _ hx).2) hy
   rw[List.length_append,List.length_singleton]at this
   exact⟨this.1,by omega,this.2.2⟩
theorem zjg {bs:List Int} (h:BsOk bs) {p:Int} {y:Memo×Int} (hy:zgz bs p= .ok y):i64 y.2∧zcD y.1.reply:=by
 obtain⟨h0,rfl⟩:=zdF hy
 simp only
 unfold zf1 at h0⊢
 simp only at h0⊢
 split at h0
 ·rename_i h1;exact absurd h0 h1
 rename_i h1
 rw[if_neg h1]
 split at h0
 ·rename_i h2;exact absurd h0 h2
 rename_i h2
 rw[if_neg h2]
 split at h0
 ·rename_i h3;exact absurd h0 h3
 rename_i h3
 rw[if_neg h3]
 split at h0
 ·exact absurd h0 (by decide)
 rename_i h4
 rw[if_neg h4]
 obtain⟨g1,g2⟩:=ziA h (p:=(zfy bs (zbP bs p).2.1).2.1)
 exact⟨zfu h.l g1,g2⟩
set_option maxHeartbeats 4000000 in
theorem zis (bs:List Int) (p:Int) (h:BsOk bs) (hp:i64 p) (b:Bool) (y:St×Int) (e:Int) (hy:zmJ b y e (zeM bs p)):
  (b=true→CallOK Tryz.prog 145 [.obj (rds bs p)] (fun r o=>r=[y.1.rf]∧o=[rds bs y.2]))∧(b=false→zbW Tryz.prog 145 [.obj (rds bs p)] (zrO e)):=by
 refine zhb Tryz.func145 Tryz.results145 Tryz.ntmps145 Tryz.call145 ?_
 simp only[Tryz.f145,Option.getD]
 unfold zeM at hy
 cases e1:zbf bs p with
 |error x=>
  rw[e1]at hy
  obtain⟨rfl,rfl⟩:=zay hy
  have hr:=zc8 bs p h hp e1
  refine zL0 trivial ?_
  refine zp (rds bs p) (hr) ?_
  first|refine zs (I @zak @zab) ?_|exact zt (I @zak @zab)
 |ok t=>
 have he1:=zd0 bs p h hp e1
 rw[e1]at hy
 simp only at hy
 refine zL0 trivial ?_
 refine zj (he1) ?_
 cases e2:zbf bs t.2 with
 |error x=>
  rw[e2]at hy
  obtain⟨rfl,rfl⟩:=zay hy
  have hr:=zc8 bs _ h (zav h e1) e2
  refine zL0 trivial ?_
  refine zp (rds bs p) (hr) ?_
  first|refine zs (I @zak @zab) ?_|exact zt (I @zak @zab)
 |ok u=>
 have he2:=zd0 bs _ h (zav h e1) e2
 rw[e2]at hy
 simp only at hy
 refine zL0 trivial ?_
 refine zj (he2) ?_
 cases e3:zbf bs u.2 with
 |error x=>
  rw[e3]at hy
  obtain⟨rfl,rfl⟩:=zay hy
  have hr:=zc8 bs _ h (zav h e2) e3
  refine zL0 trivial ?_
  refine zp (rds bs p) (hr) ?_
  first|refine zs (I @zak @zab) ?_|exact zt (I @zak @zab)
 |ok k=>
 have he3:=zd0 bs _ h (zav h e2) e3
 rw[e3]at hy
 simp only at hy
 refine zL0 trivial ?_
 refine zj (he3) ?_
 cases e4:zbI bs k.2 5 with
 |error x=>
  rw[e4]at hy
  obtain⟨rfl,rfl⟩:=zay hy
  have hr:=zfa bs _ 5 h (zav h e3) e4
  refine zL0 trivial ?_
  refine zp (rds bs p) (hr) ?_
  first|refine zs (I @zak @zab) ?_|exact zt (I @zak @zab)
 |ok n=>
 have he4:=zgb bs _ 5 h (zav h e3) e4
 rw[e4]at hy
 simp only at hy
 refine zL0 trivial ?_
 refine zj (he4) ?_
 obtain⟨hn1,hn2,hn3⟩:=zc1 h e4
 refine zL0 trivial ?_
 refine zai (τ:=Nat×Int×List Sess×Nat) (fun a=>⟨(.one (.ptr ⟨0,0,0⟩ 0)::dd::ptq 2::ptq 3::zrP (ai n.1::ai a.1::dq7 (zez []))),[zzG bs a.2.1 a.2.2.2,(2,⟨2,[obq 1 [di 0,di 0,di 0, .d (.v (.slice none 0 0)), .d (.v (.slice none 0 0)), .d (.v (.slice none 0 0))],none,none,none,none,none,none]⟩),(3,⟨2,[obq 1 [di t.1,di u.1,di k.1, .own ⟨3,4,1⟩ 0 a.2.2.1.length, .d (.v (.slice none 0 0)), .d (.v (.slice none 0 0))],none,none,none,roq 1 3 (zbC a.2.2.1),none,none]⟩),(4,⟨2,[]⟩),(31,⟨2,[]⟩),(32,⟨2,[]⟩)]⟩)
  (fun a=>a.1≤n.1.toNat∧i64 a.2.1∧a.2.2.1.length=a.1) (fun a=>za4 (ziJ bs) (n.1.toNat - a.1) a.2.1 a.2.2.1) (fun a=>n.1.toNat - a.1) (0,n.2,[],5)
  ((Gh.nilF 3 3 3 rfl).trans (Gh.canon [0,2,3] [4,31,32] [0] zK rfl rfl)) ⟨Nat.zero_le _,hn1,rfl⟩ ?_
 intro⟨i,q,acc,nx⟩ ⟨hi0,hq,ha⟩ hF K hK
 simp only[Nat.sub_zero]at hi0 hq ha hF hK⊢
 rw[←hF]at hy
 refine zw ?_
 refine zaa (fun hlt=> ?_) (fun hge=> ?_)
 ·have hi:i<n.1.toNat:=by simp at hlt;omega
  have hw:=zal hi (by omega)
  have hst:n.1.toNat - i=(n.1.toNat - (i+1))+1:=by omega
  rw[hst,za4,ziJ]at hy
  cases x1:zbt bs q with
  |error x=>
   rw[x1]at hy
   obtain⟨rfl,rfl⟩:=zay hy
   have hr:=zhc bs q h hq x1
   refine zL0 trivial ?_
   refine zp (rds bs p) (hr) ?_
   first|refine zs (I @zak @zab) ?_|exact zt (I @zak @zab)
  |ok c=>
  rw[x1]at hy
  simp only at hy
  have hr1:=zha bs q h hq x1
  refine zL0 trivial ?_
  refine zj (hr1) ?_
  cases x2:zbf bs c.2 with
  |error x=>
   rw[x2]at hy
   obtain⟨rfl,rfl⟩:=zay hy
   have hr:=zc8 bs _ h (zbi h x1) x2
   refine zL0 trivial ?_
   refine zp (rds bs p) (hr) ?_
   first|refine zs (I @zak @zab) ?_|exact zt (I @zak @zab)
  |ok m=>
  rw[x2]at hy
  simp only at hy
  have hr2:=zd0 bs _ h (zbi h x1) x2
  refine zL0 trivial ?_
  refine zj (hr2) ?_
  cases x3:zbf bs m.2 with
  |error x=>
   rw[x3]at hy
   obtain⟨rfl,rfl⟩:=zay hy
   have hr:=zc8 bs _ h (zav h x2) x3
   refine zL0 trivial ?_
   refine zp (rds bs p) (hr) ?_
   first|refine zs (I @zak @zab) ?_|exact zt (I @zak @zab)
  |ok r=>
  have hr3:=zd0 bs _ h (zav h x2) x3
  have hF2:za4 (ziJ bs) (n.1.toNat - (i+1)) r.2 (acc++[⟨c.1,m.1,r.1⟩])=za4 (ziJ bs) (n.1.toNat - i) q acc:=by rw[hst,za4,ziJ,x1];simp only;rw[x2];simp only;rw[x3]
  refine zL0 trivial ?_
  refine zj (hr3) ?_
  refine zL0 @zaB ?_
  refine hK _ (i+1,r.2,acc++[⟨c.1,m.1,r.1⟩],nx+3) (Gh.canon [0,2,3] [] [0] (zk (I hw (I @List.length_append.{0} @List.length_singleton.{0}))) rfl (by simp only[List.length_append,List.length_singleton];rw[zeN];rfl)) ⟨hi,zav h x3,by simp only[List.length_append,List.length_singleton];omega⟩ hF2 (by simp only;omega)
 ·have hi:i=n.1.toNat:=by
   have:¬(i:Int)<n.1:=by simpa using hge
   omega
  rw[hi,Nat.sub_self,za4]at hy
  simp only at hy
  clear hK hF
  have hpq:=hq
  cases e5:zbI bs q 4 with
  |error x=>
   rw[e5]at hy
   obtain⟨rfl,rfl⟩:=zay hy
   have hr:=zfa bs _ 4 h hq e5
   refine zL0 trivial ?_
   refine zp (rds bs p) (hr) ?_
   first|refine zs (I @zak @zab) ?_|exact zt (I @zak @zab)
  |ok n2=>
  have hr5:=zgb bs _ 4 h hq e5
  obtain⟨hn4,hn5,hn6⟩:=zc1 h e5
  rw[e5]at hy
  simp only at hy
  refine zL0 trivial ?_
  refine zj (hr5) ?_
  refine zL0 trivial ?_
  refine zai (τ:=Nat×Int×List Lk×Nat) (fun a=>⟨(.one (.ptr ⟨0,0,0⟩ 0)::dd::ptq 2::ptq 3::zwY (ai n2.1::ai a.1::zzP [])),[zzG bs a.2.1 a.2.2.2,(2,⟨2,[obq 1 [di 0,di 0,di 0, .d (.v (.slice none 0 0)), .d (.v (.slice none 0 0)), .d (.v (.slice none 0 0))],none,none,none,none,none,none]⟩),(3,⟨2,[obq 1 [di t.1,di u.1,di k.1, .own ⟨3,4,1⟩ 0 acc.length, .own ⟨3,5,1⟩ 0 a.2.2.1.length, .d (.v (.slice none 0 0))],none,none,none,roq 1 3 (zbC acc),roq 1 4 (zam a.2.2.1),none]⟩),(4,⟨2,[]⟩),(31,⟨2,[]⟩),(32,⟨2,[]⟩),(42,⟨2,[]⟩),(43,⟨2,[]⟩),(44,⟨2,[]⟩)]⟩)
   (fun a=>a.1≤n2.1.toNat∧i64 a.2.1∧a.2.2.1.length=a.1∧∀k∈a.2.2.1,k.line.length≤3∧k.name.size≤bs.length) (fun a=>za4 (zfA bs) (n2.1.toNat - a.1) a.2.1 a.2.2.1) (fun a=>n2.1.toNat - a.1) (0,n2.2,[],nx+1)
   ((Gh.nilF 3 4 4 rfl).trans (Gh.canon [0,2,3] [42,43,44] [0] zK rfl rfl)) ⟨Nat.zero_le _,hn4,rfl,by simp⟩ ?_
  intro⟨j,q2,ls,nx2⟩ ⟨hj0,hq2,hl,hlk⟩ hF K hK
  simp only[Nat.sub_zero]at hj0 hq2 hl hlk hF hK⊢
  rw[←hF]at hy
  refine zw ?_
  refine zaa (fun hlt2=> ?_) (fun hge2=> ?_)
  ·have hj:j<n2.1.toNat:=by simp at hlt2;omega
   have hw:=zal hj (by omega)
   have hst:n2.1.toNat - j=(n2.1.toNat - (j+1))+1:=by omega
   rw[hst,za4]at hy
   cases x1:zfA bs q2 with
   |error x=>
    rw[x1]at hy
    obtain⟨rfl,rfl⟩:=zay hy
    have hr:=zqN bs q2 h hq2 x1
    first|refine zs0 ?_|exact zt0
    refine zfg _ _ (zlR zcQ mixed 3 [false,false,false,true,true,true,true,true] (zrO e) (fun g=> ?_) ?_)
    ·first|refine zs (I @zak @zab) ?_|exact zt (I @zak @zab)
    ·simp only[zow,zox,zjs]
     refine zL0 trivial ?_
     exact zn (rds bs q) (hr)
   |ok x=>
   have hr1:=zr0 bs q2 h hq2 x1
   obtain⟨g1,g2,g3⟩:=zoq h x1
   have hF2:za4 (zfA bs) (n2.1.toNat - (j+1)) x.2 (ls++[x.1])=za4 (zfA bs) (n2.1.toNat - j) q2 ls:=by rw[hst,za4,x1]
   refine zL0 trivial ?_
   refine zj (hr1) ?_
   have htl:(zaQ x.1.line).take x.1.line.length=zaQ x.1.line:=zjo
   refine zL0 (I @zah htl) ?_
   refine hK _ (j+1,x.2,ls++[x.1],nx2+1) (Gh.canon [0,2,3] [] [0] (zk (I hw (I @List.length_append.{0} @List.length_singleton.{0}))) rfl (by simp only[List.length_append,List.length_singleton];rw[zgv];rfl)) ⟨hj,g1,by simp only[List.length_append,List.length_singleton];omega, ?_⟩ hF2 (by simp only;omega)
   intro k hk
   rcases List.mem_append.1 hk with hk|hk
   ·exact hlk k hk
   ·simp at hk;subst hk;exact⟨g2,g3⟩
  ·have hj:j=n2.1.toNat:=by
    have:¬(j:Int)<n2.1:=by simpa using hge2
    omega
   rw[hj,Nat.sub_self,za4]at hy
   simp only at hy
   clear hK hF
   cases e6:zbI bs q2 8 with
   |error x=>
    rw[e6]at hy
    obtain⟨rfl,rfl⟩:=zay hy
    have hr:=zfa bs _ 8 h hq2 e6
    refine zL0 trivial ?_
    refine zp (rds bs p) (hr) ?_
    first|refine zs (I @zak @zab) ?_|exact zt (I @zak @zab)
   |ok n3=>
   have hr6:=zgb bs _ 8 h hq2 e6
   obtain⟨hn7,hn8,hn9⟩:=zc1 h e6
   rw[e6]at hy
   simp only at hy
   refine zL0 trivial ?_
   refine zj (hr6) ?_
   refine zL0 trivial ?_
   refine zai (τ:=Nat×Int×List Memo×Nat) (fun a=>⟨(.one (.ptr ⟨0,0,0⟩ 0)::dd::ptq 2::ptq 3::dq4 (zez (ai n3.1::ai a.1::zAE []))),[zzG bs a.2.1 a.2.2.2,(2,⟨2,[obq 1 [di 0,di 0,di 0, .d (.v (.slice none 0 0)), .d (.v (.slice none 0 0)), .d (.v (.slice none 0 0))],none,none,none,none,none,none]⟩),(3,⟨2,[obq 1 [di t.1,di u.1,di k.1, .own ⟨3,4,1⟩ 0 acc.length, .own ⟨3,5,1⟩ 0 ls.length, .own ⟨3,6,1⟩ 0 a.2.2.1.length],none,none,none,roq 1 3 (zbC acc),roq 1 4 (zam ls),roq 1 6 (zaZ a.2.2.1)]⟩),(4,⟨2,[]⟩),(31,⟨2,[]⟩),(32,⟨2,[]⟩),(42,⟨2,[]⟩),(43,⟨2,[]⟩),(44,⟨2,[]⟩),(54,⟨2,[]⟩),(55,⟨2,[]⟩),(56,⟨2,[]⟩)]⟩)
    (fun a=>a.1≤n3.1.toNat∧i64 a.2.1∧a.2.2.1.length=a.1∧∀m∈a.2.2.1,zcD m.reply) (fun a=>za4 (zgz bs) (n3.1.toNat - a.1) a.2.1 a.2.2.1) (fun a=>n3.1.toNat - a.1) (0,n3.2,[],nx2+1)
    ((Gh.nilF 3 5 6 rfl).trans (Gh.canon [0,2,3] [54,55,56] [0] zK rfl rfl)) ⟨Nat.zero_le _,hn7,rfl,by simp⟩ ?_
   intro⟨m,q3,ms,nx3⟩ ⟨hm0,hq3,hml,hmk⟩ hF K hK
   simp only[Nat.sub_zero]at hm0 hq3 hml hmk hF hK⊢
   rw[←hF]at hy
   refine zw ?_
   refine zaa (fun hlt3=> ?_) (fun hge3=> ?_)
   ·have hm:m<n3.1.toNat:=by simp at hlt3;omega
    have hw:=zal hm (by omega)
    have hst:n3.1.toNat - m=(n3.1.toNat - (m+1))+1:=by omega
    rw[hst,za4]at hy
    cases x1:zgz bs q3 with
    |error x=>
     rw[x1]at hy
     obtain⟨rfl,rfl⟩:=zay hy
     have hr:=zqP bs q3 h hq3 x1
     first|refine zs0 ?_|exact zt0
     refine zfg _ _ (zlR zcQ mixed 3 [false,false,false,true,true,true,true,true] (zrO e) (fun g=> ?_) ?_)
     ·first|refine zs (I @zak @zab) ?_|exact zt (I @zak @zab)
     ·simp only[zow,zox,zjs]
      refine zL0 trivial ?_
      exact zn (rds bs q) (hr)
    |ok x=>
    have hr1:=zr2 bs q3 h hq3 x1
    obtain⟨g1,g2⟩:=zjg h x1
    have hF2:za4 (zgz bs) (n3.1.toNat - (m+1)) x.2 (ms++[x.1])=za4 (zgz bs) (n3.1.toNat - m) q3 ms:=by rw[hst,za4,x1]
    refine zL0 trivial ?_
    refine zj (hr1) ?_
    refine zL0 @zaC ?_
    refine hK _ (m+1,x.2,ms++[x.1],nx3+1) (Gh.canon [0,2,3] [] [0] (zk (I hw (I @List.length_append.{0} @List.length_singleton.{0}))) rfl (by simp only[List.length_append,List.length_singleton];rw[zef];rfl)) ⟨hm,g1,by simp only[List.length_append,List.length_singleton];omega, ?_⟩ hF2 (by simp only;omega)
    intro k hk
    rcases List.mem_append.1 hk with hk|hk
    ·exact hmk k hk
    ·simp at hk;subst hk;exact g2
   ·have hm:m=n3.1.toNat:=by
     have:¬(m:Int)<n3.1:=by simpa using hge3
     omega
    rw[hm,Nat.sub_self,za4]at hy
    simp only at hy
    clear hK hF
    have hbl:=h.l
    have hri:=right_ok ⟨t.1,u.1,k.1,acc,ls,ms⟩ ⟨by simp only;omega,by simp only;omega,by simp only;omega,fun k hk=>⟨by have:=(hlk k hk).1;omega,by have:=(hlk k hk).2;omega⟩,hmk⟩
    cases hR:zeG ⟨t.1,u.1,k.1,acc,ls,ms⟩
    ·rw[hR]at hri hy
     rw[if_neg (by simp)]at hy
     obtain⟨rfl,rfl⟩:=zay hy
     exact zW (I @zak (I @zab (I @zdG (I @zaF @zcF)))) (hri)
    ·rw[hR]at hri hy
     rw[if_pos rfl]at hy
     obtain⟨rfl,rfl⟩:=zdP hy
     refine zL (I @zdO (I @zdG (I @zaF @zcF))) (hri) ?_
     rfl
abbrev zfs:Value:= .slice none 0 0
def szS (k:Nat):Nat:=if k=4 then 6 else 1
def nwS (x:Value) (k:Nat):List Value:=if k=4 then [.int .i64 0, .int .i64 0, .int .i64 0,zfs,zfs,zfs]else if k=5 then [.int .i64 0]else [codeOf x]
theorem zDZ {l:List Value} (h:l.length=9):∃a b c d e f g i j,l=[a,b,c,d,e,f,g,i,j]:=by
 match l,h with
 |[a,b,c,d,e,f,g,i,j],_=>exact⟨a,b,c,d,e,f,g,i,j,rfl⟩
theorem zu3:(Tryz.prog.info? 177).bind (·.zero)=some (.agg #[.int .i64 0]):=by kernel_rfl
def dSt (bs:List Int) (p:Int):St×Int×Int:=match zeM bs p with
 | .ok y=>(y.1,y.2,0)
 | .error e=>(st0,0,e)
structure Sn where
 done:Int
 view:Int
 slot:Int
 st:St
abbrev Sn.lent (s:Sn):List C:=di s.done::di s.view::di s.slot::s.st.lent
abbrev zBg (s:Sn):RF:= .agg (.d (iD s.done):: .d (iD s.view):: .d (iD s.slot)::(stE s.st).map RO.d)
def zbp (s:Sn):Bool:=within s.done&&(within s.view&&(within s.slot&&zeG s.st))
theorem zdE (n:Int):within n=(!(decide (n<0))&& !(decide (n>2305843009213693952))):=by
 unfold within
 have hH:zbx=2305843009213693952:=rfl
 rw[hH]
 by_cases h1:n<0<;>by_cases h2:n>2305843009213693952<;>simp[h1,h2]<;>omega
set_option maxHeartbeats 1000000 in
theorem zhZ (s:Sn) (h:Small s.st):CallOK Tryz.prog 39 [.f (.agg s.lent)] (fun r o=>r=[rb (zbp s)]∧o=[]):=by
 refine zh Tryz.func39 Tryz.results39 Tryz.ntmps39 Tryz.call39 ?_
 simp only[Tryz.f39,Option.getD]
 have hri:=right_ok s.st h
 have hagg:∀(Z:List Nat) (r:Rs) (xs ys:List AV),fgc Z r (AV.agg [di s.done,di s.view,di s.slot]::xs) (AV.agg [di s.done,di s.view,di s.slot]::ys)=fgc Z r xs ys:=fun Z r xs ys=>ziV rfl rfl
 refine zL0 trivial ?_
 refine zai (τ:=Nat) (fun i=>⟨(dd::ptq 1::zzM (.agg [di s.done,di s.view,di s.slot]::ai i::zrP [])),[(1,⟨2,[obq 1 [di s.done,di s.view,di s.slot,di s.st.time,di s.st.num,di s.st.token, .lent s.st.sess.length (zbC s.st.sess), .lent s.st.locks.length (zam s.st.locks), .lent s.st.memos.length (zaZ s.st.memos)],none,none,none,none,none,none,none,none,none]⟩)]⟩)
  (fun i=>i≤3) (fun i=>if i=0 then zbp s else if i=1 then within s.view&&(within s.slot&&zeG s.st)else if i=2 then within s.slot&&zeG s.st else zeG s.st) (fun i=>3 - i) 0
  (Gh.canon [1] [] [] (zk hagg) rfl rfl) (Nat.zero_le _) ?_
 intro i hi0 hF K hK
 rw[if_pos rfl]at hF
 refine zw ?_
 refine zaa (fun hlt=> ?_) (fun hge=> ?_)
 ·have hi:i<3:=by simp at hlt;omega
  have hw:IntKind.i64.wrap ((i:Int)+1)=((i+1:Nat):Int):=zal hi (by omega)
  rcases(show i=0∨i=1∨i=2 by omega)with rfl|rfl|rfl
  ·have hb:=zdE s.done
   cases h1:decide (s.done<0)
   ·cases h2:decide (s.done>2305843009213693952)
    ·rw[h1,h2]at hb
     refine zL0 (I h1 h2) ?_
     exact hK _ 1 (Gh.canon [1] [] [] (zk (I hw hagg)) rfl rfl) (by omega) (by simp[zbp,hb]) (by omega)
    ·rw[h1,h2]at hb
     have hz:zbp s=false:=by simp[zbp,hb]
     exact zW0 (I h1 (I h2 hz))
   ·rw[h1]at hb
    have hz:zbp s=false:=by simp[zbp,hb]
    exact zW0 (I h1 hz)
  ·have hb:=zdE s.view
   simp only[Nat.reduceEqDiff,if_true,if_false]at hF
   rw[←hF]
   cases h1:decide (s.view<0)
   ·cases h2:decide (s.view>2305843009213693952)
    ·rw[h1,h2]at hb
     refine zL0 (I h1 h2) ?_
     exact hK _ 2 (Gh.canon [1] [] [] (zk (I hw hagg)) rfl rfl) (by omega) (by simp[hb]) (by omega)
    ·rw[h1,h2]at hb
     have hz:(within s.view&&(within s.slot&&zeG s.st))=false:=by simp[hb]
     exact zW0 (I h1 (I h2 hz))
   ·rw[h1]at hb
    have hz:(within s.view&&(within s.slot&&zeG s.st))=false:=by simp[hb]
    exact zW0 (I h1 hz)
  ·have hb:=zdE s.slot
   simp only[Nat.reduceEqDiff,if_true,if_false]at hF
   rw[←hF]
   cases h1:decide (s.slot<0)
   ·cases h2:decide (s.slot>2305843009213693952)
    ·rw[h1,h2]at hb
     refine zL0 (I h1 h2) ?_
     exact hK _ 3 (Gh.canon [1] [] [] (zk (I hw hagg)) rfl rfl) (by omega) (by simp[hb]) (by omega)
    ·rw[h1,h2]at hb
     have hz:(within s.slot&&zeG s.st)=false:=by simp[hb]
     exact zW0 (I h1 (I h2 hz))
   ·rw[h1]at hb
    have hz:(within s.slot&&zeG s.st)=false:=by simp[hb]
    exact zW0 (I h1 hz)
 ·have hi:i=3:=by
   have:¬(i:Int)<3:=by simpa using hge
   omega
  subst hi
  simp only[Nat.reduceEqDiff,if_false]at hF
  rw[←hF]
  exact zW trivial (hri)
def snI (s:Sn):List Int:=zbs s.done++(zbs s.view++(zbs s.slot++zdX s.st))
theorem within_iff {n:Int} (h:within n=true):0≤n∧n<4611686018427387904:=by
 rw[zdE]at h
 simp at h
 omega
theorem zdZ {s:Sn} (h:zbp s=true):(0≤s.done∧s.done<4611686018427387904)∧(0≤s.view∧s.view<4611686018427387904)∧(0≤s.slot∧s.slot<4611686018427387904)∧RightS s.st:=by
 simp only[zbp,Bool.and_eq_true]at h
 exact⟨within_iff h.1,within_iff h.2.1,within_iff h.2.2.1,zdv.1 h.2.2.2⟩
theorem zqM (s:Sn) (h:zbp s=true):CallOK Tryz.prog 27 [.f (.agg s.lent)] (fun r o=>r=[.one (.own 1 (snI s).length (zad (snI s)) false),ri 0]∧o=[]):=by
 obtain⟨f1,f2,f3,f4⟩:=zdZ h
 refine zh Tryz.func27 Tryz.results27 Tryz.ntmps27 Tryz.call27 ?_
 simp only[Tryz.f27,Option.getD]
 have hm:=zhZ s (zcl f4)
 rw[h]at hm
 have hp:=zrc s.st f4
 have m1:=zfh s.done f1
 have m2:=zfh s.view f2
 have m3:=zfh s.slot f3
 have hl:=zoO f4 s.st.memos.length
 have hml:=zhB f4
 have t8:∀v:Int,(zad (zbs v)).take 8=zad (zbs v):=fun v=>List.take_of_length_le (by rw[zeC];decide)
 have hcc:CallOK Tryz.prog 66 [.f (al 4 [.sl 8 (zad (zbs s.done)), .sl 8 (zad (zbs s.view)), .sl 8 (zad (zbs s.slot)), .sl (zdX s.st).length (zad (zdX s.st))])] (fun x o=>x=[.one (.own 1 (snI s).length (zad (snI s)) false)]∧o=[]):=by
  have hc:=zfZ [zbs s.done,zbs s.view,zbs s.slot,zdX s.st] (by simp) (fun l hl=>by
   simp only[List.mem_cons,List.not_mem_nil,or_false]at hl
   rcases hl with rfl|rfl|rfl|rfl
   ·rw[zaX];decide
   ·rw[zaX];decide
   ·rw[zaX];decide
   ·unfold zdX;omega)
  rw[show [zbs s.done,zbs s.view,zbs s.slot,zdX s.st].flatten=snI s from by simp[snI]]at hc
  exact hc
 exact zW (I t8 @zat) (I (hm) (I (hp) (I (m1) (I (m2) (I (m3) (hcc))))))
def szG (k:Nat):Nat:=if k=4 then 9 else 1
def nwG (x:Value) (k:Nat):List Value:=if k=4 then [.int .i64 0, .int .i64 0, .int .i64 0, .int .i64 0, .int .i64 0, .int .i64 0,zfs,zfs,zfs]else if k=5 then [.int .i64 0]else [codeOf x]
theorem zzF {ls:List (List Value)} (h:ls.length=[4,5,6].length) (hs:∀(i k:Nat) (l:List Value),[4,5,6][i]? =some k→ls[i]? =some l→l.length=szG k):∃a b c d e f j k l g i,ls=[[a,b,c,d,e,f,j,k,l],[g],[i]]:=by
 match ls,h with
 |[x,y,z],_=>
  obtain⟨a,b,c,d,e,f,j,k,l,rfl⟩:=zDZ (hs 0 4 x rfl rfl)
  obtain⟨g,rfl⟩:=zzt (hs 1 5 y rfl rfl)
  obtain⟨i,rfl⟩:=zzt (hs 2 6 z rfl rfl)
  exact⟨a,b,c,d,e,f,j,k,l,g,i,rfl⟩
theorem zop:zjx Tryz.prog 143 [4,5,6] szG nwG (zjT 177):=by
 refine zfE zcQ mixed (T:=Ty) Tryz.func143 rfl rfl Tryz.ntmps143 rfl rfl rfl rfl rfl rfl rfl (by decide) (by decide) (by decide) ?_
 rintro x ⟨n,rfl⟩ ls hl hs
 obtain⟨a,b,c,d,e,f,j,k,l,g,i,rfl⟩:=zzF hl hs
 refine⟨.tuple #[.agg #[.int .i64 n], .bool true], .tup [.agg [di n],ab true], ?_, ?_,rfl, ?_⟩
 ·intro w
  simp[Instr.typeAssert,Tryz.underlying177]
 ·intro cx w r β
  simp[ReA,ReAs,ReC,ReCs,Rd,flat]
 ·simp only[zby,plainO,List.map_cons,List.map_nil]
  first|refine zs0 ?_|exact zt0
  refine zL0 trivial ?_
  rfl
theorem zqL:zoz Tryz.prog 143 3:=by
 refine zeg zcQ mixed (T:=Ty) Tryz.func143 rfl rfl Tryz.ntmps143 rfl rfl rfl rfl rfl rfl rfl (by decide) (y7:= .tuple #[.agg #[.int .i64 0], .bool false]) (V7:= .tup [.agg [di 0],ab false]) ?_ ?_ (by decide) rfl ?_
 ·intro w
  simp[Instr.typeAssert,Tryz.underlying177,zjU zu3 w]
 ·intro cx w r β
  simp[ReA,ReAs,ReC,ReCs,Rd,flat]
 ·simp only[List.replicate]
  first|refine zs0 ?_|exact zt0
  exact zW0 trivial
def ziI (bs:List Int) (p:Int):Rr Sn:=match zbf bs p with
 | .error e=> .error e
 | .ok d=>match zbf bs d.2 with
  | .error e=> .error e
  | .ok v=>match zbf bs v.2 with
   | .error e=> .error e
   | .ok l=>match zeM bs l.2 with
    | .error e=> .error e
    | .ok s=>if zbp ⟨d.1,v.1,l.1,s.1⟩=true then .ok (⟨d.1,v.1,l.1,s.1⟩,s.2)else .error 4
abbrev sn0:Sn:=⟨0,0,0,st0⟩
def dSn (bs:List Int) (p:Int):Sn×Int×Int:=match ziI bs p with
 | .ok y=>(y.1,y.2,0)
 | .error e=>(sn0,0,e)
theorem zir {bs:List Int} {p:Int} {y:St×Int} (hy:zeM bs p= .ok y):zeG y.1=true:=by
 unfold zeM at hy
 cases e1:zbf bs p with
 |error x=>rw[e1]at hy;cases hy
 |ok t=>
 rw[e1]at hy;simp only at hy
 cases e2:zbf bs t.2 with
 |error x=>rw[e2]at hy;cases hy
 |ok u=>
 rw[e2]at hy;simp only at hy
 cases e3:zbf bs u.2 with
 |error x=>rw[e3]at hy;cases hy
 |ok k=>
 rw[e3]at hy;simp only at hy
 cases e4:zbI bs k.2 5 with
 |error x=>rw[e4]at hy;cases hy
 |ok n=>
 rw[e4]at hy;simp only at hy
 cases e5:za4 (ziJ bs) n.1.toNat n.2 []with
 |error x=>rw[e5]at hy;cases hy
 |ok ss=>
 rw[e5]at hy;simp only at hy
 cases e6:zbI bs ss.2 4 with
 |error x=>rw[e6]at hy;cases hy
 |ok n2=>
 rw[e6]at hy;simp only at hy
 cases e7:za4 (zfA bs) n2.1.toNat n2.2 []with
 |error x=>rw[e7]at hy;cases hy
 |ok ls=>
 rw[e7]at hy;simp only at hy
 cases e8:zbI bs ls.2 8 with
 |error x=>rw[e8]at hy;cases hy
 |ok n3=>
 rw[e8]at hy;simp only at hy
 cases e9:za4 (zgz bs) n3.1.toNat n3.2 []with
 |error x=>rw[e9]at hy;cases hy
 |ok ms=>
 rw[e9]at hy;simp only at hy
 split at hy
 ·rename_i hr;cases hy;exact hr
 ·cases hy
theorem zjf (e:Int):zoi 37 [4,5,6] (nwG (zfv 177 e))=⟨(dq4 (.one (.ptr ⟨4,0,0⟩ 0):: .one (.ptr ⟨5,0,0⟩ 0):: .one (.ptr ⟨6,0,0⟩ 0)::zxX [])),[(4,{next:=1,l:=[obq 0 [di 0,di 0,di 0,di 0,di 0,di 0, .d (.v zfs), .d (.v zfs), .d (.v zfs)]]}),(5,{next:=1,l:=[obq 0 [di 0]]}),(6,{next:=1,l:=[obq 0 [di e]]})]⟩:=rfl
set_option maxHeartbeats 2000000 in
theorem zkv (bs:List Int) (p:Int) (h:BsOk bs) (hp:i64 p):
  CallOK Tryz.prog 95 [.f (asl bs.length (zad bs)), .f (ai p)] (fun r o=>r=[zBg (dSn bs p).1,ri (dSn bs p).2.1,ri (dSn bs p).2.2]∧o=[]):=by
 refine CallOK.nil ?_
 refine zbG zcQ mixed (T:=Ty) Tryz.func95 rfl Tryz.results95 Tryz.ntmps95 Tryz.call95 Tryz.call143 (ks:=[4,5,6]) rfl rfl rfl rfl rfl rfl (by decide) (by decide)
  (xs:=[asl bs.length (zad bs),ai p]) (sz:=szG) (nw:=nwG) zqL zop ⟨(asl bs.length (zad bs)::ai p::dq2 (.one (.ptr ⟨4,0,0⟩ 0):: .one (.ptr ⟨5,0,0⟩ 0):: .one (.ptr ⟨6,0,0⟩ 0)::zxX [])),[(4,{next:=1,l:=[obq 0 [di 0,di 0,di 0,di 0,di 0,di 0, .d (.v zfs), .d (.v zfs), .d (.v zfs)],none,none,none,none,none,none,none,none,none]}),(5,{next:=1,l:=[obq 0 [di 0],none]}),(6,{next:=1,l:=[obq 0 [di 0],none]})]⟩ ?_ ?_ rfl ?_
 ·simp only[List.map_cons,List.map_nil]
  refine zL0 trivial ?_
  exact fun _ _ _ h=>h
 ·exact⟨⟨_,rfl,rfl,rfl,rfl,rfl⟩,⟨_,rfl,rfl,rfl,rfl,rfl⟩,⟨_,rfl,rfl,rfl,rfl,rfl⟩,trivial⟩
 ·unfold dSn ziI
  cases e1:zbf bs p with
  |error e=>
   have hr:=zc8 bs p h hp e1
   refine zL0 trivial ?_
   refine zp (rds bs p) (hr) ?_
   simp only[za2,za3,za1,zbb]
   refine⟨⟨_,rfl⟩,rfl,⟨⟨_,rfl,rfl,rfl,rfl,rfl⟩,⟨_,rfl,rfl,rfl,rfl,rfl⟩,⟨_,rfl,rfl,rfl,rfl,rfl⟩,trivial⟩, ?_⟩
   rw[zjf]
   first|refine zs0 ?_|exact zt0
   simp[zaL,zcv,zaR,zax,st0]
  |ok d=>
  have he1:=zd0 bs p h hp e1
  simp only
  refine zL0 trivial ?_
  refine zj (he1) ?_
  cases e2:zbf bs d.2 with
  |error e=>
   have hr:=zc8 bs _ h (zav h e1) e2
   refine zL0 trivial ?_
   refine zp (rds bs p) (hr) ?_
   simp only[za2,za3,za1,zbb]
   refine⟨⟨_,rfl⟩,rfl,⟨⟨_,rfl,rfl,rfl,rfl,rfl⟩,⟨_,rfl,rfl,rfl,rfl,rfl⟩,⟨_,rfl,rfl,rfl,rfl,rfl⟩,trivial⟩, ?_⟩
   rw[zjf]
   first|refine zs0 ?_|exact zt0
   simp[zaL,zcv,zaR,zax,st0]
  |ok v=>
  have he2:=zd0 bs _ h (zav h e1) e2
  simp only
  refine zL0 trivial ?_
  refine zj (he2) ?_
  cases e3:zbf bs v.2 with
  |error e=>
   have hr:=zc8 bs _ h (zav h e2) e3
   refine zL0 trivial ?_
   refine zp (rds bs p) (hr) ?_
   simp only[za2,za3,za1,zbb]
   refine⟨⟨_,rfl⟩,rfl,⟨⟨_,rfl,rfl,rfl,rfl,rfl⟩,⟨_,rfl,rfl,rfl,rfl,rfl⟩,⟨_,rfl,rfl,rfl,rfl,rfl⟩,trivial⟩, ?_⟩
   rw[zjf]
   first|refine zs0 ?_|exact zt0
   simp[zaL,zcv,zaR,zax,st0]
  |ok l=>
  have he3:=zd0 bs _ h (zav h e2) e3
  simp only
  refine zL0 trivial ?_
  refine zj (he3) ?_
  cases e4:zeM bs l.2 with
  |error e=>
   have hr:=(zis bs _ h (zav h e3) false (st0,0) e e4).2 rfl
   refine zL0 trivial ?_
   refine zp (rds bs p) (hr) ?_
   simp only[za2,za3,za1,zbb]
   refine⟨⟨_,rfl⟩,rfl,⟨⟨_,rfl,rfl,rfl,rfl,rfl⟩,⟨_,rfl,rfl,rfl,rfl,rfl⟩,⟨_,rfl,rfl,rfl,rfl,rfl⟩,trivial⟩, ?_⟩
   rw[zjf]
   first|refine zs0 ?_|exact zt0
   simp[zaL,zcv,zaR,zax,st0]
  |ok s=>
  have he4:=(zis bs _ h (zav h e3) true s 0 e4).1 rfl
  simp only
  refine zL0 trivial ?_
  refine zj (he4) ?_
  have hms:=zhZ ⟨d.1,v.1,l.1,s.1⟩ (zcl (zdv.1 (zir e4)))
  cases hm:zbp ⟨d.1,v.1,l.1,s.1⟩
  ·rw[hm]at hms
   rw[if_neg (by simp)]
   refine zL (I @zdG (I @zaF @zcF)) (hms) ?_
   simp only[za2,za3,za1,zbb]
   refine⟨⟨_,rfl⟩,rfl,⟨⟨_,rfl,rfl,rfl,rfl,rfl⟩,⟨_,rfl,rfl,rfl,rfl,rfl⟩,⟨_,rfl,rfl,rfl,rfl,rfl⟩,trivial⟩, ?_⟩
   rw[zjf]
   first|refine zs0 ?_|exact zt0
   simp[zaL,zcv,zaR,zax,st0]
  ·rw[hm]at hms
   rw[if_pos rfl]
   repeat'(first|exact zC|(with_reducible first|refine zbh 7 ?_|refine zaU 7 ?_|refine zaV 7 ?_)|refine zu (I @zdG (I @zaF @zcF)) ?_|(with_reducible first|refine zae _ _ ?_)|refine zx (hms) ?_|(apply zaa<;>intro hb)|(apply I;exact zI)|(apply I<;>intro hg))
   refine zbl (zbk (Gh.sealF 4 6 (.own ⟨4,7,7⟩ 0 s.1.sess.length) ?_) ?_)
   ·exact zo @zdG
   refine zf @zdG ?_
   refine zbk (Gh.sealF 4 7 (.own ⟨4,8,8⟩ 0 s.1.locks.length) ?_) ?_
   ·exact zo @zaF
   refine zf @zaF ?_
   refine zbk (Gh.sealF 4 8 (.own ⟨4,9,9⟩ 0 s.1.memos.length) ?_) ?_
   ·exact zo @zcF
   refine zf @zcF ?_
   repeat'(first|exact zC|refine zq @zgg ?_|(apply zaa<;>intro hb)|(apply I;exact zI)|(apply I<;>intro hg))
   simp[zaL,zcv,zaR,zax]
theorem zpp {α:Type} {a:α} {q:Int}:rOf (a,q,0)= .ok (a,q):=rfl
theorem zeb {bs:List Int} {p:Nat} {v:Int} {rest:List Int} (h:bs.drop p=zbs v++rest) (hv:0≤v∧v<4611686018427387904):zbf bs p= .ok (v,((p+8:Nat):Int)):=by rw[zbf,zmg h hv,zpp]
theorem zg7 {bs:List Int} {p:Nat} {x:Int} {rest:List Int} (h:bs.drop p=[x]++rest):zbt bs p= .ok (x,((p+1:Nat):Int)):=by rw[zbt,zhC h,zpp]
theorem zpq {bs:List Int} {p:Nat} {s:ByteArray} {rest:List Int} (h:bs.drop p=zdS s++rest) (hs:s.size≤12):zgy bs p= .ok (s,((p+(1+s.size):Nat):Int)):=by rw[zgy,zqh h (by omega),zpp]
theorem zpr {bs:List Int} {p:Nat} {m:Memo} {rest:List Int} (h:bs.drop p=zba m++rest) (hm:answerB m=true):zgz bs p= .ok (m,((p+(zba m).length:Nat):Int)):=by rw[zgz,zrh h hm,zpp]
theorem zfz {bs:List Int} {p:Nat} {x most:Int} {rest:List Int} (h:bs.drop p=[x]++rest) (hx:x≤most):zbI bs p most= .ok (x,((p+1:Nat):Int)):=by
 rw[zbI,zg7 h]
 simp only
 rw[if_neg (by omega)]
theorem zey {α:Type} {bs:List Int} {f:Int→Rr α} {enc:α→List Int}:∀{l:List α} {p:Nat} {acc:List α} {rest:List Int},(∀x∈l,∀(p:Nat) (rest:List Int),bs.drop p=enc x++rest→f p= .ok (x,((p+(enc x).length:Nat):Int)))→
  bs.drop p=l.flatMap enc++rest→za4 f l.length p acc= .ok (acc++l,((p+(l.flatMap enc).length:Nat):Int))
 |[],p,acc,rest,_,_=>by simp[za4]
 |x::l,p,acc,rest,hf,h=>by
  rw[List.flatMap_cons,List.append_assoc]at h
  rw[List.length_cons,za4,hf x (by simp) p _ h]
  simp only
  rw[zey (fun y hy=>hf y (by simp[hy])) (zaE h)]
  simp[Nat.add_assoc]
theorem zuY {bs:List Int} {p:Nat} {x:Sess} {rest:List Int} (h:bs.drop p=ziM x++rest) (h1:0≤x.num∧x.num<4611686018427387904) (h2:0≤x.renewed∧x.renewed<4611686018427387904):
  ziJ bs p= .ok (x,((p+(ziM x).length:Nat):Int)):=by
 have h:bs.drop p=[x.client]++(zbs x.num++(zbs x.renewed++rest)):=by rw[h];simp[ziM]
 have g1:=zaE h
 have g2:=zaE g1
 rw[ziJ,zg7 h]
 simp only
 rw[List.length_singleton]at g1
 rw[zeb g1 h1]
 simp only
 rw[zaX,List.length_singleton]at g2
 rw[zeb g2 h2,znH]
theorem zhY {bs:List Int}:∀{n:Nat} {p:Int} {acc:List Int},zg8 bs n p acc=za4 (zbt bs) n p acc
 |0,_,_=>rfl
 |n+1,p,acc=>by
  rw[zg8,za4]
  cases zbt bs p with
  |error e=>rfl
  |ok x=>exact zhY
theorem zje (l:List Int):(l.flatMap fun x=>[x])=l:=by induction l<;>simp_all
theorem zuZ {bs:List Int} {p:Nat} {k:Lk} {rest:List Int} (h:bs.drop p=zh9 k++rest) (h1:k.name.size≤12) (h2:0≤k.token∧k.token<4611686018427387904) (h3:k.line.length≤3):
  zfA bs p= .ok (k,((p+(zh9 k).length:Nat):Int)):=by
 have h:bs.drop p=zdS k.name++([k.holder]++(zbs k.token++([(k.line.length:Int)]++((k.line.flatMap fun x=>[x])++rest)))):=by rw[h,zje];simp[zh9,lk0]
 have g1:=zaE h
 have g2:=zaE g1
 have g3:=zaE g2
 have g4:=zaE g3
 rw[zce]at g1 g2 g3 g4
 rw[List.length_singleton]at g2 g3 g4
 rw[zaX]at g3 g4
 rw[List.length_singleton]at g4
 rw[zfA,zpq h h1]
 simp only
 rw[zg7 g1]
 simp only
 rw[zeb g2 h2]
 simp only
 rw[zfz g3 (by omega)]
 simp only
 rw[zhY,Int.toNat_natCast,zey (enc:=fun x=>[x]) (fun x _ p rest h=>zg7 h) g4]
 simp only[List.nil_append,zje]
 rw[zh9,List.length_append,zoL]
 congr 3
 omega
theorem zrZ {bs:List Int} {p:Nat} {s:St} {rest:List Int} (h:bs.drop p=zdX s++rest) (hr:RightS s):zeM bs p= .ok (s,((p+(zdX s).length:Nat):Int)):=by
 have hH:zbx=2305843009213693952:=rfl
 have ht:=hr.time
 have hn:=hr.num
 have hk:=hr.token
 have hl1:=hr.sl
 have hl2:=hr.ll
 have hl3:=zhB hr
 have h:bs.drop p=zbs s.time++(zbs s.num++(zbs s.token++([(s.sess.length:Int)]++(s.sess.flatMap ziM++([(s.locks.length:Int)]++(s.locks.flatMap zh9++([(s.memos.length:Int)]++(s.memos.flatMap zba++rest)))))))):=by
  rw[h];simp[zdX,sb3,sb2,sb1,zkC]
 have g1:=zaE h
 have g2:=zaE g1
 have g3:=zaE g2
 have g4:=zaE g3
 have g5:=zaE g4
 have g6:=zaE g5
 have g7:=zaE g6
 have g8:=zaE g7
 rw[zaX]at g1 g2 g3 g4 g5 g6 g7 g8
 rw[zaX]at g2 g3 g4 g5 g6 g7 g8
 rw[zaX]at g3 g4 g5 g6 g7 g8
 rw[List.length_singleton]at g4 g5 g6 g7 g8
 rw[List.length_singleton]at g6 g7 g8
 rw[List.length_singleton]at g8
 rw[zeM,zeb h (by omega)]
 simp only
 rw[zeb g1 (by omega)]
 simp only
 rw[zeb g2 (by omega)]
 simp only
 rw[zfz g3 (by omega)]
 simp only
 rw[Int.toNat_natCast,zey (enc:=ziM) (fun x hx p rest h=>by
  obtain⟨_,f2,f3⟩:=zct.1 (hr.sok x hx).1
  exact zuY h (by omega) (by omega)) g4]
 simp only
 rw[zfz g5 (by omega)]
 simp only
 rw[Int.toNat_natCast,zey (enc:=zh9) (fun x hx p rest h=>by
  obtain⟨q0,q1,q2,q3,q4,q5⟩:=zgr hr hx
  exact zuZ h q1 q3 q4) g6]
 simp only
 rw[zfz g7 (by omega)]
 simp only
 rw[Int.toNat_natCast,zey (enc:=zba) (fun x hx p rest h=>zpr h (hr.mok x hx)) g8]
 simp only[List.nil_append]
 rw[if_pos (zdv.2 hr)]
 congr 3
 simp only[zdX,sb3,sb2,sb1,zkC,List.length_append,List.take_length,zaX,List.length_singleton]
 omega
theorem zu1 {bs:List Int} {p:Nat} {s:Sn} {rest:List Int} (h:bs.drop p=snI s++rest) (hs:zbp s=true):ziI bs p= .ok (s,((p+(snI s).length:Nat):Int)):=by
 obtain⟨f1,f2,f3,f4⟩:=zdZ hs
 have h:bs.drop p=zbs s.done++(zbs s.view++(zbs s.slot++(zdX s.st++rest))):=by rw[h];simp[snI]
 have g1:=zaE h
 have g2:=zaE g1
 have g3:=zaE g2
 rw[zaX]at g1 g2 g3
 rw[zaX]at g2 g3
 rw[zaX]at g3
 rw[ziI,zeb h f1]
 simp only
 rw[zeb g1 f2]
 simp only
 rw[zeb g2 f3]
 simp only
 rw[zrZ g3 f4]
 simp only
 rw[if_pos hs]
 congr 3
 simp only[snI,List.length_append,zaX]
 omega
def sameL {α:Type} (eq:α→α→Bool) (a b:List α):Bool:=(a.length==b.length)&&((a.zip b).all fun p=>eq p.1 p.2)
def zfo {α:Type} (eq:α→α→Bool) (a b:List α) (i:Nat):Bool:=((a.drop i).zip (b.drop i)).all fun p=>eq p.1 p.2
theorem zbR {α:Type} {eq:α→α→Bool} {a b:List α} {i:Nat} (ha:i<a.length) (hb:i<b.length):zfo eq a b i=(eq a[i] b[i]&&zfo eq a b (i+1)):=by
 unfold zfo
 rw[List.drop_eq_getElem_cons ha,List.drop_eq_getElem_cons hb,List.zip_cons_cons,List.all_cons]
theorem zcs {α:Type} {eq:α→α→Bool} {a b:List α} {i:Nat} (ha:i=a.length):zfo eq a b i=true:=by
 unfold zfo
 rw[List.drop_eq_nil_of_le (by omega)];simp
theorem zcZ {α:Type} {eq:α→α→Bool} {a b:List α} (h:((a.length:Int) !=(b.length:Int))=true):sameL eq a b=false:=by
 unfold sameL
 simp at h
 simp;omega
theorem zc0 {α:Type} {eq:α→α→Bool} {a b:List α} (h:((a.length:Int) !=(b.length:Int))=false):a.length=b.length∧sameL eq a b=zfo eq a b 0:=by
 have hl:a.length=b.length:=by simp at h;omega
 unfold sameL zfo
 simp[hl]
def zhU (a b:Int):Bool:=a==b
def zol (a b:Grant):Bool:=(a.name.toList==b.name.toList)&&(a.token==b.token)
def zmD (a b:Sess):Bool:=(a.client==b.client)&&((a.num==b.num)&&(a.renewed==b.renewed))
def eqLk (a b:Lk):Bool:=(a.name.toList==b.name.toList)&&(a.holder==b.holder)&&(a.token==b.token)&&sameL zhU a.line b.line
def eqRe (a b:Reply):Bool:=(a.code==b.code)&&(a.session==b.session)&&(a.ahead==b.ahead)&&sameL zol a.held b.held
def eqMe (a b:Memo):Bool:=(a.client==b.client)&&(a.seq==b.seq)&&(a.reply.code==b.reply.code)&&(a.reply.session==b.reply.session)&&(a.reply.ahead==b.reply.ahead)&&sameL zol a.reply.held b.reply.held
def zrR (a b:St):Bool:=(a.time==b.time)&&(a.num==b.num)&&(a.token==b.token)&&sameL zmD a.sess b.sess&&sameL eqLk a.locks b.locks&&sameL eqMe a.memos b.memos
theorem zuy {a b:List Int}:sameI a b=sameL zhU a b:=rfl
set_option maxHeartbeats 1000000 in
theorem zwz (a b:List Int) (ha:a.length<2^30) (hb:b.length<2^30):CallOK Tryz.prog 128 [.f (al a.length (zaQ a)), .f (al b.length (zaQ b))] (fun r o=>r=[rb (sameL zhU a b)]∧o=[]):=by
 refine zh Tryz.func128 Tryz.results128 Tryz.ntmps128 Tryz.call128 ?_
 simp only[Tryz.f128,Option.getD]
 cases hl:((a.length:Int) !=(b.length:Int))
 ·obtain⟨hle,hsr⟩:=zc0 (eq:=zhU) hl
  rw[hsr]
  refine zL0 hl ?_
  refine zai (τ:=Nat) (fun i=>⟨(al a.length (zaQ a)::al b.length (zaQ b)::zr8 (ai a.length::ai i::zrP [])),[]⟩)
   (fun i=>i≤a.length) (fun i=>zfo zhU a b i) (fun i=>a.length - i) 0
   (Gh.canon [] [] [] zK rfl rfl) (Nat.zero_le _) ?_
  intro i hi0 hF K hK
  refine zw ?_
  refine zaa (fun hlt=> ?_) (fun hge=> ?_)
  ·have hi:i<a.length:=by simpa using hlt
   have hi2:i<b.length:=by omega
   have hat:=zdA hi
   have hat2:=zdA hi2
   have hw:=zal hi (by omega)
   have hlb:decide ((i:Int)<a.length)=true:=by simp;omega
   have hst:=zbR (eq:=zhU) hi hi2
   cases hq:zhU a[i] b[i]
   ·rw[hq]at hst
    have he:(a[i] !=b[i])=true:=by unfold zhU at hq;rw[bne,hq];rfl
    rw[←hF,hst]
    exact zW0 (I hat (I hat2 (I hlb (I he (I @Bool.not_true (I @Bool.not_false (I @Bool.and_self (I @zaO zca))))))))
   ·rw[hq,Bool.true_and]at hst
    have he:(a[i] !=b[i])=false:=by unfold zhU at hq;rw[bne,hq];rfl
    refine zL0 (I hat (I hat2 (I hlb (I he (I @Bool.not_true (I @Bool.not_false (I @Bool.and_self (I @zaO zca)))))))) ?_
    exact hK _ (i+1) (Gh.canon [] [] [] (zk hw) rfl rfl) hi hst.symm (by omega)
  ·have hi:i=a.length:=by
    have:¬(i:Int)<a.length:=by simpa using hge
    omega
   rw[←hF,zcs hi]
   exact zW0 trivial
 ·rw[zcZ hl]
  exact zW0 hl
set_option maxHeartbeats 1000000 in
theorem zrG (a b:List Grant) (ha:a.length<2^30) (hb:b.length<2^30):CallOK Tryz.prog 131 [.f (al a.length (zaJ a)), .f (al b.length (zaJ b))] (fun r o=>r=[rb (sameL zol a b)]∧o=[]):=by
 refine zh Tryz.func131 Tryz.results131 Tryz.ntmps131 Tryz.call131 ?_
 simp only[Tryz.f131,Option.getD]
 cases hl:((a.length:Int) !=(b.length:Int))
 ·obtain⟨hle,hsr⟩:=zc0 (eq:=zol) hl
  rw[hsr]
  refine zL0 hl ?_
  refine zai (τ:=Nat) (fun i=>⟨(al a.length (zaJ a)::al b.length (zaJ b)::zr8 (ai a.length::ai i::zrP [])),[]⟩)
   (fun i=>i≤a.length) (fun i=>zfo zol a b i) (fun i=>a.length - i) 0
   (Gh.canon [] [] [] zK rfl rfl) (Nat.zero_le _) ?_
  intro i hi0 hF K hK
  refine zw ?_
  refine zaa (fun hlt=> ?_) (fun hge=> ?_)
  ·have hi:i<a.length:=by simpa using hlt
   have hi2:i<b.length:=by omega
   have hat:=zcw hi
   have hat2:=zcw hi2
   have hw:=zal hi (by omega)
   have hlb:decide ((i:Int)<a.length)=true:=by simp;omega
   have hst:=zbR (eq:=zol) hi hi2
   cases hq:zol a[i] b[i]
   ·rw[hq]at hst
    have he:((a[i].name.toList==b[i].name.toList)&&(a[i].token==b[i].token))=false:=by exact hq
    rw[←hF,hst]
    exact zW0 (I hat (I hat2 (I hlb (I he (I @Bool.not_true (I @Bool.not_false (I @Bool.and_self (I @zar zca))))))))
   ·rw[hq,Bool.true_and]at hst
    have he:((a[i].name.toList==b[i].name.toList)&&(a[i].token==b[i].token))=true:=by exact hq
    refine zL0 (I hat (I hat2 (I hlb (I he (I @Bool.not_true (I @Bool.not_false (I @Bool.and_self (I @zar zca)))))))) ?_
    exact hK _ (i+1) (Gh.canon [] [] [] (zk hw) rfl rfl) hi hst.symm (by omega)
  ·have hi:i=a.length:=by
    have:¬(i:Int)<a.length:=by simpa using hge
    omega
   rw[←hF,zcs hi]
   exact zW0 trivial
 ·rw[zcZ hl]
  exact zW0 hl
set_option maxHeartbeats 1000000 in
theorem zwA (a b:List Sess) (ha:a.length<2^30) (hb:b.length<2^30):CallOK Tryz.prog 125 [.f (al a.length (zbC a)), .f (al b.length (zbC b))] (fun r o=>r=[rb (sameL zmD a b)]∧o=[]):=by
 refine zh Tryz.func125 Tryz.results125 Tryz.ntmps125 Tryz.call125 ?_
 simp only[Tryz.f125,Option.getD]
 cases hl:((a.length:Int) !=(b.length:Int))
 ·obtain⟨hle,hsr⟩:=zc0 (eq:=zmD) hl
  rw[hsr]
  refine zL0 hl ?_
  refine zai (τ:=Nat) (fun i=>⟨(al a.length (zbC a)::al b.length (zbC b)::zr8 (ai a.length::ai i::zrP [])),[]⟩)
   (fun i=>i≤a.length) (fun i=>zfo zmD a b i) (fun i=>a.length - i) 0
   (Gh.canon [] [] [] zK rfl rfl) (Nat.zero_le _) ?_
  intro i hi0 hF K hK
  refine zw ?_
  refine zaa (fun hlt=> ?_) (fun hge=> ?_)
  ·have hi:i<a.length:=by simpa using hlt
   have hi2:i<b.length:=by omega
   have hat:=zee hi
   have hat2:=zee hi2
   have hw:=zal hi (by omega)
   have hlb:decide ((i:Int)<a.length)=true:=by simp;omega
   have hst:=zbR (eq:=zmD) hi hi2
   cases hq:zmD a[i] b[i]
   ·rw[hq]at hst
    have he:((a[i].client==b[i].client)&&((a[i].num==b[i].num)&&(a[i].renewed==b[i].renewed)))=false:=by exact hq
    rw[←hF,hst]
    exact zW0 (I hat (I hat2 (I hlb (I he (I @Bool.not_true (I @Bool.not_false (I @Bool.and_self (I @zaB zca))))))))
   ·rw[hq,Bool.true_and]at hst
    have he:((a[i].client==b[i].client)&&((a[i].num==b[i].num)&&(a[i].renewed==b[i].renewed)))=true:=by exact hq
    refine zL0 (I hat (I hat2 (I hlb (I he (I @Bool.not_true (I @Bool.not_false (I @Bool.and_self (I @zaB zca)))))))) ?_
    exact hK _ (i+1) (Gh.canon [] [] [] (zk hw) rfl rfl) hi hst.symm (by omega)
  ·have hi:i=a.length:=by
    have:¬(i:Int)<a.length:=by simpa using hge
    omega
   rw[←hF,zcs hi]
   exact zW0 trivial
 ·rw[zcZ hl]
  exact zW0 hl
theorem zwB (a b:Lk) (ha:a.line.length<2^30) (hb:b.line.length<2^30):CallOK Tryz.prog 127 [.f (.agg (a.enc.map C.d)), .f (.agg (b.enc.map C.d))] (fun r o=>r=[rb (eqLk a b)]∧o=[]):=by
 refine zh Tryz.func127 Tryz.results127 Tryz.ntmps127 Tryz.call127 ?_
 simp only[Tryz.f127,Option.getD]
 have hi:=zwz a.line b.line ha hb
 refine zL trivial (hi) ?_
 rfl
theorem zwC (a b:Memo) (ha:a.reply.held.length<2^30) (hb:b.reply.held.length<2^30):CallOK Tryz.prog 130 [.f (.agg (a.enc.map C.d)), .f (.agg (b.enc.map C.d))] (fun r o=>r=[rb (eqMe a b)]∧o=[]):=by
 refine zh Tryz.func130 Tryz.results130 Tryz.ntmps130 Tryz.call130 ?_
 simp only[Tryz.f130,Option.getD]
 have hi:=zrG a.reply.held b.reply.held ha hb
 refine zL trivial (hi) ?_
 rfl
abbrev afn (n:Nat):AV:= .one (.d (.v (.func (.func n) #[] #[])))
set_option maxHeartbeats 1000000 in
theorem zuz (a b:List Lk) (ha:a.length<2^30) (hb:b.length<2^30) (hla:∀x∈a,x.line.length<2^30) (hlb2:∀x∈b,x.line.length<2^30):CallOK Tryz.prog 126 [.f (al a.length (zam a)), .f (al b.length (zam b)), .f (afn 127)] (fun r o=>r=[rb (sameL eqLk a b)]∧o=[]):=by
 refine zh Tryz.func126 Tryz.results126 Tryz.ntmps126 Tryz.call126 ?_
 simp only[Tryz.f126,Option.getD]
 have hfn:∀(Z:List Nat) (r:Rs) (xs ys:List AV),fgc Z r (afn 127::xs) (afn 127::ys)=fgc Z r xs ys:=fun Z r xs ys=>ziV rfl rfl
 cases hl:((a.length:Int) !=(b.length:Int))
 ·obtain⟨hle,hsr⟩:=zc0 (eq:=eqLk) hl
  rw[hsr]
  refine zL0 hl ?_
  refine zai (τ:=Nat) (fun i=>⟨(dd::al b.length (zam b)::afn 127::zrP (al a.length (zam a)::ai a.length::ai i::zxT [])),[(8,⟨2,[]⟩),(9,⟨2,[]⟩)]⟩)
   (fun i=>i≤a.length) (fun i=>zfo eqLk a b i) (fun i=>a.length - i) 0
   (Gh.canon [] [8,9] [] (zk hfn) rfl rfl) (Nat.zero_le _) ?_
  intro i hi0 hF K hK
  refine zw ?_
  refine zaa (fun hlt=> ?_) (fun hge=> ?_)
  ·have hi:i<a.length:=by simpa using hlt
   have hi2:i<b.length:=by omega
   have hat:=zbT hi
   have hat2:=zbT hi2
   have hw:=zal hi (by omega)
   have hlb:decide ((i:Int)<a.length)=true:=by simp;omega
   have hst:=zbR (eq:=eqLk) hi hi2
   have hc:=zwB a[i] b[i] (hla _ (List.getElem_mem hi)) (hlb2 _ (List.getElem_mem hi2))
   cases hq:eqLk a[i] b[i]
   ·rw[hq]at hst
    have he:(!eqLk a[i] b[i])=true:=by rw[hq];rfl
    rw[←hF,hst]
    exact zW (I hat (I hat2 (I hlb (I he (I @Bool.not_true (I @Bool.not_false (I @Bool.and_self (I @zah zca)))))))) (hc)
   ·rw[hq,Bool.true_and]at hst
    have he:(!eqLk a[i] b[i])=false:=by rw[hq];rfl
    refine zL (I hat (I hat2 (I hlb (I he (I @Bool.not_true (I @Bool.not_false (I @Bool.and_self (I @zah zca)))))))) (hc) ?_
    exact hK _ (i+1) (Gh.canon [] [] [] (zk (I hw hfn)) rfl rfl) hi hst.symm (by omega)
  ·have hi:i=a.length:=by
    have:¬(i:Int)<a.length:=by simpa using hge
    omega
   rw[←hF,zcs hi]
   exact zW0 trivial
 ·rw[zcZ hl]
  exact zW0 hl
set_option maxHeartbeats 1000000 in
theorem zuA (a b:List Memo) (ha:a.length<2^30) (hb:b.length<2^30) (hla:∀x∈a,x.reply.held.length<2^30) (hlb2:∀x∈b,x.reply.held.length<2^30):CallOK Tryz.prog 129 [.f (al a.length (zaZ a)), .f (al b.length (zaZ b)), .f (afn 130)] (fun r o=>r=[rb (sameL eqMe a b)]∧o=[]):=by
 refine zh Tryz.func129 Tryz.results129 Tryz.ntmps129 Tryz.call129 ?_
 simp only[Tryz.f129,Option.getD]
 have hfn:∀(Z:List Nat) (r:Rs) (xs ys:List AV),fgc Z r (afn 130::xs) (afn 130::ys)=fgc Z r xs ys:=fun Z r xs ys=>ziV rfl rfl
 cases hl:((a.length:Int) !=(b.length:Int))
 ·obtain⟨hle,hsr⟩:=zc0 (eq:=eqMe) hl
  rw[hsr]
  refine zL0 hl ?_
  refine zai (τ:=Nat) (fun i=>⟨(dd::al b.length (zaZ b)::afn 130::zrP (al a.length (zaZ a)::ai a.length::ai i::zxT [])),[(8,⟨2,[]⟩),(9,⟨2,[]⟩)]⟩)
   (fun i=>i≤a.length) (fun i=>zfo eqMe a b i) (fun i=>a.length - i) 0
   (Gh.canon [] [8,9] [] (zk hfn) rfl rfl) (Nat.zero_le _) ?_
  intro i hi0 hF K hK
  refine zw ?_
  refine zaa (fun hlt=> ?_) (fun hge=> ?_)
  ·have hi:i<a.length:=by simpa using hlt
   have hi2:i<b.length:=by omega
   have hat:=zfc hi
   have hat2:=zfc hi2
   have hw:=zal hi (by omega)
   have hlb:decide ((i:Int)<a.length)=true:=by simp;omega
   have hst:=zbR (eq:=eqMe) hi hi2
   have hc:=zwC a[i] b[i] (hla _ (List.getElem_mem hi)) (hlb2 _ (List.getElem_mem hi2))
   cases hq:eqMe a[i] b[i]
   ·rw[hq]at hst
    have he:(!eqMe a[i] b[i])=true:=by rw[hq];rfl
    rw[←hF,hst]
    exact zW (I hat (I hat2 (I hlb (I he (I @Bool.not_true (I @Bool.not_false (I @Bool.and_self (I @zaC zca)))))))) (hc)
   ·rw[hq,Bool.true_and]at hst
    have he:(!eqMe a[i] b[i])=false:=by rw[hq];rfl
    refine zL (I hat (I hat2 (I hlb (I he (I @Bool.not_true (I @Bool.not_false (I @Bool.and_self (I @zaC zca)))))))) (hc) ?_
    exact hK _ (i+1) (Gh.canon [] [] [] (zk (I hw hfn)) rfl rfl) hi hst.symm (by omega)
  ·have hi:i=a.length:=by
    have:¬(i:Int)<a.length:=by simpa using hge
    omega
   rw[←hF,zcs hi]
   exact zW0 trivial
 ·rw[zcZ hl]
  exact zW0 hl
theorem zDU {p q r s t u:Bool}:((!(!p|| !q|| !r|| !s))&&t&&u)=(p&&q&&r&&s&&t&&u):=by cases p<;>cases q<;>cases r<;>cases s<;>simp
set_option maxHeartbeats 1000000 in
theorem zwD (a b:St) (ha:Small a) (hb:Small b):CallOK Tryz.prog 81 [.f (.agg a.lent), .f (.agg b.lent)] (fun r o=>r=[rb (zrR a b)]∧o=[]):=by
 refine zh Tryz.func81 Tryz.results81 Tryz.ntmps81 Tryz.call81 ?_
 simp only[Tryz.f81,Option.getD]
 have h1:=zwA a.sess b.sess ha.sess hb.sess
 have h2:=zuz a.locks b.locks ha.locks hb.locks (fun k hk=>(ha.line k hk).1) (fun k hk=>(hb.line k hk).1)
 have h3:=zuA a.memos b.memos ha.memos hb.memos (fun k hk=>(ha.held k hk).1) (fun k hk=>(hb.held k hk).1)
 cases hq:((((a.time !=b.time)||(a.num !=b.num))||(a.token !=b.token))|| !sameL zmD a.sess b.sess)
 ·have he:zrR a b=(sameL eqLk a.locks b.locks&&sameL eqMe a.memos b.memos):=by
   unfold zrR
   rw[←zDU,show(!(!(a.time==b.time)|| !(a.num==b.num)|| !(a.token==b.token)|| !sameL zmD a.sess b.sess))=true from by revert hq;simp only[bne];cases(a.time==b.time)<;>cases(a.num==b.num)<;>cases(a.token==b.token)<;>cases sameL zmD a.sess b.sess<;>simp]
   simp
  rw[he]
  exact zW hq (I (h1) (I (h2) (h3)))
 ·have he:zrR a b=false:=by
   unfold zrR
   rw[←zDU,show(!(!(a.time==b.time)|| !(a.num==b.num)|| !(a.token==b.token)|| !sameL zmD a.sess b.sess))=false from by revert hq;simp only[bne];cases(a.time==b.time)<;>cases(a.num==b.num)<;>cases(a.token==b.token)<;>cases sameL zmD a.sess b.sess<;>simp]
   simp
  rw[he]
  exact zW hq (I (h1) (I (h2) (h3)))
set_option maxHeartbeats 1000000 in
theorem zrH (a b:List Grant) (ha:a.length<2^30) (hb:b.length<2^30):CallOK Tryz.prog 153 [.f (al a.length (zaJ a)), .f (al b.length (zaJ b))] (fun r o=>r=[rb (sameL zol a b)]∧o=[]):=by
 refine zh Tryz.func153 Tryz.results153 Tryz.ntmps153 Tryz.call153 ?_
 simp only[Tryz.f153,Option.getD]
 cases hl:((a.length:Int) !=(b.length:Int))
 ·obtain⟨hle,hsr⟩:=zc0 (eq:=zol) hl
  rw[hsr]
  refine zL0 hl ?_
  refine zai (τ:=Nat) (fun i=>⟨(al a.length (zaJ a)::al b.length (zaJ b)::dq3 (ai i::zr9 [])),[]⟩)
   (fun i=>i≤a.length) (fun i=>zfo zol a b i) (fun i=>a.length - i) 0
   (Gh.canon [] [] [] zK rfl rfl) (Nat.zero_le _) ?_
  intro i hi0 hF K hK
  refine zw ?_
  refine zaa (fun hlt=> ?_) (fun hge=> ?_)
  ·have hi:i<a.length:=by simpa using hlt
   have hi2:i<b.length:=by omega
   have hat:=zcw hi
   have hat2:=zcw hi2
   have hw:=zal hi (by omega)
   have hlb:decide ((i:Int)<a.length)=true:=by simp;omega
   have hst:=zbR (eq:=zol) hi hi2
   cases hq:zol a[i] b[i]
   ·rw[hq]at hst
    have he:((a[i].name.toList==b[i].name.toList)&&(a[i].token==b[i].token))=false:=by exact hq
    rw[←hF,hst]
    exact zW0 (I hat (I hat2 (I hlb (I he (I @Bool.not_true (I @Bool.not_false (I @Bool.and_self (I @zar zca))))))))
   ·rw[hq,Bool.true_and]at hst
    have he:((a[i].name.toList==b[i].name.toList)&&(a[i].token==b[i].token))=true:=by exact hq
    refine zL0 (I hat (I hat2 (I hlb (I he (I @Bool.not_true (I @Bool.not_false (I @Bool.and_self (I @zar zca)))))))) ?_
    exact hK _ (i+1) (Gh.canon [] [] [] (zk hw) rfl rfl) hi hst.symm (by omega)
  ·have hi:i=a.length:=by
    have:¬(i:Int)<a.length:=by simpa using hge
    omega
   rw[←hF,zcs hi]
   exact zW0 trivial
 ·rw[zcZ hl]
  exact zW0 hl
theorem zob (a b:Reply) (ha:a.held.length<2^30) (hb:b.held.length<2^30):CallOK Tryz.prog 104 [.f (.agg a.lent), .f (.agg b.lent)] (fun r o=>r=[rb (eqRe a b)]∧o=[]):=by
 refine zh Tryz.func104 Tryz.results104 Tryz.ntmps104 Tryz.call104 ?_
 simp only[Tryz.f104,Option.getD]
 have hi:=zrH a.held b.held ha hb
 refine zL trivial (hi) ?_
 rfl
set_option maxHeartbeats 1000000 in
theorem zuB (a b:List Sess) (ha:a.length<2^30) (hb:b.length<2^30):CallOK Tryz.prog 154 [.f (al a.length (zbC a)), .f (al b.length (zbC b))] (fun r o=>r=[rb (sameL zmD a b)]∧o=[]):=by
 refine zh Tryz.func154 Tryz.results154 Tryz.ntmps154 Tryz.call154 ?_
 simp only[Tryz.f154,Option.getD]
 cases hl:((a.length:Int) !=(b.length:Int))
 ·obtain⟨hle,hsr⟩:=zc0 (eq:=zmD) hl
  rw[hsr]
  refine zL0 hl ?_
  refine zai (τ:=Nat) (fun i=>⟨(al a.length (zbC a)::al b.length (zbC b)::dq3 (ai i::zr9 [])),[]⟩)
   (fun i=>i≤a.length) (fun i=>zfo zmD a b i) (fun i=>a.length - i) 0
   (Gh.canon [] [] [] zK rfl rfl) (Nat.zero_le _) ?_
  intro i hi0 hF K hK
  refine zw ?_
  refine zaa (fun hlt=> ?_) (fun hge=> ?_)
  ·have hi:i<a.length:=by simpa using hlt
   have hi2:i<b.length:=by omega
   have hat:=zee hi
   have hat2:=zee hi2
   have hw:=zal hi (by omega)
   have hlb:decide ((i:Int)<a.length)=true:=by simp;omega
   have hst:=zbR (eq:=zmD) hi hi2
   cases hq:zmD a[i] b[i]
   ·rw[hq]at hst
    have he:((a[i].client==b[i].client)&&((a[i].num==b[i].num)&&(a[i].renewed==b[i].renewed)))=false:=by exact hq
    rw[←hF,hst]
    exact zW0 (I hat (I hat2 (I hlb (I he (I @Bool.not_true (I @Bool.not_false (I @Bool.and_self (I @zaB zca))))))))
   ·rw[hq,Bool.true_and]at hst
    have he:((a[i].client==b[i].client)&&((a[i].num==b[i].num)&&(a[i].renewed==b[i].renewed)))=true:=by exact hq
    refine zL0 (I hat (I hat2 (I hlb (I he (I @Bool.not_true (I @Bool.not_false (I @Bool.and_self (I @zaB zca)))))))) ?_
    exact hK _ (i+1) (Gh.canon [] [] [] (zk hw) rfl rfl) hi hst.symm (by omega)
  ·have hi:i=a.length:=by
    have:¬(i:Int)<a.length:=by simpa using hge
    omega
   rw[←hF,zcs hi]
   exact zW0 trivial
 ·rw[zcZ hl]
  exact zW0 hl
set_option maxHeartbeats 1000000 in
theorem zrI (a b:List Lk) (ha:a.length<2^30) (hb:b.length<2^30) (hla:∀x∈a,x.line.length<2^30) (hlb2:∀x∈b,x.line.length<2^30):CallOK Tryz.prog 155 [.f (al a.length (zam a)), .f (al b.length (zam b))] (fun r o=>r=[rb (sameL eqLk a b)]∧o=[]):=by
 refine zh Tryz.func155 Tryz.results155 Tryz.ntmps155 Tryz.call155 ?_
 simp only[Tryz.f155,Option.getD]
 cases hl:((a.length:Int) !=(b.length:Int))
 ·obtain⟨hle,hsr⟩:=zc0 (eq:=eqLk) hl
  rw[hsr]
  refine zL0 hl ?_
  refine zai (τ:=Nat) (fun i=>⟨(al a.length (zam a)::al b.length (zam b)::dq3 (ai i::zxV (zez []))),[]⟩)
   (fun i=>i≤a.length) (fun i=>zfo eqLk a b i) (fun i=>a.length - i) 0
   (Gh.canon [] [] [] zK rfl rfl) (Nat.zero_le _) ?_
  intro i hi0 hF K hK
  refine zw ?_
  refine zaa (fun hlt=> ?_) (fun hge=> ?_)
  ·have hi:i<a.length:=by simpa using hlt
   have hi2:i<b.length:=by omega
   have hat:=zbT hi
   have hat2:=zbT hi2
   have hw:=zal hi (by omega)
   have hlb:decide ((i:Int)<a.length)=true:=by simp;omega
   have hst:=zbR (eq:=eqLk) hi hi2
   have hd1:(zam a).drop (i*4+1)=iD a[i].holder::iD a[i].token:: .sl a[i].line.length (zaQ a[i].line)::zam (a.drop (i+1)):=by rw[←List.drop_drop,hat];rfl
   have hd2:(zam b).drop (i*4+1)=iD b[i].holder::iD b[i].token:: .sl b[i].line.length (zaQ b[i].line)::zam (b.drop (i+1)):=by rw[←List.drop_drop,hat2];rfl
   have hsi:=zoV a[i].line b[i].line (by have:=hla _ (List.getElem_mem hi);omega) (by have:=hlb2 _ (List.getElem_mem hi2);omega)
   cases hq:eqLk a[i] b[i]
   ·rw[hq]at hst
    have he:((((!(a[i].name.toList==b[i].name.toList))||(a[i].holder !=b[i].holder))||(a[i].token !=b[i].token))|| !sameI a[i].line b[i].line)=true:=by unfold eqLk at hq;rw[zuy];revert hq;cases sameL zhU a[i].line b[i].line<;>cases h1:(a[i].name.toList==b[i].name.toList)<;>cases h2:(a[i].holder==b[i].holder)<;>cases h3:(a[i].token==b[i].token)<;>simp[bne,h1,h2,h3]
    rw[←hF,hst]
    exact zW (I hat (I hat2 (I hlb (I he (I @Bool.not_true (I @Bool.not_false (I @Bool.and_self (I hd1 (I hd2 (I @zah zca)))))))))) (hsi)
   ·rw[hq,Bool.true_and]at hst
    have he:((((!(a[i].name.toList==b[i].name.toList))||(a[i].holder !=b[i].holder))||(a[i].token !=b[i].token))|| !sameI a[i].line b[i].line)=false:=by unfold eqLk at hq;rw[zuy];revert hq;cases sameL zhU a[i].line b[i].line<;>cases h1:(a[i].name.toList==b[i].name.toList)<;>cases h2:(a[i].holder==b[i].holder)<;>cases h3:(a[i].token==b[i].token)<;>simp[bne,h1,h2,h3]
    refine zL (I hat (I hat2 (I hlb (I he (I @Bool.not_true (I @Bool.not_false (I @Bool.and_self (I hd1 (I hd2 (I @zah zca)))))))))) (hsi) ?_
    exact hK _ (i+1) (Gh.canon [] [] [] (zk hw) rfl rfl) hi hst.symm (by omega)
  ·have hi:i=a.length:=by
    have:¬(i:Int)<a.length:=by simpa using hge
    omega
   rw[←hF,zcs hi]
   exact zW0 trivial
 ·rw[zcZ hl]
  exact zW0 hl
set_option maxHeartbeats 1000000 in
theorem zrJ (a b:List Memo) (ha:a.length<2^30) (hb:b.length<2^30) (hla:∀x∈a,x.reply.held.length<2^30) (hlb2:∀x∈b,x.reply.held.length<2^30):CallOK Tryz.prog 156 [.f (al a.length (zaZ a)), .f (al b.length (zaZ b))] (fun r o=>r=[rb (sameL eqMe a b)]∧o=[]):=by
 refine zh Tryz.func156 Tryz.results156 Tryz.ntmps156 Tryz.call156 ?_
 simp only[Tryz.f156,Option.getD]
 cases hl:((a.length:Int) !=(b.length:Int))
 ·obtain⟨hle,hsr⟩:=zc0 (eq:=eqMe) hl
  rw[hsr]
  refine zL0 hl ?_
  refine zai (τ:=Nat) (fun i=>⟨(al a.length (zaZ a)::al b.length (zaZ b)::dq3 (ai i::dq9 (zez []))),[]⟩)
   (fun i=>i≤a.length) (fun i=>zfo eqMe a b i) (fun i=>a.length - i) 0
   (Gh.canon [] [] [] zK rfl rfl) (Nat.zero_le _) ?_
  intro i hi0 hF K hK
  refine zw ?_
  refine zaa (fun hlt=> ?_) (fun hge=> ?_)
  ·have hi:i<a.length:=by simpa using hlt
   have hi2:i<b.length:=by omega
   have hat:=zfc hi
   have hat2:=zfc hi2
   have hw:=zal hi (by omega)
   have hlb:decide ((i:Int)<a.length)=true:=by simp;omega
   have hst:=zbR (eq:=eqMe) hi hi2
   have hd1:(zaZ a).drop (i*6+1)=iD a[i].seq::(a[i].reply.enc++zaZ (a.drop (i+1))):=by rw[←List.drop_drop,hat];rfl
   have hd2:(zaZ b).drop (i*6+1)=iD b[i].seq::(b[i].reply.enc++zaZ (b.drop (i+1))):=by rw[←List.drop_drop,hat2];rfl
   have hsr:=zob a[i].reply b[i].reply (hla _ (List.getElem_mem hi)) (hlb2 _ (List.getElem_mem hi2))
   have hme:eqMe a[i] b[i]=((a[i].client==b[i].client)&&(a[i].seq==b[i].seq)&&eqRe a[i].reply b[i].reply):=by unfold eqMe eqRe;simp only[Bool.and_assoc]
   cases hq:eqMe a[i] b[i]
   ·rw[hq]at hst
    have he:(((a[i].client !=b[i].client)||(a[i].seq !=b[i].seq))|| !eqRe a[i].reply b[i].reply)=true:=by rw[hme]at hq;revert hq;cases eqRe a[i].reply b[i].reply<;>cases h1:(a[i].client==b[i].client)<;>cases h2:(a[i].seq==b[i].seq)<;>simp[bne,h1,h2]
    rw[←hF,hst]
    exact zW (I hat (I hat2 (I hlb (I he (I @Bool.not_true (I @Bool.not_false (I @Bool.and_self (I hd1 (I hd2 (I @zaC zca)))))))))) (hsr)
   ·rw[hq,Bool.true_and]at hst
    have he:(((a[i].client !=b[i].client)||(a[i].seq !=b[i].seq))|| !eqRe a[i].reply b[i].reply)=false:=by rw[hme]at hq;revert hq;cases eqRe a[i].reply b[i].reply<;>cases h1:(a[i].client==b[i].client)<;>cases h2:(a[i].seq==b[i].seq)<;>simp[bne,h1,h2]
    refine zL (I hat (I hat2 (I hlb (I he (I @Bool.not_true (I @Bool.not_false (I @Bool.and_self (I hd1 (I hd2 (I @zaC zca)))))))))) (hsr) ?_
    exact hK _ (i+1) (Gh.canon [] [] [] (zk hw) rfl rfl) hi hst.symm (by omega)
  ·have hi:i=a.length:=by
    have:¬(i:Int)<a.length:=by simpa using hge
    omega
   rw[←hF,zcs hi]
   exact zW0 trivial
 ·rw[zcZ hl]
  exact zW0 hl
theorem zwE (a b:St) (ha:Small a) (hb:Small b):CallOK Tryz.prog 107 [.f (.agg a.lent), .f (.agg b.lent)] (fun r o=>r=[rb (zrR a b)]∧o=[]):=by
 refine zh Tryz.func107 Tryz.results107 Tryz.ntmps107 Tryz.call107 ?_
 simp only[Tryz.f107,Option.getD]
 have h1:=zuB a.sess b.sess ha.sess hb.sess
 have h2:=zrI a.locks b.locks ha.locks hb.locks (fun k hk=>(ha.line k hk).1) (fun k hk=>(hb.line k hk).1)
 have h3:=zrJ a.memos b.memos ha.memos hb.memos (fun k hk=>(ha.held k hk).1) (fun k hk=>(hb.held k hk).1)
 refine zL trivial (I (h1) (I (h2) (h3))) ?_
 rfl
theorem zux (acts:List Act) (hl:acts.length<2^60) (ha:∀a∈acts,zoW a) (d v s:Int) (hd:zau d) (hv:zau v) (hs:zau s):
  CallOK Tryz.prog 62 [.f (al acts.length (zkF acts)), .f (au d), .f (au v), .f (au s)] (fun r o=>r=[zBg ⟨d,v,s,zkD acts⟩]∧o=[]):=by
 refine zh Tryz.func62 Tryz.results62 Tryz.ntmps62 Tryz.call62 ?_
 simp only[Tryz.f62,Option.getD]
 have hm:=zyN acts hl ha
 have w1:=zdi hd
 have w2:=zdi hv
 have w3:=zdi hs
 refine zL (I w1 (I w2 w3)) (hm) ?_
 rfl
def zzy (a b:Sn):Bool:=(a.done==b.done)&&((a.view==b.view)&&(a.slot==b.slot))&&zrR a.st b.st
theorem zpd (a b:Sn) (ha:Small a.st) (hb:Small b.st):CallOK Tryz.prog 56 [.f (.agg a.lent), .f (.agg b.lent)] (fun r o=>r=[rb (zzy a b)]∧o=[]):=by
 refine zh Tryz.func56 Tryz.results56 Tryz.ntmps56 Tryz.call56 ?_
 simp only[Tryz.f56,Option.getD]
 have hs:=zwE a.st b.st ha hb
 refine zL trivial (hs) ?_
 rfl
theorem zet {α:Type} {eq:α→α→Bool} (h:∀a,eq a a=true) (l:List α):sameL eq l l=true:=by
 unfold sameL
 simp only[beq_self_eq_true,Bool.true_and,List.all_eq_true]
 intro p hp
 obtain⟨j,h1,h2⟩:=List.getElem_of_mem hp
 rw[←h2,List.getElem_zip]
 exact h _
theorem zrF (l:List Int):sameL zhU l l=true:=zet (fun x=>by simp[zhU]) l
theorem zoa (l:List Grant):sameL zol l l=true:=zet (fun x=>by simp[zol]) l
theorem zwx (s:St):zrR s s=true:=by
 unfold zrR
 rw[zet (fun a=>by simp[zmD]),zet (fun a=>by simp[eqLk,zrF]),zet (fun a=>by simp[eqMe,zoa])]
 simp
theorem zwy (s:Sn):zzy s s=true:=by simp[zzy,zwx]
abbrev Z27:List Int:=List.replicate 27 0
end Go.Proofs.YtliimajkpggbhaaGreat
