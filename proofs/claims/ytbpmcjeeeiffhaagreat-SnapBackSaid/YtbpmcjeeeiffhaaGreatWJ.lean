import Derived.Test.YtbpmcjeeeiffhaaGreatM3
namespace Go.Proofs.YtbpmcjeeeiffhaaGreat
open Go.Pk
set_option maxRecDepth 100000
set_option linter.unusedSimpArgs false
set_option linter.unusedVariables false
def zgP (bs:List Int) (p:Int):Rr Sess:=match zbX bs p with
 | .error e=> .error e
 | .ok c=>match zc7 bs c.2 with
  | .error e=> .error e
  | .ok n=>match zc7 bs n.2 with
   | .error e=> .error e
   | .ok r=> .ok (⟨c.1,n.1,r.1⟩,r.2)
def zb4 {α:Type} (f:Int→Rr α):Nat→Int→List α→Rr (List α)
 |0,p,acc=> .ok (acc,p)
 |n+1,p,acc=>match f p with
  | .error e=> .error e
  | .ok x=>zb4 f n x.2 (acc++[x.1])
def zdC (bs:List Int) (p:Int):Rr St:=match zc7 bs p with
 | .error e=> .error e
 | .ok t=>match zc7 bs t.2 with
  | .error e=> .error e
  | .ok u=>match zc7 bs u.2 with
   | .error e=> .error e
   | .ok k=>match zbt bs k.2 5 with
    | .error e=> .error e
    | .ok n=>match zb4 (zgP bs) n.1.toNat n.2 []with
     | .error e=> .error e
     | .ok ss=>match zbt bs ss.2 4 with
      | .error e=> .error e
      | .ok n2=>match zb4 (zet bs) n2.1.toNat n2.2 []with
       | .error e=> .error e
       | .ok ls=>match zbt bs ls.2 8 with
        | .error e=> .error e
        | .ok n3=>match zb4 (zfq bs) n3.1.toNat n3.2 []with
         | .error e=> .error e
         | .ok ms=>if zcJ ⟨t.1,u.1,k.1,ss.1,ls.1,ms.1⟩=true then .ok (⟨t.1,u.1,k.1,ss.1,ls.1,ms.1⟩,ms.2)else .error 4
theorem zmP {bs:List Int} (h:BsOk bs) {p:Int} {y:Memo×Int} (hy:zfq bs p= .ok y):i64 y.2∧zcd y.1.reply:=by
 obtain⟨h0,rfl⟩:=zcz hy
 simp only
 unfold zen at h0⊢
 simp only at h0⊢
 split at h0
 ·rename_i h1;exact absurd h0 h1
 rename_i h1
 rw[if_neg h1]
 split at h0
 ·rename_i h2;exact absurd h0 h2
 rename_i h2
 rw[if_neg h2]
 split at h0
 ·rename_i h3;exact absurd h0 h3
 rename_i h3
 rw[if_neg h3]
 split at h0
 ·exact absurd h0 (by decide)
 rename_i h4
 rw[if_neg h4]
 obtain⟨g1,g2⟩:=zg6 h (p:=(zev bs (zaY bs p).2.1).2.1)
 exact⟨zes h.l g1,g2⟩
set_option maxHeartbeats 4000000 in
theorem zdK (bs:List Int) (p:Int) (h:BsOk bs) (hp:i64 p) (b:Bool) (y:St×Int) (e:Int) (hy:zwi b y e (zdC bs p)):
  (b=true→CallOK Tryz.prog 39 [.obj (rds bs p)] (fun r o=>r=[y.1.rf]∧o=[rds bs y.2]))∧(b=false→zcn Tryz.prog 39 [.obj (rds bs p)] (zpi e)):=by
 refine zne zas mixed (T:=Ty) (n:=65) Tryz.func39 (c:=Tryz.f39.body.getD .skip) rfl Tryz.results39 Tryz.ntmps39 Tryz.call39 ?_
 simp only[Tryz.f39,Option.getD]
 unfold zdC at hy
 cases e1:zc7 bs p with
 |error x=>
  rw[e1]at hy
  obtain⟨rfl,rfl⟩:=zbD hy
  have hr:=zcL bs p h hp e1
  repeat'(first|refine zq0 ?_|exact zd0|(refine zaa ?_ ?_<;>intro hb)|(refine And.intro ?_ ?_;exact zI)|(refine And.intro ?_ ?_<;>intro hg)|exact zC|fail)
  refine zp (rds bs p) (hr) ?_
  first|refine zs (I @zaQ @zah) ?_|exact zt (I @zaQ @zah)
 |ok t=>
 have he1:=zdg bs p h hp e1
 rw[e1]at hy
 simp only at hy
 repeat'(first|refine zq0 ?_|exact zd0|(refine zaa ?_ ?_<;>intro hb)|(refine And.intro ?_ ?_;exact zI)|(refine And.intro ?_ ?_<;>intro hg)|exact zC|fail)
 refine zj (he1) ?_
 cases e2:zc7 bs t.2 with
 |error x=>
  rw[e2]at hy
  obtain⟨rfl,rfl⟩:=zbD hy
  have hr:=zcL bs _ h (zbd h e1) e2
  repeat'(first|refine zq0 ?_|exact zd0|(refine zaa ?_ ?_<;>intro hb)|(refine And.intro ?_ ?_;exact zI)|(refine And.intro ?_ ?_<;>intro hg)|exact zC|fail)
  refine zp (rds bs p) (hr) ?_
  first|refine zs (I @zaQ @zah) ?_|exact zt (I @zaQ @zah)
 |ok u=>
 have he2:=zdg bs _ h (zbd h e1) e2
 rw[e2]at hy
 simp only at hy
 repeat'(first|refine zq0 ?_|exact zd0|(refine zaa ?_ ?_<;>intro hb)|(refine And.intro ?_ ?_;exact zI)|(refine And.intro ?_ ?_<;>intro hg)|exact zC|fail)
 refine zj (he2) ?_
 cases e3:zc7 bs u.2 with
 |error x=>
  rw[e3]at hy
  obtain⟨rfl,rfl⟩:=zbD hy
  have hr:=zcL bs _ h (zbd h e2) e3
  repeat'(first|refine zq0 ?_|exact zd0|(refine zaa ?_ ?_<;>intro hb)|(refine And.intro ?_ ?_;exact zI)|(refine And.intro ?_ ?_<;>intro hg)|exact zC|fail)
  refine zp (rds bs p) (hr) ?_
  first|refine zs (I @zaQ @zah) ?_|exact zt (I @zaQ @zah)
 |ok k=>
 have he3:=zdg bs _ h (zbd h e2) e3
 rw[e3]at hy
 simp only at hy
 repeat'(first|refine zq0 ?_|exact zd0|(refine zaa ?_ ?_<;>intro hb)|(refine And.intro ?_ ?_;exact zI)|(refine And.intro ?_ ?_<;>intro hg)|exact zC|fail)
 refine zj (he3) ?_
 cases e4:zbt bs k.2 5 with
 |error x=>
  rw[e4]at hy
  obtain⟨rfl,rfl⟩:=zbD hy
  have hr:=zel bs _ 5 h (zbd h e3) e4
  repeat'(first|refine zq0 ?_|exact zd0|(refine zaa ?_ ?_<;>intro hb)|(refine And.intro ?_ ?_;exact zI)|(refine And.intro ?_ ?_<;>intro hg)|exact zC|fail)
  refine zp (rds bs p) (hr) ?_
  first|refine zs (I @zaQ @zah) ?_|exact zt (I @zaQ @zah)
 |ok n=>
 have he4:=zfh bs _ 5 h (zbd h e3) e4
 rw[e4]at hy
 simp only at hy
 repeat'(first|refine zq0 ?_|exact zd0|(refine zaa ?_ ?_<;>intro hb)|(refine And.intro ?_ ?_;exact zI)|(refine And.intro ?_ ?_<;>intro hg)|exact zC|fail)
 refine zj (he4) ?_
 obtain⟨hn1,hn2,hn3⟩:=zdD h e4
 repeat'(first|refine zq0 ?_|exact zd0|(refine zaa ?_ ?_<;>intro hb)|(refine And.intro ?_ ?_;exact zI)|(refine And.intro ?_ ?_<;>intro hg)|exact zC|fail)
 refine zam (τ:=Nat×Int×List Sess×Nat) (fun a=>⟨[.one (.ptr ⟨0,0,0⟩ 0),dd, .one (.ptr ⟨2,0,1⟩ 0), .one (.ptr ⟨3,0,1⟩ 0),dd,dd,dd,dd,dd,dd,dd,dd,dd,dd,dd,dd,ai n.1,ai a.1,dd,dd,dd,dd,dd,dd,dd,dd,dd,dd,dd,dd,dd,dd,dd,dd,dd,dd,dd,dd,dd,dd,dd,dd,dd,dd,dd,dd,dd,dd,dd,dd,dd,dd,dd,dd,dd,dd,dd,dd,dd,dd,dd,dd,dd,dd,dd],[zwl bs a.2.1 a.2.2.2,(2,{next:=2,l:=[some {e:=1,var:=true,fz:=false,sz:=0,cells:=[di 0,di 0,di 0, .d (.v (.slice none 0 0)), .d (.v (.slice none 0 0)), .d (.v (.slice none 0 0))]},none,none,none,none,none,none]}),(3,{next:=2,l:=[some {e:=1,var:=true,fz:=false,sz:=0,cells:=[di t.1,di u.1,di k.1, .own ⟨3,4,1⟩ 0 a.2.2.1.length, .d (.v (.slice none 0 0)), .d (.v (.slice none 0 0))]},none,none,none,some {e:=1,var:=false,fz:=false,sz:=3,cells:=(zaJ a.2.2.1).map C.d},none,none]}),(4,⟨2,[]⟩),(31,⟨2,[]⟩),(32,⟨2,[]⟩)]⟩)
  (fun a=>a.1≤n.1.toNat∧i64 a.2.1∧a.2.2.1.length=a.1) (fun a=>zb4 (zgP bs) (n.1.toNat - a.1) a.2.1 a.2.2.1) (fun a=>n.1.toNat - a.1) (0,n.2,[],5)
  ((Gh.nilF 3 3 3 rfl).trans (Gh.canon [0,2,3] [4,31,32] [0] zK rfl rfl)) ⟨Nat.zero_le _,hn1,rfl⟩ ?_
 intro⟨i,q,acc,nx⟩ ⟨hi0,hq,ha⟩ hF K hK
 simp only[Nat.sub_zero]at hi0 hq ha hF hK⊢
 rw[←hF]at hy
 refine zw ?_
 refine zaa (fun hlt=> ?_) (fun hge=> ?_)
 ·have hi:i<n.1.toNat:=by simp at hlt;omega
  have hw:=zaq hi (by omega)
  have hst:n.1.toNat - i=(n.1.toNat - (i+1))+1:=by omega
  rw[hst,zb4,zgP]at hy
  cases x1:zbX bs q with
  |error x=>
   rw[x1]at hy
   obtain⟨rfl,rfl⟩:=zbD hy
   have hr:=zgw bs q h hq x1
   repeat'(first|refine zq0 ?_|exact zd0|(refine zaa ?_ ?_<;>intro hb)|(refine And.intro ?_ ?_;exact zI)|(refine And.intro ?_ ?_<;>intro hg)|exact zC|fail)
   refine zp (rds bs p) (hr) ?_
   first|refine zs (I @zaQ @zah) ?_|exact zt (I @zaQ @zah)
  |ok c=>
  rw[x1]at hy
  simp only at hy
  have hr1:=zgv bs q h hq x1
  repeat'(first|refine zq0 ?_|exact zd0|(refine zaa ?_ ?_<;>intro hb)|(refine And.intro ?_ ?_;exact zI)|(refine And.intro ?_ ?_<;>intro hg)|exact zC|fail)
  refine zj (hr1) ?_
  cases x2:zc7 bs c.2 with
  |error x=>
   rw[x2]at hy
   obtain⟨rfl,rfl⟩:=zbD hy
   have hr:=zcL bs _ h (zcX h x1) x2
   repeat'(first|refine zq0 ?_|exact zd0|(refine zaa ?_ ?_<;>intro hb)|(refine And.intro ?_ ?_;exact zI)|(refine And.intro ?_ ?_<;>intro hg)|exact zC|fail)
   refine zp (rds bs p) (hr) ?_
   first|refine zs (I @zaQ @zah) ?_|exact zt (I @zaQ @zah)
  |ok m=>
  rw[x2]at hy
  simp only at hy
  have hr2:=zdg bs _ h (zcX h x1) x2
  repeat'(first|refine zq0 ?_|exact zd0|(refine zaa ?_ ?_<;>intro hb)|(refine And.intro ?_ ?_;exact zI)|(refine And.intro ?_ ?_<;>intro hg)|exact zC|fail)
  refine zj (hr2) ?_
  cases x3:zc7 bs m.2 with
  |error x=>
   rw[x3]at hy
   obtain⟨rfl,rfl⟩:=zbD hy
   have hr:=zcL bs _ h (zbd h x2) x3
   repeat'(first|refine zq0 ?_|exact zd0|(refine zaa ?_ ?_<;>intro hb)|(refine And.intro ?_ ?_;exact zI)|(refine And.intro ?_ ?_<;>intro hg)|exact zC|fail)
   refine zp (rds bs p) (hr) ?_
   first|refine zs (I @zaQ @zah) ?_|exact zt (I @zaQ @zah)
  |ok r=>
  have hr3:=zdg bs _ h (zbd h x2) x3
  have hF2:zb4 (zgP bs) (n.1.toNat - (i+1)) r.2 (acc++[⟨c.1,m.1,r.1⟩])=zb4 (zgP bs) (n.1.toNat - i) q acc:=by rw[hst,zb4,zgP,x1];simp only;rw[x2];simp only;rw[x3]
  repeat'(first|refine zq0 ?_|exact zd0|(refine zaa ?_ ?_<;>intro hb)|(refine And.intro ?_ ?_;exact zI)|(refine And.intro ?_ ?_<;>intro hg)|exact zC|fail)
  refine zj (hr3) ?_
  repeat'(first|refine zq @zau ?_|exact zd @zau|(refine zaa ?_ ?_<;>intro hb)|(refine And.intro ?_ ?_;exact zI)|(refine And.intro ?_ ?_<;>intro hg)|exact zC|fail)
  refine hK _ (i+1,r.2,acc++[⟨c.1,m.1,r.1⟩],nx+3) (Gh.canon [0,2,3] [] [0] (zk (I hw (I @List.length_append.{0} @List.length_singleton.{0}))) rfl (by simp only[List.length_append,List.length_singleton];rw[zdQ];rfl)) ⟨hi,zbd h x3,by simp only[List.length_append,List.length_singleton];omega⟩ hF2 (by simp only;omega)
 ·have hi:i=n.1.toNat:=by
   have:¬(i:Int)<n.1:=by simpa using hge
   omega
  rw[hi,Nat.sub_self,zb4]at hy
  simp only at hy
  clear hK hF
  have hpq:=hq
  cases e5:zbt bs q 4 with
  |error x=>
   rw[e5]at hy
   obtain⟨rfl,rfl⟩:=zbD hy
   have hr:=zel bs _ 4 h hq e5
   repeat'(first|refine zq0 ?_|exact zd0|(refine zaa ?_ ?_<;>intro hb)|(refine And.intro ?_ ?_;exact zI)|(refine And.intro ?_ ?_<;>intro hg)|exact zC|fail)
   refine zp (rds bs p) (hr) ?_
   first|refine zs (I @zaQ @zah) ?_|exact zt (I @zaQ @zah)
  |ok n2=>
  have hr5:=zfh bs _ 4 h hq e5
  obtain⟨hn4,hn5,hn6⟩:=zdD h e5
  rw[e5]at hy
  simp only at hy
  repeat'(first|refine zq0 ?_|exact zd0|(refine zaa ?_ ?_<;>intro hb)|(refine And.intro ?_ ?_;exact zI)|(refine And.intro ?_ ?_<;>intro hg)|exact zC|fail)
  refine zj (hr5) ?_
  repeat'(first|refine zq0 ?_|exact zd0|(refine zaa ?_ ?_<;>intro hb)|(refine And.intro ?_ ?_;exact zI)|(refine And.intro ?_ ?_<;>intro hg)|exact zC|fail)
  refine zam (τ:=Nat×Int×List Lk×Nat) (fun a=>⟨[.one (.ptr ⟨0,0,0⟩ 0),dd, .one (.ptr ⟨2,0,1⟩ 0), .one (.ptr ⟨3,0,1⟩ 0),dd,dd,dd,dd,dd,dd,dd,dd,dd,dd,dd,dd,dd,dd,dd,dd,dd,dd,dd,dd,dd,dd,dd,dd,dd,dd,dd,dd,dd,dd,dd,dd,ai n2.1,ai a.1,dd,dd,dd,dd,dd,dd,dd,dd,dd,dd,dd,dd,dd,dd,dd,dd,dd,dd,dd,dd,dd,dd,dd,dd,dd,dd,dd],[zwl bs a.2.1 a.2.2.2,(2,{next:=2,l:=[some {e:=1,var:=true,fz:=false,sz:=0,cells:=[di 0,di 0,di 0, .d (.v (.slice none 0 0)), .d (.v (.slice none 0 0)), .d (.v (.slice none 0 0))]},none,none,none,none,none,none]}),(3,{next:=2,l:=[some {e:=1,var:=true,fz:=false,sz:=0,cells:=[di t.1,di u.1,di k.1, .own ⟨3,4,1⟩ 0 acc.length, .own ⟨3,5,1⟩ 0 a.2.2.1.length, .d (.v (.slice none 0 0))]},none,none,none,some {e:=1,var:=false,fz:=false,sz:=3,cells:=(zaJ acc).map C.d},some {e:=1,var:=false,fz:=false,sz:=4,cells:=(zai a.2.2.1).map C.d},none]}),(4,⟨2,[]⟩),(31,⟨2,[]⟩),(32,⟨2,[]⟩),(42,⟨2,[]⟩),(43,⟨2,[]⟩),(44,⟨2,[]⟩)]⟩)
   (fun a=>a.1≤n2.1.toNat∧i64 a.2.1∧a.2.2.1.length=a.1∧∀k∈a.2.2.1,k.line.length≤3∧k.name.size≤bs.length) (fun a=>zb4 (zet bs) (n2.1.toNat - a.1) a.2.1 a.2.2.1) (fun a=>n2.1.toNat - a.1) (0,n2.2,[],nx+1)
   ((Gh.nilF 3 4 4 rfl).trans (Gh.canon [0,2,3] [42,43,44] [0] zK rfl rfl)) ⟨Nat.zero_le _,hn4,rfl,by simp⟩ ?_
  intro⟨j,q2,ls,nx2⟩ ⟨hj0,hq2,hl,hlk⟩ hF K hK
  simp only[Nat.sub_zero]at hj0 hq2 hl hlk hF hK⊢
  rw[←hF]at hy
  refine zw ?_
  refine zaa (fun hlt2=> ?_) (fun hge2=> ?_)
  ·have hj:j<n2.1.toNat:=by simp at hlt2;omega
   have hw:=zaq hj (by omega)
   have hst:n2.1.toNat - j=(n2.1.toNat - (j+1))+1:=by omega
   rw[hst,zb4]at hy
   cases x1:zet bs q2 with
   |error x=>
    rw[x1]at hy
    obtain⟨rfl,rfl⟩:=zbD hy
    have hr:=zoY bs q2 h hq2 x1
    first|refine zs0 ?_|exact zt0
    refine zdG _ _ (zjF zas mixed 3 [false,false,false,true,true,true,true,true] (zpi e) (fun g=> ?_) ?_)
    ·first|refine zs (I @zaQ @zah) ?_|exact zt (I @zaQ @zah)
    ·simp only[zmh,zmi,zhC]
     repeat'(first|refine zq0 ?_|exact zd0|(refine zaa ?_ ?_<;>intro hb)|(refine And.intro ?_ ?_;exact zI)|(refine And.intro ?_ ?_<;>intro hg)|exact zC|fail)
     exact zn (rds bs q) (hr)
   |ok x=>
   have hr1:=zrn bs q2 h hq2 x1
   obtain⟨g1,g2,g3⟩:=zmQ h x1
   have hF2:zb4 (zet bs) (n2.1.toNat - (j+1)) x.2 (ls++[x.1])=zb4 (zet bs) (n2.1.toNat - j) q2 ls:=by rw[hst,zb4,x1]
   repeat'(first|refine zq0 ?_|exact zd0|(refine zaa ?_ ?_<;>intro hb)|(refine And.intro ?_ ?_;exact zI)|(refine And.intro ?_ ?_<;>intro hg)|exact zC|fail)
   refine zj (hr1) ?_
   have htl:(zaE x.1.line).take x.1.line.length=zaE x.1.line:=zhy
   repeat'(first|refine zq (I @zae htl) ?_|exact zd (I @zae htl)|(refine zaa ?_ ?_<;>intro hb)|(refine And.intro ?_ ?_;exact zI)|(refine And.intro ?_ ?_<;>intro hg)|exact zC|fail)
   refine hK _ (j+1,x.2,ls++[x.1],nx2+1) (Gh.canon [0,2,3] [] [0] (zk (I hw (I @List.length_append.{0} @List.length_singleton.{0}))) rfl (by simp only[List.length_append,List.length_singleton];rw[zfg];rfl)) ⟨hj,g1,by simp only[List.length_append,List.length_singleton];omega, ?_⟩ hF2 (by simp only;omega)
   intro k hk
   rcases List.mem_append.1 hk with hk|hk
   ·exact hlk k hk
   ·simp at hk;subst hk;exact⟨g2,g3⟩
  ·have hj:j=n2.1.toNat:=by
    have:¬(j:Int)<n2.1:=by simpa using hge2
    omega
   rw[hj,Nat.sub_self,zb4]at hy
   simp only at hy
   clear hK hF
   cases e6:zbt bs q2 8 with
   |error x=>
    rw[e6]at hy
    obtain⟨rfl,rfl⟩:=zbD hy
    have hr:=zel bs _ 8 h hq2 e6
    repeat'(first|refine zq0 ?_|exact zd0|(refine zaa ?_ ?_<;>intro hb)|(refine And.intro ?_ ?_;exact zI)|(refine And.intro ?_ ?_<;>intro hg)|exact zC|fail)
    refine zp (rds bs p) (hr) ?_
    first|refine zs (I @zaQ @zah) ?_|exact zt (I @zaQ @zah)
   |ok n3=>
   have hr6:=zfh bs _ 8 h hq2 e6
   obtain⟨hn7,hn8,hn9⟩:=zdD h e6
   rw[e6]at hy
   simp only at hy
   repeat'(first|refine zq0 ?_|exact zd0|(refine zaa ?_ ?_<;>intro hb)|(refine And.intro ?_ ?_;exact zI)|(refine And.intro ?_ ?_<;>intro hg)|exact zC|fail)
   refine zj (hr6) ?_
   repeat'(first|refine zq0 ?_|exact zd0|(refine zaa ?_ ?_<;>intro hb)|(refine And.intro ?_ ?_;exact zI)|(refine And.intro ?_ ?_<;>intro hg)|exact zC|fail)
   refine zam (τ:=Nat×Int×List Memo×Nat) (fun a=>⟨[.one (.ptr ⟨0,0,0⟩ 0),dd, .one (.ptr ⟨2,0,1⟩ 0), .one (.ptr ⟨3,0,1⟩ 0),dd,dd,dd,dd,dd,dd,dd,dd,dd,dd,dd,dd,dd,dd,dd,dd,dd,dd,dd,dd,dd,dd,dd,dd,dd,dd,dd,dd,dd,dd,dd,dd,dd,dd,dd,dd,dd,dd,dd,dd,dd,dd,dd,dd,ai n3.1,ai a.1,dd,dd,dd,dd,dd,dd,dd,dd,dd,dd,dd,dd,dd,dd,dd],[zwl bs a.2.1 a.2.2.2,(2,{next:=2,l:=[some {e:=1,var:=true,fz:=false,sz:=0,cells:=[di 0,di 0,di 0, .d (.v (.slice none 0 0)), .d (.v (.slice none 0 0)), .d (.v (.slice none 0 0))]},none,none,none,none,none,none]}),(3,{next:=2,l:=[some {e:=1,var:=true,fz:=false,sz:=0,cells:=[di t.1,di u.1,di k.1, .own ⟨3,4,1⟩ 0 acc.length, .own ⟨3,5,1⟩ 0 ls.length, .own ⟨3,6,1⟩ 0 a.2.2.1.length]},none,none,none,some {e:=1,var:=false,fz:=false,sz:=3,cells:=(zaJ acc).map C.d},some {e:=1,var:=false,fz:=false,sz:=4,cells:=(zai ls).map C.d},some {e:=1,var:=false,fz:=false,sz:=6,cells:=(zaC a.2.2.1).map C.d}]}),(4,⟨2,[]⟩),(31,⟨2,[]⟩),(32,⟨2,[]⟩),(42,⟨2,[]⟩),(43,⟨2,[]⟩),(44,⟨2,[]⟩),(54,⟨2,[]⟩),(55,⟨2,[]⟩),(56,⟨2,[]⟩)]⟩)
    (fun a=>a.1≤n3.1.toNat∧i64 a.2.1∧a.2.2.1.length=a.1∧∀m∈a.2.2.1,zcd m.reply) (fun a=>zb4 (zfq bs) (n3.1.toNat - a.1) a.2.1 a.2.2.1) (fun a=>n3.1.toNat - a.1) (0,n3.2,[],nx2+1)
    ((Gh.nilF 3 5 6 rfl).trans (Gh.canon [0,2,3] [54,55,56] [0] zK rfl rfl)) ⟨Nat.zero_le _,hn7,rfl,by simp⟩ ?_
   intro⟨m,q3,ms,nx3⟩ ⟨hm0,hq3,hml,hmk⟩ hF K hK
   simp only[Nat.sub_zero]at hm0 hq3 hml hmk hF hK⊢
   rw[←hF]at hy
   refine zw ?_
   refine zaa (fun hlt3=> ?_) (fun hge3=> ?_)
   ·have hm:m<n3.1.toNat:=by simp at hlt3;omega
    have hw:=zaq hm (by omega)
    have hst:n3.1.toNat - m=(n3.1.toNat - (m+1))+1:=by omega
    rw[hst,zb4]at hy
    cases x1:zfq bs q3 with
    |error x=>
     rw[x1]at hy
     obtain⟨rfl,rfl⟩:=zbD hy
     have hr:=zo2 bs q3 h hq3 x1
     first|refine zs0 ?_|exact zt0
     refine zdG _ _ (zjF zas mixed 3 [false,false,false,true,true,true,true,true] (zpi e) (fun g=> ?_) ?_)
     ·first|refine zs (I @zaQ @zah) ?_|exact zt (I @zaQ @zah)
     ·simp only[zmh,zmi,zhC]
      repeat'(first|refine zq0 ?_|exact zd0|(refine zaa ?_ ?_<;>intro hb)|(refine And.intro ?_ ?_;exact zI)|(refine And.intro ?_ ?_<;>intro hg)|exact zC|fail)
      exact zn (rds bs q) (hr)
    |ok x=>
    have hr1:=zrp bs q3 h hq3 x1
    obtain⟨g1,g2⟩:=zmP h x1
    have hF2:zb4 (zfq bs) (n3.1.toNat - (m+1)) x.2 (ms++[x.1])=zb4 (zfq bs) (n3.1.toNat - m) q3 ms:=by rw[hst,zb4,x1]
    repeat'(first|refine zq0 ?_|exact zd0|(refine zaa ?_ ?_<;>intro hb)|(refine And.intro ?_ ?_;exact zI)|(refine And.intro ?_ ?_<;>intro hg)|exact zC|fail)
    refine zj (hr1) ?_
    repeat'(first|refine zq @zaD ?_|exact zd @zaD|(refine zaa ?_ ?_<;>intro hb)|(refine And.intro ?_ ?_;exact zI)|(refine And.intro ?_ ?_<;>intro hg)|exact zC|fail)
    refine hK _ (m+1,x.2,ms++[x.1],nx3+1) (Gh.canon [0,2,3] [] [0] (zk (I hw (I @List.length_append.{0} @List.length_singleton.{0}))) rfl (by simp only[List.length_append,List.length_singleton];rw[zdr];rfl)) ⟨hm,g1,by simp only[List.length_append,List.length_singleton];omega, ?_⟩ hF2 (by simp only;omega)
    intro k hk
    rcases List.mem_append.1 hk with hk|hk
    ·exact hmk k hk
    ·simp at hk;subst hk;exact g2
   ·have hm:m=n3.1.toNat:=by
     have:¬(m:Int)<n3.1:=by simpa using hge3
     omega
    rw[hm,Nat.sub_self,zb4]at hy
    simp only at hy
    clear hK hF
    have hbl:=h.l
    have hri:=zj6 ⟨t.1,u.1,k.1,acc,ls,ms⟩ ⟨by simp only;omega,by simp only;omega,by simp only;omega,fun k hk=>⟨by have:=(hlk k hk).1;omega,by have:=(hlk k hk).2;omega⟩,hmk⟩
    cases hR:zcJ ⟨t.1,u.1,k.1,acc,ls,ms⟩
    ·rw[hR]at hri hy
     rw[if_neg (by simp)]at hy
     obtain⟨rfl,rfl⟩:=zbD hy
     repeat'(first|refine zq (I @zaQ (I @zah (I @zbC (I @zal @za8)))) ?_|exact zd (I @zaQ (I @zah (I @zbC (I @zal @za8))))|refine zc (hri) ?_|refine zg (hri) ?_|(refine zaa ?_ ?_<;>intro hb)|(refine And.intro ?_ ?_;exact zI)|(refine And.intro ?_ ?_<;>intro hg)|exact zC|fail)
    ·rw[hR]at hri hy
     rw[if_pos rfl]at hy
     obtain⟨rfl,rfl⟩:=zpA hy
     repeat'(first|refine zq (I @zjG (I @zbC (I @zal @za8))) ?_|exact zd (I @zjG (I @zbC (I @zal @za8)))|refine zc (hri) ?_|refine zg (hri) ?_|(refine zaa ?_ ?_<;>intro hb)|(refine And.intro ?_ ?_;exact zI)|(refine And.intro ?_ ?_<;>intro hg)|exact zC|fail)
     rfl
abbrev zkw:Value:= .slice none 0 0
def szS (k:Nat):Nat:=if k=4 then 6 else 1
def nwS (x:Value) (k:Nat):List Value:=if k=4 then [.int .i64 0, .int .i64 0, .int .i64 0,zkw,zkw,zkw]else if k=5 then [.int .i64 0]else [codeOf x]
theorem zyW {l:List Value} (h:l.length=6):∃a b c d e f,l=[a,b,c,d,e,f]:=by
 match l,h with
 |[a,b,c,d,e,f],_=>exact⟨a,b,c,d,e,f,rfl⟩
theorem zyX {l:List Value} (h:l.length=9):∃a b c d e f g i j,l=[a,b,c,d,e,f,g,i,j]:=by
 match l,h with
 |[a,b,c,d,e,f,g,i,j],_=>exact⟨a,b,c,d,e,f,g,i,j,rfl⟩
theorem cellsS {ls:List (List Value)} (h:ls.length=[4,5,6].length) (hs:∀(i k:Nat) (l:List Value),[4,5,6][i]? =some k→ls[i]? =some l→l.length=szS k):∃a b c d e f g i,ls=[[a,b,c,d,e,f],[g],[i]]:=by
 match ls,h with
 |[x,y,z],_=>
  obtain⟨a,b,c,d,e,f,rfl⟩:=zyW (hs 0 4 x rfl rfl)
  obtain⟨g,rfl⟩:=zvo (hs 1 5 y rfl rfl)
  obtain⟨i,rfl⟩:=zvo (hs 2 6 z rfl rfl)
  exact⟨a,b,c,d,e,f,g,i,rfl⟩
theorem znX:(Tryz.prog.info? 83).bind (·.zero)=some (.agg #[.int .i64 0]):=by kernel_rfl
theorem zmO:zhH Tryz.prog 38 [4,5,6] szS nwS (zir 83):=by
 refine zew zas mixed (T:=Ty) Tryz.func38 rfl rfl Tryz.ntmps38 rfl rfl rfl rfl rfl rfl rfl (by decide) (by decide) (by decide) ?_
 rintro x ⟨n,rfl⟩ ls hl hs
 obtain⟨a,b,c,d,e,f,g,i,rfl⟩:=cellsS hl hs
 refine⟨.tuple #[.agg #[.int .i64 n], .bool true], .tup [.agg [di n],ab true], ?_, ?_,rfl, ?_⟩
 ·intro w
  simp[Instr.typeAssert,Tryz.underlying83]
 ·intro cx w r β
  simp[ReA,ReAs,ReC,ReCs,Rd,flat]
 ·simp only[zbg,plainO,List.map_cons,List.map_nil]
  first|refine zs0 ?_|exact zt0
  repeat'(first|refine zq0 ?_|exact zd0|(refine zaa ?_ ?_<;>intro hb)|(refine And.intro ?_ ?_;exact zI)|(refine And.intro ?_ ?_<;>intro hg)|exact zC|fail)
  rfl
theorem zoW:zmk Tryz.prog 38 3:=by
 refine zds zas mixed (T:=Ty) Tryz.func38 rfl rfl Tryz.ntmps38 rfl rfl rfl rfl rfl rfl rfl (by decide) (y7:= .tuple #[.agg #[.int .i64 0], .bool false]) (V7:= .tup [.agg [di 0],ab false]) ?_ ?_ (by decide) rfl ?_
 ·intro w
  simp[Instr.typeAssert,Tryz.underlying83,zis znX w]
 ·intro cx w r β
  simp[ReA,ReAs,ReC,ReCs,Rd,flat]
 ·simp only[List.replicate]
  first|refine zs0 ?_|exact zt0
  repeat'(first|refine zq0 ?_|exact zd0|(refine zaa ?_ ?_<;>intro hb)|(refine And.intro ?_ ?_;exact zI)|(refine And.intro ?_ ?_<;>intro hg)|exact zC|fail)
def dSt (bs:List Int) (p:Int):St×Int×Int:=match zdC bs p with
 | .ok y=>(y.1,y.2,0)
 | .error e=>(st0,0,e)
theorem zoX (bs:List Int) (p:Int) (h:BsOk bs) (hp:i64 p):
  CallOK Tryz.prog 16 [.f (asl bs.length (zaf bs)), .f (ai p)] (fun r o=>r=[zu5 (dSt bs p).1,ri (dSt bs p).2.1,ri (dSt bs p).2.2]∧o=[]):=by
 refine CallOK.nil ?_
 refine zbs zas mixed (T:=Ty) Tryz.func16 rfl Tryz.results16 Tryz.ntmps16 Tryz.call16 Tryz.call38 (ks:=[4,5,6]) rfl rfl rfl rfl rfl rfl (by decide) (by decide)
  (xs:=[asl bs.length (zaf bs),ai p]) (sz:=szS) (nw:=nwS) zoW zmO ⟨[asl bs.length (zaf bs),ai p,dd,dd, .one (.ptr ⟨4,0,0⟩ 0), .one (.ptr ⟨5,0,0⟩ 0), .one (.ptr ⟨6,0,0⟩ 0),dd,dd,dd,dd,dd,dd,dd,dd,dd,dd,dd,dd,dd],[(4,{next:=1,l:=[some {e:=0,var:=true,fz:=false,sz:=0,cells:=[di 0,di 0,di 0, .d (.v zkw), .d (.v zkw), .d (.v zkw)]},none,none,none,none,none,none]}),(5,{next:=1,l:=[some {e:=0,var:=true,fz:=false,sz:=0,cells:=[di 0]},none]}),(6,{next:=1,l:=[some {e:=0,var:=true,fz:=false,sz:=0,cells:=[di 0]},none]})]⟩ ?_ ?_ rfl ?_
 ·simp only[List.map_cons,List.map_nil]
  repeat'(first|refine zq0 ?_|exact zd0|(refine zaa ?_ ?_<;>intro hb)|(refine And.intro ?_ ?_;exact zI)|(refine And.intro ?_ ?_<;>intro hg)|exact zC|fail)
  exact fun _ _ _ h=>h
 ·exact⟨⟨_,rfl,rfl,rfl,rfl,rfl⟩,⟨_,rfl,rfl,rfl,rfl,rfl⟩,⟨_,rfl,rfl,rfl,rfl,rfl⟩,trivial⟩
 ·unfold dSt
  cases hs:zdC bs p with
  |ok y=>
   have hr:=(zdK bs p h hp true y 0 hs).1 rfl
   repeat'(first|refine zq0 ?_|exact zd0|(refine zaa ?_ ?_<;>intro hb)|(refine And.intro ?_ ?_;exact zI)|(refine And.intro ?_ ?_<;>intro hg)|exact zC|fail)
   refine zj (hr) ?_
   repeat'(first|(with_reducible first|refine za6 4 ?_|refine zaL 4 ?_|refine zaM 4 ?_)|refine zu0 ?_|exact zd0|(with_reducible first|refine zad _ _ ?_)|(refine zaa ?_ ?_<;>intro hb)|(refine And.intro ?_ ?_;exact zI)|(refine And.intro ?_ ?_<;>intro hg)|exact zC|fail)
   refine za2 (za1 (Gh.sealF 4 3 (.own ⟨4,4,4⟩ 0 y.1.sess.length) ?_) ?_)
   ·exact zo @zbC
   refine zf @zbC ?_
   refine za1 (Gh.sealF 4 4 (.own ⟨4,5,5⟩ 0 y.1.locks.length) ?_) ?_
   ·exact zo @zal
   refine zf @zal ?_
   refine za1 (Gh.sealF 4 5 (.own ⟨4,6,6⟩ 0 y.1.memos.length) ?_) ?_
   ·exact zo @za8
   refine zf @za8 ?_
   repeat'(first|refine zq @zdc ?_|exact zd @zdc|(refine zaa ?_ ?_<;>intro hb)|(refine And.intro ?_ ?_;exact zI)|(refine And.intro ?_ ?_<;>intro hg)|exact zC|fail)
   simp[zbO,zfo,zbH,zaz]
  |error e=>
   have hr:=(zdK bs p h hp false (st0,0) e hs).2 rfl
   repeat'(first|refine zq0 ?_|exact zd0|(refine zaa ?_ ?_<;>intro hb)|(refine And.intro ?_ ?_;exact zI)|(refine And.intro ?_ ?_<;>intro hg)|exact zC|fail)
   refine zp (rds bs p) (hr) ?_
   simp only[zbi,zbj,zbh,zbA]
   refine⟨⟨_,rfl⟩,rfl,⟨⟨_,rfl,rfl,rfl,rfl,rfl⟩,⟨_,rfl,rfl,rfl,rfl,rfl⟩,⟨_,rfl,rfl,rfl,rfl,rfl⟩,trivial⟩, ?_⟩
   rw[show zlZ 20 [4,5,6] (nwS (zeX 83 e))=⟨[dd,dd,dd,dd, .one (.ptr ⟨4,0,0⟩ 0), .one (.ptr ⟨5,0,0⟩ 0), .one (.ptr ⟨6,0,0⟩ 0),dd,dd,dd,dd,dd,dd,dd,dd,dd,dd,dd,dd,dd],[(4,{next:=1,l:=[some {e:=0,var:=true,fz:=false,sz:=0,cells:=[di 0,di 0,di 0, .d (.v zkw), .d (.v zkw), .d (.v zkw)]}]}),(5,{next:=1,l:=[some {e:=0,var:=true,fz:=false,sz:=0,cells:=[di 0]}]}),(6,{next:=1,l:=[some {e:=0,var:=true,fz:=false,sz:=0,cells:=[di e]}]})]⟩ from rfl]
   first|refine zs0 ?_|exact zt0
   simp[zbO,zfo,zbH,zaz,st0]
structure Sn where
 done:Int
 view:Int
 slot:Int
 st:St
abbrev Sn.lent (s:Sn):List C:=di s.done::di s.view::di s.slot::s.st.lent
abbrev zyL (s:Sn):RF:= .agg (.d (iD s.done):: .d (iD s.view):: .d (iD s.slot)::(stE s.st).map RO.d)
def zbx (s:Sn):Bool:=within s.done&&(within s.view&&(within s.slot&&zcJ s.st))
theorem zc3 (n:Int):within n=(!(decide (n<0))&& !(decide (n>2305843009213693952))):=by
 unfold within
 have hH:zbB=2305843009213693952:=rfl
 rw[hH]
 by_cases h1:n<0<;>by_cases h2:n>2305843009213693952<;>simp[h1,h2]<;>omega
set_option maxHeartbeats 1000000 in
theorem zgO (s:Sn) (h:Small s.st):CallOK Tryz.prog 11 [.f (.agg s.lent)] (fun r o=>r=[rb (zbx s)]∧o=[]):=by
 refine zac zas mixed (T:=Ty) (n:=27) Tryz.func11 (c:=Tryz.f11.body.getD .skip) rfl Tryz.results11 Tryz.ntmps11 Tryz.call11 ?_
 simp only[Tryz.f11,Option.getD]
 have hri:=zj6 s.st h
 have hagg:∀(Z:List Nat) (r:Rs) (xs ys:List AV),fgc Z r (AV.agg [di s.done,di s.view,di s.slot]::xs) (AV.agg [di s.done,di s.view,di s.slot]::ys)=fgc Z r xs ys:=fun Z r xs ys=>zjz rfl rfl
 repeat'(first|refine zq0 ?_|exact zd0|(refine zaa ?_ ?_<;>intro hb)|(refine And.intro ?_ ?_;exact zI)|(refine And.intro ?_ ?_<;>intro hg)|exact zC|fail)
 refine zam (τ:=Nat) (fun i=>⟨[dd, .one (.ptr ⟨1,0,1⟩ 0),dd,dd,dd,dd,dd,dd,dd,dd,dd,dd,dd, .agg [di s.done,di s.view,di s.slot],ai i,dd,dd,dd,dd,dd,dd,dd,dd,dd,dd,dd,dd],[(1,{next:=2,l:=[some {e:=1,var:=true,fz:=false,sz:=0,cells:=[di s.done,di s.view,di s.slot,di s.st.time,di s.st.num,di s.st.token, .lent s.st.sess.length (zaJ s.st.sess), .lent s.st.locks.length (zai s.st.locks), .lent s.st.memos.length (zaC s.st.memos)]},none,none,none,none,none,none,none,none,none]})]⟩)
  (fun i=>i≤3) (fun i=>if i=0 then zbx s else if i=1 then within s.view&&(within s.slot&&zcJ s.st)else if i=2 then within s.slot&&zcJ s.st else zcJ s.st) (fun i=>3 - i) 0
  (Gh.canon [1] [] [] (zk hagg) rfl rfl) (Nat.zero_le _) ?_
 intro i hi0 hF K hK
 rw[if_pos rfl]at hF
 refine zw ?_
 refine zaa (fun hlt=> ?_) (fun hge=> ?_)
 ·have hi:i<3:=by simp at hlt;omega
  have hw:IntKind.i64.wrap ((i:Int)+1)=((i+1:Nat):Int):=zaq hi (by omega)
  rcases(show i=0∨i=1∨i=2 by omega)with rfl|rfl|rfl
  ·have hb:=zc3 s.done
   cases h1:decide (s.done<0)
   ·cases h2:decide (s.done>2305843009213693952)
    ·rw[h1,h2]at hb
     repeat'(first|refine zq (I h1 h2) ?_|exact zd (I h1 h2)|(refine zaa ?_ ?_<;>intro hb)|(refine And.intro ?_ ?_;exact zI)|(refine And.intro ?_ ?_<;>intro hg)|exact zC|fail)
     exact hK _ 1 (Gh.canon [1] [] [] (zk (I hw hagg)) rfl rfl) (by omega) (by simp[zbx,hb]) (by omega)
    ·rw[h1,h2]at hb
     have hz:zbx s=false:=by simp[zbx,hb]
     repeat'(first|refine zq (I h1 (I h2 hz)) ?_|exact zd (I h1 (I h2 hz))|(refine zaa ?_ ?_<;>intro hb)|(refine And.intro ?_ ?_;exact zI)|(refine And.intro ?_ ?_<;>intro hg)|exact zC|fail)
   ·rw[h1]at hb
    have hz:zbx s=false:=by simp[zbx,hb]
    repeat'(first|refine zq (I h1 hz) ?_|exact zd (I h1 hz)|(refine zaa ?_ ?_<;>intro hb)|(refine And.intro ?_ ?_;exact zI)|(refine And.intro ?_ ?_<;>intro hg)|exact zC|fail)
  ·have hb:=zc3 s.view
   simp only[Nat.reduceEqDiff,if_true,if_false]at hF
   rw[←hF]
   cases h1:decide (s.view<0)
   ·cases h2:decide (s.view>2305843009213693952)
    ·rw[h1,h2]at hb
     repeat'(first|refine zq (I h1 h2) ?_|exact zd (I h1 h2)|(refine zaa ?_ ?_<;>intro hb)|(refine And.intro ?_ ?_;exact zI)|(refine And.intro ?_ ?_<;>intro hg)|exact zC|fail)
     exact hK _ 2 (Gh.canon [1] [] [] (zk (I hw hagg)) rfl rfl) (by omega) (by simp[hb]) (by omega)
    ·rw[h1,h2]at hb
     have hz:(within s.view&&(within s.slot&&zcJ s.st))=false:=by simp[hb]
     repeat'(first|refine zq (I h1 (I h2 hz)) ?_|exact zd (I h1 (I h2 hz))|(refine zaa ?_ ?_<;>intro hb)|(refine And.intro ?_ ?_;exact zI)|(refine And.intro ?_ ?_<;>intro hg)|exact zC|fail)
   ·rw[h1]at hb
    have hz:(within s.view&&(within s.slot&&zcJ s.st))=false:=by simp[hb]
    repeat'(first|refine zq (I h1 hz) ?_|exact zd (I h1 hz)|(refine zaa ?_ ?_<;>intro hb)|(refine And.intro ?_ ?_;exact zI)|(refine And.intro ?_ ?_<;>intro hg)|exact zC|fail)
  ·have hb:=zc3 s.slot
   simp only[Nat.reduceEqDiff,if_true,if_false]at hF
   rw[←hF]
   cases h1:decide (s.slot<0)
   ·cases h2:decide (s.slot>2305843009213693952)
    ·rw[h1,h2]at hb
     repeat'(first|refine zq (I h1 h2) ?_|exact zd (I h1 h2)|(refine zaa ?_ ?_<;>intro hb)|(refine And.intro ?_ ?_;exact zI)|(refine And.intro ?_ ?_<;>intro hg)|exact zC|fail)
     exact hK _ 3 (Gh.canon [1] [] [] (zk (I hw hagg)) rfl rfl) (by omega) (by simp[hb]) (by omega)
    ·rw[h1,h2]at hb
     have hz:(within s.slot&&zcJ s.st)=false:=by simp[hb]
     repeat'(first|refine zq (I h1 (I h2 hz)) ?_|exact zd (I h1 (I h2 hz))|(refine zaa ?_ ?_<;>intro hb)|(refine And.intro ?_ ?_;exact zI)|(refine And.intro ?_ ?_<;>intro hg)|exact zC|fail)
   ·rw[h1]at hb
    have hz:(within s.slot&&zcJ s.st)=false:=by simp[hb]
    repeat'(first|refine zq (I h1 hz) ?_|exact zd (I h1 hz)|(refine zaa ?_ ?_<;>intro hb)|(refine And.intro ?_ ?_;exact zI)|(refine And.intro ?_ ?_<;>intro hg)|exact zC|fail)
 ·have hi:i=3:=by
   have:¬(i:Int)<3:=by simpa using hge
   omega
  subst hi
  simp only[Nat.reduceEqDiff,if_false]at hF
  rw[←hF]
  repeat'(first|refine zq0 ?_|exact zd0|refine zc (hri) ?_|refine zg (hri) ?_|(refine zaa ?_ ?_<;>intro hb)|(refine And.intro ?_ ?_;exact zI)|(refine And.intro ?_ ?_<;>intro hg)|exact zC|fail)
def snI (s:Sn):List Int:=zbV s.done++(zbV s.view++(zbV s.slot++zbM s.st))
theorem within_iff {n:Int} (h:within n=true):0≤n∧n<4611686018427387904:=by
 rw[zc3]at h
 simp at h
 omega
theorem zgs {s:Sn} (h:zbx s=true):(0≤s.done∧s.done<4611686018427387904)∧(0≤s.view∧s.view<4611686018427387904)∧(0≤s.slot∧s.slot<4611686018427387904)∧RightS s.st:=by
 simp only[zbx,Bool.and_eq_true]at h
 exact⟨within_iff h.1,within_iff h.2.1,within_iff h.2.2.1,zdn.1 h.2.2.2⟩
theorem zoV (s:Sn) (h:zbx s=true):CallOK Tryz.prog 10 [.f (.agg s.lent)] (fun r o=>r=[.one (.own 1 (snI s).length (zaf (snI s)) false),ri 0]∧o=[]):=by
 obtain⟨f1,f2,f3,f4⟩:=zgs h
 refine zac zas mixed (T:=Ty) (n:=29) Tryz.func10 (c:=Tryz.f10.body.getD .skip) rfl Tryz.results10 Tryz.ntmps10 Tryz.call10 ?_
 simp only[Tryz.f10,Option.getD]
 have hm:=zgO s (zb1 f4)
 rw[h]at hm
 have hp:=zgR s.st f4
 have m1:=zem s.done f1
 have m2:=zem s.view f2
 have m3:=zem s.slot f3
 have hl:=zmU f4 s.st.memos.length
 have hml:=zgx f4
 have t8:∀v:Int,(zaf (zbV v)).take 8=zaf (zbV v):=fun v=>List.take_of_length_le (by rw[zee];decide)
 have hcc:CallOK Tryz.prog 30 [.f (al 4 [.sl 8 (zaf (zbV s.done)), .sl 8 (zaf (zbV s.view)), .sl 8 (zaf (zbV s.slot)), .sl (zbM s.st).length (zaf (zbM s.st))])] (fun x o=>x=[.one (.own 1 (snI s).length (zaf (snI s)) false)]∧o=[]):=by
  have hc:=zkp [zbV s.done,zbV s.view,zbV s.slot,zbM s.st] (by simp) (fun l hl=>by
   simp only[List.mem_cons,List.not_mem_nil,or_false]at hl
   rcases hl with rfl|rfl|rfl|rfl
   ·rw[zaW];decide
   ·rw[zaW];decide
   ·rw[zaW];decide
   ·unfold zbM;omega)
  rw[show [zbV s.done,zbV s.view,zbV s.slot,zbM s.st].flatten=snI s from by simp[snI]]at hc
  exact hc
 repeat'(first|refine zq (I t8 @zaP) ?_|exact zd (I t8 @zaP)|refine zc (hm) ?_|refine zg (hm) ?_|refine zc (hp) ?_|refine zg (hp) ?_|refine zc (m1) ?_|refine zg (m1) ?_|refine zc (m2) ?_|refine zg (m2) ?_|refine zc (m3) ?_|refine zg (m3) ?_|refine zc (hcc) ?_|refine zg (hcc) ?_|(refine zaa ?_ ?_<;>intro hb)|(refine And.intro ?_ ?_;exact zI)|(refine And.intro ?_ ?_<;>intro hg)|exact zC|fail)
def szG (k:Nat):Nat:=if k=4 then 9 else 1
def nwG (x:Value) (k:Nat):List Value:=if k=4 then [.int .i64 0, .int .i64 0, .int .i64 0, .int .i64 0, .int .i64 0, .int .i64 0,zkw,zkw,zkw]else if k=5 then [.int .i64 0]else [codeOf x]
theorem zwb {ls:List (List Value)} (h:ls.length=[4,5,6].length) (hs:∀(i k:Nat) (l:List Value),[4,5,6][i]? =some k→ls[i]? =some l→l.length=szG k):∃a b c d e f j k l g i,ls=[[a,b,c,d,e,f,j,k,l],[g],[i]]:=by
 match ls,h with
 |[x,y,z],_=>
  obtain⟨a,b,c,d,e,f,j,k,l,rfl⟩:=zyX (hs 0 4 x rfl rfl)
  obtain⟨g,rfl⟩:=zvo (hs 1 5 y rfl rfl)
  obtain⟨i,rfl⟩:=zvo (hs 2 6 z rfl rfl)
  exact⟨a,b,c,d,e,f,j,k,l,g,i,rfl⟩
theorem zmM:zhH Tryz.prog 41 [4,5,6] szG nwG (zir 83):=by
 refine zew zas mixed (T:=Ty) Tryz.func41 rfl rfl Tryz.ntmps41 rfl rfl rfl rfl rfl rfl rfl (by decide) (by decide) (by decide) ?_
 rintro x ⟨n,rfl⟩ ls hl hs
 obtain⟨a,b,c,d,e,f,j,k,l,g,i,rfl⟩:=zwb hl hs
 refine⟨.tuple #[.agg #[.int .i64 n], .bool true], .tup [.agg [di n],ab true], ?_, ?_,rfl, ?_⟩
 ·intro w
  simp[Instr.typeAssert,Tryz.underlying83]
 ·intro cx w r β
  simp[ReA,ReAs,ReC,ReCs,Rd,flat]
 ·simp only[zbg,plainO,List.map_cons,List.map_nil]
  first|refine zs0 ?_|exact zt0
  repeat'(first|refine zq0 ?_|exact zd0|(refine zaa ?_ ?_<;>intro hb)|(refine And.intro ?_ ?_;exact zI)|(refine And.intro ?_ ?_<;>intro hg)|exact zC|fail)
  rfl
theorem zoU:zmk Tryz.prog 41 3:=by
 refine zds zas mixed (T:=Ty) Tryz.func41 rfl rfl Tryz.ntmps41 rfl rfl rfl rfl rfl rfl rfl (by decide) (y7:= .tuple #[.agg #[.int .i64 0], .bool false]) (V7:= .tup [.agg [di 0],ab false]) ?_ ?_ (by decide) rfl ?_
 ·intro w
  simp[Instr.typeAssert,Tryz.underlying83,zis znX w]
 ·intro cx w r β
  simp[ReA,ReAs,ReC,ReCs,Rd,flat]
 ·simp only[List.replicate]
  first|refine zs0 ?_|exact zt0
  repeat'(first|refine zq0 ?_|exact zd0|(refine zaa ?_ ?_<;>intro hb)|(refine And.intro ?_ ?_;exact zI)|(refine And.intro ?_ ?_<;>intro hg)|exact zC|fail)
def zmN (bs:List Int) (p:Int):Rr Sn:=match zc7 bs p with
 | .error e=> .error e
 | .ok d=>match zc7 bs d.2 with
  | .error e=> .error e
  | .ok v=>match zc7 bs v.2 with
   | .error e=> .error e
   | .ok l=>match zdC bs l.2 with
    | .error e=> .error e
    | .ok s=>if zbx ⟨d.1,v.1,l.1,s.1⟩=true then .ok (⟨d.1,v.1,l.1,s.1⟩,s.2)else .error 4
abbrev sn0:Sn:=⟨0,0,0,st0⟩
def dSn (bs:List Int) (p:Int):Sn×Int×Int:=match zmN bs p with
 | .ok y=>(y.1,y.2,0)
 | .error e=>(sn0,0,e)
theorem zlN {bs:List Int} {p:Int} {y:St×Int} (hy:zdC bs p= .ok y):zcJ y.1=true:=by
 unfold zdC at hy
 cases e1:zc7 bs p with
 |error x=>rw[e1]at hy;cases hy
 |ok t=>
 rw[e1]at hy;simp only at hy
 cases e2:zc7 bs t.2 with
 |error x=>rw[e2]at hy;cases hy
 |ok u=>
 rw[e2]at hy;simp only at hy
 cases e3:zc7 bs u.2 with
 |error x=>rw[e3]at hy;cases hy
 |ok k=>
 rw[e3]at hy;simp only at hy
 cases e4:zbt bs k.2 5 with
 |error x=>rw[e4]at hy;cases hy
 |ok n=>
 rw[e4]at hy;simp only at hy
 cases e5:zb4 (zgP bs) n.1.toNat n.2 []with
 |error x=>rw[e5]at hy;cases hy
 |ok ss=>
 rw[e5]at hy;simp only at hy
 cases e6:zbt bs ss.2 4 with
 |error x=>rw[e6]at hy;cases hy
 |ok n2=>
 rw[e6]at hy;simp only at hy
 cases e7:zb4 (zet bs) n2.1.toNat n2.2 []with
 |error x=>rw[e7]at hy;cases hy
 |ok ls=>
 rw[e7]at hy;simp only at hy
 cases e8:zbt bs ls.2 8 with
 |error x=>rw[e8]at hy;cases hy
 |ok n3=>
 rw[e8]at hy;simp only at hy
 cases e9:zb4 (zfq bs) n3.1.toNat n3.2 []with
 |error x=>rw[e9]at hy;cases hy
 |ok ms=>
 rw[e9]at hy;simp only at hy
 split at hy
 ·rename_i hr;cases hy;exact hr
 ·cases hy
theorem zih (e:Int):zlZ 37 [4,5,6] (nwG (zeX 83 e))=⟨[dd,dd,dd,dd, .one (.ptr ⟨4,0,0⟩ 0), .one (.ptr ⟨5,0,0⟩ 0), .one (.ptr ⟨6,0,0⟩ 0),dd,dd,dd,dd,dd,dd,dd,dd,dd,dd,dd,dd,dd,dd,dd,dd,dd,dd,dd,dd,dd,dd,dd,dd,dd,dd,dd,dd,dd,dd],[(4,{next:=1,l:=[some {e:=0,var:=true,fz:=false,sz:=0,cells:=[di 0,di 0,di 0,di 0,di 0,di 0, .d (.v zkw), .d (.v zkw), .d (.v zkw)]}]}),(5,{next:=1,l:=[some {e:=0,var:=true,fz:=false,sz:=0,cells:=[di 0]}]}),(6,{next:=1,l:=[some {e:=0,var:=true,fz:=false,sz:=0,cells:=[di e]}]})]⟩:=rfl
set_option maxHeartbeats 2000000 in
theorem zfA (bs:List Int) (p:Int) (h:BsOk bs) (hp:i64 p):
  CallOK Tryz.prog 19 [.f (asl bs.length (zaf bs)), .f (ai p)] (fun r o=>r=[zyL (dSn bs p).1,ri (dSn bs p).2.1,ri (dSn bs p).2.2]∧o=[]):=by
 refine CallOK.nil ?_
 refine zbs zas mixed (T:=Ty) Tryz.func19 rfl Tryz.results19 Tryz.ntmps19 Tryz.call19 Tryz.call41 (ks:=[4,5,6]) rfl rfl rfl rfl rfl rfl (by decide) (by decide)
  (xs:=[asl bs.length (zaf bs),ai p]) (sz:=szG) (nw:=nwG) zoU zmM ⟨[asl bs.length (zaf bs),ai p,dd,dd, .one (.ptr ⟨4,0,0⟩ 0), .one (.ptr ⟨5,0,0⟩ 0), .one (.ptr ⟨6,0,0⟩ 0),dd,dd,dd,dd,dd,dd,dd,dd,dd,dd,dd,dd,dd,dd,dd,dd,dd,dd,dd,dd,dd,dd,dd,dd,dd,dd,dd,dd,dd,dd],[(4,{next:=1,l:=[some {e:=0,var:=true,fz:=false,sz:=0,cells:=[di 0,di 0,di 0,di 0,di 0,di 0, .d (.v zkw), .d (.v zkw), .d (.v zkw)]},none,none,none,none,none,none,none,none,none]}),(5,{next:=1,l:=[some {e:=0,var:=true,fz:=false,sz:=0,cells:=[di 0]},none]}),(6,{next:=1,l:=[some {e:=0,var:=true,fz:=false,sz:=0,cells:=[di 0]},none]})]⟩ ?_ ?_ rfl ?_
 ·simp only[List.map_cons,List.map_nil]
  repeat'(first|refine zq0 ?_|exact zd0|(refine zaa ?_ ?_<;>intro hb)|(refine And.intro ?_ ?_;exact zI)|(refine And.intro ?_ ?_<;>intro hg)|exact zC|fail)
  exact fun _ _ _ h=>h
 ·exact⟨⟨_,rfl,rfl,rfl,rfl,rfl⟩,⟨_,rfl,rfl,rfl,rfl,rfl⟩,⟨_,rfl,rfl,rfl,rfl,rfl⟩,trivial⟩
 ·unfold dSn zmN
  cases e1:zc7 bs p with
  |error e=>
   have hr:=zcL bs p h hp e1
   repeat'(first|refine zq0 ?_|exact zd0|(refine zaa ?_ ?_<;>intro hb)|(refine And.intro ?_ ?_;exact zI)|(refine And.intro ?_ ?_<;>intro hg)|exact zC|fail)
   refine zp (rds bs p) (hr) ?_
   simp only[zbi,zbj,zbh,zbA]
   refine⟨⟨_,rfl⟩,rfl,⟨⟨_,rfl,rfl,rfl,rfl,rfl⟩,⟨_,rfl,rfl,rfl,rfl,rfl⟩,⟨_,rfl,rfl,rfl,rfl,rfl⟩,trivial⟩, ?_⟩
   rw[zih]
   first|refine zs0 ?_|exact zt0
   simp[zbO,zfo,zbH,zaz,st0]
  |ok d=>
  have he1:=zdg bs p h hp e1
  simp only
  repeat'(first|refine zq0 ?_|exact zd0|(refine zaa ?_ ?_<;>intro hb)|(refine And.intro ?_ ?_;exact zI)|(refine And.intro ?_ ?_<;>intro hg)|exact zC|fail)
  refine zj (he1) ?_
  cases e2:zc7 bs d.2 with
  |error e=>
   have hr:=zcL bs _ h (zbd h e1) e2
   repeat'(first|refine zq0 ?_|exact zd0|(refine zaa ?_ ?_<;>intro hb)|(refine And.intro ?_ ?_;exact zI)|(refine And.intro ?_ ?_<;>intro hg)|exact zC|fail)
   refine zp (rds bs p) (hr) ?_
   simp only[zbi,zbj,zbh,zbA]
   refine⟨⟨_,rfl⟩,rfl,⟨⟨_,rfl,rfl,rfl,rfl,rfl⟩,⟨_,rfl,rfl,rfl,rfl,rfl⟩,⟨_,rfl,rfl,rfl,rfl,rfl⟩,trivial⟩, ?_⟩
   rw[zih]
   first|refine zs0 ?_|exact zt0
   simp[zbO,zfo,zbH,zaz,st0]
  |ok v=>
  have he2:=zdg bs _ h (zbd h e1) e2
  simp only
  repeat'(first|refine zq0 ?_|exact zd0|(refine zaa ?_ ?_<;>intro hb)|(refine And.intro ?_ ?_;exact zI)|(refine And.intro ?_ ?_<;>intro hg)|exact zC|fail)
  refine zj (he2) ?_
  cases e3:zc7 bs v.2 with
  |error e=>
   have hr:=zcL bs _ h (zbd h e2) e3
   repeat'(first|refine zq0 ?_|exact zd0|(refine zaa ?_ ?_<;>intro hb)|(refine And.intro ?_ ?_;exact zI)|(refine And.intro ?_ ?_<;>intro hg)|exact zC|fail)
   refine zp (rds bs p) (hr) ?_
   simp only[zbi,zbj,zbh,zbA]
   refine⟨⟨_,rfl⟩,rfl,⟨⟨_,rfl,rfl,rfl,rfl,rfl⟩,⟨_,rfl,rfl,rfl,rfl,rfl⟩,⟨_,rfl,rfl,rfl,rfl,rfl⟩,trivial⟩, ?_⟩
   rw[zih]
   first|refine zs0 ?_|exact zt0
   simp[zbO,zfo,zbH,zaz,st0]
  |ok l=>
  have he3:=zdg bs _ h (zbd h e2) e3
  simp only
  repeat'(first|refine zq0 ?_|exact zd0|(refine zaa ?_ ?_<;>intro hb)|(refine And.intro ?_ ?_;exact zI)|(refine And.intro ?_ ?_<;>intro hg)|exact zC|fail)
  refine zj (he3) ?_
  cases e4:zdC bs l.2 with
  |error e=>
   have hr:=(zdK bs _ h (zbd h e3) false (st0,0) e e4).2 rfl
   repeat'(first|refine zq0 ?_|exact zd0|(refine zaa ?_ ?_<;>intro hb)|(refine And.intro ?_ ?_;exact zI)|(refine And.intro ?_ ?_<;>intro hg)|exact zC|fail)
   refine zp (rds bs p) (hr) ?_
   simp only[zbi,zbj,zbh,zbA]
   refine⟨⟨_,rfl⟩,rfl,⟨⟨_,rfl,rfl,rfl,rfl,rfl⟩,⟨_,rfl,rfl,rfl,rfl,rfl⟩,⟨_,rfl,rfl,rfl,rfl,rfl⟩,trivial⟩, ?_⟩
   rw[zih]
   first|refine zs0 ?_|exact zt0
   simp[zbO,zfo,zbH,zaz,st0]
  |ok s=>
  have he4:=(zdK bs _ h (zbd h e3) true s 0 e4).1 rfl
  simp only
  repeat'(first|refine zq0 ?_|exact zd0|(refine zaa ?_ ?_<;>intro hb)|(refine And.intro ?_ ?_;exact zI)|(refine And.intro ?_ ?_<;>intro hg)|exact zC|fail)
  refine zj (he4) ?_
  have hms:=zgO ⟨d.1,v.1,l.1,s.1⟩ (zb1 (zdn.1 (zlN e4)))
  cases hm:zbx ⟨d.1,v.1,l.1,s.1⟩
  ·rw[hm]at hms
   rw[if_neg (by simp)]
   repeat'(first|refine zq (I @zbC (I @zal @za8)) ?_|exact zd (I @zbC (I @zal @za8))|refine zc (hms) ?_|refine zg (hms) ?_|(refine zaa ?_ ?_<;>intro hb)|(refine And.intro ?_ ?_;exact zI)|(refine And.intro ?_ ?_<;>intro hg)|exact zC|fail)
   simp only[zbi,zbj,zbh,zbA]
   refine⟨⟨_,rfl⟩,rfl,⟨⟨_,rfl,rfl,rfl,rfl,rfl⟩,⟨_,rfl,rfl,rfl,rfl,rfl⟩,⟨_,rfl,rfl,rfl,rfl,rfl⟩,trivial⟩, ?_⟩
   rw[zih]
   first|refine zs0 ?_|exact zt0
   simp[zbO,zfo,zbH,zaz,st0]
  ·rw[hm]at hms
   rw[if_pos rfl]
   repeat'(first|(with_reducible first|refine za6 7 ?_|refine zaL 7 ?_|refine zaM 7 ?_)|refine zu (I @zbC (I @zal @za8)) ?_|exact zd (I @zbC (I @zal @za8))|(with_reducible first|refine zad _ _ ?_)|refine zc (hms) ?_|refine zg (hms) ?_|(refine zaa ?_ ?_<;>intro hb)|(refine And.intro ?_ ?_;exact zI)|(refine And.intro ?_ ?_<;>intro hg)|exact zC|fail)
   refine za2 (za1 (Gh.sealF 4 6 (.own ⟨4,7,7⟩ 0 s.1.sess.length) ?_) ?_)
   ·exact zo @zbC
   refine zf @zbC ?_
   refine za1 (Gh.sealF 4 7 (.own ⟨4,8,8⟩ 0 s.1.locks.length) ?_) ?_
   ·exact zo @zal
   refine zf @zal ?_
   refine za1 (Gh.sealF 4 8 (.own ⟨4,9,9⟩ 0 s.1.memos.length) ?_) ?_
   ·exact zo @za8
   refine zf @za8 ?_
   repeat'(first|refine zq @zdc ?_|exact zd @zdc|(refine zaa ?_ ?_<;>intro hb)|(refine And.intro ?_ ?_;exact zI)|(refine And.intro ?_ ?_<;>intro hg)|exact zC|fail)
   simp[zbO,zfo,zbH,zaz]
theorem znV {α:Type} {a:α} {q:Int}:rOf (a,q,0)= .ok (a,q):=rfl
theorem zek {bs:List Int} {p:Nat} {v:Int} {rest:List Int} (h:bs.drop p=zbV v++rest) (hv:0≤v∧v<4611686018427387904):zc7 bs p= .ok (v,((p+8:Nat):Int)):=by rw[zc7,zkr h hv,znV]
theorem zhu {bs:List Int} {p:Nat} {x:Int} {rest:List Int} (h:bs.drop p=[x]++rest):zbX bs p= .ok (x,((p+1:Nat):Int)):=by rw[zbX,zgy h,znV]
theorem zs5 {bs:List Int} {p:Nat} {s:ByteArray} {rest:List Int} (h:bs.drop p=zeu s++rest) (hs:s.size≤12):zfp bs p= .ok (s,((p+(1+s.size):Nat):Int)):=by rw[zfp,zn3 h (by omega),znV]
theorem zs6 {bs:List Int} {p:Nat} {m:Memo} {rest:List Int} (h:bs.drop p=zbn m++rest) (hm:answerB m=true):zfq bs p= .ok (m,((p+(zbn m).length:Nat):Int)):=by rw[zfq,zo8 h hm,znV]
theorem zgq {bs:List Int} {p:Nat} {x most:Int} {rest:List Int} (h:bs.drop p=[x]++rest) (hx:x≤most):zbt bs p most= .ok (x,((p+1:Nat):Int)):=by
 rw[zbt,zhu h]
 simp only
 rw[if_neg (by omega)]
theorem zgr {α:Type} {bs:List Int} {f:Int→Rr α} {enc:α→List Int}:∀{l:List α} {p:Nat} {acc:List α} {rest:List Int},(∀x∈l,∀(p:Nat) (rest:List Int),bs.drop p=enc x++rest→f p= .ok (x,((p+(enc x).length:Nat):Int)))→
  bs.drop p=l.flatMap enc++rest→zb4 f l.length p acc= .ok (acc++l,((p+(l.flatMap enc).length:Nat):Int))
 |[],p,acc,rest,_,_=>by simp[zb4]
 |x::l,p,acc,rest,hf,h=>by
  rw[List.flatMap_cons,List.append_assoc]at h
  rw[List.length_cons,zb4,hf x (by simp) p _ h]
  simp only
  rw[zgr (fun y hy=>hf y (by simp[hy])) (zaH h)]
  simp[Nat.add_assoc]
theorem zs7 {bs:List Int} {p:Nat} {x:Sess} {rest:List Int} (h:bs.drop p=zhe x++rest) (h1:0≤x.num∧x.num<4611686018427387904) (h2:0≤x.renewed∧x.renewed<4611686018427387904):
  zgP bs p= .ok (x,((p+(zhe x).length:Nat):Int)):=by
 have h:bs.drop p=[x.client]++(zbV x.num++(zbV x.renewed++rest)):=by rw[h];simp[zhe]
 have g1:=zaH h
 have g2:=zaH g1
 rw[zgP,zhu h]
 simp only
 rw[List.length_singleton]at g1
 rw[zek g1 h1]
 simp only
 rw[zaW,List.length_singleton]at g2
 rw[zek g2 h2,zlP]
theorem zgN {bs:List Int}:∀{n:Nat} {p:Int} {acc:List Int},zgt bs n p acc=zb4 (zbX bs) n p acc
 |0,_,_=>rfl
 |n+1,p,acc=>by
  rw[zgt,zb4]
  cases zbX bs p with
  |error e=>rfl
  |ok x=>exact zgN
theorem zif (l:List Int):(l.flatMap fun x=>[x])=l:=by induction l<;>simp_all
theorem zs8 {bs:List Int} {p:Nat} {k:Lk} {rest:List Int} (h:bs.drop p=zgQ k++rest) (h1:k.name.size≤12) (h2:0≤k.token∧k.token<4611686018427387904) (h3:k.line.length≤3):
  zet bs p= .ok (k,((p+(zgQ k).length:Nat):Int)):=by
 have h:bs.drop p=zeu k.name++([k.holder]++(zbV k.token++([(k.line.length:Int)]++((k.line.flatMap fun x=>[x])++rest)))):=by rw[h,zif];simp[zgQ,lk0]
 have g1:=zaH h
 have g2:=zaH g1
 have g3:=zaH g2
 have g4:=zaH g3
 rw[zcM]at g1 g2 g3 g4
 rw[List.length_singleton]at g2 g3 g4
 rw[zaW]at g3 g4
 rw[List.length_singleton]at g4
 rw[zet,zs5 h h1]
 simp only
 rw[zhu g1]
 simp only
 rw[zek g2 h2]
 simp only
 rw[zgq g3 (by omega)]
 simp only
 rw[zgN,Int.toNat_natCast,zgr (enc:=fun x=>[x]) (fun x _ p rest h=>zhu h) g4]
 simp only[List.nil_append,zif]
 rw[zgQ,List.length_append,zmR]
 congr 3
 omega
theorem zlM {bs:List Int} {p:Nat} {s:St} {rest:List Int} (h:bs.drop p=zbM s++rest) (hr:RightS s):zdC bs p= .ok (s,((p+(zbM s).length:Nat):Int)):=by
 have hH:zbB=2305843009213693952:=rfl
 have ht:=hr.time
 have hn:=hr.num
 have hk:=hr.token
 have hl1:=hr.sl
 have hl2:=hr.ll
 have hl3:=zgx hr
 have h:bs.drop p=zbV s.time++(zbV s.num++(zbV s.token++([(s.sess.length:Int)]++(s.sess.flatMap zhe++([(s.locks.length:Int)]++(s.locks.flatMap zgQ++([(s.memos.length:Int)]++(s.memos.flatMap zbn++rest)))))))):=by
  rw[h];simp[zbM,sb3,sb2,sb1,zik]
 have g1:=zaH h
 have g2:=zaH g1
 have g3:=zaH g2
 have g4:=zaH g3
 have g5:=zaH g4
 have g6:=zaH g5
 have g7:=zaH g6
 have g8:=zaH g7
 rw[zaW]at g1 g2 g3 g4 g5 g6 g7 g8
 rw[zaW]at g2 g3 g4 g5 g6 g7 g8
 rw[zaW]at g3 g4 g5 g6 g7 g8
 rw[List.length_singleton]at g4 g5 g6 g7 g8
 rw[List.length_singleton]at g6 g7 g8
 rw[List.length_singleton]at g8
 rw[zdC,zek h (by omega)]
 simp only
 rw[zek g1 (by omega)]
 simp only
 rw[zek g2 (by omega)]
 simp only
 rw[zgq g3 (by omega)]
 simp only
 rw[Int.toNat_natCast,zgr (enc:=zhe) (fun x hx p rest h=>by
  obtain⟨_,f2,f3⟩:=zb7.1 (hr.sok x hx).1
  exact zs7 h (by omega) (by omega)) g4]
 simp only
 rw[zgq g5 (by omega)]
 simp only
 rw[Int.toNat_natCast,zgr (enc:=zgQ) (fun x hx p rest h=>by
  obtain⟨q0,q1,q2,q3,q4,q5⟩:=zfj hr hx
  exact zs8 h q1 q3 q4) g6]
 simp only
 rw[zgq g7 (by omega)]
 simp only
 rw[Int.toNat_natCast,zgr (enc:=zbn) (fun x hx p rest h=>zs6 h (hr.mok x hx)) g8]
 simp only[List.nil_append]
 rw[if_pos (zdn.2 hr)]
 congr 3
 simp only[zbM,sb3,sb2,sb1,zik,List.length_append,List.take_length,zaW,List.length_singleton]
 omega
theorem znW {bs:List Int} {p:Nat} {s:Sn} {rest:List Int} (h:bs.drop p=snI s++rest) (hs:zbx s=true):zmN bs p= .ok (s,((p+(snI s).length:Nat):Int)):=by
 obtain⟨f1,f2,f3,f4⟩:=zgs hs
 have h:bs.drop p=zbV s.done++(zbV s.view++(zbV s.slot++(zbM s.st++rest))):=by rw[h];simp[snI]
 have g1:=zaH h
 have g2:=zaH g1
 have g3:=zaH g2
 rw[zaW]at g1 g2 g3
 rw[zaW]at g2 g3
 rw[zaW]at g3
 rw[zmN,zek h f1]
 simp only
 rw[zek g1 f2]
 simp only
 rw[zek g2 f3]
 simp only
 rw[zlM g3 f4]
 simp only
 rw[if_pos hs]
 congr 3
 simp only[snI,List.length_append,zaW]
 omega
def Cut {α:Type} (m:Nat) (p:Int) (r r':Rr α):Prop:=∀y,r= .ok y→p≤y.2∧(y.2≤m→r'= .ok y)∧(p≤m→m<y.2→r'= .error 2)
abbrev zbf {α β:Type} (r:Rr α) (k:α×Int→Rr β):Rr β:=match r with
 | .error e=> .error e
 | .ok x=>k x
theorem zaF {α β:Type} {m:Nat} {p:Int} {r r':Rr α} {k k':α×Int→Rr β} (h1:Cut m p r r') (h2:∀x,r= .ok x→Cut m x.2 (k x) (k' x)):
  Cut m p (zbf r k) (zbf r' k'):=by
 intro y hy
 cases r with
 |error e=>cases hy
 |ok x=>
  obtain⟨a1,a2,a3⟩:=h1 x rfl
  obtain⟨b1,b2,b3⟩:=h2 x rfl y hy
  refine⟨Int.le_trans a1 b1,fun hq=> ?_,fun hp hq=> ?_⟩
  ·rw[a2 (Int.le_trans b1 hq)]
   exact b2 hq
  ·by_cases hx:x.2≤m
   ·rw[a2 hx]
    exact b3 hx hq
   ·rw[a3 hp (by omega)]
theorem zn6 {α:Type} {m:Nat} {p:Int} {r:Rr α} (h:∀y,r= .ok y→y.2=p):Cut m p r r:=fun y hy=>⟨by rw[h y hy];exact Int.le_refl _,fun _=>hy,fun h1 h2=>by rw[h y hy]at h2;omega⟩
theorem zkv {α:Type} {m:Nat} {p:Int} {x:α}:Cut m p (.ok (x,p)) (.ok (x,p)):=zn6 fun y hy=>by cases hy;rfl
theorem zlW {α:Type} {m:Nat} {p:Int} {c:Prop} [Decidable c] {x:α} {e:Int}:Cut m p (if c then .ok (x,p)else .error e) (if c then .ok (x,p)else .error e):=zn6 fun y hy=>by
 split at hy
 ·cases hy;rfl
 ·cases hy
section
variable {bs:List Int} {m:Nat} (hm:m≤bs.length)
include hm
theorem zfn {p k:Int} (hp:0≤p) (h:zbw bs.length p k=false):(0≤k→p+k≤m→zbw (bs.take m).length p k=false)∧(p≤m→m<p+k→zbw (bs.take m).length p k=true):=by
 rw[List.length_take,Nat.min_eq_left hm]
 unfold zbw at*
 simp at*
 omega
omit hm in
theorem getD_take {q:Nat} (h:q<m):(bs.take m).getD q 0=bs.getD q 0:=by
 simp only[List.getD_eq_getElem?_getD,List.getElem?_take,if_pos h]
theorem zep {p:Int}:Cut m p (zbX bs p) (zbX (bs.take m) p):=by
 intro y hy
 unfold zbX zaY at*
 cases hs:zbw bs.length p 1
 ·rw[hs]at hy
  simp[rOf]at hy
  subst hy
  obtain⟨h1,h2,h3⟩:=zck hs
  obtain⟨a,b⟩:=zfn hm h1 hs
  refine⟨by simp only;omega,fun h=> ?_,fun hp h=> ?_⟩
  ·rw[a (by omega) h,getD_take (by simp only at h;omega)]
   simp[rOf]
  ·rw[b hp h]
   simp[rOf]
 ·rw[hs]at hy
  simp[rOf]at hy
theorem zc8 {p:Int}:Cut m p (zc7 bs p) (zc7 (bs.take m) p):=by
 intro y hy
 unfold zc7 zev at*
 cases hs:zbw bs.length p 8
 ·rw[hs]at hy
  obtain⟨h1,h2,h3⟩:=zck hs
  obtain⟨a,b⟩:=zfn hm h1 hs
  rw[if_neg (by simp)]at hy
  split at hy
  ·rename_i hv
   simp[rOf]at hy
   subst hy
   refine⟨by simp only;omega,fun h=> ?_,fun hp h=> ?_⟩
   ·simp only at h
    have e:((bs.take m).drop p.toNat).take 8=(bs.drop p.toNat).take 8:=by
     rw[List.drop_take,List.take_take,Nat.min_eq_left (by omega)]
    rw[a (by omega) h,e,if_neg (by simp),if_pos hv]
    simp[rOf]
   ·rw[b hp h]
    simp[rOf]
  ·simp[rOf]at hy
 ·rw[hs]at hy
  simp[rOf]at hy
theorem zn7 (hb:BsOk bs) {p:Int}:Cut m p (zfp bs p) (zfp (bs.take m) p):=by
 intro y hy
 unfold zfp zb9 at*
 cases hs:zbw bs.length p 1
 ·rw[hs]at hy
  obtain⟨h1,h2,h3⟩:=zck hs
  obtain⟨a,b⟩:=zfn hm h1 hs
  rw[if_neg (by simp)]at hy
  split at hy
  ·simp[rOf]at hy
  ·rename_i hv
   have hv0:=zfl (l:=bs) (i:=p.toNat) (by omega) hb.b
   unfold zaK at hv0
   obtain⟨z,hz⟩:∃z,bs.getD p.toNat 0=z:=⟨_,rfl⟩
   rw[hz]at hy hv hv0
   cases hs2:zbw bs.length (p+1) z
   ·rw[hs2]at hy
    obtain⟨g1,g2,g3⟩:=zck hs2
    obtain⟨a',b'⟩:=zfn hm g1 hs2
    simp[rOf]at hy
    subst hy
    simp only
    refine⟨by omega,fun h=> ?_,fun hp h=> ?_⟩
    ·have e:((bs.take m).drop (p.toNat+1)).take z.toNat=(bs.drop (p.toNat+1)).take z.toNat:=by
      rw[List.drop_take,List.take_take,Nat.min_eq_left (by omega)]
     rw[a (by omega) (by omega),getD_take (by omega),hz,a' (by omega) h,e,if_neg (by simp),if_neg hv,if_neg (by simp)]
     simp[rOf]
    ·by_cases hp1:p+1≤m
     ·rw[a (by omega) hp1,getD_take (by omega),hz,b' hp1 h,if_neg (by simp),if_neg hv,if_pos rfl]
      simp[rOf]
     ·rw[b hp (by omega),if_pos rfl]
      simp[rOf]
   ·rw[hs2]at hy
    simp[rOf]at hy
 ·rw[hs]at hy
  simp[rOf]at hy
theorem zeZ {p most:Int}:Cut m p (zbt bs p most) (zbt (bs.take m) p most):=by
 have e:∀l,zbt l p most=zbf (zbX l p) fun x=>if¬x.1>most then .ok (x.1,x.2)else .error 4:=fun l=>by
  unfold zbt
  cases zbX l p with
  |error e=>rfl
  |ok x=>simp only[ite_not]
 rw[e,e]
 exact zaF (zep hm) fun x _=>zlW
omit hm in
theorem zgz {α:Type} {f f':Int→Rr α} (hf:∀p,Cut m p (f p) (f' p)):∀{n:Nat} {p:Int} {acc:List α},Cut m p (zb4 f n p acc) (zb4 f' n p acc)
 |0,p,acc=>by rw[zb4,zb4];exact zkv
 |n+1,p,acc=>by
  have e:∀f:Int→Rr α,zb4 f (n+1) p acc=zbf (f p) fun x=>zb4 f n x.2 (acc++[x.1]):=fun f=>rfl
  rw[e,e]
  exact zaF (hf p) fun x _=>zgz hf
theorem ztm {p:Int}:Cut m p (zgP bs p) (zgP (bs.take m) p):=by
 have e:∀l,zgP l p=zbf (zbX l p) fun c=>zbf (zc7 l c.2) fun n=>zbf (zc7 l n.2) fun r=> .ok (⟨c.1,n.1,r.1⟩,r.2):=fun l=>by kernel_rfl
 rw[e,e]
 exact zaF (zep hm) fun c _=>zaF (zc8 hm) fun n _=>zaF (zc8 hm) fun r _=>zkv
theorem ztn (hb:BsOk bs) {p:Int}:Cut m p (zet bs p) (zet (bs.take m) p):=by
 have e:∀l,zet l p=zbf (zfp l p) fun nm=>zbf (zbX l nm.2) fun hd=>zbf (zc7 l hd.2) fun tk=>zbf (zbt l tk.2 3) fun n=>zbf (zgt l n.1.toNat n.2 []) fun x=> .ok (⟨nm.1,hd.1,tk.1,x.1⟩,x.2):=fun l=>by kernel_rfl
 rw[e,e]
 refine zaF (zn7 hm hb) fun nm _=>zaF (zep hm) fun hd _=>zaF (zc8 hm) fun tk _=>zaF (zeZ hm) fun n _=> ?_
 simp only[zgN]
 exact zaF (zgz fun q=>zep hm) fun l _=>zkv
def zwG (bs:List Int) (n:Nat) (p:Int) (acc:List Grant):Rr (List Grant):=rOf (zaU bs n p acc)
omit hm in
theorem zfB {α β:Type} {x:α×Int×Int} {y:β×Int×Int} {z:β}:rOf (if x.2.2≠0 then(z,0,x.2.2)else y)=zbf (rOf x) fun _=>rOf y:=by
 unfold rOf
 by_cases h:x.2.2=0
 ·simp[h]
 ·simp[h]
omit hm in
theorem zrI {α:Type} {c:Prop} [Decidable c] {x:α} {q:Int} {z:α}:rOf (if c then(z,0,4)else(x,q,0))=(if¬c then(.ok (x,q):Rr α)else .error 4):=by
 by_cases h:c
 ·simp[h,rOf]
 ·simp[h,rOf]
theorem zjt (hb:BsOk bs):∀{n:Nat} {p:Int} {acc:List Grant},Cut m p (rOf (zaU bs n p acc)) (rOf (zaU (bs.take m) n p acc))
 |0,p,acc=>by rw[zaU,zaU];exact zkv
 |n+1,p,acc=>by
  have e:∀l,rOf (zaU l (n+1) p acc)=(zbf (zfp l p) fun x=>zbf (zc7 l x.2) fun t=>rOf (zaU l n t.2 (acc++[⟨x.1,t.1⟩]))):=fun l=>by
   rw[zaU,zfB]
   show zbf (zfp l p) (fun _=>_)=_
   cases h:zfp l p with
   |error e=>rfl
   |ok x=>
    obtain⟨h0,rfl⟩:=zcz h
    show rOf _=_
    rw[zfB]
    show zbf (zc7 l (zb9 l p 12).2.1) (fun _=>_)=zbf (zc7 l (zb9 l p 12).2.1) _
    cases h2:zc7 l (zb9 l p 12).2.1 with
    |error e=>rfl
    |ok t=>
     obtain⟨h3,rfl⟩:=zcz h2
     rfl
  rw[e,e]
  exact zaF (zn7 hm hb) fun x _=>zaF (zc8 hm) fun t _=>zjt hb
theorem zrJ (hb:BsOk bs) {p:Int}:Cut m p (rOf (zcO bs p)) (rOf (zcO (bs.take m) p)):=by
 have e:∀l,rOf (zcO l p)=(zbf (zbX l p) fun c=>zbf (zc7 l c.2) fun s=>zbf (zbX l s.2) fun a=>zbf (zbt l a.2 4) fun n=>zbf (rOf (zaU l n.1.toNat n.2 [])) fun g=>if¬zbL ⟨c.1,s.1,a.1,g.1⟩=false then .ok (⟨c.1,s.1,a.1,g.1⟩,g.2)else .error 4):=fun l=>by
  rw[zcO,zfB]
  show zbf (zbX l p) (fun _=>_)=_
  cases h:zbX l p with
  |error e=>rfl
  |ok c=>
   obtain⟨h0,rfl⟩:=zcz h
   show rOf _=_
   rw[zfB]
   show zbf (zc7 l (zaY l p).2.1) (fun _=>_)=zbf (zc7 l (zaY l p).2.1) _
   cases h2:zc7 l (zaY l p).2.1 with
   |error e=>rfl
   |ok s=>
    obtain⟨h3,rfl⟩:=zcz h2
    show rOf _=_
    rw[zfB]
    generalize (zev l (zaY l p).2.1)=s
    show zbf (zbX l s.2.1) (fun _=>_)=zbf (zbX l s.2.1) _
    cases h4:zbX l s.2.1 with
    |error e=>rfl
    |ok a=>
     obtain⟨h5,rfl⟩:=zcz h4
     show rOf _=_
     rw[zfB]
     generalize (zaY l s.2.1)=a
     show zbf (zbX l a.2.1) (fun _=>_)=zbf (zbt l a.2.1 4) _
     unfold zbt
     cases h6:zbX l a.2.1 with
     |error e=>rfl
     |ok n=>
      obtain⟨h7,rfl⟩:=zcz h6
      simp only
      by_cases h8:(zaY l a.2.1).1>4
      ·rw[if_pos h8,if_pos h8];simp[rOf]
      ·rw[if_neg h8,if_neg h8,zfB]
       show zbf (rOf (zaU l (zaY l a.2.1).1.toNat (zaY l a.2.1).2.1 [])) _=zbf (rOf (zaU l (zaY l a.2.1).1.toNat (zaY l a.2.1).2.1 [])) _
       cases h9:rOf (zaU l (zaY l a.2.1).1.toNat (zaY l a.2.1).2.1 [])with
       |error e=>rfl
       |ok g=>
        obtain⟨h10,rfl⟩:=zcz h9
        exact zrI
 rw[e,e]
 exact zaF (zep hm) fun c _=>zaF (zc8 hm) fun s _=>zaF (zep hm) fun a _=>zaF (zeZ hm) fun n _=>zaF (zjt hm hb) fun g _=>zlW
theorem zto (hb:BsOk bs) {p:Int}:Cut m p (zfq bs p) (zfq (bs.take m) p):=by
 have e:∀l,zfq l p=(zbf (zbX l p) fun c=>zbf (zc7 l c.2) fun s=>zbf (rOf (zcO l s.2)) fun r=>if¬answerB ⟨c.1,s.1,r.1⟩=false then .ok (⟨c.1,s.1,r.1⟩,r.2)else .error 4):=fun l=>by
  rw[zfq,zen,zfB]
  show zbf (zbX l p) (fun _=>_)=_
  cases h:zbX l p with
  |error e=>rfl
  |ok c=>
   obtain⟨h0,rfl⟩:=zcz h
   show rOf _=_
   rw[zfB]
   show zbf (zc7 l (zaY l p).2.1) (fun _=>_)=zbf (zc7 l (zaY l p).2.1) _
   cases h2:zc7 l (zaY l p).2.1 with
   |error e=>rfl
   |ok s=>
    obtain⟨h3,rfl⟩:=zcz h2
    show rOf _=zbf (rOf (zcO l (zev l (zaY l p).2.1).2.1)) _
    rw[zfB]
    cases h4:rOf (zcO l (zev l (zaY l p).2.1).2.1)with
    |error e=>rfl
    |ok r=>
     obtain⟨h5,rfl⟩:=zcz h4
     exact zrI
 rw[e,e]
 exact zaF (zep hm) fun c _=>zaF (zc8 hm) fun s _=>zaF (zrJ hm hb) fun r _=>zlW
theorem zrK (hb:BsOk bs) {p:Int}:Cut m p (zdC bs p) (zdC (bs.take m) p):=by
 have e:∀l,zdC l p=zbf (zc7 l p) fun t=>zbf (zc7 l t.2) fun u=>zbf (zc7 l u.2) fun k=>zbf (zbt l k.2 5) fun n=>zbf (zb4 (zgP l) n.1.toNat n.2 []) fun ss=>zbf (zbt l ss.2 4) fun n2=>
   zbf (zb4 (zet l) n2.1.toNat n2.2 []) fun ls=>zbf (zbt l ls.2 8) fun n3=>zbf (zb4 (zfq l) n3.1.toNat n3.2 []) fun ms=>
    if zcJ ⟨t.1,u.1,k.1,ss.1,ls.1,ms.1⟩=true then .ok (⟨t.1,u.1,k.1,ss.1,ls.1,ms.1⟩,ms.2)else .error 4:=fun l=>by kernel_rfl
 rw[e,e]
 exact zaF (zc8 hm) fun t _=>zaF (zc8 hm) fun u _=>zaF (zc8 hm) fun k _=>zaF (zeZ hm) fun n _=>zaF (zgz fun q=>ztm hm) fun ss _=>
  zaF (zeZ hm) fun n2 _=>zaF (zgz fun q=>ztn hm hb) fun ls _=>zaF (zeZ hm) fun n3 _=>zaF (zgz fun q=>zto hm hb) fun ms _=>zlW
theorem ztp (hb:BsOk bs) {p:Int}:Cut m p (zmN bs p) (zmN (bs.take m) p):=by
 have e:∀l,zmN l p=zbf (zc7 l p) fun d=>zbf (zc7 l d.2) fun v=>zbf (zc7 l v.2) fun k=>zbf (zdC l k.2) fun s=>if zbx ⟨d.1,v.1,k.1,s.1⟩=true then .ok (⟨d.1,v.1,k.1,s.1⟩,s.2)else .error 4:=fun l=>by kernel_rfl
 rw[e,e]
 exact zaF (zc8 hm) fun d _=>zaF (zc8 hm) fun v _=>zaF (zc8 hm) fun l _=>zaF (zrK hm hb) fun s _=>zlW
end
end Go.Proofs.YtbpmcjeeeiffhaaGreat
