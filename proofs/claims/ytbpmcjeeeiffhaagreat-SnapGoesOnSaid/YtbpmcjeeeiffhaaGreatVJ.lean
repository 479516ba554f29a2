import Derived.Test.YtbpmcjeeeiffhaaGreatM3
namespace Go.Proofs.YtbpmcjeeeiffhaaGreat
open Go.Pk
set_option maxRecDepth 100000
set_option linter.unusedSimpArgs false
set_option linter.unusedVariables false
def zmI (bs:List Int) (p:Int):Rr Sess:=match zdF bs p with
 | .error e=> .error e
 | .ok c=>match ziR bs c.2 with
  | .error e=> .error e
  | .ok n=>match ziR bs n.2 with
   | .error e=> .error e
   | .ok r=> .ok (⟨c.1,n.1,r.1⟩,r.2)
def zc5 {α:Type} (f:Int→Rr α):Nat→Int→List α→Rr (List α)
 |0,p,acc=> .ok (acc,p)
 |n+1,p,acc=>match f p with
  | .error e=> .error e
  | .ok x=>zc5 f n x.2 (acc++[x.1])
def zgy (bs:List Int) (p:Int):Rr St:=match ziR bs p with
 | .error e=> .error e
 | .ok t=>match ziR bs t.2 with
  | .error e=> .error e
  | .ok u=>match ziR bs u.2 with
   | .error e=> .error e
   | .ok k=>match zcX bs k.2 5 with
    | .error e=> .error e
    | .ok n=>match zc5 (zmI bs) n.1.toNat n.2 []with
     | .error e=> .error e
     | .ok ss=>match zcX bs ss.2 4 with
      | .error e=> .error e
      | .ok n2=>match zc5 (zg0 bs) n2.1.toNat n2.2 []with
       | .error e=> .error e
       | .ok ls=>match zcX bs ls.2 8 with
        | .error e=> .error e
        | .ok n3=>match zc5 (ziS bs) n3.1.toNat n3.2 []with
         | .error e=> .error e
         | .ok ms=>if zfF ⟨t.1,u.1,k.1,ss.1,ls.1,ms.1⟩=true then .ok (⟨t.1,u.1,k.1,ss.1,ls.1,ms.1⟩,ms.2)else .error 4
theorem znw {bs:List Int} (h:BsOk bs) {p:Int} {y:Memo×Int} (hy:ziS bs p= .ok y):i64 y.2∧zb1 y.1.reply:=by
 obtain⟨h0,rfl⟩:=zfG hy
 simp only
 unfold ze2 at h0⊢
 simp only at h0⊢
 split at h0
 ·rename_i h1;exact absurd h0 h1
 rename_i h1
 rw[if_neg h1]
 split at h0
 ·rename_i h2;exact absurd h0 h2
 rename_i h2
 rw[if_neg h2]
 split at h0
 ·rename_i h3;exact absurd h0 h3
 rename_i h3
 rw[if_neg h3]
 split at h0
 ·exact absurd h0 (by decide)
 rename_i h4
 rw[if_neg h4]
 obtain⟨g1,g2⟩:=zhh h (p:=(zfw bs (zbM bs p).2.1).2.1)
 exact⟨zeA h.l g1,g2⟩
set_option maxHeartbeats 4000000 in
theorem zhf (bs:List Int) (p:Int) (h:BsOk bs) (hp:i64 p) (b:Bool) (y:St×Int) (e:Int) (hy:zwS b y e (zgy bs p)):
  (b=true→CallOK Tryz.prog 39 [.obj (rds bs p)] (fun r o=>r=[y.1.rf]∧o=[rds bs y.2]))∧(b=false→zcr Tryz.prog 39 [.obj (rds bs p)] (zp1 e)):=by
 refine znX zak mixed (T:=Ty) (n:=65) Tryz.func39 (c:=Tryz.f39.body.getD .skip) rfl Tryz.results39 Tryz.ntmps39 Tryz.call39 ?_
 simp only[Tryz.f39,Option.getD]
 unfold zgy at hy
 cases e1:ziR bs p with
 |error x=>
  rw[e1]at hy
  obtain⟨rfl,rfl⟩:=zbC hy
  have hr:=zec bs p h hp e1
  repeat'(first|refine zq0 ?_|exact zd0|(refine zaa ?_ ?_<;>intro hb)|(refine And.intro ?_ ?_;exact zI)|(refine And.intro ?_ ?_<;>intro hg)|exact zC|fail)
  refine zp (rds bs p) (hr) ?_
  first|refine zs (I @zaW @zaj) ?_|exact zt (I @zaW @zaj)
 |ok t=>
 have he1:=zfq bs p h hp e1
 rw[e1]at hy
 simp only at hy
 repeat'(first|refine zq0 ?_|exact zd0|(refine zaa ?_ ?_<;>intro hb)|(refine And.intro ?_ ?_;exact zI)|(refine And.intro ?_ ?_<;>intro hg)|exact zC|fail)
 refine zj (he1) ?_
 cases e2:ziR bs t.2 with
 |error x=>
  rw[e2]at hy
  obtain⟨rfl,rfl⟩:=zbC hy
  have hr:=zec bs _ h (zcc h e1) e2
  repeat'(first|refine zq0 ?_|exact zd0|(refine zaa ?_ ?_<;>intro hb)|(refine And.intro ?_ ?_;exact zI)|(refine And.intro ?_ ?_<;>intro hg)|exact zC|fail)
  refine zp (rds bs p) (hr) ?_
  first|refine zs (I @zaW @zaj) ?_|exact zt (I @zaW @zaj)
 |ok u=>
 have he2:=zfq bs _ h (zcc h e1) e2
 rw[e2]at hy
 simp only at hy
 repeat'(first|refine zq0 ?_|exact zd0|(refine zaa ?_ ?_<;>intro hb)|(refine And.intro ?_ ?_;exact zI)|(refine And.intro ?_ ?_<;>intro hg)|exact zC|fail)
 refine zj (he2) ?_
 cases e3:ziR bs u.2 with
 |error x=>
  rw[e3]at hy
  obtain⟨rfl,rfl⟩:=zbC hy
  have hr:=zec bs _ h (zcc h e2) e3
  repeat'(first|refine zq0 ?_|exact zd0|(refine zaa ?_ ?_<;>intro hb)|(refine And.intro ?_ ?_;exact zI)|(refine And.intro ?_ ?_<;>intro hg)|exact zC|fail)
  refine zp (rds bs p) (hr) ?_
  first|refine zs (I @zaW @zaj) ?_|exact zt (I @zaW @zaj)
 |ok k=>
 have he3:=zfq bs _ h (zcc h e2) e3
 rw[e3]at hy
 simp only at hy
 repeat'(first|refine zq0 ?_|exact zd0|(refine zaa ?_ ?_<;>intro hb)|(refine And.intro ?_ ?_;exact zI)|(refine And.intro ?_ ?_<;>intro hg)|exact zC|fail)
 refine zj (he3) ?_
 cases e4:zcX bs k.2 5 with
 |error x=>
  rw[e4]at hy
  obtain⟨rfl,rfl⟩:=zbC hy
  have hr:=zeu bs _ 5 h (zcc h e3) e4
  repeat'(first|refine zq0 ?_|exact zd0|(refine zaa ?_ ?_<;>intro hb)|(refine And.intro ?_ ?_;exact zI)|(refine And.intro ?_ ?_<;>intro hg)|exact zC|fail)
  refine zp (rds bs p) (hr) ?_
  first|refine zs (I @zaW @zaj) ?_|exact zt (I @zaW @zaj)
 |ok n=>
 have he4:=zfr bs _ 5 h (zcc h e3) e4
 rw[e4]at hy
 simp only at hy
 repeat'(first|refine zq0 ?_|exact zd0|(refine zaa ?_ ?_<;>intro hb)|(refine And.intro ?_ ?_;exact zI)|(refine And.intro ?_ ?_<;>intro hg)|exact zC|fail)
 refine zj (he4) ?_
 obtain⟨hn1,hn2,hn3⟩:=zdD h e4
 repeat'(first|refine zq0 ?_|exact zd0|(refine zaa ?_ ?_<;>intro hb)|(refine And.intro ?_ ?_;exact zI)|(refine And.intro ?_ ?_<;>intro hg)|exact zC|fail)
 refine zam (τ:=Nat×Int×List Sess×Nat) (fun a=>⟨[.one (.ptr ⟨0,0,0⟩ 0),dd, .one (.ptr ⟨2,0,1⟩ 0), .one (.ptr ⟨3,0,1⟩ 0),dd,dd,dd,dd,dd,dd,dd,dd,dd,dd,dd,dd,ai n.1,ai a.1,dd,dd,dd,dd,dd,dd,dd,dd,dd,dd,dd,dd,dd,dd,dd,dd,dd,dd,dd,dd,dd,dd,dd,dd,dd,dd,dd,dd,dd,dd,dd,dd,dd,dd,dd,dd,dd,dd,dd,dd,dd,dd,dd,dd,dd,dd,dd],[zwU bs a.2.1 a.2.2.2,(2,{next:=2,l:=[some {e:=1,var:=true,fz:=false,sz:=0,cells:=[di 0,di 0,di 0, .d (.v (.slice none 0 0)), .d (.v (.slice none 0 0)), .d (.v (.slice none 0 0))]},none,none,none,none,none,none]}),(3,{next:=2,l:=[some {e:=1,var:=true,fz:=false,sz:=0,cells:=[di t.1,di u.1,di k.1, .own ⟨3,4,1⟩ 0 a.2.2.1.length, .d (.v (.slice none 0 0)), .d (.v (.slice none 0 0))]},none,none,none,some {e:=1,var:=false,fz:=false,sz:=3,cells:=(zaF a.2.2.1).map C.d},none,none]}),(4,⟨2,[]⟩),(31,⟨2,[]⟩),(32,⟨2,[]⟩)]⟩)
  (fun a=>a.1≤n.1.toNat∧i64 a.2.1∧a.2.2.1.length=a.1) (fun a=>zc5 (zmI bs) (n.1.toNat - a.1) a.2.1 a.2.2.1) (fun a=>n.1.toNat - a.1) (0,n.2,[],5)
  ((Gh.nilF 3 3 3 rfl).trans (Gh.canon [0,2,3] [4,31,32] [0] zK rfl rfl)) ⟨Nat.zero_le _,hn1,rfl⟩ ?_
 intro⟨i,q,acc,nx⟩ ⟨hi0,hq,ha⟩ hF K hK
 simp only[Nat.sub_zero]at hi0 hq ha hF hK⊢
 rw[←hF]at hy
 refine zw ?_
 refine zaa (fun hlt=> ?_) (fun hge=> ?_)
 ·have hi:i<n.1.toNat:=by simp at hlt;omega
  have hw:=zal hi (by omega)
  have hst:n.1.toNat - i=(n.1.toNat - (i+1))+1:=by omega
  rw[hst,zc5,zmI]at hy
  cases x1:zdF bs q with
  |error x=>
   rw[x1]at hy
   obtain⟨rfl,rfl⟩:=zbC hy
   have hr:=zgB bs q h hq x1
   repeat'(first|refine zq0 ?_|exact zd0|(refine zaa ?_ ?_<;>intro hb)|(refine And.intro ?_ ?_;exact zI)|(refine And.intro ?_ ?_<;>intro hg)|exact zC|fail)
   refine zp (rds bs p) (hr) ?_
   first|refine zs (I @zaW @zaj) ?_|exact zt (I @zaW @zaj)
  |ok c=>
  rw[x1]at hy
  simp only at hy
  have hr1:=zgA bs q h hq x1
  repeat'(first|refine zq0 ?_|exact zd0|(refine zaa ?_ ?_<;>intro hb)|(refine And.intro ?_ ?_;exact zI)|(refine And.intro ?_ ?_<;>intro hg)|exact zC|fail)
  refine zj (hr1) ?_
  cases x2:ziR bs c.2 with
  |error x=>
   rw[x2]at hy
   obtain⟨rfl,rfl⟩:=zbC hy
   have hr:=zec bs _ h (zc6 h x1) x2
   repeat'(first|refine zq0 ?_|exact zd0|(refine zaa ?_ ?_<;>intro hb)|(refine And.intro ?_ ?_;exact zI)|(refine And.intro ?_ ?_<;>intro hg)|exact zC|fail)
   refine zp (rds bs p) (hr) ?_
   first|refine zs (I @zaW @zaj) ?_|exact zt (I @zaW @zaj)
  |ok m=>
  rw[x2]at hy
  simp only at hy
  have hr2:=zfq bs _ h (zc6 h x1) x2
  repeat'(first|refine zq0 ?_|exact zd0|(refine zaa ?_ ?_<;>intro hb)|(refine And.intro ?_ ?_;exact zI)|(refine And.intro ?_ ?_<;>intro hg)|exact zC|fail)
  refine zj (hr2) ?_
  cases x3:ziR bs m.2 with
  |error x=>
   rw[x3]at hy
   obtain⟨rfl,rfl⟩:=zbC hy
   have hr:=zec bs _ h (zcc h x2) x3
   repeat'(first|refine zq0 ?_|exact zd0|(refine zaa ?_ ?_<;>intro hb)|(refine And.intro ?_ ?_;exact zI)|(refine And.intro ?_ ?_<;>intro hg)|exact zC|fail)
   refine zp (rds bs p) (hr) ?_
   first|refine zs (I @zaW @zaj) ?_|exact zt (I @zaW @zaj)
  |ok r=>
  have hr3:=zfq bs _ h (zcc h x2) x3
  have hF2:zc5 (zmI bs) (n.1.toNat - (i+1)) r.2 (acc++[⟨c.1,m.1,r.1⟩])=zc5 (zmI bs) (n.1.toNat - i) q acc:=by rw[hst,zc5,zmI,x1];simp only;rw[x2];simp only;rw[x3]
  repeat'(first|refine zq0 ?_|exact zd0|(refine zaa ?_ ?_<;>intro hb)|(refine And.intro ?_ ?_;exact zI)|(refine And.intro ?_ ?_<;>intro hg)|exact zC|fail)
  refine zj (hr3) ?_
  repeat'(first|refine zq @zai ?_|exact zd @zai|(refine zaa ?_ ?_<;>intro hb)|(refine And.intro ?_ ?_;exact zI)|(refine And.intro ?_ ?_<;>intro hg)|exact zC|fail)
  refine hK _ (i+1,r.2,acc++[⟨c.1,m.1,r.1⟩],nx+3) (Gh.canon [0,2,3] [] [0] (zk (I hw (I @List.length_append.{0} @List.length_singleton.{0}))) rfl (by simp only[List.length_append,List.length_singleton];rw[zdS];rfl)) ⟨hi,zcc h x3,by simp only[List.length_append,List.length_singleton];omega⟩ hF2 (by simp only;omega)
 ·have hi:i=n.1.toNat:=by
   have:¬(i:Int)<n.1:=by simpa using hge
   omega
  rw[hi,Nat.sub_self,zc5]at hy
  simp only at hy
  clear hK hF
  have hpq:=hq
  cases e5:zcX bs q 4 with
  |error x=>
   rw[e5]at hy
   obtain⟨rfl,rfl⟩:=zbC hy
   have hr:=zeu bs _ 4 h hq e5
   repeat'(first|refine zq0 ?_|exact zd0|(refine zaa ?_ ?_<;>intro hb)|(refine And.intro ?_ ?_;exact zI)|(refine And.intro ?_ ?_<;>intro hg)|exact zC|fail)
   refine zp (rds bs p) (hr) ?_
   first|refine zs (I @zaW @zaj) ?_|exact zt (I @zaW @zaj)
  |ok n2=>
  have hr5:=zfr bs _ 4 h hq e5
  obtain⟨hn4,hn5,hn6⟩:=zdD h e5
  rw[e5]at hy
  simp only at hy
  repeat'(first|refine zq0 ?_|exact zd0|(refine zaa ?_ ?_<;>intro hb)|(refine And.intro ?_ ?_;exact zI)|(refine And.intro ?_ ?_<;>intro hg)|exact zC|fail)
  refine zj (hr5) ?_
  repeat'(first|refine zq0 ?_|exact zd0|(refine zaa ?_ ?_<;>intro hb)|(refine And.intro ?_ ?_;exact zI)|(refine And.intro ?_ ?_<;>intro hg)|exact zC|fail)
  refine zam (τ:=Nat×Int×List Lk×Nat) (fun a=>⟨[.one (.ptr ⟨0,0,0⟩ 0),dd, .one (.ptr ⟨2,0,1⟩ 0), .one (.ptr ⟨3,0,1⟩ 0),dd,dd,dd,dd,dd,dd,dd,dd,dd,dd,dd,dd,dd,dd,dd,dd,dd,dd,dd,dd,dd,dd,dd,dd,dd,dd,dd,dd,dd,dd,dd,dd,ai n2.1,ai a.1,dd,dd,dd,dd,dd,dd,dd,dd,dd,dd,dd,dd,dd,dd,dd,dd,dd,dd,dd,dd,dd,dd,dd,dd,dd,dd,dd],[zwU bs a.2.1 a.2.2.2,(2,{next:=2,l:=[some {e:=1,var:=true,fz:=false,sz:=0,cells:=[di 0,di 0,di 0, .d (.v (.slice none 0 0)), .d (.v (.slice none 0 0)), .d (.v (.slice none 0 0))]},none,none,none,none,none,none]}),(3,{next:=2,l:=[some {e:=1,var:=true,fz:=false,sz:=0,cells:=[di t.1,di u.1,di k.1, .own ⟨3,4,1⟩ 0 acc.length, .own ⟨3,5,1⟩ 0 a.2.2.1.length, .d (.v (.slice none 0 0))]},none,none,none,some {e:=1,var:=false,fz:=false,sz:=3,cells:=(zaF acc).map C.d},some {e:=1,var:=false,fz:=false,sz:=4,cells:=(zah a.2.2.1).map C.d},none]}),(4,⟨2,[]⟩),(31,⟨2,[]⟩),(32,⟨2,[]⟩),(42,⟨2,[]⟩),(43,⟨2,[]⟩),(44,⟨2,[]⟩)]⟩)
   (fun a=>a.1≤n2.1.toNat∧i64 a.2.1∧a.2.2.1.length=a.1∧∀k∈a.2.2.1,k.line.length≤3∧k.name.size≤bs.length) (fun a=>zc5 (zg0 bs) (n2.1.toNat - a.1) a.2.1 a.2.2.1) (fun a=>n2.1.toNat - a.1) (0,n2.2,[],nx+1)
   ((Gh.nilF 3 4 4 rfl).trans (Gh.canon [0,2,3] [42,43,44] [0] zK rfl rfl)) ⟨Nat.zero_le _,hn4,rfl,by simp⟩ ?_
  intro⟨j,q2,ls,nx2⟩ ⟨hj0,hq2,hl,hlk⟩ hF K hK
  simp only[Nat.sub_zero]at hj0 hq2 hl hlk hF hK⊢
  rw[←hF]at hy
  refine zw ?_
  refine zaa (fun hlt2=> ?_) (fun hge2=> ?_)
  ·have hj:j<n2.1.toNat:=by simp at hlt2;omega
   have hw:=zal hj (by omega)
   have hst:n2.1.toNat - j=(n2.1.toNat - (j+1))+1:=by omega
   rw[hst,zc5]at hy
   cases x1:zg0 bs q2 with
   |error x=>
    rw[x1]at hy
    obtain⟨rfl,rfl⟩:=zbC hy
    have hr:=zpG bs q2 h hq2 x1
    first|refine zs0 ?_|exact zt0
    refine zej _ _ (zka zak mixed 3 [false,false,false,true,true,true,true,true] (zp1 e) (fun g=> ?_) ?_)
    ·first|refine zs (I @zaW @zaj) ?_|exact zt (I @zaW @zaj)
    ·simp only[zm0,zm1,zhS]
     repeat'(first|refine zq0 ?_|exact zd0|(refine zaa ?_ ?_<;>intro hb)|(refine And.intro ?_ ?_;exact zI)|(refine And.intro ?_ ?_<;>intro hg)|exact zC|fail)
     exact zn (rds bs q) (hr)
   |ok x=>
   have hr1:=zr2 bs q2 h hq2 x1
   obtain⟨g1,g2,g3⟩:=znx h x1
   have hF2:zc5 (zg0 bs) (n2.1.toNat - (j+1)) x.2 (ls++[x.1])=zc5 (zg0 bs) (n2.1.toNat - j) q2 ls:=by rw[hst,zc5,x1]
   repeat'(first|refine zq0 ?_|exact zd0|(refine zaa ?_ ?_<;>intro hb)|(refine And.intro ?_ ?_;exact zI)|(refine And.intro ?_ ?_<;>intro hg)|exact zC|fail)
   refine zj (hr1) ?_
   have htl:(zaw x.1.line).take x.1.line.length=zaw x.1.line:=zhO
   repeat'(first|refine zq (I @zad htl) ?_|exact zd (I @zad htl)|(refine zaa ?_ ?_<;>intro hb)|(refine And.intro ?_ ?_;exact zI)|(refine And.intro ?_ ?_<;>intro hg)|exact zC|fail)
   refine hK _ (j+1,x.2,ls++[x.1],nx2+1) (Gh.canon [0,2,3] [] [0] (zk (I hw (I @List.length_append.{0} @List.length_singleton.{0}))) rfl (by simp only[List.length_append,List.length_singleton];rw[zfp];rfl)) ⟨hj,g1,by simp only[List.length_append,List.length_singleton];omega, ?_⟩ hF2 (by simp only;omega)
   intro k hk
   rcases List.mem_append.1 hk with hk|hk
   ·exact hlk k hk
   ·simp at hk;subst hk;exact⟨g2,g3⟩
  ·have hj:j=n2.1.toNat:=by
    have:¬(j:Int)<n2.1:=by simpa using hge2
    omega
   rw[hj,Nat.sub_self,zc5]at hy
   simp only at hy
   clear hK hF
   cases e6:zcX bs q2 8 with
   |error x=>
    rw[e6]at hy
    obtain⟨rfl,rfl⟩:=zbC hy
    have hr:=zeu bs _ 8 h hq2 e6
    repeat'(first|refine zq0 ?_|exact zd0|(refine zaa ?_ ?_<;>intro hb)|(refine And.intro ?_ ?_;exact zI)|(refine And.intro ?_ ?_<;>intro hg)|exact zC|fail)
    refine zp (rds bs p) (hr) ?_
    first|refine zs (I @zaW @zaj) ?_|exact zt (I @zaW @zaj)
   |ok n3=>
   have hr6:=zfr bs _ 8 h hq2 e6
   obtain⟨hn7,hn8,hn9⟩:=zdD h e6
   rw[e6]at hy
   simp only at hy
   repeat'(first|refine zq0 ?_|exact zd0|(refine zaa ?_ ?_<;>intro hb)|(refine And.intro ?_ ?_;exact zI)|(refine And.intro ?_ ?_<;>intro hg)|exact zC|fail)
   refine zj (hr6) ?_
   repeat'(first|refine zq0 ?_|exact zd0|(refine zaa ?_ ?_<;>intro hb)|(refine And.intro ?_ ?_;exact zI)|(refine And.intro ?_ ?_<;>intro hg)|exact zC|fail)
   refine zam (τ:=Nat×Int×List Memo×Nat) (fun a=>⟨[.one (.ptr ⟨0,0,0⟩ 0),dd, .one (.ptr ⟨2,0,1⟩ 0), .one (.ptr ⟨3,0,1⟩ 0),dd,dd,dd,dd,dd,dd,dd,dd,dd,dd,dd,dd,dd,dd,dd,dd,dd,dd,dd,dd,dd,dd,dd,dd,dd,dd,dd,dd,dd,dd,dd,dd,dd,dd,dd,dd,dd,dd,dd,dd,dd,dd,dd,dd,ai n3.1,ai a.1,dd,dd,dd,dd,dd,dd,dd,dd,dd,dd,dd,dd,dd,dd,dd],[zwU bs a.2.1 a.2.2.2,(2,{next:=2,l:=[some {e:=1,var:=true,fz:=false,sz:=0,cells:=[di 0,di 0,di 0, .d (.v (.slice none 0 0)), .d (.v (.slice none 0 0)), .d (.v (.slice none 0 0))]},none,none,none,none,none,none]}),(3,{next:=2,l:=[some {e:=1,var:=true,fz:=false,sz:=0,cells:=[di t.1,di u.1,di k.1, .own ⟨3,4,1⟩ 0 acc.length, .own ⟨3,5,1⟩ 0 ls.length, .own ⟨3,6,1⟩ 0 a.2.2.1.length]},none,none,none,some {e:=1,var:=false,fz:=false,sz:=3,cells:=(zaF acc).map C.d},some {e:=1,var:=false,fz:=false,sz:=4,cells:=(zah ls).map C.d},some {e:=1,var:=false,fz:=false,sz:=6,cells:=(zaz a.2.2.1).map C.d}]}),(4,⟨2,[]⟩),(31,⟨2,[]⟩),(32,⟨2,[]⟩),(42,⟨2,[]⟩),(43,⟨2,[]⟩),(44,⟨2,[]⟩),(54,⟨2,[]⟩),(55,⟨2,[]⟩),(56,⟨2,[]⟩)]⟩)
    (fun a=>a.1≤n3.1.toNat∧i64 a.2.1∧a.2.2.1.length=a.1∧∀m∈a.2.2.1,zb1 m.reply) (fun a=>zc5 (ziS bs) (n3.1.toNat - a.1) a.2.1 a.2.2.1) (fun a=>n3.1.toNat - a.1) (0,n3.2,[],nx2+1)
    ((Gh.nilF 3 5 6 rfl).trans (Gh.canon [0,2,3] [54,55,56] [0] zK rfl rfl)) ⟨Nat.zero_le _,hn7,rfl,by simp⟩ ?_
   intro⟨m,q3,ms,nx3⟩ ⟨hm0,hq3,hml,hmk⟩ hF K hK
   simp only[Nat.sub_zero]at hm0 hq3 hml hmk hF hK⊢
   rw[←hF]at hy
   refine zw ?_
   refine zaa (fun hlt3=> ?_) (fun hge3=> ?_)
   ·have hm:m<n3.1.toNat:=by simp at hlt3;omega
    have hw:=zal hm (by omega)
    have hst:n3.1.toNat - m=(n3.1.toNat - (m+1))+1:=by omega
    rw[hst,zc5]at hy
    cases x1:ziS bs q3 with
    |error x=>
     rw[x1]at hy
     obtain⟨rfl,rfl⟩:=zbC hy
     have hr:=zpJ bs q3 h hq3 x1
     first|refine zs0 ?_|exact zt0
     refine zej _ _ (zka zak mixed 3 [false,false,false,true,true,true,true,true] (zp1 e) (fun g=> ?_) ?_)
     ·first|refine zs (I @zaW @zaj) ?_|exact zt (I @zaW @zaj)
     ·simp only[zm0,zm1,zhS]
      repeat'(first|refine zq0 ?_|exact zd0|(refine zaa ?_ ?_<;>intro hb)|(refine And.intro ?_ ?_;exact zI)|(refine And.intro ?_ ?_<;>intro hg)|exact zC|fail)
      exact zn (rds bs q) (hr)
    |ok x=>
    have hr1:=zr4 bs q3 h hq3 x1
    obtain⟨g1,g2⟩:=znw h x1
    have hF2:zc5 (ziS bs) (n3.1.toNat - (m+1)) x.2 (ms++[x.1])=zc5 (ziS bs) (n3.1.toNat - m) q3 ms:=by rw[hst,zc5,x1]
    repeat'(first|refine zq0 ?_|exact zd0|(refine zaa ?_ ?_<;>intro hb)|(refine And.intro ?_ ?_;exact zI)|(refine And.intro ?_ ?_<;>intro hg)|exact zC|fail)
    refine zj (hr1) ?_
    repeat'(first|refine zq @zan ?_|exact zd @zan|(refine zaa ?_ ?_<;>intro hb)|(refine And.intro ?_ ?_;exact zI)|(refine And.intro ?_ ?_<;>intro hg)|exact zC|fail)
    refine hK _ (m+1,x.2,ms++[x.1],nx3+1) (Gh.canon [0,2,3] [] [0] (zk (I hw (I @List.length_append.{0} @List.length_singleton.{0}))) rfl (by simp only[List.length_append,List.length_singleton];rw[zds];rfl)) ⟨hm,g1,by simp only[List.length_append,List.length_singleton];omega, ?_⟩ hF2 (by simp only;omega)
    intro k hk
    rcases List.mem_append.1 hk with hk|hk
    ·exact hmk k hk
    ·simp at hk;subst hk;exact g2
   ·have hm:m=n3.1.toNat:=by
     have:¬(m:Int)<n3.1:=by simpa using hge3
     omega
    rw[hm,Nat.sub_self,zc5]at hy
    simp only at hy
    clear hK hF
    have hbl:=h.l
    have hri:=zor ⟨t.1,u.1,k.1,acc,ls,ms⟩ ⟨by simp only;omega,by simp only;omega,by simp only;omega,fun k hk=>⟨by have:=(hlk k hk).1;omega,by have:=(hlk k hk).2;omega⟩,hmk⟩
    cases hR:zfF ⟨t.1,u.1,k.1,acc,ls,ms⟩
    ·rw[hR]at hri hy
     rw[if_neg (by simp)]at hy
     obtain⟨rfl,rfl⟩:=zbC hy
     repeat'(first|refine zq (I @zaW (I @zaj (I @zb4 (I @zas @zbt)))) ?_|exact zd (I @zaW (I @zaj (I @zb4 (I @zas @zbt))))|refine zc (hri) ?_|refine zg (hri) ?_|(refine zaa ?_ ?_<;>intro hb)|(refine And.intro ?_ ?_;exact zI)|(refine And.intro ?_ ?_<;>intro hg)|exact zC|fail)
    ·rw[hR]at hri hy
     rw[if_pos rfl]at hy
     obtain⟨rfl,rfl⟩:=zqk hy
     repeat'(first|refine zq (I @zkb (I @zb4 (I @zas @zbt))) ?_|exact zd (I @zkb (I @zb4 (I @zas @zbt)))|refine zc (hri) ?_|refine zg (hri) ?_|(refine zaa ?_ ?_<;>intro hb)|(refine And.intro ?_ ?_;exact zI)|(refine And.intro ?_ ?_<;>intro hg)|exact zC|fail)
     rfl
abbrev zp0:Value:= .slice none 0 0
def szS (k:Nat):Nat:=if k=4 then 6 else 1
def nwS (x:Value) (k:Nat):List Value:=if k=4 then [.int .i64 0, .int .i64 0, .int .i64 0,zp0,zp0,zp0]else if k=5 then [.int .i64 0]else [codeOf x]
theorem zzn {l:List Value} (h:l.length=6):∃a b c d e f,l=[a,b,c,d,e,f]:=by
 match l,h with
 |[a,b,c,d,e,f],_=>exact⟨a,b,c,d,e,f,rfl⟩
theorem cellsS {ls:List (List Value)} (h:ls.length=[4,5,6].length) (hs:∀(i k:Nat) (l:List Value),[4,5,6][i]? =some k→ls[i]? =some l→l.length=szS k):∃a b c d e f g i,ls=[[a,b,c,d,e,f],[g],[i]]:=by
 match ls,h with
 |[x,y,z],_=>
  obtain⟨a,b,c,d,e,f,rfl⟩:=zzn (hs 0 4 x rfl rfl)
  obtain⟨g,rfl⟩:=zwN (hs 1 5 y rfl rfl)
  obtain⟨i,rfl⟩:=zwN (hs 2 6 z rfl rfl)
  exact⟨a,b,c,d,e,f,g,i,rfl⟩
theorem ztN:(Tryz.prog.info? 83).bind (·.zero)=some (.agg #[.int .i64 0]):=by kernel_rfl
theorem znv:zi7 Tryz.prog 38 [4,5,6] szS nwS (zk3 83):=by
 refine zf4 zak mixed (T:=Ty) Tryz.func38 rfl rfl Tryz.ntmps38 rfl rfl rfl rfl rfl rfl rfl (by decide) (by decide) (by decide) ?_
 rintro x ⟨n,rfl⟩ ls hl hs
 obtain⟨a,b,c,d,e,f,g,i,rfl⟩:=cellsS hl hs
 refine⟨.tuple #[.agg #[.int .i64 n], .bool true], .tup [.agg [di n],ab true], ?_, ?_,rfl, ?_⟩
 ·intro w
  simp[Instr.typeAssert,Tryz.underlying83]
 ·intro cx w r β
  simp[ReA,ReAs,ReC,ReCs,Rd,flat]
 ·simp only[zbq,plainO,List.map_cons,List.map_nil]
  first|refine zs0 ?_|exact zt0
  repeat'(first|refine zq0 ?_|exact zd0|(refine zaa ?_ ?_<;>intro hb)|(refine And.intro ?_ ?_;exact zI)|(refine And.intro ?_ ?_<;>intro hg)|exact zC|fail)
  rfl
theorem zpF:zoW Tryz.prog 38 3:=by
 refine zee zak mixed (T:=Ty) Tryz.func38 rfl rfl Tryz.ntmps38 rfl rfl rfl rfl rfl rfl rfl (by decide) (y7:= .tuple #[.agg #[.int .i64 0], .bool false]) (V7:= .tup [.agg [di 0],ab false]) ?_ ?_ (by decide) rfl ?_
 ·intro w
  simp[Instr.typeAssert,Tryz.underlying83,zk4 ztN w]
 ·intro cx w r β
  simp[ReA,ReAs,ReC,ReCs,Rd,flat]
 ·simp only[List.replicate]
  first|refine zs0 ?_|exact zt0
  repeat'(first|refine zq0 ?_|exact zd0|(refine zaa ?_ ?_<;>intro hb)|(refine And.intro ?_ ?_;exact zI)|(refine And.intro ?_ ?_<;>intro hg)|exact zC|fail)
def dSt (bs:List Int) (p:Int):St×Int×Int:=match zgy bs p with
 | .ok y=>(y.1,y.2,0)
 | .error e=>(st0,0,e)
theorem zjK (bs:List Int) (p:Int) (h:BsOk bs) (hp:i64 p):
  CallOK Tryz.prog 16 [.f (asl bs.length (zao bs)), .f (ai p)] (fun r o=>r=[zpZ (dSt bs p).1,ri (dSt bs p).2.1,ri (dSt bs p).2.2]∧o=[]):=by
 refine CallOK.nil ?_
 refine zbE zak mixed (T:=Ty) Tryz.func16 rfl Tryz.results16 Tryz.ntmps16 Tryz.call16 Tryz.call38 (ks:=[4,5,6]) rfl rfl rfl rfl rfl rfl (by decide) (by decide)
  (xs:=[asl bs.length (zao bs),ai p]) (sz:=szS) (nw:=nwS) zpF znv ⟨[asl bs.length (zao bs),ai p,dd,dd, .one (.ptr ⟨4,0,0⟩ 0), .one (.ptr ⟨5,0,0⟩ 0), .one (.ptr ⟨6,0,0⟩ 0),dd,dd,dd,dd,dd,dd,dd,dd,dd,dd,dd,dd,dd],[(4,{next:=1,l:=[some {e:=0,var:=true,fz:=false,sz:=0,cells:=[di 0,di 0,di 0, .d (.v zp0), .d (.v zp0), .d (.v zp0)]},none,none,none,none,none,none]}),(5,{next:=1,l:=[some {e:=0,var:=true,fz:=false,sz:=0,cells:=[di 0]},none]}),(6,{next:=1,l:=[some {e:=0,var:=true,fz:=false,sz:=0,cells:=[di 0]},none]})]⟩ ?_ ?_ rfl ?_
 ·simp only[List.map_cons,List.map_nil]
  repeat'(first|refine zq0 ?_|exact zd0|(refine zaa ?_ ?_<;>intro hb)|(refine And.intro ?_ ?_;exact zI)|(refine And.intro ?_ ?_<;>intro hg)|exact zC|fail)
  exact fun _ _ _ h=>h
 ·exact⟨⟨_,rfl,rfl,rfl,rfl,rfl⟩,⟨_,rfl,rfl,rfl,rfl,rfl⟩,⟨_,rfl,rfl,rfl,rfl,rfl⟩,trivial⟩
 ·unfold dSt
  cases hs:zgy bs p with
  |ok y=>
   have hr:=(zhf bs p h hp true y 0 hs).1 rfl
   repeat'(first|refine zq0 ?_|exact zd0|(refine zaa ?_ ?_<;>intro hb)|(refine And.intro ?_ ?_;exact zI)|(refine And.intro ?_ ?_<;>intro hg)|exact zC|fail)
   refine zj (hr) ?_
   repeat'(first|(with_reducible first|refine za0 4 ?_|refine zaN 4 ?_|refine zaO 4 ?_)|refine zu0 ?_|exact zd0|(with_reducible first|refine zab _ _ ?_)|(refine zaa ?_ ?_<;>intro hb)|(refine And.intro ?_ ?_;exact zI)|(refine And.intro ?_ ?_<;>intro hg)|exact zC|fail)
   refine zaZ (zaQ (Gh.sealF 4 3 (.own ⟨4,4,4⟩ 0 y.1.sess.length) ?_) ?_)
   ·exact zo @zb4
   refine zf @zb4 ?_
   refine zaQ (Gh.sealF 4 4 (.own ⟨4,5,5⟩ 0 y.1.locks.length) ?_) ?_
   ·exact zo @zas
   refine zf @zas ?_
   refine zaQ (Gh.sealF 4 5 (.own ⟨4,6,6⟩ 0 y.1.memos.length) ?_) ?_
   ·exact zo @zbt
   refine zf @zbt ?_
   repeat'(first|refine zq @zeh ?_|exact zd @zeh|(refine zaa ?_ ?_<;>intro hb)|(refine And.intro ?_ ?_;exact zI)|(refine And.intro ?_ ?_<;>intro hg)|exact zC|fail)
   simp[zbw,zex,zbu,zaA]
  |error e=>
   have hr:=(zhf bs p h hp false (st0,0) e hs).2 rfl
   repeat'(first|refine zq0 ?_|exact zd0|(refine zaa ?_ ?_<;>intro hb)|(refine And.intro ?_ ?_;exact zI)|(refine And.intro ?_ ?_<;>intro hg)|exact zC|fail)
   refine zp (rds bs p) (hr) ?_
   simp only[zci,zcj,zch,zc1]
   refine⟨⟨_,rfl⟩,rfl,⟨⟨_,rfl,rfl,rfl,rfl,rfl⟩,⟨_,rfl,rfl,rfl,rfl,rfl⟩,⟨_,rfl,rfl,rfl,rfl,rfl⟩,trivial⟩, ?_⟩
   rw[show zm3 20 [4,5,6] (nwS (zfH 83 e))=⟨[dd,dd,dd,dd, .one (.ptr ⟨4,0,0⟩ 0), .one (.ptr ⟨5,0,0⟩ 0), .one (.ptr ⟨6,0,0⟩ 0),dd,dd,dd,dd,dd,dd,dd,dd,dd,dd,dd,dd,dd],[(4,{next:=1,l:=[some {e:=0,var:=true,fz:=false,sz:=0,cells:=[di 0,di 0,di 0, .d (.v zp0), .d (.v zp0), .d (.v zp0)]}]}),(5,{next:=1,l:=[some {e:=0,var:=true,fz:=false,sz:=0,cells:=[di 0]}]}),(6,{next:=1,l:=[some {e:=0,var:=true,fz:=false,sz:=0,cells:=[di e]}]})]⟩ from rfl]
   first|refine zs0 ?_|exact zt0
   simp[zbw,zex,zbu,zaA,st0]
structure Sn where
 done:Int
 view:Int
 slot:Int
 st:St
abbrev Sn.lent (s:Sn):List C:=di s.done::di s.view::di s.slot::s.st.lent
abbrev zzr (s:Sn):RF:= .agg (.d (iD s.done):: .d (iD s.view):: .d (iD s.slot)::(stE s.st).map RO.d)
def ztM (s:Sn):Bool:=within s.done&&(within s.view&&(within s.slot&&zfF s.st))
def snI (s:Sn):List Int:=zcp s.done++(zcp s.view++(zcp s.slot++zb6 s.st))
def szG (k:Nat):Nat:=if k=4 then 9 else 1
def nwG (x:Value) (k:Nat):List Value:=if k=4 then [.int .i64 0, .int .i64 0, .int .i64 0, .int .i64 0, .int .i64 0, .int .i64 0,zp0,zp0,zp0]else if k=5 then [.int .i64 0]else [codeOf x]
def zw9 (bs:List Int) (p:Int):Rr Sn:=match ziR bs p with
 | .error e=> .error e
 | .ok d=>match ziR bs d.2 with
  | .error e=> .error e
  | .ok v=>match ziR bs v.2 with
   | .error e=> .error e
   | .ok l=>match zgy bs l.2 with
    | .error e=> .error e
    | .ok s=>if ztM ⟨d.1,v.1,l.1,s.1⟩=true then .ok (⟨d.1,v.1,l.1,s.1⟩,s.2)else .error 4
abbrev sn0:Sn:=⟨0,0,0,st0⟩
def dSn (bs:List Int) (p:Int):Sn×Int×Int:=match zw9 bs p with
 | .ok y=>(y.1,y.2,0)
 | .error e=>(sn0,0,e)
theorem zoG {α:Type} {a:α} {q:Int}:rOf (a,q,0)= .ok (a,q):=rfl
theorem zgY {bs:List Int} {p:Nat} {v:Int} {rest:List Int} (h:bs.drop p=zcp v++rest) (hv:0≤v∧v<4611686018427387904):ziR bs p= .ok (v,((p+8:Nat):Int)):=by rw[ziR,zk1 h hv,zoG]
theorem zhI {bs:List Int} {p:Nat} {x:Int} {rest:List Int} (h:bs.drop p=[x]++rest):zdF bs p= .ok (x,((p+1:Nat):Int)):=by rw[zdF,zgD h,zoG]
theorem ztI {bs:List Int} {p:Nat} {s:ByteArray} {rest:List Int} (h:bs.drop p=zeC s++rest) (hs:s.size≤12):zkZ bs p= .ok (s,((p+(1+s.size):Nat):Int)):=by rw[zkZ,zoM h (by omega),zoG]
theorem ztJ {bs:List Int} {p:Nat} {m:Memo} {rest:List Int} (h:bs.drop p=zbm m++rest) (hm:answerB m=true):ziS bs p= .ok (m,((p+(zbm m).length:Nat):Int)):=by rw[ziS,zpP h hm,zoG]
theorem zgw {bs:List Int} {p:Nat} {x most:Int} {rest:List Int} (h:bs.drop p=[x]++rest) (hx:x≤most):zcX bs p most= .ok (x,((p+1:Nat):Int)):=by
 rw[zcX,zhI h]
 simp only
 rw[if_neg (by omega)]
theorem zgx {α:Type} {bs:List Int} {f:Int→Rr α} {enc:α→List Int}:∀{l:List α} {p:Nat} {acc:List α} {rest:List Int},(∀x∈l,∀(p:Nat) (rest:List Int),bs.drop p=enc x++rest→f p= .ok (x,((p+(enc x).length:Nat):Int)))→
  bs.drop p=l.flatMap enc++rest→zc5 f l.length p acc= .ok (acc++l,((p+(l.flatMap enc).length:Nat):Int))
 |[],p,acc,rest,_,_=>by simp[zc5]
 |x::l,p,acc,rest,hf,h=>by
  rw[List.flatMap_cons,List.append_assoc]at h
  rw[List.length_cons,zc5,hf x (by simp) p _ h]
  simp only
  rw[zgx (fun y hy=>hf y (by simp[hy])) (zaT h)]
  simp[Nat.add_assoc]
theorem ztK {bs:List Int} {p:Nat} {x:Sess} {rest:List Int} (h:bs.drop p=zhq x++rest) (h1:0≤x.num∧x.num<4611686018427387904) (h2:0≤x.renewed∧x.renewed<4611686018427387904):
  zmI bs p= .ok (x,((p+(zhq x).length:Nat):Int)):=by
 have h:bs.drop p=[x.client]++(zcp x.num++(zcp x.renewed++rest)):=by rw[h];simp[zhq]
 have g1:=zaT h
 have g2:=zaT g1
 rw[zmI,zhI h]
 simp only
 rw[List.length_singleton]at g1
 rw[zgY g1 h1]
 simp only
 rw[zby,List.length_singleton]at g2
 rw[zgY g2 h2,zmK]
theorem zjJ {bs:List Int}:∀{n:Nat} {p:Int} {acc:List Int},zgZ bs n p acc=zc5 (zdF bs) n p acc
 |0,_,_=>rfl
 |n+1,p,acc=>by
  rw[zgZ,zc5]
  cases zdF bs p with
  |error e=>rfl
  |ok x=>exact zjJ
theorem ziA (l:List Int):(l.flatMap fun x=>[x])=l:=by induction l<;>simp_all
theorem ztL {bs:List Int} {p:Nat} {k:Lk} {rest:List Int} (h:bs.drop p=zg2 k++rest) (h1:k.name.size≤12) (h2:0≤k.token∧k.token<4611686018427387904) (h3:k.line.length≤3):
  zg0 bs p= .ok (k,((p+(zg2 k).length:Nat):Int)):=by
 have h:bs.drop p=zeC k.name++([k.holder]++(zcp k.token++([(k.line.length:Int)]++((k.line.flatMap fun x=>[x])++rest)))):=by rw[h,ziA];simp[zg2,lk0]
 have g1:=zaT h
 have g2:=zaT g1
 have g3:=zaT g2
 have g4:=zaT g3
 rw[zcP]at g1 g2 g3 g4
 rw[List.length_singleton]at g2 g3 g4
 rw[zby]at g3 g4
 rw[List.length_singleton]at g4
 rw[zg0,ztI h h1]
 simp only
 rw[zhI g1]
 simp only
 rw[zgY g2 h2]
 simp only
 rw[zgw g3 (by omega)]
 simp only
 rw[zjJ,Int.toNat_natCast,zgx (enc:=fun x=>[x]) (fun x _ p rest h=>zhI h) g4]
 simp only[List.nil_append,ziA]
 rw[zg2,List.length_append,znz]
 congr 3
 omega
theorem zmH {bs:List Int} {p:Nat} {s:St} {rest:List Int} (h:bs.drop p=zb6 s++rest) (hr:RightS s):zgy bs p= .ok (s,((p+(zb6 s).length:Nat):Int)):=by
 have hH:zbg=2305843009213693952:=rfl
 have ht:=hr.time
 have hn:=hr.num
 have hk:=hr.token
 have hl1:=hr.sl
 have hl2:=hr.ll
 have hl3:=zhJ hr
 have h:bs.drop p=zcp s.time++(zcp s.num++(zcp s.token++([(s.sess.length:Int)]++(s.sess.flatMap zhq++([(s.locks.length:Int)]++(s.locks.flatMap zg2++([(s.memos.length:Int)]++(s.memos.flatMap zbm++rest)))))))):=by
  rw[h];simp[zb6,sb3,sb2,sb1,ziT]
 have g1:=zaT h
 have g2:=zaT g1
 have g3:=zaT g2
 have g4:=zaT g3
 have g5:=zaT g4
 have g6:=zaT g5
 have g7:=zaT g6
 have g8:=zaT g7
 rw[zby]at g1 g2 g3 g4 g5 g6 g7 g8
 rw[zby]at g2 g3 g4 g5 g6 g7 g8
 rw[zby]at g3 g4 g5 g6 g7 g8
 rw[List.length_singleton]at g4 g5 g6 g7 g8
 rw[List.length_singleton]at g6 g7 g8
 rw[List.length_singleton]at g8
 rw[zgy,zgY h (by omega)]
 simp only
 rw[zgY g1 (by omega)]
 simp only
 rw[zgY g2 (by omega)]
 simp only
 rw[zgw g3 (by omega)]
 simp only
 rw[Int.toNat_natCast,zgx (enc:=zhq) (fun x hx p rest h=>by
  obtain⟨_,f2,f3⟩:=zbU.1 (hr.sok x hx).1
  exact ztK h (by omega) (by omega)) g4]
 simp only
 rw[zgw g5 (by omega)]
 simp only
 rw[Int.toNat_natCast,zgx (enc:=zg2) (fun x hx p rest h=>by
  obtain⟨q0,q1,q2,q3,q4,q5⟩:=zft hr hx
  exact ztL h q1 q3 q4) g6]
 simp only
 rw[zgw g7 (by omega)]
 simp only
 rw[Int.toNat_natCast,zgx (enc:=zbm) (fun x hx p rest h=>ztJ h (hr.mok x hx)) g8]
 simp only[List.nil_append]
 rw[if_pos (zgS.2 hr)]
 congr 3
 simp only[zb6,sb3,sb2,sb1,ziT,List.length_append,List.take_length,zby,List.length_singleton]
 omega
theorem znG {α:Type} [BEq α] [LawfulBEq α] {a:α}:(a !=a)=false:=by simp
theorem znH (a:List Grant) (ha:a.length<2^30):CallOK Tryz.prog 68 [.f (al a.length (zaD a)), .f (al a.length (zaD a))] (fun r o=>r=[rb true]∧o=[]):=by
 refine zac zak mixed (T:=Ty) (n:=26) Tryz.func68 (c:=Tryz.f68.body.getD .skip) rfl Tryz.results68 Tryz.ntmps68 Tryz.call68 ?_
 simp only[Tryz.f68,Option.getD]
 have hl:((a.length:Int) !=(a.length:Int))=false:=znG
 repeat'(first|refine zq hl ?_|exact zd hl|(refine zaa ?_ ?_<;>intro hb)|(refine And.intro ?_ ?_;exact zI)|(refine And.intro ?_ ?_<;>intro hg)|exact zC|fail)
 refine zam (τ:=Nat) (fun i=>⟨[al a.length (zaD a),al a.length (zaD a),dd,dd,dd,ai i,dd,dd,dd,dd,dd,dd,dd,dd,dd,dd,dd,dd,dd,dd,dd,dd,dd,dd,dd,dd],[]⟩)
  (fun i=>i≤a.length) (fun i=>()) (fun i=>a.length - i) 0
  (Gh.canon [] [] [] zK rfl rfl) (Nat.zero_le _) ?_
 intro i hi0 hF K hK
 refine zw ?_
 refine zaa (fun hlt=> ?_) (fun hge=> ?_)
 ·have hi:i<a.length:=by simpa using hlt
  have hat:=zb3 hi
  have hw:=zal hi (by omega)
  have hlb:decide ((i:Int)<a.length)=true:=by simp;omega
  repeat'(first|refine zq (I hat (I hlb (I @znG (I @beq_self_eq_true.{0} (I @Bool.not_true (I @Bool.and_self (I @zaC zca))))))) ?_|exact zd (I hat (I hlb (I @znG (I @beq_self_eq_true.{0} (I @Bool.not_true (I @Bool.and_self (I @zaC zca)))))))|(refine zaa ?_ ?_<;>intro hb)|(refine And.intro ?_ ?_;exact zI)|(refine And.intro ?_ ?_<;>intro hg)|exact zC|fail)
  exact hK _ (i+1) (Gh.canon [] [] [] (zk hw) rfl rfl) hi rfl (by omega)
 ·have hi:i=a.length:=by
   have:¬(i:Int)<a.length:=by simpa using hge
   omega
  repeat'(first|refine zq0 ?_|exact zd0|(refine zaa ?_ ?_<;>intro hb)|(refine And.intro ?_ ?_;exact zI)|(refine And.intro ?_ ?_<;>intro hg)|exact zC|fail)
theorem zpY (r:Reply) (h:r.held.length<2^30):CallOK Tryz.prog 29 [.f (.agg r.lent), .f (.agg r.lent)] (fun x o=>x=[rb true]∧o=[]):=by
 refine zac zak mixed (T:=Ty) (n:=31) Tryz.func29 (c:=Tryz.f29.body.getD .skip) rfl Tryz.results29 Tryz.ntmps29 Tryz.call29 ?_
 simp only[Tryz.f29,Option.getD]
 have hg:=znH r.held h
 repeat'(first|refine zq @beq_self_eq_true.{0} ?_|exact zd @beq_self_eq_true.{0}|refine zc (hg) ?_|refine zg (hg) ?_|(refine zaa ?_ ?_<;>intro hb)|(refine And.intro ?_ ?_;exact zI)|(refine And.intro ?_ ?_<;>intro hg)|exact zC|fail)
end Go.Proofs.YtbpmcjeeeiffhaaGreat
