import Derived.Test.YtbpmcjeeeiffhaaGreatM3
namespace Go.Proofs.YtbpmcjeeeiffhaaGreat
open Go.Pk
set_option maxRecDepth 100000
set_option linter.unusedSimpArgs false
set_option linter.unusedVariables false
def zhW (bs:List Int) (p:Int):Rr Sess:=match zdi bs p with
 | .error e=> .error e
 | .ok c=>match zef bs c.2 with
  | .error e=> .error e
  | .ok n=>match zef bs n.2 with
   | .error e=> .error e
   | .ok r=> .ok (⟨c.1,n.1,r.1⟩,r.2)
def zcg {α:Type} (f:Int→Rr α):Nat→Int→List α→Rr (List α)
 |0,p,acc=> .ok (acc,p)
 |n+1,p,acc=>match f p with
  | .error e=> .error e
  | .ok x=>zcg f n x.2 (acc++[x.1])
def zdo (bs:List Int) (p:Int):Rr St:=match zef bs p with
 | .error e=> .error e
 | .ok t=>match zef bs t.2 with
  | .error e=> .error e
  | .ok u=>match zef bs u.2 with
   | .error e=> .error e
   | .ok k=>match zb3 bs k.2 5 with
    | .error e=> .error e
    | .ok n=>match zcg (zhW bs) n.1.toNat n.2 []with
     | .error e=> .error e
     | .ok ss=>match zb3 bs ss.2 4 with
      | .error e=> .error e
      | .ok n2=>match zcg (zfu bs) n2.1.toNat n2.2 []with
       | .error e=> .error e
       | .ok ls=>match zb3 bs ls.2 8 with
        | .error e=> .error e
        | .ok n3=>match zcg (zhb bs) n3.1.toNat n3.2 []with
         | .error e=> .error e
         | .ok ms=>if zb2 ⟨t.1,u.1,k.1,ss.1,ls.1,ms.1⟩=true then .ok (⟨t.1,u.1,k.1,ss.1,ls.1,ms.1⟩,ms.2)else .error 4
theorem znH {bs:List Int} (h:BsOk bs) {p:Int} {y:Memo×Int} (hy:zhb bs p= .ok y):i64 y.2∧zbG y.1.reply:=by
 obtain⟨h0,rfl⟩:=zge hy
 simp only
 unfold za0 at h0⊢
 simp only at h0⊢
 split at h0
 ·rename_i h1;exact absurd h0 h1
 rename_i h1
 rw[if_neg h1]
 split at h0
 ·rename_i h2;exact absurd h0 h2
 rename_i h2
 rw[if_neg h2]
 split at h0
 ·rename_i h3;exact absurd h0 h3
 rename_i h3
 rw[if_neg h3]
 split at h0
 ·exact absurd h0 (by decide)
 rename_i h4
 rw[if_neg h4]
 obtain⟨g1,g2⟩:=zdq h (p:=(zc8 bs (zaY bs p).2.1).2.1)
 exact⟨zcn h.l g1,g2⟩
set_option maxHeartbeats 4000000 in
theorem zd8 (bs:List Int) (p:Int) (h:BsOk bs) (hp:i64 p) (b:Bool) (y:St×Int) (e:Int) (hy:zxk b y e (zdo bs p)):
  (b=true→CallOK Tryz.prog 39 [.obj (rds bs p)] (fun r o=>r=[y.1.rf]∧o=[rds bs y.2]))∧(b=false→zcB Tryz.prog 39 [.obj (rds bs p)] (zqa e)):=by
 refine zn6 zao mixed (T:=Ty) (n:=65) Tryz.func39 (c:=Tryz.f39.body.getD .skip) rfl Tryz.results39 Tryz.ntmps39 Tryz.call39 ?_
 simp only[Tryz.f39,Option.getD]
 unfold zdo at hy
 cases e1:zef bs p with
 |error x=>
  rw[e1]at hy
  obtain⟨rfl,rfl⟩:=zbL hy
  have hr:=zc3 bs p h hp e1
  repeat'(first|refine zq0 ?_|exact zd0|(refine zaa ?_ ?_<;>intro hb)|(refine And.intro ?_ ?_;exact zI)|(refine And.intro ?_ ?_<;>intro hg)|exact zC|fail)
  refine zp (rds bs p) (hr) ?_
  first|refine zs (I @zaW @zal) ?_|exact zt (I @zaW @zal)
 |ok t=>
 have he1:=zdG bs p h hp e1
 rw[e1]at hy
 simp only at hy
 repeat'(first|refine zq0 ?_|exact zd0|(refine zaa ?_ ?_<;>intro hb)|(refine And.intro ?_ ?_;exact zI)|(refine And.intro ?_ ?_<;>intro hg)|exact zC|fail)
 refine zj (he1) ?_
 cases e2:zef bs t.2 with
 |error x=>
  rw[e2]at hy
  obtain⟨rfl,rfl⟩:=zbL hy
  have hr:=zc3 bs _ h (zbg h e1) e2
  repeat'(first|refine zq0 ?_|exact zd0|(refine zaa ?_ ?_<;>intro hb)|(refine And.intro ?_ ?_;exact zI)|(refine And.intro ?_ ?_<;>intro hg)|exact zC|fail)
  refine zp (rds bs p) (hr) ?_
  first|refine zs (I @zaW @zal) ?_|exact zt (I @zaW @zal)
 |ok u=>
 have he2:=zdG bs _ h (zbg h e1) e2
 rw[e2]at hy
 simp only at hy
 repeat'(first|refine zq0 ?_|exact zd0|(refine zaa ?_ ?_<;>intro hb)|(refine And.intro ?_ ?_;exact zI)|(refine And.intro ?_ ?_<;>intro hg)|exact zC|fail)
 refine zj (he2) ?_
 cases e3:zef bs u.2 with
 |error x=>
  rw[e3]at hy
  obtain⟨rfl,rfl⟩:=zbL hy
  have hr:=zc3 bs _ h (zbg h e2) e3
  repeat'(first|refine zq0 ?_|exact zd0|(refine zaa ?_ ?_<;>intro hb)|(refine And.intro ?_ ?_;exact zI)|(refine And.intro ?_ ?_<;>intro hg)|exact zC|fail)
  refine zp (rds bs p) (hr) ?_
  first|refine zs (I @zaW @zal) ?_|exact zt (I @zaW @zal)
 |ok k=>
 have he3:=zdG bs _ h (zbg h e2) e3
 rw[e3]at hy
 simp only at hy
 repeat'(first|refine zq0 ?_|exact zd0|(refine zaa ?_ ?_<;>intro hb)|(refine And.intro ?_ ?_;exact zI)|(refine And.intro ?_ ?_<;>intro hg)|exact zC|fail)
 refine zj (he3) ?_
 cases e4:zb3 bs k.2 5 with
 |error x=>
  rw[e4]at hy
  obtain⟨rfl,rfl⟩:=zbL hy
  have hr:=zeQ bs _ 5 h (zbg h e3) e4
  repeat'(first|refine zq0 ?_|exact zd0|(refine zaa ?_ ?_<;>intro hb)|(refine And.intro ?_ ?_;exact zI)|(refine And.intro ?_ ?_<;>intro hg)|exact zC|fail)
  refine zp (rds bs p) (hr) ?_
  first|refine zs (I @zaW @zal) ?_|exact zt (I @zaW @zal)
 |ok n=>
 have he4:=zfU bs _ 5 h (zbg h e3) e4
 rw[e4]at hy
 simp only at hy
 repeat'(first|refine zq0 ?_|exact zd0|(refine zaa ?_ ?_<;>intro hb)|(refine And.intro ?_ ?_;exact zI)|(refine And.intro ?_ ?_<;>intro hg)|exact zC|fail)
 refine zj (he4) ?_
 obtain⟨hn1,hn2,hn3⟩:=zdY h e4
 repeat'(first|refine zq0 ?_|exact zd0|(refine zaa ?_ ?_<;>intro hb)|(refine And.intro ?_ ?_;exact zI)|(refine And.intro ?_ ?_<;>intro hg)|exact zC|fail)
 refine zai (τ:=Nat×Int×List Sess×Nat) (fun a=>⟨[.one (.ptr ⟨0,0,0⟩ 0),dd, .one (.ptr ⟨2,0,1⟩ 0), .one (.ptr ⟨3,0,1⟩ 0),dd,dd,dd,dd,dd,dd,dd,dd,dd,dd,dd,dd,ai n.1,ai a.1,dd,dd,dd,dd,dd,dd,dd,dd,dd,dd,dd,dd,dd,dd,dd,dd,dd,dd,dd,dd,dd,dd,dd,dd,dd,dd,dd,dd,dd,dd,dd,dd,dd,dd,dd,dd,dd,dd,dd,dd,dd,dd,dd,dd,dd,dd,dd],[zxn bs a.2.1 a.2.2.2,(2,{next:=2,l:=[some {e:=1,var:=true,fz:=false,sz:=0,cells:=[di 0,di 0,di 0, .d (.v (.slice none 0 0)), .d (.v (.slice none 0 0)), .d (.v (.slice none 0 0))]},none,none,none,none,none,none]}),(3,{next:=2,l:=[some {e:=1,var:=true,fz:=false,sz:=0,cells:=[di t.1,di u.1,di k.1, .own ⟨3,4,1⟩ 0 a.2.2.1.length, .d (.v (.slice none 0 0)), .d (.v (.slice none 0 0))]},none,none,none,some {e:=1,var:=false,fz:=false,sz:=3,cells:=(zaK a.2.2.1).map C.d},none,none]}),(4,⟨2,[]⟩),(31,⟨2,[]⟩),(32,⟨2,[]⟩)]⟩)
  (fun a=>a.1≤n.1.toNat∧i64 a.2.1∧a.2.2.1.length=a.1) (fun a=>zcg (zhW bs) (n.1.toNat - a.1) a.2.1 a.2.2.1) (fun a=>n.1.toNat - a.1) (0,n.2,[],5)
  ((Gh.nilF 3 3 3 rfl).trans (Gh.canon [0,2,3] [4,31,32] [0] zK rfl rfl)) ⟨Nat.zero_le _,hn1,rfl⟩ ?_
 intro⟨i,q,acc,nx⟩ ⟨hi0,hq,ha⟩ hF K hK
 simp only[Nat.sub_zero]at hi0 hq ha hF hK⊢
 rw[←hF]at hy
 refine zw ?_
 refine zaa (fun hlt=> ?_) (fun hge=> ?_)
 ·have hi:i<n.1.toNat:=by simp at hlt;omega
  have hw:=zak hi (by omega)
  have hst:n.1.toNat - i=(n.1.toNat - (i+1))+1:=by omega
  rw[hst,zcg,zhW]at hy
  cases x1:zdi bs q with
  |error x=>
   rw[x1]at hy
   obtain⟨rfl,rfl⟩:=zbL hy
   have hr:=zhe bs q h hq x1
   repeat'(first|refine zq0 ?_|exact zd0|(refine zaa ?_ ?_<;>intro hb)|(refine And.intro ?_ ?_;exact zI)|(refine And.intro ?_ ?_<;>intro hg)|exact zC|fail)
   refine zp (rds bs p) (hr) ?_
   first|refine zs (I @zaW @zal) ?_|exact zt (I @zaW @zal)
  |ok c=>
  rw[x1]at hy
  simp only at hy
  have hr1:=zhd bs q h hq x1
  repeat'(first|refine zq0 ?_|exact zd0|(refine zaa ?_ ?_<;>intro hb)|(refine And.intro ?_ ?_;exact zI)|(refine And.intro ?_ ?_<;>intro hg)|exact zC|fail)
  refine zj (hr1) ?_
  cases x2:zef bs c.2 with
  |error x=>
   rw[x2]at hy
   obtain⟨rfl,rfl⟩:=zbL hy
   have hr:=zc3 bs _ h (zdh h x1) x2
   repeat'(first|refine zq0 ?_|exact zd0|(refine zaa ?_ ?_<;>intro hb)|(refine And.intro ?_ ?_;exact zI)|(refine And.intro ?_ ?_<;>intro hg)|exact zC|fail)
   refine zp (rds bs p) (hr) ?_
   first|refine zs (I @zaW @zal) ?_|exact zt (I @zaW @zal)
  |ok m=>
  rw[x2]at hy
  simp only at hy
  have hr2:=zdG bs _ h (zdh h x1) x2
  repeat'(first|refine zq0 ?_|exact zd0|(refine zaa ?_ ?_<;>intro hb)|(refine And.intro ?_ ?_;exact zI)|(refine And.intro ?_ ?_<;>intro hg)|exact zC|fail)
  refine zj (hr2) ?_
  cases x3:zef bs m.2 with
  |error x=>
   rw[x3]at hy
   obtain⟨rfl,rfl⟩:=zbL hy
   have hr:=zc3 bs _ h (zbg h x2) x3
   repeat'(first|refine zq0 ?_|exact zd0|(refine zaa ?_ ?_<;>intro hb)|(refine And.intro ?_ ?_;exact zI)|(refine And.intro ?_ ?_<;>intro hg)|exact zC|fail)
   refine zp (rds bs p) (hr) ?_
   first|refine zs (I @zaW @zal) ?_|exact zt (I @zaW @zal)
  |ok r=>
  have hr3:=zdG bs _ h (zbg h x2) x3
  have hF2:zcg (zhW bs) (n.1.toNat - (i+1)) r.2 (acc++[⟨c.1,m.1,r.1⟩])=zcg (zhW bs) (n.1.toNat - i) q acc:=by rw[hst,zcg,zhW,x1];simp only;rw[x2];simp only;rw[x3]
  repeat'(first|refine zq0 ?_|exact zd0|(refine zaa ?_ ?_<;>intro hb)|(refine And.intro ?_ ?_;exact zI)|(refine And.intro ?_ ?_<;>intro hg)|exact zC|fail)
  refine zj (hr3) ?_
  repeat'(first|refine zq @zaq ?_|exact zd @zaq|(refine zaa ?_ ?_<;>intro hb)|(refine And.intro ?_ ?_;exact zI)|(refine And.intro ?_ ?_<;>intro hg)|exact zC|fail)
  refine hK _ (i+1,r.2,acc++[⟨c.1,m.1,r.1⟩],nx+3) (Gh.canon [0,2,3] [] [0] (zk (I hw (I @List.length_append.{0} @List.length_singleton.{0}))) rfl (by simp only[List.length_append,List.length_singleton];rw[zdK];rfl)) ⟨hi,zbg h x3,by simp only[List.length_append,List.length_singleton];omega⟩ hF2 (by simp only;omega)
 ·have hi:i=n.1.toNat:=by
   have:¬(i:Int)<n.1:=by simpa using hge
   omega
  rw[hi,Nat.sub_self,zcg]at hy
  simp only at hy
  clear hK hF
  have hpq:=hq
  cases e5:zb3 bs q 4 with
  |error x=>
   rw[e5]at hy
   obtain⟨rfl,rfl⟩:=zbL hy
   have hr:=zeQ bs _ 4 h hq e5
   repeat'(first|refine zq0 ?_|exact zd0|(refine zaa ?_ ?_<;>intro hb)|(refine And.intro ?_ ?_;exact zI)|(refine And.intro ?_ ?_<;>intro hg)|exact zC|fail)
   refine zp (rds bs p) (hr) ?_
   first|refine zs (I @zaW @zal) ?_|exact zt (I @zaW @zal)
  |ok n2=>
  have hr5:=zfU bs _ 4 h hq e5
  obtain⟨hn4,hn5,hn6⟩:=zdY h e5
  rw[e5]at hy
  simp only at hy
  repeat'(first|refine zq0 ?_|exact zd0|(refine zaa ?_ ?_<;>intro hb)|(refine And.intro ?_ ?_;exact zI)|(refine And.intro ?_ ?_<;>intro hg)|exact zC|fail)
  refine zj (hr5) ?_
  repeat'(first|refine zq0 ?_|exact zd0|(refine zaa ?_ ?_<;>intro hb)|(refine And.intro ?_ ?_;exact zI)|(refine And.intro ?_ ?_<;>intro hg)|exact zC|fail)
  refine zai (τ:=Nat×Int×List Lk×Nat) (fun a=>⟨[.one (.ptr ⟨0,0,0⟩ 0),dd, .one (.ptr ⟨2,0,1⟩ 0), .one (.ptr ⟨3,0,1⟩ 0),dd,dd,dd,dd,dd,dd,dd,dd,dd,dd,dd,dd,dd,dd,dd,dd,dd,dd,dd,dd,dd,dd,dd,dd,dd,dd,dd,dd,dd,dd,dd,dd,ai n2.1,ai a.1,dd,dd,dd,dd,dd,dd,dd,dd,dd,dd,dd,dd,dd,dd,dd,dd,dd,dd,dd,dd,dd,dd,dd,dd,dd,dd,dd],[zxn bs a.2.1 a.2.2.2,(2,{next:=2,l:=[some {e:=1,var:=true,fz:=false,sz:=0,cells:=[di 0,di 0,di 0, .d (.v (.slice none 0 0)), .d (.v (.slice none 0 0)), .d (.v (.slice none 0 0))]},none,none,none,none,none,none]}),(3,{next:=2,l:=[some {e:=1,var:=true,fz:=false,sz:=0,cells:=[di t.1,di u.1,di k.1, .own ⟨3,4,1⟩ 0 acc.length, .own ⟨3,5,1⟩ 0 a.2.2.1.length, .d (.v (.slice none 0 0))]},none,none,none,some {e:=1,var:=false,fz:=false,sz:=3,cells:=(zaK acc).map C.d},some {e:=1,var:=false,fz:=false,sz:=4,cells:=(zaj a.2.2.1).map C.d},none]}),(4,⟨2,[]⟩),(31,⟨2,[]⟩),(32,⟨2,[]⟩),(42,⟨2,[]⟩),(43,⟨2,[]⟩),(44,⟨2,[]⟩)]⟩)
   (fun a=>a.1≤n2.1.toNat∧i64 a.2.1∧a.2.2.1.length=a.1∧∀k∈a.2.2.1,k.line.length≤3∧k.name.size≤bs.length) (fun a=>zcg (zfu bs) (n2.1.toNat - a.1) a.2.1 a.2.2.1) (fun a=>n2.1.toNat - a.1) (0,n2.2,[],nx+1)
   ((Gh.nilF 3 4 4 rfl).trans (Gh.canon [0,2,3] [42,43,44] [0] zK rfl rfl)) ⟨Nat.zero_le _,hn4,rfl,by simp⟩ ?_
  intro⟨j,q2,ls,nx2⟩ ⟨hj0,hq2,hl,hlk⟩ hF K hK
  simp only[Nat.sub_zero]at hj0 hq2 hl hlk hF hK⊢
  rw[←hF]at hy
  refine zw ?_
  refine zaa (fun hlt2=> ?_) (fun hge2=> ?_)
  ·have hj:j<n2.1.toNat:=by simp at hlt2;omega
   have hw:=zak hj (by omega)
   have hst:n2.1.toNat - j=(n2.1.toNat - (j+1))+1:=by omega
   rw[hst,zcg]at hy
   cases x1:zfu bs q2 with
   |error x=>
    rw[x1]at hy
    obtain⟨rfl,rfl⟩:=zbL hy
    have hr:=zpP bs q2 h hq2 x1
    first|refine zs0 ?_|exact zt0
    refine zeL _ _ (zky zao mixed 3 [false,false,false,true,true,true,true,true] (zqa e) (fun g=> ?_) ?_)
    ·first|refine zs (I @zaW @zal) ?_|exact zt (I @zaW @zal)
    ·simp only[zm7,zm8,zis]
     repeat'(first|refine zq0 ?_|exact zd0|(refine zaa ?_ ?_<;>intro hb)|(refine And.intro ?_ ?_;exact zI)|(refine And.intro ?_ ?_<;>intro hg)|exact zC|fail)
     exact zn (rds bs q) (hr)
   |ok x=>
   have hr1:=zsb bs q2 h hq2 x1
   obtain⟨g1,g2,g3⟩:=znI h x1
   have hF2:zcg (zfu bs) (n2.1.toNat - (j+1)) x.2 (ls++[x.1])=zcg (zfu bs) (n2.1.toNat - j) q2 ls:=by rw[hst,zcg,x1]
   repeat'(first|refine zq0 ?_|exact zd0|(refine zaa ?_ ?_<;>intro hb)|(refine And.intro ?_ ?_;exact zI)|(refine And.intro ?_ ?_<;>intro hg)|exact zC|fail)
   refine zj (hr1) ?_
   have htl:(zaJ x.1.line).take x.1.line.length=zaJ x.1.line:=ze2
   repeat'(first|refine zq (I @zaf htl) ?_|exact zd (I @zaf htl)|(refine zaa ?_ ?_<;>intro hb)|(refine And.intro ?_ ?_;exact zI)|(refine And.intro ?_ ?_<;>intro hg)|exact zC|fail)
   refine hK _ (j+1,x.2,ls++[x.1],nx2+1) (Gh.canon [0,2,3] [] [0] (zk (I hw (I @List.length_append.{0} @List.length_singleton.{0}))) rfl (by simp only[List.length_append,List.length_singleton];rw[zeA];rfl)) ⟨hj,g1,by simp only[List.length_append,List.length_singleton];omega, ?_⟩ hF2 (by simp only;omega)
   intro k hk
   rcases List.mem_append.1 hk with hk|hk
   ·exact hlk k hk
   ·simp at hk;subst hk;exact⟨g2,g3⟩
  ·have hj:j=n2.1.toNat:=by
    have:¬(j:Int)<n2.1:=by simpa using hge2
    omega
   rw[hj,Nat.sub_self,zcg]at hy
   simp only at hy
   clear hK hF
   cases e6:zb3 bs q2 8 with
   |error x=>
    rw[e6]at hy
    obtain⟨rfl,rfl⟩:=zbL hy
    have hr:=zeQ bs _ 8 h hq2 e6
    repeat'(first|refine zq0 ?_|exact zd0|(refine zaa ?_ ?_<;>intro hb)|(refine And.intro ?_ ?_;exact zI)|(refine And.intro ?_ ?_<;>intro hg)|exact zC|fail)
    refine zp (rds bs p) (hr) ?_
    first|refine zs (I @zaW @zal) ?_|exact zt (I @zaW @zal)
   |ok n3=>
   have hr6:=zfU bs _ 8 h hq2 e6
   obtain⟨hn7,hn8,hn9⟩:=zdY h e6
   rw[e6]at hy
   simp only at hy
   repeat'(first|refine zq0 ?_|exact zd0|(refine zaa ?_ ?_<;>intro hb)|(refine And.intro ?_ ?_;exact zI)|(refine And.intro ?_ ?_<;>intro hg)|exact zC|fail)
   refine zj (hr6) ?_
   repeat'(first|refine zq0 ?_|exact zd0|(refine zaa ?_ ?_<;>intro hb)|(refine And.intro ?_ ?_;exact zI)|(refine And.intro ?_ ?_<;>intro hg)|exact zC|fail)
   refine zai (τ:=Nat×Int×List Memo×Nat) (fun a=>⟨[.one (.ptr ⟨0,0,0⟩ 0),dd, .one (.ptr ⟨2,0,1⟩ 0), .one (.ptr ⟨3,0,1⟩ 0),dd,dd,dd,dd,dd,dd,dd,dd,dd,dd,dd,dd,dd,dd,dd,dd,dd,dd,dd,dd,dd,dd,dd,dd,dd,dd,dd,dd,dd,dd,dd,dd,dd,dd,dd,dd,dd,dd,dd,dd,dd,dd,dd,dd,ai n3.1,ai a.1,dd,dd,dd,dd,dd,dd,dd,dd,dd,dd,dd,dd,dd,dd,dd],[zxn bs a.2.1 a.2.2.2,(2,{next:=2,l:=[some {e:=1,var:=true,fz:=false,sz:=0,cells:=[di 0,di 0,di 0, .d (.v (.slice none 0 0)), .d (.v (.slice none 0 0)), .d (.v (.slice none 0 0))]},none,none,none,none,none,none]}),(3,{next:=2,l:=[some {e:=1,var:=true,fz:=false,sz:=0,cells:=[di t.1,di u.1,di k.1, .own ⟨3,4,1⟩ 0 acc.length, .own ⟨3,5,1⟩ 0 ls.length, .own ⟨3,6,1⟩ 0 a.2.2.1.length]},none,none,none,some {e:=1,var:=false,fz:=false,sz:=3,cells:=(zaK acc).map C.d},some {e:=1,var:=false,fz:=false,sz:=4,cells:=(zaj ls).map C.d},some {e:=1,var:=false,fz:=false,sz:=6,cells:=(zaD a.2.2.1).map C.d}]}),(4,⟨2,[]⟩),(31,⟨2,[]⟩),(32,⟨2,[]⟩),(42,⟨2,[]⟩),(43,⟨2,[]⟩),(44,⟨2,[]⟩),(54,⟨2,[]⟩),(55,⟨2,[]⟩),(56,⟨2,[]⟩)]⟩)
    (fun a=>a.1≤n3.1.toNat∧i64 a.2.1∧a.2.2.1.length=a.1∧∀m∈a.2.2.1,zbG m.reply) (fun a=>zcg (zhb bs) (n3.1.toNat - a.1) a.2.1 a.2.2.1) (fun a=>n3.1.toNat - a.1) (0,n3.2,[],nx2+1)
    ((Gh.nilF 3 5 6 rfl).trans (Gh.canon [0,2,3] [54,55,56] [0] zK rfl rfl)) ⟨Nat.zero_le _,hn7,rfl,by simp⟩ ?_
   intro⟨m,q3,ms,nx3⟩ ⟨hm0,hq3,hml,hmk⟩ hF K hK
   simp only[Nat.sub_zero]at hm0 hq3 hml hmk hF hK⊢
   rw[←hF]at hy
   refine zw ?_
   refine zaa (fun hlt3=> ?_) (fun hge3=> ?_)
   ·have hm:m<n3.1.toNat:=by simp at hlt3;omega
    have hw:=zak hm (by omega)
    have hst:n3.1.toNat - m=(n3.1.toNat - (m+1))+1:=by omega
    rw[hst,zcg]at hy
    cases x1:zhb bs q3 with
    |error x=>
     rw[x1]at hy
     obtain⟨rfl,rfl⟩:=zbL hy
     have hr:=zpS bs q3 h hq3 x1
     first|refine zs0 ?_|exact zt0
     refine zeL _ _ (zky zao mixed 3 [false,false,false,true,true,true,true,true] (zqa e) (fun g=> ?_) ?_)
     ·first|refine zs (I @zaW @zal) ?_|exact zt (I @zaW @zal)
     ·simp only[zm7,zm8,zis]
      repeat'(first|refine zq0 ?_|exact zd0|(refine zaa ?_ ?_<;>intro hb)|(refine And.intro ?_ ?_;exact zI)|(refine And.intro ?_ ?_<;>intro hg)|exact zC|fail)
      exact zn (rds bs q) (hr)
    |ok x=>
    have hr1:=zsd bs q3 h hq3 x1
    obtain⟨g1,g2⟩:=znH h x1
    have hF2:zcg (zhb bs) (n3.1.toNat - (m+1)) x.2 (ms++[x.1])=zcg (zhb bs) (n3.1.toNat - m) q3 ms:=by rw[hst,zcg,x1]
    repeat'(first|refine zq0 ?_|exact zd0|(refine zaa ?_ ?_<;>intro hb)|(refine And.intro ?_ ?_;exact zI)|(refine And.intro ?_ ?_<;>intro hg)|exact zC|fail)
    refine zj (hr1) ?_
    repeat'(first|refine zq @zaA ?_|exact zd @zaA|(refine zaa ?_ ?_<;>intro hb)|(refine And.intro ?_ ?_;exact zI)|(refine And.intro ?_ ?_<;>intro hg)|exact zC|fail)
    refine hK _ (m+1,x.2,ms++[x.1],nx3+1) (Gh.canon [0,2,3] [] [0] (zk (I hw (I @List.length_append.{0} @List.length_singleton.{0}))) rfl (by simp only[List.length_append,List.length_singleton];rw[zdb];rfl)) ⟨hm,g1,by simp only[List.length_append,List.length_singleton];omega, ?_⟩ hF2 (by simp only;omega)
    intro k hk
    rcases List.mem_append.1 hk with hk|hk
    ·exact hmk k hk
    ·simp at hk;subst hk;exact g2
   ·have hm:m=n3.1.toNat:=by
     have:¬(m:Int)<n3.1:=by simpa using hge3
     omega
    rw[hm,Nat.sub_self,zcg]at hy
    simp only at hy
    clear hK hF
    have hbl:=h.l
    have hri:=zk1 ⟨t.1,u.1,k.1,acc,ls,ms⟩ ⟨by simp only;omega,by simp only;omega,by simp only;omega,fun k hk=>⟨by have:=(hlk k hk).1;omega,by have:=(hlk k hk).2;omega⟩,hmk⟩
    cases hR:zb2 ⟨t.1,u.1,k.1,acc,ls,ms⟩
    ·rw[hR]at hri hy
     rw[if_neg (by simp)]at hy
     obtain⟨rfl,rfl⟩:=zbL hy
     repeat'(first|refine zq (I @zaW (I @zal (I @za4 (I @zam @zaQ)))) ?_|exact zd (I @zaW (I @zal (I @za4 (I @zam @zaQ))))|refine zc (hri) ?_|refine zg (hri) ?_|(refine zaa ?_ ?_<;>intro hb)|(refine And.intro ?_ ?_;exact zI)|(refine And.intro ?_ ?_<;>intro hg)|exact zC|fail)
    ·rw[hR]at hri hy
     rw[if_pos rfl]at hy
     obtain⟨rfl,rfl⟩:=zqs hy
     repeat'(first|refine zq (I @zkz (I @za4 (I @zam @zaQ))) ?_|exact zd (I @zkz (I @za4 (I @zam @zaQ)))|refine zc (hri) ?_|refine zg (hri) ?_|(refine zaa ?_ ?_<;>intro hb)|(refine And.intro ?_ ?_;exact zI)|(refine And.intro ?_ ?_<;>intro hg)|exact zC|fail)
     rfl
abbrev zfT:Value:= .slice none 0 0
def szS (k:Nat):Nat:=if k=4 then 6 else 1
def nwS (x:Value) (k:Nat):List Value:=if k=4 then [.int .i64 0, .int .i64 0, .int .i64 0,zfT,zfT,zfT]else if k=5 then [.int .i64 0]else [codeOf x]
theorem zzZ {l:List Value} (h:l.length=6):∃a b c d e f,l=[a,b,c,d,e,f]:=by
 match l,h with
 |[a,b,c,d,e,f],_=>exact⟨a,b,c,d,e,f,rfl⟩
theorem zz0 {l:List Value} (h:l.length=9):∃a b c d e f g i j,l=[a,b,c,d,e,f,g,i,j]:=by
 match l,h with
 |[a,b,c,d,e,f,g,i,j],_=>exact⟨a,b,c,d,e,f,g,i,j,rfl⟩
theorem cellsS {ls:List (List Value)} (h:ls.length=[4,5,6].length) (hs:∀(i k:Nat) (l:List Value),[4,5,6][i]? =some k→ls[i]? =some l→l.length=szS k):∃a b c d e f g i,ls=[[a,b,c,d,e,f],[g],[i]]:=by
 match ls,h with
 |[x,y,z],_=>
  obtain⟨a,b,c,d,e,f,rfl⟩:=zzZ (hs 0 4 x rfl rfl)
  obtain⟨g,rfl⟩:=zwi (hs 1 5 y rfl rfl)
  obtain⟨i,rfl⟩:=zwi (hs 2 6 z rfl rfl)
  exact⟨a,b,c,d,e,f,g,i,rfl⟩
theorem zoM:(Tryz.prog.info? 83).bind (·.zero)=some (.agg #[.int .i64 0]):=by kernel_rfl
theorem znG:ziw Tryz.prog 38 [4,5,6] szS nwS (zjf 83):=by
 refine ze4 zao mixed (T:=Ty) Tryz.func38 rfl rfl Tryz.ntmps38 rfl rfl rfl rfl rfl rfl rfl (by decide) (by decide) (by decide) ?_
 rintro x ⟨n,rfl⟩ ls hl hs
 obtain⟨a,b,c,d,e,f,g,i,rfl⟩:=cellsS hl hs
 refine⟨.tuple #[.agg #[.int .i64 n], .bool true], .tup [.agg [di n],ab true], ?_, ?_,rfl, ?_⟩
 ·intro w
  simp[Instr.typeAssert,Tryz.underlying83]
 ·intro cx w r β
  simp[ReA,ReAs,ReC,ReCs,Rd,flat]
 ·simp only[zbi,plainO,List.map_cons,List.map_nil]
  first|refine zs0 ?_|exact zt0
  repeat'(first|refine zq0 ?_|exact zd0|(refine zaa ?_ ?_<;>intro hb)|(refine And.intro ?_ ?_;exact zI)|(refine And.intro ?_ ?_<;>intro hg)|exact zC|fail)
  rfl
theorem zpN:zna Tryz.prog 38 3:=by
 refine zdO zao mixed (T:=Ty) Tryz.func38 rfl rfl Tryz.ntmps38 rfl rfl rfl rfl rfl rfl rfl (by decide) (y7:= .tuple #[.agg #[.int .i64 0], .bool false]) (V7:= .tup [.agg [di 0],ab false]) ?_ ?_ (by decide) rfl ?_
 ·intro w
  simp[Instr.typeAssert,Tryz.underlying83,zjg zoM w]
 ·intro cx w r β
  simp[ReA,ReAs,ReC,ReCs,Rd,flat]
 ·simp only[List.replicate]
  first|refine zs0 ?_|exact zt0
  repeat'(first|refine zq0 ?_|exact zd0|(refine zaa ?_ ?_<;>intro hb)|(refine And.intro ?_ ?_;exact zI)|(refine And.intro ?_ ?_<;>intro hg)|exact zC|fail)
def dSt (bs:List Int) (p:Int):St×Int×Int:=match zdo bs p with
 | .ok y=>(y.1,y.2,0)
 | .error e=>(st0,0,e)
theorem zpO (bs:List Int) (p:Int) (h:BsOk bs) (hp:i64 p):
  CallOK Tryz.prog 16 [.f (asl bs.length (zad bs)), .f (ai p)] (fun r o=>r=[zu5 (dSt bs p).1,ri (dSt bs p).2.1,ri (dSt bs p).2.2]∧o=[]):=by
 refine CallOK.nil ?_
 refine zbx zao mixed (T:=Ty) Tryz.func16 rfl Tryz.results16 Tryz.ntmps16 Tryz.call16 Tryz.call38 (ks:=[4,5,6]) rfl rfl rfl rfl rfl rfl (by decide) (by decide)
  (xs:=[asl bs.length (zad bs),ai p]) (sz:=szS) (nw:=nwS) zpN znG ⟨[asl bs.length (zad bs),ai p,dd,dd, .one (.ptr ⟨4,0,0⟩ 0), .one (.ptr ⟨5,0,0⟩ 0), .one (.ptr ⟨6,0,0⟩ 0),dd,dd,dd,dd,dd,dd,dd,dd,dd,dd,dd,dd,dd],[(4,{next:=1,l:=[some {e:=0,var:=true,fz:=false,sz:=0,cells:=[di 0,di 0,di 0, .d (.v zfT), .d (.v zfT), .d (.v zfT)]},none,none,none,none,none,none]}),(5,{next:=1,l:=[some {e:=0,var:=true,fz:=false,sz:=0,cells:=[di 0]},none]}),(6,{next:=1,l:=[some {e:=0,var:=true,fz:=false,sz:=0,cells:=[di 0]},none]})]⟩ ?_ ?_ rfl ?_
 ·simp only[List.map_cons,List.map_nil]
  repeat'(first|refine zq0 ?_|exact zd0|(refine zaa ?_ ?_<;>intro hb)|(refine And.intro ?_ ?_;exact zI)|(refine And.intro ?_ ?_<;>intro hg)|exact zC|fail)
  exact fun _ _ _ h=>h
 ·exact⟨⟨_,rfl,rfl,rfl,rfl,rfl⟩,⟨_,rfl,rfl,rfl,rfl,rfl⟩,⟨_,rfl,rfl,rfl,rfl,rfl⟩,trivial⟩
 ·unfold dSt
  cases hs:zdo bs p with
  |ok y=>
   have hr:=(zd8 bs p h hp true y 0 hs).1 rfl
   repeat'(first|refine zq0 ?_|exact zd0|(refine zaa ?_ ?_<;>intro hb)|(refine And.intro ?_ ?_;exact zI)|(refine And.intro ?_ ?_<;>intro hg)|exact zC|fail)
   refine zj (hr) ?_
   repeat'(first|(with_reducible first|refine za9 4 ?_|refine zaS 4 ?_|refine zaT 4 ?_)|refine zu0 ?_|exact zd0|(with_reducible first|refine zab _ _ ?_)|(refine zaa ?_ ?_<;>intro hb)|(refine And.intro ?_ ?_;exact zI)|(refine And.intro ?_ ?_<;>intro hg)|exact zC|fail)
   refine za6 (zaZ (Gh.sealF 4 3 (.own ⟨4,4,4⟩ 0 y.1.sess.length) ?_) ?_)
   ·exact zo @za4
   refine zf @za4 ?_
   refine zaZ (Gh.sealF 4 4 (.own ⟨4,5,5⟩ 0 y.1.locks.length) ?_) ?_
   ·exact zo @zam
   refine zf @zam ?_
   refine zaZ (Gh.sealF 4 5 (.own ⟨4,6,6⟩ 0 y.1.memos.length) ?_) ?_
   ·exact zo @zaQ
   refine zf @zaQ ?_
   repeat'(first|refine zq @zdA ?_|exact zd @zdA|(refine zaa ?_ ?_<;>intro hb)|(refine And.intro ?_ ?_;exact zI)|(refine And.intro ?_ ?_<;>intro hg)|exact zC|fail)
   simp[zbA,zeF,zbq,zar]
  |error e=>
   have hr:=(zd8 bs p h hp false (st0,0) e hs).2 rfl
   repeat'(first|refine zq0 ?_|exact zd0|(refine zaa ?_ ?_<;>intro hb)|(refine And.intro ?_ ?_;exact zI)|(refine And.intro ?_ ?_<;>intro hg)|exact zC|fail)
   refine zp (rds bs p) (hr) ?_
   simp only[zbl,zbm,zbk,zbK]
   refine⟨⟨_,rfl⟩,rfl,⟨⟨_,rfl,rfl,rfl,rfl,rfl⟩,⟨_,rfl,rfl,rfl,rfl,rfl⟩,⟨_,rfl,rfl,rfl,rfl,rfl⟩,trivial⟩, ?_⟩
   rw[show zmW 20 [4,5,6] (nwS (zfx 83 e))=⟨[dd,dd,dd,dd, .one (.ptr ⟨4,0,0⟩ 0), .one (.ptr ⟨5,0,0⟩ 0), .one (.ptr ⟨6,0,0⟩ 0),dd,dd,dd,dd,dd,dd,dd,dd,dd,dd,dd,dd,dd],[(4,{next:=1,l:=[some {e:=0,var:=true,fz:=false,sz:=0,cells:=[di 0,di 0,di 0, .d (.v zfT), .d (.v zfT), .d (.v zfT)]}]}),(5,{next:=1,l:=[some {e:=0,var:=true,fz:=false,sz:=0,cells:=[di 0]}]}),(6,{next:=1,l:=[some {e:=0,var:=true,fz:=false,sz:=0,cells:=[di e]}]})]⟩ from rfl]
   first|refine zs0 ?_|exact zt0
   simp[zbA,zeF,zbq,zar,st0]
structure Sn where
 done:Int
 view:Int
 slot:Int
 st:St
abbrev Sn.lent (s:Sn):List C:=di s.done::di s.view::di s.slot::s.st.lent
abbrev zxF (s:Sn):RF:= .agg (.d (iD s.done):: .d (iD s.view):: .d (iD s.slot)::(stE s.st).map RO.d)
def zbv (s:Sn):Bool:=within s.done&&(within s.view&&(within s.slot&&zb2 s.st))
theorem zcP (n:Int):within n=(!(decide (n<0))&& !(decide (n>2305843009213693952))):=by
 unfold within
 have hH:zbD=2305843009213693952:=rfl
 rw[hH]
 by_cases h1:n<0<;>by_cases h2:n>2305843009213693952<;>simp[h1,h2]<;>omega
set_option maxHeartbeats 1000000 in
theorem zkb (s:Sn) (h:Small s.st):CallOK Tryz.prog 11 [.f (.agg s.lent)] (fun r o=>r=[rb (zbv s)]∧o=[]):=by
 refine zac zao mixed (T:=Ty) (n:=27) Tryz.func11 (c:=Tryz.f11.body.getD .skip) rfl Tryz.results11 Tryz.ntmps11 Tryz.call11 ?_
 simp only[Tryz.f11,Option.getD]
 have hri:=zk1 s.st h
 have hagg:∀(Z:List Nat) (r:Rs) (xs ys:List AV),fgc Z r (AV.agg [di s.done,di s.view,di s.slot]::xs) (AV.agg [di s.done,di s.view,di s.slot]::ys)=fgc Z r xs ys:=fun Z r xs ys=>zks rfl rfl
 repeat'(first|refine zq0 ?_|exact zd0|(refine zaa ?_ ?_<;>intro hb)|(refine And.intro ?_ ?_;exact zI)|(refine And.intro ?_ ?_<;>intro hg)|exact zC|fail)
 refine zai (τ:=Nat) (fun i=>⟨[dd, .one (.ptr ⟨1,0,1⟩ 0),dd,dd,dd,dd,dd,dd,dd,dd,dd,dd,dd, .agg [di s.done,di s.view,di s.slot],ai i,dd,dd,dd,dd,dd,dd,dd,dd,dd,dd,dd,dd],[(1,{next:=2,l:=[some {e:=1,var:=true,fz:=false,sz:=0,cells:=[di s.done,di s.view,di s.slot,di s.st.time,di s.st.num,di s.st.token, .lent s.st.sess.length (zaK s.st.sess), .lent s.st.locks.length (zaj s.st.locks), .lent s.st.memos.length (zaD s.st.memos)]},none,none,none,none,none,none,none,none,none]})]⟩)
  (fun i=>i≤3) (fun i=>if i=0 then zbv s else if i=1 then within s.view&&(within s.slot&&zb2 s.st)else if i=2 then within s.slot&&zb2 s.st else zb2 s.st) (fun i=>3 - i) 0
  (Gh.canon [1] [] [] (zk hagg) rfl rfl) (Nat.zero_le _) ?_
 intro i hi0 hF K hK
 rw[if_pos rfl]at hF
 refine zw ?_
 refine zaa (fun hlt=> ?_) (fun hge=> ?_)
 ·have hi:i<3:=by simp at hlt;omega
  have hw:IntKind.i64.wrap ((i:Int)+1)=((i+1:Nat):Int):=zak hi (by omega)
  rcases(show i=0∨i=1∨i=2 by omega)with rfl|rfl|rfl
  ·have hb:=zcP s.done
   cases h1:decide (s.done<0)
   ·cases h2:decide (s.done>2305843009213693952)
    ·rw[h1,h2]at hb
     repeat'(first|refine zq (I h1 h2) ?_|exact zd (I h1 h2)|(refine zaa ?_ ?_<;>intro hb)|(refine And.intro ?_ ?_;exact zI)|(refine And.intro ?_ ?_<;>intro hg)|exact zC|fail)
     exact hK _ 1 (Gh.canon [1] [] [] (zk (I hw hagg)) rfl rfl) (by omega) (by simp[zbv,hb]) (by omega)
    ·rw[h1,h2]at hb
     have hz:zbv s=false:=by simp[zbv,hb]
     repeat'(first|refine zq (I h1 (I h2 hz)) ?_|exact zd (I h1 (I h2 hz))|(refine zaa ?_ ?_<;>intro hb)|(refine And.intro ?_ ?_;exact zI)|(refine And.intro ?_ ?_<;>intro hg)|exact zC|fail)
   ·rw[h1]at hb
    have hz:zbv s=false:=by simp[zbv,hb]
    repeat'(first|refine zq (I h1 hz) ?_|exact zd (I h1 hz)|(refine zaa ?_ ?_<;>intro hb)|(refine And.intro ?_ ?_;exact zI)|(refine And.intro ?_ ?_<;>intro hg)|exact zC|fail)
  ·have hb:=zcP s.view
   simp only[Nat.reduceEqDiff,if_true,if_false]at hF
   rw[←hF]
   cases h1:decide (s.view<0)
   ·cases h2:decide (s.view>2305843009213693952)
    ·rw[h1,h2]at hb
     repeat'(first|refine zq (I h1 h2) ?_|exact zd (I h1 h2)|(refine zaa ?_ ?_<;>intro hb)|(refine And.intro ?_ ?_;exact zI)|(refine And.intro ?_ ?_<;>intro hg)|exact zC|fail)
     exact hK _ 2 (Gh.canon [1] [] [] (zk (I hw hagg)) rfl rfl) (by omega) (by simp[hb]) (by omega)
    ·rw[h1,h2]at hb
     have hz:(within s.view&&(within s.slot&&zb2 s.st))=false:=by simp[hb]
     repeat'(first|refine zq (I h1 (I h2 hz)) ?_|exact zd (I h1 (I h2 hz))|(refine zaa ?_ ?_<;>intro hb)|(refine And.intro ?_ ?_;exact zI)|(refine And.intro ?_ ?_<;>intro hg)|exact zC|fail)
   ·rw[h1]at hb
    have hz:(within s.view&&(within s.slot&&zb2 s.st))=false:=by simp[hb]
    repeat'(first|refine zq (I h1 hz) ?_|exact zd (I h1 hz)|(refine zaa ?_ ?_<;>intro hb)|(refine And.intro ?_ ?_;exact zI)|(refine And.intro ?_ ?_<;>intro hg)|exact zC|fail)
  ·have hb:=zcP s.slot
   simp only[Nat.reduceEqDiff,if_true,if_false]at hF
   rw[←hF]
   cases h1:decide (s.slot<0)
   ·cases h2:decide (s.slot>2305843009213693952)
    ·rw[h1,h2]at hb
     repeat'(first|refine zq (I h1 h2) ?_|exact zd (I h1 h2)|(refine zaa ?_ ?_<;>intro hb)|(refine And.intro ?_ ?_;exact zI)|(refine And.intro ?_ ?_<;>intro hg)|exact zC|fail)
     exact hK _ 3 (Gh.canon [1] [] [] (zk (I hw hagg)) rfl rfl) (by omega) (by simp[hb]) (by omega)
    ·rw[h1,h2]at hb
     have hz:(within s.slot&&zb2 s.st)=false:=by simp[hb]
     repeat'(first|refine zq (I h1 (I h2 hz)) ?_|exact zd (I h1 (I h2 hz))|(refine zaa ?_ ?_<;>intro hb)|(refine And.intro ?_ ?_;exact zI)|(refine And.intro ?_ ?_<;>intro hg)|exact zC|fail)
   ·rw[h1]at hb
    have hz:(within s.slot&&zb2 s.st)=false:=by simp[hb]
    repeat'(first|refine zq (I h1 hz) ?_|exact zd (I h1 hz)|(refine zaa ?_ ?_<;>intro hb)|(refine And.intro ?_ ?_;exact zI)|(refine And.intro ?_ ?_<;>intro hg)|exact zC|fail)
 ·have hi:i=3:=by
   have:¬(i:Int)<3:=by simpa using hge
   omega
  subst hi
  simp only[Nat.reduceEqDiff,if_false]at hF
  rw[←hF]
  repeat'(first|refine zq0 ?_|exact zd0|refine zc (hri) ?_|refine zg (hri) ?_|(refine zaa ?_ ?_<;>intro hb)|(refine And.intro ?_ ?_;exact zI)|(refine And.intro ?_ ?_<;>intro hg)|exact zC|fail)
def snI (s:Sn):List Int:=za8 s.done++(za8 s.view++(za8 s.slot++zcm s.st))
theorem within_iff {n:Int} (h:within n=true):0≤n∧n<4611686018427387904:=by
 rw[zcP]at h
 simp at h
 omega
theorem zha {s:Sn} (h:zbv s=true):(0≤s.done∧s.done<4611686018427387904)∧(0≤s.view∧s.view<4611686018427387904)∧(0≤s.slot∧s.slot<4611686018427387904)∧RightS s.st:=by
 simp only[zbv,Bool.and_eq_true]at h
 exact⟨within_iff h.1,within_iff h.2.1,within_iff h.2.2.1,zcv.1 h.2.2.2⟩
theorem zpM (s:Sn) (h:zbv s=true):CallOK Tryz.prog 10 [.f (.agg s.lent)] (fun r o=>r=[.one (.own 1 (snI s).length (zad (snI s)) false),ri 0]∧o=[]):=by
 obtain⟨f1,f2,f3,f4⟩:=zha h
 refine zac zao mixed (T:=Ty) (n:=29) Tryz.func10 (c:=Tryz.f10.body.getD .skip) rfl Tryz.results10 Tryz.ntmps10 Tryz.call10 ?_
 simp only[Tryz.f10,Option.getD]
 have hm:=zkb s (zbo f4)
 rw[h]at hm
 have hp:=zke s.st f4
 have m1:=zeR s.done f1
 have m2:=zeR s.view f2
 have m3:=zeR s.slot f3
 have hl:=zjc f4 s.st.memos.length
 have hml:=zeS f4
 have t8:∀v:Int,(zad (za8 v)).take 8=zad (za8 v):=fun v=>List.take_of_length_le (by rw[zcF];decide)
 have hcc:CallOK Tryz.prog 30 [.f (al 4 [.sl 8 (zad (za8 s.done)), .sl 8 (zad (za8 s.view)), .sl 8 (zad (za8 s.slot)), .sl (zcm s.st).length (zad (zcm s.st))])] (fun x o=>x=[.one (.own 1 (snI s).length (zad (snI s)) false)]∧o=[]):=by
  have hc:=zlh [za8 s.done,za8 s.view,za8 s.slot,zcm s.st] (by simp) (fun l hl=>by
   simp only[List.mem_cons,List.not_mem_nil,or_false]at hl
   rcases hl with rfl|rfl|rfl|rfl
   ·rw[zaR];decide
   ·rw[zaR];decide
   ·rw[zaR];decide
   ·unfold zcm;omega)
  rw[show [za8 s.done,za8 s.view,za8 s.slot,zcm s.st].flatten=snI s from by simp[snI]]at hc
  exact hc
 repeat'(first|refine zq (I t8 @zaI) ?_|exact zd (I t8 @zaI)|refine zc (hm) ?_|refine zg (hm) ?_|refine zc (hp) ?_|refine zg (hp) ?_|refine zc (m1) ?_|refine zg (m1) ?_|refine zc (m2) ?_|refine zg (m2) ?_|refine zc (m3) ?_|refine zg (m3) ?_|refine zc (hcc) ?_|refine zg (hcc) ?_|(refine zaa ?_ ?_<;>intro hb)|(refine And.intro ?_ ?_;exact zI)|(refine And.intro ?_ ?_<;>intro hg)|exact zC|fail)
def szG (k:Nat):Nat:=if k=4 then 9 else 1
def nwG (x:Value) (k:Nat):List Value:=if k=4 then [.int .i64 0, .int .i64 0, .int .i64 0, .int .i64 0, .int .i64 0, .int .i64 0,zfT,zfT,zfT]else if k=5 then [.int .i64 0]else [codeOf x]
theorem zxc {ls:List (List Value)} (h:ls.length=[4,5,6].length) (hs:∀(i k:Nat) (l:List Value),[4,5,6][i]? =some k→ls[i]? =some l→l.length=szG k):∃a b c d e f j k l g i,ls=[[a,b,c,d,e,f,j,k,l],[g],[i]]:=by
 match ls,h with
 |[x,y,z],_=>
  obtain⟨a,b,c,d,e,f,j,k,l,rfl⟩:=zz0 (hs 0 4 x rfl rfl)
  obtain⟨g,rfl⟩:=zwi (hs 1 5 y rfl rfl)
  obtain⟨i,rfl⟩:=zwi (hs 2 6 z rfl rfl)
  exact⟨a,b,c,d,e,f,j,k,l,g,i,rfl⟩
theorem znF:ziw Tryz.prog 41 [4,5,6] szG nwG (zjf 83):=by
 refine ze4 zao mixed (T:=Ty) Tryz.func41 rfl rfl Tryz.ntmps41 rfl rfl rfl rfl rfl rfl rfl (by decide) (by decide) (by decide) ?_
 rintro x ⟨n,rfl⟩ ls hl hs
 obtain⟨a,b,c,d,e,f,j,k,l,g,i,rfl⟩:=zxc hl hs
 refine⟨.tuple #[.agg #[.int .i64 n], .bool true], .tup [.agg [di n],ab true], ?_, ?_,rfl, ?_⟩
 ·intro w
  simp[Instr.typeAssert,Tryz.underlying83]
 ·intro cx w r β
  simp[ReA,ReAs,ReC,ReCs,Rd,flat]
 ·simp only[zbi,plainO,List.map_cons,List.map_nil]
  first|refine zs0 ?_|exact zt0
  repeat'(first|refine zq0 ?_|exact zd0|(refine zaa ?_ ?_<;>intro hb)|(refine And.intro ?_ ?_;exact zI)|(refine And.intro ?_ ?_<;>intro hg)|exact zC|fail)
  rfl
theorem zpL:zna Tryz.prog 41 3:=by
 refine zdO zao mixed (T:=Ty) Tryz.func41 rfl rfl Tryz.ntmps41 rfl rfl rfl rfl rfl rfl rfl (by decide) (y7:= .tuple #[.agg #[.int .i64 0], .bool false]) (V7:= .tup [.agg [di 0],ab false]) ?_ ?_ (by decide) rfl ?_
 ·intro w
  simp[Instr.typeAssert,Tryz.underlying83,zjg zoM w]
 ·intro cx w r β
  simp[ReA,ReAs,ReC,ReCs,Rd,flat]
 ·simp only[List.replicate]
  first|refine zs0 ?_|exact zt0
  repeat'(first|refine zq0 ?_|exact zd0|(refine zaa ?_ ?_<;>intro hb)|(refine And.intro ?_ ?_;exact zI)|(refine And.intro ?_ ?_<;>intro hg)|exact zC|fail)
def zlf (bs:List Int) (p:Int):Rr Sn:=match zef bs p with
 | .error e=> .error e
 | .ok d=>match zef bs d.2 with
  | .error e=> .error e
  | .ok v=>match zef bs v.2 with
   | .error e=> .error e
   | .ok l=>match zdo bs l.2 with
    | .error e=> .error e
    | .ok s=>if zbv ⟨d.1,v.1,l.1,s.1⟩=true then .ok (⟨d.1,v.1,l.1,s.1⟩,s.2)else .error 4
abbrev sn0:Sn:=⟨0,0,0,st0⟩
def dSn (bs:List Int) (p:Int):Sn×Int×Int:=match zlf bs p with
 | .ok y=>(y.1,y.2,0)
 | .error e=>(sn0,0,e)
theorem zd7 {bs:List Int} {p:Int} {y:St×Int} (hy:zdo bs p= .ok y):zb2 y.1=true:=by
 unfold zdo at hy
 cases e1:zef bs p with
 |error x=>rw[e1]at hy;cases hy
 |ok t=>
 rw[e1]at hy;simp only at hy
 cases e2:zef bs t.2 with
 |error x=>rw[e2]at hy;cases hy
 |ok u=>
 rw[e2]at hy;simp only at hy
 cases e3:zef bs u.2 with
 |error x=>rw[e3]at hy;cases hy
 |ok k=>
 rw[e3]at hy;simp only at hy
 cases e4:zb3 bs k.2 5 with
 |error x=>rw[e4]at hy;cases hy
 |ok n=>
 rw[e4]at hy;simp only at hy
 cases e5:zcg (zhW bs) n.1.toNat n.2 []with
 |error x=>rw[e5]at hy;cases hy
 |ok ss=>
 rw[e5]at hy;simp only at hy
 cases e6:zb3 bs ss.2 4 with
 |error x=>rw[e6]at hy;cases hy
 |ok n2=>
 rw[e6]at hy;simp only at hy
 cases e7:zcg (zfu bs) n2.1.toNat n2.2 []with
 |error x=>rw[e7]at hy;cases hy
 |ok ls=>
 rw[e7]at hy;simp only at hy
 cases e8:zb3 bs ls.2 8 with
 |error x=>rw[e8]at hy;cases hy
 |ok n3=>
 rw[e8]at hy;simp only at hy
 cases e9:zcg (zhb bs) n3.1.toNat n3.2 []with
 |error x=>rw[e9]at hy;cases hy
 |ok ms=>
 rw[e9]at hy;simp only at hy
 split at hy
 ·rename_i hr;cases hy;exact hr
 ·cases hy
theorem zi3 (e:Int):zmW 37 [4,5,6] (nwG (zfx 83 e))=⟨[dd,dd,dd,dd, .one (.ptr ⟨4,0,0⟩ 0), .one (.ptr ⟨5,0,0⟩ 0), .one (.ptr ⟨6,0,0⟩ 0),dd,dd,dd,dd,dd,dd,dd,dd,dd,dd,dd,dd,dd,dd,dd,dd,dd,dd,dd,dd,dd,dd,dd,dd,dd,dd,dd,dd,dd,dd],[(4,{next:=1,l:=[some {e:=0,var:=true,fz:=false,sz:=0,cells:=[di 0,di 0,di 0,di 0,di 0,di 0, .d (.v zfT), .d (.v zfT), .d (.v zfT)]}]}),(5,{next:=1,l:=[some {e:=0,var:=true,fz:=false,sz:=0,cells:=[di 0]}]}),(6,{next:=1,l:=[some {e:=0,var:=true,fz:=false,sz:=0,cells:=[di e]}]})]⟩:=rfl
set_option maxHeartbeats 2000000 in
theorem zju (bs:List Int) (p:Int) (h:BsOk bs) (hp:i64 p):
  CallOK Tryz.prog 19 [.f (asl bs.length (zad bs)), .f (ai p)] (fun r o=>r=[zxF (dSn bs p).1,ri (dSn bs p).2.1,ri (dSn bs p).2.2]∧o=[]):=by
 refine CallOK.nil ?_
 refine zbx zao mixed (T:=Ty) Tryz.func19 rfl Tryz.results19 Tryz.ntmps19 Tryz.call19 Tryz.call41 (ks:=[4,5,6]) rfl rfl rfl rfl rfl rfl (by decide) (by decide)
  (xs:=[asl bs.length (zad bs),ai p]) (sz:=szG) (nw:=nwG) zpL znF ⟨[asl bs.length (zad bs),ai p,dd,dd, .one (.ptr ⟨4,0,0⟩ 0), .one (.ptr ⟨5,0,0⟩ 0), .one (.ptr ⟨6,0,0⟩ 0),dd,dd,dd,dd,dd,dd,dd,dd,dd,dd,dd,dd,dd,dd,dd,dd,dd,dd,dd,dd,dd,dd,dd,dd,dd,dd,dd,dd,dd,dd],[(4,{next:=1,l:=[some {e:=0,var:=true,fz:=false,sz:=0,cells:=[di 0,di 0,di 0,di 0,di 0,di 0, .d (.v zfT), .d (.v zfT), .d (.v zfT)]},none,none,none,none,none,none,none,none,none]}),(5,{next:=1,l:=[some {e:=0,var:=true,fz:=false,sz:=0,cells:=[di 0]},none]}),(6,{next:=1,l:=[some {e:=0,var:=true,fz:=false,sz:=0,cells:=[di 0]},none]})]⟩ ?_ ?_ rfl ?_
 ·simp only[List.map_cons,List.map_nil]
  repeat'(first|refine zq0 ?_|exact zd0|(refine zaa ?_ ?_<;>intro hb)|(refine And.intro ?_ ?_;exact zI)|(refine And.intro ?_ ?_<;>intro hg)|exact zC|fail)
  exact fun _ _ _ h=>h
 ·exact⟨⟨_,rfl,rfl,rfl,rfl,rfl⟩,⟨_,rfl,rfl,rfl,rfl,rfl⟩,⟨_,rfl,rfl,rfl,rfl,rfl⟩,trivial⟩
 ·unfold dSn zlf
  cases e1:zef bs p with
  |error e=>
   have hr:=zc3 bs p h hp e1
   repeat'(first|refine zq0 ?_|exact zd0|(refine zaa ?_ ?_<;>intro hb)|(refine And.intro ?_ ?_;exact zI)|(refine And.intro ?_ ?_<;>intro hg)|exact zC|fail)
   refine zp (rds bs p) (hr) ?_
   simp only[zbl,zbm,zbk,zbK]
   refine⟨⟨_,rfl⟩,rfl,⟨⟨_,rfl,rfl,rfl,rfl,rfl⟩,⟨_,rfl,rfl,rfl,rfl,rfl⟩,⟨_,rfl,rfl,rfl,rfl,rfl⟩,trivial⟩, ?_⟩
   rw[zi3]
   first|refine zs0 ?_|exact zt0
   simp[zbA,zeF,zbq,zar,st0]
  |ok d=>
  have he1:=zdG bs p h hp e1
  simp only
  repeat'(first|refine zq0 ?_|exact zd0|(refine zaa ?_ ?_<;>intro hb)|(refine And.intro ?_ ?_;exact zI)|(refine And.intro ?_ ?_<;>intro hg)|exact zC|fail)
  refine zj (he1) ?_
  cases e2:zef bs d.2 with
  |error e=>
   have hr:=zc3 bs _ h (zbg h e1) e2
   repeat'(first|refine zq0 ?_|exact zd0|(refine zaa ?_ ?_<;>intro hb)|(refine And.intro ?_ ?_;exact zI)|(refine And.intro ?_ ?_<;>intro hg)|exact zC|fail)
   refine zp (rds bs p) (hr) ?_
   simp only[zbl,zbm,zbk,zbK]
   refine⟨⟨_,rfl⟩,rfl,⟨⟨_,rfl,rfl,rfl,rfl,rfl⟩,⟨_,rfl,rfl,rfl,rfl,rfl⟩,⟨_,rfl,rfl,rfl,rfl,rfl⟩,trivial⟩, ?_⟩
   rw[zi3]
   first|refine zs0 ?_|exact zt0
   simp[zbA,zeF,zbq,zar,st0]
  |ok v=>
  have he2:=zdG bs _ h (zbg h e1) e2
  simp only
  repeat'(first|refine zq0 ?_|exact zd0|(refine zaa ?_ ?_<;>intro hb)|(refine And.intro ?_ ?_;exact zI)|(refine And.intro ?_ ?_<;>intro hg)|exact zC|fail)
  refine zj (he2) ?_
  cases e3:zef bs v.2 with
  |error e=>
   have hr:=zc3 bs _ h (zbg h e2) e3
   repeat'(first|refine zq0 ?_|exact zd0|(refine zaa ?_ ?_<;>intro hb)|(refine And.intro ?_ ?_;exact zI)|(refine And.intro ?_ ?_<;>intro hg)|exact zC|fail)
   refine zp (rds bs p) (hr) ?_
   simp only[zbl,zbm,zbk,zbK]
   refine⟨⟨_,rfl⟩,rfl,⟨⟨_,rfl,rfl,rfl,rfl,rfl⟩,⟨_,rfl,rfl,rfl,rfl,rfl⟩,⟨_,rfl,rfl,rfl,rfl,rfl⟩,trivial⟩, ?_⟩
   rw[zi3]
   first|refine zs0 ?_|exact zt0
   simp[zbA,zeF,zbq,zar,st0]
  |ok l=>
  have he3:=zdG bs _ h (zbg h e2) e3
  simp only
  repeat'(first|refine zq0 ?_|exact zd0|(refine zaa ?_ ?_<;>intro hb)|(refine And.intro ?_ ?_;exact zI)|(refine And.intro ?_ ?_<;>intro hg)|exact zC|fail)
  refine zj (he3) ?_
  cases e4:zdo bs l.2 with
  |error e=>
   have hr:=(zd8 bs _ h (zbg h e3) false (st0,0) e e4).2 rfl
   repeat'(first|refine zq0 ?_|exact zd0|(refine zaa ?_ ?_<;>intro hb)|(refine And.intro ?_ ?_;exact zI)|(refine And.intro ?_ ?_<;>intro hg)|exact zC|fail)
   refine zp (rds bs p) (hr) ?_
   simp only[zbl,zbm,zbk,zbK]
   refine⟨⟨_,rfl⟩,rfl,⟨⟨_,rfl,rfl,rfl,rfl,rfl⟩,⟨_,rfl,rfl,rfl,rfl,rfl⟩,⟨_,rfl,rfl,rfl,rfl,rfl⟩,trivial⟩, ?_⟩
   rw[zi3]
   first|refine zs0 ?_|exact zt0
   simp[zbA,zeF,zbq,zar,st0]
  |ok s=>
  have he4:=(zd8 bs _ h (zbg h e3) true s 0 e4).1 rfl
  simp only
  repeat'(first|refine zq0 ?_|exact zd0|(refine zaa ?_ ?_<;>intro hb)|(refine And.intro ?_ ?_;exact zI)|(refine And.intro ?_ ?_<;>intro hg)|exact zC|fail)
  refine zj (he4) ?_
  have hms:=zkb ⟨d.1,v.1,l.1,s.1⟩ (zbo (zcv.1 (zd7 e4)))
  cases hm:zbv ⟨d.1,v.1,l.1,s.1⟩
  ·rw[hm]at hms
   rw[if_neg (by simp)]
   repeat'(first|refine zq (I @za4 (I @zam @zaQ)) ?_|exact zd (I @za4 (I @zam @zaQ))|refine zc (hms) ?_|refine zg (hms) ?_|(refine zaa ?_ ?_<;>intro hb)|(refine And.intro ?_ ?_;exact zI)|(refine And.intro ?_ ?_<;>intro hg)|exact zC|fail)
   simp only[zbl,zbm,zbk,zbK]
   refine⟨⟨_,rfl⟩,rfl,⟨⟨_,rfl,rfl,rfl,rfl,rfl⟩,⟨_,rfl,rfl,rfl,rfl,rfl⟩,⟨_,rfl,rfl,rfl,rfl,rfl⟩,trivial⟩, ?_⟩
   rw[zi3]
   first|refine zs0 ?_|exact zt0
   simp[zbA,zeF,zbq,zar,st0]
  ·rw[hm]at hms
   rw[if_pos rfl]
   repeat'(first|(with_reducible first|refine za9 7 ?_|refine zaS 7 ?_|refine zaT 7 ?_)|refine zu (I @za4 (I @zam @zaQ)) ?_|exact zd (I @za4 (I @zam @zaQ))|(with_reducible first|refine zab _ _ ?_)|refine zc (hms) ?_|refine zg (hms) ?_|(refine zaa ?_ ?_<;>intro hb)|(refine And.intro ?_ ?_;exact zI)|(refine And.intro ?_ ?_<;>intro hg)|exact zC|fail)
   refine za6 (zaZ (Gh.sealF 4 6 (.own ⟨4,7,7⟩ 0 s.1.sess.length) ?_) ?_)
   ·exact zo @za4
   refine zf @za4 ?_
   refine zaZ (Gh.sealF 4 7 (.own ⟨4,8,8⟩ 0 s.1.locks.length) ?_) ?_
   ·exact zo @zam
   refine zf @zam ?_
   refine zaZ (Gh.sealF 4 8 (.own ⟨4,9,9⟩ 0 s.1.memos.length) ?_) ?_
   ·exact zo @zaQ
   refine zf @zaQ ?_
   repeat'(first|refine zq @zdA ?_|exact zd @zdA|(refine zaa ?_ ?_<;>intro hb)|(refine And.intro ?_ ?_;exact zI)|(refine And.intro ?_ ?_<;>intro hg)|exact zC|fail)
   simp[zbA,zeF,zbq,zar]
theorem zoL {α:Type} {a:α} {q:Int}:rOf (a,q,0)= .ok (a,q):=rfl
theorem zhw {bs:List Int} {p:Nat} {v:Int} {rest:List Int} (h:bs.drop p=za8 v++rest) (hv:0≤v∧v<4611686018427387904):zef bs p= .ok (v,((p+8:Nat):Int)):=by rw[zef,zlk h hv,zoL]
theorem zid {bs:List Int} {p:Nat} {x:Int} {rest:List Int} (h:bs.drop p=[x]++rest):zdi bs p= .ok (x,((p+1:Nat):Int)):=by rw[zdi,zhj h,zoL]
theorem zt3 {bs:List Int} {p:Nat} {s:ByteArray} {rest:List Int} (h:bs.drop p=zeC s++rest) (hs:s.size≤12):zi6 bs p= .ok (s,((p+(1+s.size):Nat):Int)):=by rw[zi6,zoO h (by omega),zoL]
theorem zt4 {bs:List Int} {p:Nat} {m:Memo} {rest:List Int} (h:bs.drop p=za3 m++rest) (hm:answerB m=true):zhb bs p= .ok (m,((p+(za3 m).length:Nat):Int)):=by rw[zhb,zpX h hm,zoL]
theorem zg8 {bs:List Int} {p:Nat} {x most:Int} {rest:List Int} (h:bs.drop p=[x]++rest) (hx:x≤most):zb3 bs p most= .ok (x,((p+1:Nat):Int)):=by
 rw[zb3,zid h]
 simp only
 rw[if_neg (by omega)]
theorem zg9 {α:Type} {bs:List Int} {f:Int→Rr α} {enc:α→List Int}:∀{l:List α} {p:Nat} {acc:List α} {rest:List Int},(∀x∈l,∀(p:Nat) (rest:List Int),bs.drop p=enc x++rest→f p= .ok (x,((p+(enc x).length:Nat):Int)))→
  bs.drop p=l.flatMap enc++rest→zcg f l.length p acc= .ok (acc++l,((p+(l.flatMap enc).length:Nat):Int))
 |[],p,acc,rest,_,_=>by simp[zcg]
 |x::l,p,acc,rest,hf,h=>by
  rw[List.flatMap_cons,List.append_assoc]at h
  rw[List.length_cons,zcg,hf x (by simp) p _ h]
  simp only
  rw[zg9 (fun y hy=>hf y (by simp[hy])) (zaV h)]
  simp[Nat.add_assoc]
theorem zt5 {bs:List Int} {p:Nat} {x:Sess} {rest:List Int} (h:bs.drop p=zhz x++rest) (h1:0≤x.num∧x.num<4611686018427387904) (h2:0≤x.renewed∧x.renewed<4611686018427387904):
  zhW bs p= .ok (x,((p+(zhz x).length:Nat):Int)):=by
 have h:bs.drop p=[x.client]++(za8 x.num++(za8 x.renewed++rest)):=by rw[h];simp[zhz]
 have g1:=zaV h
 have g2:=zaV g1
 rw[zhW,zid h]
 simp only
 rw[List.length_singleton]at g1
 rw[zhw g1 h1]
 simp only
 rw[zaR,List.length_singleton]at g2
 rw[zhw g2 h2,zi7]
theorem zhx {bs:List Int}:∀{n:Nat} {p:Int} {acc:List Int},zhy bs n p acc=zcg (zdi bs) n p acc
 |0,_,_=>rfl
 |n+1,p,acc=>by
  rw[zhy,zcg]
  cases zdi bs p with
  |error e=>rfl
  |ok x=>exact zhx
theorem zi2 (l:List Int):(l.flatMap fun x=>[x])=l:=by induction l<;>simp_all
theorem zt6 {bs:List Int} {p:Nat} {k:Lk} {rest:List Int} (h:bs.drop p=zhA k++rest) (h1:k.name.size≤12) (h2:0≤k.token∧k.token<4611686018427387904) (h3:k.line.length≤3):
  zfu bs p= .ok (k,((p+(zhA k).length:Nat):Int)):=by
 have h:bs.drop p=zeC k.name++([k.holder]++(za8 k.token++([(k.line.length:Int)]++((k.line.flatMap fun x=>[x])++rest)))):=by rw[h,zi2];simp[zhA,lk0]
 have g1:=zaV h
 have g2:=zaV g1
 have g3:=zaV g2
 have g4:=zaV g3
 rw[zcD]at g1 g2 g3 g4
 rw[List.length_singleton]at g2 g3 g4
 rw[zaR]at g3 g4
 rw[List.length_singleton]at g4
 rw[zfu,zt3 h h1]
 simp only
 rw[zid g1]
 simp only
 rw[zhw g2 h2]
 simp only
 rw[zg8 g3 (by omega)]
 simp only
 rw[zhx,Int.toNat_natCast,zg9 (enc:=fun x=>[x]) (fun x _ p rest h=>zid h) g4]
 simp only[List.nil_append,zi2]
 rw[zhA,List.length_append,zi8]
 congr 3
 omega
theorem zr9 {bs:List Int} {p:Nat} {s:St} {rest:List Int} (h:bs.drop p=zcm s++rest) (hr:RightS s):zdo bs p= .ok (s,((p+(zcm s).length:Nat):Int)):=by
 have hH:zbD=2305843009213693952:=rfl
 have ht:=hr.time
 have hn:=hr.num
 have hk:=hr.token
 have hl1:=hr.sl
 have hl2:=hr.ll
 have hl3:=zeS hr
 have h:bs.drop p=za8 s.time++(za8 s.num++(za8 s.token++([(s.sess.length:Int)]++(s.sess.flatMap zhz++([(s.locks.length:Int)]++(s.locks.flatMap zhA++([(s.memos.length:Int)]++(s.memos.flatMap za3++rest)))))))):=by
  rw[h];simp[zcm,sb3,sb2,sb1,zhX]
 have g1:=zaV h
 have g2:=zaV g1
 have g3:=zaV g2
 have g4:=zaV g3
 have g5:=zaV g4
 have g6:=zaV g5
 have g7:=zaV g6
 have g8:=zaV g7
 rw[zaR]at g1 g2 g3 g4 g5 g6 g7 g8
 rw[zaR]at g2 g3 g4 g5 g6 g7 g8
 rw[zaR]at g3 g4 g5 g6 g7 g8
 rw[List.length_singleton]at g4 g5 g6 g7 g8
 rw[List.length_singleton]at g6 g7 g8
 rw[List.length_singleton]at g8
 rw[zdo,zhw h (by omega)]
 simp only
 rw[zhw g1 (by omega)]
 simp only
 rw[zhw g2 (by omega)]
 simp only
 rw[zg8 g3 (by omega)]
 simp only
 rw[Int.toNat_natCast,zg9 (enc:=zhz) (fun x hx p rest h=>by
  obtain⟨_,f2,f3⟩:=zb0.1 (hr.sok x hx).1
  exact zt5 h (by omega) (by omega)) g4]
 simp only
 rw[zg8 g5 (by omega)]
 simp only
 rw[Int.toNat_natCast,zg9 (enc:=zhA) (fun x hx p rest h=>by
  obtain⟨q0,q1,q2,q3,q4,q5⟩:=zeB hr hx
  exact zt6 h q1 q3 q4) g6]
 simp only
 rw[zg8 g7 (by omega)]
 simp only
 rw[Int.toNat_natCast,zg9 (enc:=za3) (fun x hx p rest h=>zt4 h (hr.mok x hx)) g8]
 simp only[List.nil_append]
 rw[if_pos (zcv.2 hr)]
 congr 3
 simp only[zcm,sb3,sb2,sb1,zhX,List.length_append,List.take_length,zaR,List.length_singleton]
 omega
end Go.Proofs.YtbpmcjeeeiffhaaGreat
