import Derived.Test.YtliimajkpggbhaaGreatM3
set_option maxHeartbeats 8000000
namespace Go.Proofs.YtliimajkpggbhaaGreat
open Go.Pk Tryz
set_option maxRecDepth 100000
set_option linter.unusedSimpArgs false
set_option linter.unusedVariables false
def na (bs:List Int) (p:Int):Rr bg:=match bI bs p with
 | .error e=> .error e
 | .ok c=>match aD bs c.2 with
  | .error e=> .error e
  | .ok n=>match aD bs n.2 with
   | .error e=> .error e
   | .ok r=> .ok (⟨c.1,n.1,r.1⟩,r.2)
def bL {α:Type} (f:Int->Rr α):Nat->Int->List α->Rr (List α)
 |0,p,acc=> .ok (acc,p)
 |n+1,p,acc=>match f p with
  | .error e=> .error e
  | .ok x=>bL f n x.2 (acc++[x.1])
def ko (bs:List Int) (p:Int):Rr St:=match aD bs p with
 | .error e=> .error e
 | .ok t=>match aD bs t.2 with
  | .error e=> .error e
  | .ok u=>match aD bs u.2 with
   | .error e=> .error e
   | .ok k=>match ef bs k.2 5 with
    | .error e=> .error e
    | .ok n=>match bL (na bs) n.1.toNat n.2 []with
     | .error e=> .error e
     | .ok ss=>match ef bs ss.2 4 with
      | .error e=> .error e
      | .ok n2=>match bL (j8 bs) n2.1.toNat n2.2 []with
       | .error e=> .error e
       | .ok ls=>match ef bs ls.2 8 with
        | .error e=> .error e
        | .ok n3=>match bL (jn bs) n3.1.toNat n3.2 []with
         | .error e=> .error e
         | .ok ms=>if gE ⟨t.1,u.1,k.1,ss.1,ls.1,ms.1⟩=true then .ok (⟨t.1,u.1,k.1,ss.1,ls.1,ms.1⟩,ms.2)else .error 4
theorem xe {α:Type} {f:Int->Rr α} {ok:α->Prop} (hf:∀p y,f p= .ok y->i64 y.2/\ok y.1):∀{n:Nat} {p:Int} {acc:List α} {y:List α×Int},i64 p->(∀x∈acc,ok x)->bL f n p acc= .ok y->i64 y.2/\y.1.length=acc.length+n/\∀x∈y.1,ok x
 |0,p,acc,y,hp,ha,hy=>by cases hy;exact⟨hp,rfl,ha⟩
 |n+1,p,acc,y,hp,ha,hy=>by
  rw[bL]at hy;cases hx:f p with
  |error x=>rw[hx]at hy;cases hy
  |ok x=>
   rw[hx]at hy
   have:=xe hf (hf _ _ hx).1 (λ z hz=>by
    rcases dN.1 hz with hz|hz
    .exact ha z hz
    .simp at hz;subst hz;exact(hf _ _ hx).2) hy
   rw[aG,bG]at this;exact⟨this.1,by omega,this.2.2⟩
theorem IA {bs:List Int} (h:bu bs) {p:Int} {y:bN×Int} (hy:jn bs p= .ok y):i64 y.2/\ik y.1.bd:=by
 obtain⟨h0,rfl⟩:=iJ hy;simp only;unfold eC at h0⊢;simp only at h0⊢;split at h0
 .rename_i h1;exact absurd h0 h1
 rename_i h1;rw[aa h1];split at h0
 .rename_i h2;exact absurd h0 h2
 rename_i h2;rw[aa h2];split at h0
 .rename_i h3;exact absurd h0 h3
 rename_i h3;rw[aa h3];split at h0
 .exact absurd h0 (by decide)
 rename_i h4;rw[aa h4];obtain⟨g1,g2⟩:=yU h (p:=(ch bs (bQ bs p).2.1).2.1);exact⟨iL h.l g1,g2⟩
theorem Is (bs:List Int) (p:Int) (h:bu bs) (hp:i64 p) (b:Bool) (y:St×Int) (e:Int) (hy:lj b y e (ko bs p)):
  (b=true->ah prog 145 [.obj (b4 bs p)] (λ r o=>r=[y.1.rf]/\o=[b4 bs y.2]))/\(b=false->gF prog 145 [.obj (b4 bs p)] (pH e)):=by
 refine EV func145 results145 ntmps145 call145 ?_;simp only[f145,Option.getD];unfold ko at hy;cases e1:aD bs p with
 |error x=>
  rw[e1]at hy;obtain⟨rfl,rfl⟩:=ea hy;have hr:=sy bs p h hp e1;refine az trivial ?_;refine zp (b4 bs p) (hr) ?_
  first|refine zs (I @bY @bx) ?_|exact zt (I @bY @bx)
 |ok t=>
 have he1:=sE bs p h hp e1;rw[e1]at hy;simp only at hy;refine az trivial ?_;refine zj (he1) ?_;cases e2:aD bs t.2 with
 |error x=>
  rw[e2]at hy;obtain⟨rfl,rfl⟩:=ea hy;have hr:=sy bs _ h (dU h e1) e2;refine az trivial ?_;refine zp (b4 bs p) (hr) ?_
  first|refine zs (I @bY @bx) ?_|exact zt (I @bY @bx)
 |ok u=>
 have he2:=sE bs _ h (dU h e1) e2;rw[e2]at hy;simp only at hy;refine az trivial ?_;refine zj (he2) ?_;cases e3:aD bs u.2 with
 |error x=>
  rw[e3]at hy;obtain⟨rfl,rfl⟩:=ea hy;have hr:=sy bs _ h (dU h e2) e3;refine az trivial ?_;refine zp (b4 bs p) (hr) ?_
  first|refine zs (I @bY @bx) ?_|exact zt (I @bY @bx)
 |ok k=>
 have he3:=sE bs _ h (dU h e2) e3;rw[e3]at hy;simp only at hy;refine az trivial ?_;refine zj (he3) ?_;cases e4:ef bs k.2 5 with
 |error x=>
  rw[e4]at hy;obtain⟨rfl,rfl⟩:=ea hy;have hr:=B6 bs _ 5 h (dU h e3) e4;refine az trivial ?_;refine zp (b4 bs p) (hr) ?_
  first|refine zs (I @bY @bx) ?_|exact zt (I @bY @bx)
 |ok n=>
 have he4:=Cp bs _ 5 h (dU h e3) e4;rw[e4]at hy;simp only at hy;refine az trivial ?_;refine zj (he4) ?_;obtain⟨hn1,hn2,hn3⟩:=ui h e4;refine az trivial ?_;refine bq (τ:=Nat×Int×List bg×Nat) (λ a=>⟨(.one (.ptr ⟨0,0,0⟩ 0)::dd::cd 2::cd 3::nT (ai n.1::ai a.1::r9 (b8 []))),[BH bs a.2.1 a.2.2.2,(2,⟨2,[aW 1 [di 0,di 0,di 0, .d (.v (.slice none 0 0)), .d (.v (.slice none 0 0)), .d (.v (.slice none 0 0))],none,none,none,none,none,none]⟩),(3,⟨2,[aW 1 [di t.1,di u.1,di k.1, .own ⟨3,4,1⟩ 0 a.2.2.1.length, .d (.v (.slice none 0 0)), .d (.v (.slice none 0 0))],none,none,none,b9 1 3 (bT a.2.2.1),none,none]⟩),(4,⟨2,[]⟩),(31,⟨2,[]⟩),(32,⟨2,[]⟩)]⟩)
  (λ a=>a.1≤n.1.toNat/\i64 a.2.1/\a.2.2.1.length=a.1) (λ a=>bL (na bs) (n.1.toNat - a.1) a.2.1 a.2.2.1) (λ a=>n.1.toNat - a.1) (0,n.2,[],5)
  ((Gh.mI 3 3 3 rfl).trans (Gh.canon [0,2,3] [4,31,32] [0] zK rfl rfl)) ⟨bc _,hn1,rfl⟩ ?_
 intro⟨i,q,acc,nx⟩ ⟨hi0,hq,ha⟩ hF K hK;simp only[i7]at hi0 hq ha hF hK⊢;rw[←hF]at hy;refine zw ?_;refine aq (λ hlt=> ?_) (λ hge=> ?_)
 .have hi:i<n.1.toNat:=by simp at hlt;omega
  have hw:=bz hi (by omega);have hst:n.1.toNat - i=(n.1.toNat - (i+1))+1:=by omega
  rw[hst,bL,na]at hy;cases x1:bI bs q with
  |error x=>
   rw[x1]at hy;obtain⟨rfl,rfl⟩:=ea hy;have hr:=CL bs q h hq x1;refine az trivial ?_;refine zp (b4 bs p) (hr) ?_
   first|refine zs (I @bY @bx) ?_|exact zt (I @bY @bx)
  |ok c=>
  rw[x1]at hy;simp only at hy;have hr1:=Ad bs q h hq x1;refine az trivial ?_;refine zj (hr1) ?_;cases x2:aD bs c.2 with
  |error x=>
   rw[x2]at hy;obtain⟨rfl,rfl⟩:=ea hy;have hr:=sy bs _ h (jT h x1) x2;refine az trivial ?_;refine zp (b4 bs p) (hr) ?_
   first|refine zs (I @bY @bx) ?_|exact zt (I @bY @bx)
  |ok m=>
  rw[x2]at hy;simp only at hy;have hr2:=sE bs _ h (jT h x1) x2;refine az trivial ?_;refine zj (hr2) ?_;cases x3:aD bs m.2 with
  |error x=>
   rw[x3]at hy;obtain⟨rfl,rfl⟩:=ea hy;have hr:=sy bs _ h (dU h x2) x3;refine az trivial ?_;refine zp (b4 bs p) (hr) ?_
   first|refine zs (I @bY @bx) ?_|exact zt (I @bY @bx)
  |ok r=>
  have hr3:=sE bs _ h (dU h x2) x3;have hF2:bL (na bs) (n.1.toNat - (i+1)) r.2 (acc++[⟨c.1,m.1,r.1⟩])=bL (na bs) (n.1.toNat - i) q acc:=by rw[hst,bL,na,x1];simp only;rw[x2];simp only;rw[x3]
  refine az trivial ?_;refine zj (hr3) ?_;refine az @ca ?_;refine hK _ (i+1,r.2,acc++[⟨c.1,m.1,r.1⟩],nx+3) (Gh.canon [0,2,3] [] [0] (zk (I hw (I @aG.{0} @bG.{0}))) rfl (by simp only[aG,bG];rw[xg];rfl)) ⟨hi,dU h x3,by simp only[aG,bG];omega⟩ hF2 (by simp only;omega)
 .have hi:i=n.1.toNat:=by
   have:¬(i:Int)<n.1:=by simpa using hge
   omega
  rw[hi,iq,bL]at hy;simp only at hy;clear hK hF;have hpq:=hq;cases e5:ef bs q 4 with
  |error x=>
   rw[e5]at hy;obtain⟨rfl,rfl⟩:=ea hy;have hr:=B6 bs _ 4 h hq e5;refine az trivial ?_;refine zp (b4 bs p) (hr) ?_
   first|refine zs (I @bY @bx) ?_|exact zt (I @bY @bx)
  |ok n2=>
  have hr5:=Cp bs _ 4 h hq e5;obtain⟨hn4,hn5,hn6⟩:=ui h e5;rw[e5]at hy;simp only at hy;refine az trivial ?_;refine zj (hr5) ?_;refine az trivial ?_;refine bq (τ:=Nat×Int×List Lk×Nat) (λ a=>⟨(.one (.ptr ⟨0,0,0⟩ 0)::dd::cd 2::cd 3::rV (ai n2.1::ai a.1::BC [])),[BH bs a.2.1 a.2.2.2,(2,⟨2,[aW 1 [di 0,di 0,di 0, .d (.v (.slice none 0 0)), .d (.v (.slice none 0 0)), .d (.v (.slice none 0 0))],none,none,none,none,none,none]⟩),(3,⟨2,[aW 1 [di t.1,di u.1,di k.1, .own ⟨3,4,1⟩ 0 acc.length, .own ⟨3,5,1⟩ 0 a.2.2.1.length, .d (.v (.slice none 0 0))],none,none,none,b9 1 3 (bT acc),b9 1 4 (aU a.2.2.1),none]⟩),(4,⟨2,[]⟩),(31,⟨2,[]⟩),(32,⟨2,[]⟩),(42,⟨2,[]⟩),(43,⟨2,[]⟩),(44,⟨2,[]⟩)]⟩)
   (λ a=>a.1≤n2.1.toNat/\i64 a.2.1/\a.2.2.1.length=a.1/\∀k∈a.2.2.1,k.line.length≤3/\k.name.size≤bs.length) (λ a=>bL (j8 bs) (n2.1.toNat - a.1) a.2.1 a.2.2.1) (λ a=>n2.1.toNat - a.1) (0,n2.2,[],nx+1)
   ((Gh.mI 3 4 4 rfl).trans (Gh.canon [0,2,3] [42,43,44] [0] zK rfl rfl)) ⟨bc _,hn4,rfl,by simp⟩ ?_
  intro⟨j,q2,ls,nx2⟩ ⟨hj0,hq2,hl,hlk⟩ hF K hK;simp only[i7]at hj0 hq2 hl hlk hF hK⊢;rw[←hF]at hy;refine zw ?_;refine aq (λ hlt2=> ?_) (λ hge2=> ?_)
  .have hj:j<n2.1.toNat:=by simp at hlt2;omega
   have hw:=bz hj (by omega);have hst:n2.1.toNat - j=(n2.1.toNat - (j+1))+1:=by omega
   rw[hst,bL]at hy;cases x1:j8 bs q2 with
   |error x=>
    rw[x1]at hy;obtain⟨rfl,rfl⟩:=ea hy;have hr:=Wt bs q2 h hq2 x1
    first|refine gq ?_|exact gn
    refine vN _ _ (GU eV mixed 3 [false,false,false,true,true,true,true,true] (pH e) (λ g=> ?_) ?_)
    .first|refine zs (I @bY @bx) ?_|exact zt (I @bY @bx)
    .simp only[G8,G9,F6];refine az trivial ?_;exact zn (b4 bs q) (hr)
   |ok x=>
   have hr1:=Xc bs q2 h hq2 x1;obtain⟨g1,g2,g3⟩:=Vz h x1;have hF2:bL (j8 bs) (n2.1.toNat - (j+1)) x.2 (ls++[x.1])=bL (j8 bs) (n2.1.toNat - j) q2 ls:=by rw[hst,bL,x1]
   refine az trivial ?_;refine zj (hr1) ?_;have htl:(bt x.1.line).take x.1.line.length=bt x.1.line:=Cz;refine az (I @bK htl) ?_;refine hK _ (j+1,x.2,ls++[x.1],nx2+1) (Gh.canon [0,2,3] [] [0] (zk (I hw (I @aG.{0} @bG.{0}))) rfl (by simp only[aG,bG];rw[yZ];rfl)) ⟨hj,g1,by simp only[aG,bG];omega, ?_⟩ hF2 (by simp only;omega);intro k hk;rcases dN.1 hk with hk|hk
   .exact hlk k hk
   .simp at hk;subst hk;exact⟨g2,g3⟩
  .have hj:j=n2.1.toNat:=by
    have:¬(j:Int)<n2.1:=by simpa using hge2
    omega
   rw[hj,iq,bL]at hy;simp only at hy;clear hK hF;cases e6:ef bs q2 8 with
   |error x=>
    rw[e6]at hy;obtain⟨rfl,rfl⟩:=ea hy;have hr:=B6 bs _ 8 h hq2 e6;refine az trivial ?_;refine zp (b4 bs p) (hr) ?_
    first|refine zs (I @bY @bx) ?_|exact zt (I @bY @bx)
   |ok n3=>
   have hr6:=Cp bs _ 8 h hq2 e6;obtain⟨hn7,hn8,hn9⟩:=ui h e6;rw[e6]at hy;simp only at hy;refine az trivial ?_;refine zj (hr6) ?_;refine az trivial ?_;refine bq (τ:=Nat×Int×List bN×Nat) (λ a=>⟨(.one (.ptr ⟨0,0,0⟩ 0)::dd::cd 2::cd 3::js (b8 (ai n3.1::ai a.1::yH []))),[BH bs a.2.1 a.2.2.2,(2,⟨2,[aW 1 [di 0,di 0,di 0, .d (.v (.slice none 0 0)), .d (.v (.slice none 0 0)), .d (.v (.slice none 0 0))],none,none,none,none,none,none]⟩),(3,⟨2,[aW 1 [di t.1,di u.1,di k.1, .own ⟨3,4,1⟩ 0 acc.length, .own ⟨3,5,1⟩ 0 ls.length, .own ⟨3,6,1⟩ 0 a.2.2.1.length],none,none,none,b9 1 3 (bT acc),b9 1 4 (aU ls),b9 1 6 (ct a.2.2.1)]⟩),(4,⟨2,[]⟩),(31,⟨2,[]⟩),(32,⟨2,[]⟩),(42,⟨2,[]⟩),(43,⟨2,[]⟩),(44,⟨2,[]⟩),(54,⟨2,[]⟩),(55,⟨2,[]⟩),(56,⟨2,[]⟩)]⟩)
    (λ a=>a.1≤n3.1.toNat/\i64 a.2.1/\a.2.2.1.length=a.1/\∀m∈a.2.2.1,ik m.bd) (λ a=>bL (jn bs) (n3.1.toNat - a.1) a.2.1 a.2.2.1) (λ a=>n3.1.toNat - a.1) (0,n3.2,[],nx2+1)
    ((Gh.mI 3 5 6 rfl).trans (Gh.canon [0,2,3] [54,55,56] [0] zK rfl rfl)) ⟨bc _,hn7,rfl,by simp⟩ ?_
   intro⟨m,q3,ms,nx3⟩ ⟨hm0,hq3,hml,hmk⟩ hF K hK;simp only[i7]at hm0 hq3 hml hmk hF hK⊢;rw[←hF]at hy;refine zw ?_;refine aq (λ hlt3=> ?_) (λ hge3=> ?_)
   .have hm:m<n3.1.toNat:=by simp at hlt3;omega
    have hw:=bz hm (by omega);have hst:n3.1.toNat - m=(n3.1.toNat - (m+1))+1:=by omega
    rw[hst,bL]at hy;cases x1:jn bs q3 with
    |error x=>
     rw[x1]at hy;obtain⟨rfl,rfl⟩:=ea hy;have hr:=Wn bs q3 h hq3 x1
     first|refine gq ?_|exact gn
     refine vN _ _ (GU eV mixed 3 [false,false,false,true,true,true,true,true] (pH e) (λ g=> ?_) ?_)
     .first|refine zs (I @bY @bx) ?_|exact zt (I @bY @bx)
     .simp only[G8,G9,F6];refine az trivial ?_;exact zn (b4 bs q) (hr)
    |ok x=>
    have hr1:=Yc bs q3 h hq3 x1;obtain⟨g1,g2⟩:=IA h x1;have hF2:bL (jn bs) (n3.1.toNat - (m+1)) x.2 (ms++[x.1])=bL (jn bs) (n3.1.toNat - m) q3 ms:=by rw[hst,bL,x1]
    refine az trivial ?_;refine zj (hr1) ?_;refine az @cN ?_;refine hK _ (m+1,x.2,ms++[x.1],nx3+1) (Gh.canon [0,2,3] [] [0] (zk (I hw (I @aG.{0} @bG.{0}))) rfl (by simp only[aG,bG];rw[xa];rfl)) ⟨hm,g1,by simp only[aG,bG];omega, ?_⟩ hF2 (by simp only;omega);intro k hk;rcases dN.1 hk with hk|hk
    .exact hmk k hk
    .simp at hk;subst hk;exact g2
   .have hm:m=n3.1.toNat:=by
     have:¬(m:Int)<n3.1:=by simpa using hge3
     omega
    rw[hm,iq,bL]at hy;simp only at hy;clear hK hF;have hbl:=h.l;have hri:=GA ⟨t.1,u.1,k.1,acc,ls,ms⟩ ⟨by simp only;omega,by simp only;omega,by simp only;omega,λ k hk=>⟨by have:=(hlk k hk).1;omega,by have:=(hlk k hk).2;omega⟩,hmk⟩;cases hR:gE ⟨t.1,u.1,k.1,acc,ls,ms⟩
    .rw[hR]at hri hy;rw[aa (by simp)]at hy;obtain⟨rfl,rfl⟩:=ea hy;exact zW (I @bY (I @bx (I @oS (I @gv @n9)))) (hri)
    .rw[hR]at hri hy;rw[aj rfl]at hy;obtain⟨rfl,rfl⟩:=o9 hy;refine zL (I @pa (I @oS (I @gv @n9))) (hri) ?_;rfl
abbrev cY:Value:= .slice none 0 0
def szS (k:Nat):Nat:=if k=4 then 6 else 1
def nwS (x:Value) (k:Nat):List Value:=if k=4 then [.int .i64 0, .int .i64 0, .int .i64 0,cY,cY,cY]else if k=5 then [.int .i64 0]else [AR x]
theorem adj {l:List Value} (h:l.length=9):∃a b c d e f g i j,l=[a,b,c,d,e,f,g,i,j]:=by
 match l,h with
 |[a,b,c,d,e,f,g,i,j],_=>exact⟨a,b,c,d,e,f,g,i,j,rfl⟩
theorem ZK:(prog.info? 177).bind (·.zero)=some (.agg #[.int .i64 0]):=by kernel_rfl
def BI (bs:List Int) (p:Int):St×Int×Int:=match ko bs p with
 | .ok y=>(y.1,y.2,0)
 | .error e=>(cm,0,e)
structure Sn where
 done:Int
 view:Int
 slot:Int
 st:St
abbrev Sn.aC (s:Sn):List C:=di s.done::di s.view::di s.slot::s.st.aC
abbrev HX (s:Sn):RF:= .agg (.d (iD s.done):: .d (iD s.view):: .d (iD s.slot)::(EP s.st).map RO.d)
def gw (s:Sn):Bool:=within s.done&&(within s.view&&(within s.slot&&gE s.st))
theorem wX (n:Int):within n=(!(decide (n<0))&& !(decide (n>2305843009213693952))):=by unfold within;have hH:bj=2305843009213693952:=rfl;rw[hH];by_cases h1:n<0<;>by_cases h2:n>2305843009213693952<;>simp[h1,h2]<;>omega
theorem FN (s:Sn) (h:Small s.st):ah prog 39 [.f (.agg s.aC)] (λ r o=>r=[rb (gw s)]/\o=[]):=by
 refine zh func39 results39 ntmps39 call39 ?_;simp only[f39,Option.getD];have hri:=GA s.st h;have hagg:∀(Z:List Nat) (r:Rs) (xs ys:List AV),fk Z r (AV.agg [di s.done,di s.view,di s.slot]::xs) (AV.agg [di s.done,di s.view,di s.slot]::ys)=fk Z r xs ys:=λ Z r xs ys=>C8 rfl rfl
 refine az trivial ?_;refine bq (τ:=Nat) (λ i=>⟨(dd::cd 1::yy (.agg [di s.done,di s.view,di s.slot]::ai i::nT [])),[(1,⟨2,[aW 1 [di s.done,di s.view,di s.slot,di s.st.time,di s.st.num,di s.st.token, .aC s.st.ax.length (bT s.st.ax), .aC s.st.ae.length (aU s.st.ae), .aC s.st.aI.length (ct s.st.aI)],none,none,none,none,none,none,none,none,none]⟩)]⟩)
  (λ i=>i≤3) (λ i=>if i=0 then gw s else if i=1 then within s.view&&(within s.slot&&gE s.st)else if i=2 then within s.slot&&gE s.st else gE s.st) (λ i=>3 - i) 0
  (Gh.canon [1] [] [] (zk hagg) rfl rfl) (bc _) ?_
 intro i hi0 hF K hK;rw[aj rfl]at hF;refine zw ?_;refine aq (λ hlt=> ?_) (λ hge=> ?_)
 .have hi:i<3:=by simp at hlt;omega
  have hw:IntKind.i64.wrap ((i:Int)+1)=((i+1:Nat):Int):=bz hi (by omega);rcases(show i=0∨i=1∨i=2 by omega)with rfl|rfl|rfl
  .have hb:=wX s.done;cases h1:decide (s.done<0)
   .cases h2:decide (s.done>2305843009213693952)
    .rw[h1,h2]at hb;refine az (I h1 h2) ?_;exact hK _ 1 (Gh.canon [1] [] [] (zk (I hw hagg)) rfl rfl) (by omega) (by simp[gw,hb]) (by omega)
    .rw[h1,h2]at hb;have hz:gw s=false:=by simp[gw,hb]
     exact bA (I h1 (I h2 hz))
   .rw[h1]at hb;have hz:gw s=false:=by simp[gw,hb]
    exact bA (I h1 hz)
  .have hb:=wX s.view;simp only[Nat.reduceEqDiff,cS,cE]at hF;rw[←hF];cases h1:decide (s.view<0)
   .cases h2:decide (s.view>2305843009213693952)
    .rw[h1,h2]at hb;refine az (I h1 h2) ?_;exact hK _ 2 (Gh.canon [1] [] [] (zk (I hw hagg)) rfl rfl) (by omega) (by simp[hb]) (by omega)
    .rw[h1,h2]at hb;have hz:(within s.view&&(within s.slot&&gE s.st))=false:=by simp[hb]
     exact bA (I h1 (I h2 hz))
   .rw[h1]at hb;have hz:(within s.view&&(within s.slot&&gE s.st))=false:=by simp[hb]
    exact bA (I h1 hz)
  .have hb:=wX s.slot;simp only[Nat.reduceEqDiff,cS,cE]at hF;rw[←hF];cases h1:decide (s.slot<0)
   .cases h2:decide (s.slot>2305843009213693952)
    .rw[h1,h2]at hb;refine az (I h1 h2) ?_;exact hK _ 3 (Gh.canon [1] [] [] (zk (I hw hagg)) rfl rfl) (by omega) (by simp[hb]) (by omega)
    .rw[h1,h2]at hb;have hz:(within s.slot&&gE s.st)=false:=by simp[hb]
     exact bA (I h1 (I h2 hz))
   .rw[h1]at hb;have hz:(within s.slot&&gE s.st)=false:=by simp[hb]
    exact bA (I h1 hz)
 .have hi:i=3:=by
   have:¬(i:Int)<3:=by simpa using hge
   omega
  subst hi;simp only[Nat.reduceEqDiff,cE]at hF;rw[←hF];exact zW trivial (hri)
def ie (s:Sn):List Int:=aK s.done++(aK s.view++(aK s.slot++kn s.st))
theorem Fq {n:Int} (h:within n=true):0≤n/\n<4611686018427387904:=by rw[wX]at h;simp at h;omega
theorem BQ {s:Sn} (h:gw s=true):(0≤s.done/\s.done<4611686018427387904)/\(0≤s.view/\s.view<4611686018427387904)/\(0≤s.slot/\s.slot<4611686018427387904)/\cZ s.st:=by simp only[gw,bM]at h;exact⟨Fq h.1,Fq h.2.1,Fq h.2.2.1,uk.1 h.2.2.2⟩
theorem Wc (s:Sn) (h:gw s=true):ah prog 27 [.f (.agg s.aC)] (λ r o=>r=[.one (.own 1 (ie s).length (ag (ie s)) false),ri 0]/\o=[]):=by
 obtain⟨f1,f2,f3,f4⟩:=BQ h;refine zh func27 results27 ntmps27 call27 ?_;simp only[f27,Option.getD];have hm:=FN s (oO f4);rw[h]at hm;have hp:=WV s.st f4;have m1:=sN s.done f1;have m2:=sN s.view f2;have m3:=sN s.slot f3;have hl:=Ay f4 s.st.aI.length;have hml:=xD f4;have t8:∀v:Int,(ag (aK v)).take 8=ag (aK v):=λ v=>dk (by rw[oi];decide)
 have hcc:ah prog 66 [.f (al 4 [.sl 8 (ag (aK s.done)), .sl 8 (ag (aK s.view)), .sl 8 (ag (aK s.slot)), .sl (kn s.st).length (ag (kn s.st))])] (λ x o=>x=[.one (.own 1 (ie s).length (ag (ie s)) false)]/\o=[]):=by
  have hc:=uz [aK s.done,aK s.view,aK s.slot,kn s.st] (by simp) (λ l hl=>by
   simp only[cF,iA,iR]at hl;rcases hl with rfl|rfl|rfl|rfl
   .rw[cg];decide
   .rw[cg];decide
   .rw[cg];decide
   .unfold kn;omega)
  rw[show [aK s.done,aK s.view,aK s.slot,kn s.st].flatten=ie s from by simp[ie]]at hc;exact hc
 exact zW (I t8 @dD) (I (hm) (I (hp) (I (m1) (I (m2) (I (m3) (hcc))))))
def H5 (k:Nat):Nat:=if k=4 then 9 else 1
def H6 (x:Value) (k:Nat):List Value:=if k=4 then [.int .i64 0, .int .i64 0, .int .i64 0, .int .i64 0, .int .i64 0, .int .i64 0,cY,cY,cY]else if k=5 then [.int .i64 0]else [AR x]
theorem acg {ls:List (List Value)} (h:ls.length=[4,5,6].length) (hs:∀(i k:Nat) (l:List Value),[4,5,6][i]? =some k->ls[i]? =some l->l.length=H5 k):∃a b c d e f j k l g i,ls=[[a,b,c,d,e,f,j,k,l],[g],[i]]:=by
 match ls,h with
 |[x,y,z],_=>
  obtain⟨a,b,c,d,e,f,j,k,l,rfl⟩:=adj (hs 0 4 x rfl rfl);obtain⟨g,rfl⟩:=yv (hs 1 5 y rfl rfl);obtain⟨i,rfl⟩:=yv (hs 2 6 z rfl rfl);exact⟨a,b,c,d,e,f,j,k,l,g,i,rfl⟩
theorem VI:vZ prog 143 [4,5,6] H5 H6 (Aw 177):=by
 refine zF eV mixed (T:=Ty) func143 rfl rfl ntmps143 rfl rfl rfl rfl rfl rfl rfl (by decide) (by decide) (by decide) ?_
 rintro x ⟨n,rfl⟩ ls hl hs
 obtain⟨a,b,c,d,e,f,j,k,l,g,i,rfl⟩:=acg hl hs;refine⟨.tuple #[.agg #[.int .i64 n], .bool true], .ig [.agg [di n],ab true], ?_, ?_,rfl, ?_⟩
 .intro w;simp[Instr.typeAssert,Tryz.underlying177]
 .intro cx w r β;simp[aE,bU,ay,aH,Rd,flat]
 .simp only[jV,jA,b7,fY]
  first|refine gq ?_|exact gn
  refine az trivial ?_;rfl
theorem WX:v5 prog 143 3:=by
 refine yX eV mixed (T:=Ty) func143 rfl rfl ntmps143 rfl rfl rfl rfl rfl rfl rfl (by decide) (y7:= .tuple #[.agg #[.int .i64 0], .bool false]) (V7:= .ig [.agg [di 0],ab false]) ?_ ?_ (by decide) rfl ?_
 .intro w;simp[Instr.typeAssert,Tryz.underlying177,AA ZK w]
 .intro cx w r β;simp[aE,bU,ay,aH,Rd,flat]
 .simp only[List.replicate]
  first|refine gq ?_|exact gn
  exact bA trivial
def j6 (bs:List Int) (p:Int):Rr Sn:=match aD bs p with
 | .error e=> .error e
 | .ok d=>match aD bs d.2 with
  | .error e=> .error e
  | .ok v=>match aD bs v.2 with
   | .error e=> .error e
   | .ok l=>match ko bs l.2 with
    | .error e=> .error e
    | .ok s=>if gw ⟨d.1,v.1,l.1,s.1⟩=true then .ok (⟨d.1,v.1,l.1,s.1⟩,s.2)else .error 4
abbrev iY:Sn:=⟨0,0,0,cm⟩
def iZ (bs:List Int) (p:Int):Sn×Int×Int:=match j6 bs p with
 | .ok y=>(y.1,y.2,0)
 | .error e=>(iY,0,e)
theorem BT {bs:List Int} {p:Int} {y:St×Int} (hy:ko bs p= .ok y):gE y.1=true:=by
 unfold ko at hy;cases e1:aD bs p with
 |error x=>rw[e1]at hy;cases hy
 |ok t=>
 rw[e1]at hy;simp only at hy;cases e2:aD bs t.2 with
 |error x=>rw[e2]at hy;cases hy
 |ok u=>
 rw[e2]at hy;simp only at hy;cases e3:aD bs u.2 with
 |error x=>rw[e3]at hy;cases hy
 |ok k=>
 rw[e3]at hy;simp only at hy;cases e4:ef bs k.2 5 with
 |error x=>rw[e4]at hy;cases hy
 |ok n=>
 rw[e4]at hy;simp only at hy;cases e5:bL (na bs) n.1.toNat n.2 []with
 |error x=>rw[e5]at hy;cases hy
 |ok ss=>
 rw[e5]at hy;simp only at hy;cases e6:ef bs ss.2 4 with
 |error x=>rw[e6]at hy;cases hy
 |ok n2=>
 rw[e6]at hy;simp only at hy;cases e7:bL (j8 bs) n2.1.toNat n2.2 []with
 |error x=>rw[e7]at hy;cases hy
 |ok ls=>
 rw[e7]at hy;simp only at hy;cases e8:ef bs ls.2 8 with
 |error x=>rw[e8]at hy;cases hy
 |ok n3=>
 rw[e8]at hy;simp only at hy;cases e9:bL (jn bs) n3.1.toNat n3.2 []with
 |error x=>rw[e9]at hy;cases hy
 |ok ms=>
 rw[e9]at hy;simp only at hy;split at hy
 .rename_i hr;cases hy;exact hr
 .cases hy
theorem Ar (e:Int):mG 37 [4,5,6] (H6 (pk 177 e))=⟨(js (.one (.ptr ⟨4,0,0⟩ 0):: .one (.ptr ⟨5,0,0⟩ 0):: .one (.ptr ⟨6,0,0⟩ 0)::tZ [])),[(4,{next:=1,l:=[aW 0 [di 0,di 0,di 0,di 0,di 0,di 0, .d (.v cY), .d (.v cY), .d (.v cY)]]}),(5,{next:=1,l:=[aW 0 [di 0]]}),(6,{next:=1,l:=[aW 0 [di e]]})]⟩:=rfl
theorem UW (bs:List Int) (p:Int) (h:bu bs) (hp:i64 p):
  ah prog 95 [.f (de bs.length (ag bs)), .f (ai p)] (λ r o=>r=[HX (iZ bs p).1,ri (iZ bs p).2.1,ri (iZ bs p).2.2]/\o=[]):=by
 refine ah.nil ?_;refine qX eV mixed (T:=Ty) func95 rfl results95 ntmps95 call95 call143 (ks:=[4,5,6]) rfl rfl rfl rfl rfl rfl (by decide) (by decide)
  (xs:=[de bs.length (ag bs),ai p]) (sz:=H5) (nw:=H6) WX VI ⟨(de bs.length (ag bs)::ai p::dM (.one (.ptr ⟨4,0,0⟩ 0):: .one (.ptr ⟨5,0,0⟩ 0):: .one (.ptr ⟨6,0,0⟩ 0)::tZ [])),[(4,{next:=1,l:=[aW 0 [di 0,di 0,di 0,di 0,di 0,di 0, .d (.v cY), .d (.v cY), .d (.v cY)],none,none,none,none,none,none,none,none,none]}),(5,{next:=1,l:=[aW 0 [di 0],none]}),(6,{next:=1,l:=[aW 0 [di 0],none]})]⟩ ?_ ?_ rfl ?_
 .simp only[b7,fY];refine az trivial ?_;exact λ _ _ _ h=>h
 .exact⟨⟨_,rfl,rfl,rfl,rfl,rfl⟩,⟨_,rfl,rfl,rfl,rfl,rfl⟩,⟨_,rfl,rfl,rfl,rfl,rfl⟩,trivial⟩
 .unfold iZ j6;cases e1:aD bs p with
  |error e=>
   have hr:=sy bs p h hp e1;refine az trivial ?_;refine zp (b4 bs p) (hr) ?_;simp only[kf,kd,ke,lz];refine⟨⟨_,rfl⟩,rfl,⟨⟨_,rfl,rfl,rfl,rfl,rfl⟩,⟨_,rfl,rfl,rfl,rfl,rfl⟩,⟨_,rfl,rfl,rfl,rfl,rfl⟩,trivial⟩, ?_⟩;rw[Ar]
   first|refine gq ?_|exact gn
   simp[aT,bf,aY,ak,cm]
  |ok d=>
  have he1:=sE bs p h hp e1;simp only;refine az trivial ?_;refine zj (he1) ?_;cases e2:aD bs d.2 with
  |error e=>
   have hr:=sy bs _ h (dU h e1) e2;refine az trivial ?_;refine zp (b4 bs p) (hr) ?_;simp only[kf,kd,ke,lz];refine⟨⟨_,rfl⟩,rfl,⟨⟨_,rfl,rfl,rfl,rfl,rfl⟩,⟨_,rfl,rfl,rfl,rfl,rfl⟩,⟨_,rfl,rfl,rfl,rfl,rfl⟩,trivial⟩, ?_⟩;rw[Ar]
   first|refine gq ?_|exact gn
   simp[aT,bf,aY,ak,cm]
  |ok v=>
  have he2:=sE bs _ h (dU h e1) e2;simp only;refine az trivial ?_;refine zj (he2) ?_;cases e3:aD bs v.2 with
  |error e=>
   have hr:=sy bs _ h (dU h e2) e3;refine az trivial ?_;refine zp (b4 bs p) (hr) ?_;simp only[kf,kd,ke,lz];refine⟨⟨_,rfl⟩,rfl,⟨⟨_,rfl,rfl,rfl,rfl,rfl⟩,⟨_,rfl,rfl,rfl,rfl,rfl⟩,⟨_,rfl,rfl,rfl,rfl,rfl⟩,trivial⟩, ?_⟩;rw[Ar]
   first|refine gq ?_|exact gn
   simp[aT,bf,aY,ak,cm]
  |ok l=>
  have he3:=sE bs _ h (dU h e2) e3;simp only;refine az trivial ?_;refine zj (he3) ?_;cases e4:ko bs l.2 with
  |error e=>
   have hr:=(Is bs _ h (dU h e3) false (cm,0) e e4).2 rfl;refine az trivial ?_;refine zp (b4 bs p) (hr) ?_;simp only[kf,kd,ke,lz];refine⟨⟨_,rfl⟩,rfl,⟨⟨_,rfl,rfl,rfl,rfl,rfl⟩,⟨_,rfl,rfl,rfl,rfl,rfl⟩,⟨_,rfl,rfl,rfl,rfl,rfl⟩,trivial⟩, ?_⟩;rw[Ar]
   first|refine gq ?_|exact gn
   simp[aT,bf,aY,ak,cm]
  |ok s=>
  have he4:=(Is bs _ h (dU h e3) true s 0 e4).1 rfl;simp only;refine az trivial ?_;refine zj (he4) ?_;have hms:=FN ⟨d.1,v.1,l.1,s.1⟩ (oO (uk.1 (BT e4)));cases hm:gw ⟨d.1,v.1,l.1,s.1⟩
  .rw[hm]at hms;rw[aa (by simp)];refine zL (I @oS (I @gv @n9)) (hms) ?_;simp only[kf,kd,ke,lz];refine⟨⟨_,rfl⟩,rfl,⟨⟨_,rfl,rfl,rfl,rfl,rfl⟩,⟨_,rfl,rfl,rfl,rfl,rfl⟩,⟨_,rfl,rfl,rfl,rfl,rfl⟩,trivial⟩, ?_⟩;rw[Ar]
   first|refine gq ?_|exact gn
   simp[aT,bf,aY,ak,cm]
  .rw[hm]at hms;rw[aj rfl]
   repeat'(first|exact zC|(with_reducible first|refine gA 7 ?_|refine gz 7 ?_|refine gy 7 ?_)|refine zu (I @oS (I @gv @n9)) ?_|(with_reducible first|refine bH _ _ ?_)|refine zx (hms) ?_|(apply aq<;>intro hb)|(apply I;exact zI)|(apply I<;>intro hg))
   refine gK (gB (Gh.gH 4 6 (.own ⟨4,7,7⟩ 0 s.1.ax.length) ?_) ?_)
   .exact zo @oS
   refine zf @oS ?_;refine gB (Gh.gH 4 7 (.own ⟨4,8,8⟩ 0 s.1.ae.length) ?_) ?_
   .exact zo @gv
   refine zf @gv ?_;refine gB (Gh.gH 4 8 (.own ⟨4,9,9⟩ 0 s.1.aI.length) ?_) ?_
   .exact zo @n9
   refine zf @n9 ?_
   repeat'(first|exact zC|refine zq @xG ?_|(apply aq<;>intro hb)|(apply I;exact zI)|(apply I<;>intro hg))
   simp[aT,bf,aY,ak]
theorem FF {bs:List Int}:∀{n:Nat} {p:Int} {acc:List Int},lZ bs n p acc=bL (bI bs) n p acc
 |0,_,_=>rfl
 |n+1,p,acc=>by
  rw[lZ,bL];cases bI bs p with
  |error e=>rfl
  |ok x=>exact FF
def eF {α:Type} (eq:α->α->Bool) (a b:List α):Bool:=(a.length==b.length)&&((a.zip b).all λ p=>eq p.1 p.2)
def kA {α:Type} (eq:α->α->Bool) (a b:List α) (i:Nat):Bool:=((a.drop i).zip (b.drop i)).all λ p=>eq p.1 p.2
theorem oP {α:Type} {eq:α->α->Bool} {a b:List α} {i:Nat} (ha:i<a.length) (hb:i<b.length):kA eq a b i=(eq a[i] b[i]&&kA eq a b (i+1)):=by unfold kA;rw[cB ha,cB hb,yq,lY]
theorem oQ {α:Type} {eq:α->α->Bool} {a b:List α} {i:Nat} (ha:i=a.length):kA eq a b i=true:=by unfold kA;rw[D4 (by omega)];simp
theorem o7 {α:Type} {eq:α->α->Bool} {a b:List α} (h:((a.length:Int) !=(b.length:Int))=true):eF eq a b=false:=by unfold eF;simp at h;simp;omega
theorem oZ {α:Type} {eq:α->α->Bool} {a b:List α} (h:((a.length:Int) !=(b.length:Int))=false):a.length=b.length/\eF eq a b=kA eq a b 0:=by
 have hl:a.length=b.length:=by simp at h;omega
 unfold eF kA;simp[hl]
def oG (a b:Int):Bool:=a==b
def nZ (a b:dO):Bool:=(a.name.toList==b.name.toList)&&(a.token==b.token)
def md (a b:bg):Bool:=(a.af==b.af)&&((a.num==b.num)&&(a.dp==b.dp))
def lg (a b:Lk):Bool:=(a.name.toList==b.name.toList)&&(a.bh==b.bh)&&(a.token==b.token)&&eF oG a.line b.line
def tP (a b:eh):Bool:=(a.code==b.code)&&(a.br==b.br)&&(a.ahead==b.ahead)&&eF nZ a.held b.held
def dZ (a b:bN):Bool:=(a.af==b.af)&&(a.seq==b.seq)&&(a.bd.code==b.bd.code)&&(a.bd.br==b.bd.br)&&(a.bd.ahead==b.bd.ahead)&&eF nZ a.bd.held b.bd.held
def r7 (a b:St):Bool:=(a.time==b.time)&&(a.num==b.num)&&(a.token==b.token)&&eF md a.ax b.ax&&eF lg a.ae b.ae&&eF dZ a.aI b.aI
theorem Nl {a b:List Int}:uO a b=eF oG a b:=rfl
theorem ZQ (a b:List Int) (ha:a.length<2^30) (hb:b.length<2^30):ah prog 128 [.f (al a.length (bt a)), .f (al b.length (bt b))] (λ r o=>r=[rb (eF oG a b)]/\o=[]):=by
 refine zh func128 results128 ntmps128 call128 ?_;simp only[f128,Option.getD];cases hl:((a.length:Int) !=(b.length:Int))
 .obtain⟨hle,hsr⟩:=oZ (eq:=oG) hl;rw[hsr];refine az hl ?_;refine bq (τ:=Nat) (λ i=>⟨(al a.length (bt a)::al b.length (bt b)::nz (ai a.length::ai i::nT [])),[]⟩)
   (λ i=>i≤a.length) (λ i=>kA oG a b i) (λ i=>a.length - i) 0
   (Gh.canon [] [] [] zK rfl rfl) (bc _) ?_
  intro i hi0 hF K hK;refine zw ?_;refine aq (λ hlt=> ?_) (λ hge=> ?_)
  .have hi:i<a.length:=by simpa using hlt
   have hi2:i<b.length:=by omega
   have hat:=mm hi;have hat2:=mm hi2;have hw:=bz hi (by omega);have hlb:decide ((i:Int)<a.length)=true:=by simp;omega
   have hst:=oP (eq:=oG) hi hi2;cases hq:oG a[i] b[i]
   .rw[hq]at hst;have he:(a[i] !=b[i])=true:=by unfold oG at hq;rw[bne,hq];rfl
    rw[←hF,hst];exact bA (I hat (I hat2 (I hlb (I he (I @dx (I @eR (I @iu (I @eu bw))))))))
   .rw[hq,ec]at hst;have he:(a[i] !=b[i])=false:=by unfold oG at hq;rw[bne,hq];rfl
    refine az (I hat (I hat2 (I hlb (I he (I @dx (I @eR (I @iu (I @eu bw)))))))) ?_;exact hK _ (i+1) (Gh.canon [] [] [] (zk hw) rfl rfl) hi hst.symm (by omega)
  .have hi:i=a.length:=by
    have:¬(i:Int)<a.length:=by simpa using hge
    omega
   rw[←hF,oQ hi];exact bA trivial
 .rw[o7 hl];exact bA hl
theorem Wz (a b:List dO) (ha:a.length<2^30) (hb:b.length<2^30):ah prog 131 [.f (al a.length (dV a)), .f (al b.length (dV b))] (λ r o=>r=[rb (eF nZ a b)]/\o=[]):=by
 refine zh func131 results131 ntmps131 call131 ?_;simp only[f131,Option.getD];cases hl:((a.length:Int) !=(b.length:Int))
 .obtain⟨hle,hsr⟩:=oZ (eq:=nZ) hl;rw[hsr];refine az hl ?_;refine bq (τ:=Nat) (λ i=>⟨(al a.length (dV a)::al b.length (dV b)::nz (ai a.length::ai i::nT [])),[]⟩)
   (λ i=>i≤a.length) (λ i=>kA nZ a b i) (λ i=>a.length - i) 0
   (Gh.canon [] [] [] zK rfl rfl) (bc _) ?_
  intro i hi0 hF K hK;refine zw ?_;refine aq (λ hlt=> ?_) (λ hge=> ?_)
  .have hi:i<a.length:=by simpa using hlt
   have hi2:i<b.length:=by omega
   have hat:=oU hi;have hat2:=oU hi2;have hw:=bz hi (by omega);have hlb:decide ((i:Int)<a.length)=true:=by simp;omega
   have hst:=oP (eq:=nZ) hi hi2;cases hq:nZ a[i] b[i]
   .rw[hq]at hst;have he:((a[i].name.toList==b[i].name.toList)&&(a[i].token==b[i].token))=false:=by exact hq
    rw[←hF,hst];exact bA (I hat (I hat2 (I hlb (I he (I @dx (I @eR (I @iu (I @cI bw))))))))
   .rw[hq,ec]at hst;have he:((a[i].name.toList==b[i].name.toList)&&(a[i].token==b[i].token))=true:=by exact hq
    refine az (I hat (I hat2 (I hlb (I he (I @dx (I @eR (I @iu (I @cI bw)))))))) ?_;exact hK _ (i+1) (Gh.canon [] [] [] (zk hw) rfl rfl) hi hst.symm (by omega)
  .have hi:i=a.length:=by
    have:¬(i:Int)<a.length:=by simpa using hge
    omega
   rw[←hF,oQ hi];exact bA trivial
 .rw[o7 hl];exact bA hl
theorem ZH (a b:List bg) (ha:a.length<2^30) (hb:b.length<2^30):ah prog 125 [.f (al a.length (bT a)), .f (al b.length (bT b))] (λ r o=>r=[rb (eF md a b)]/\o=[]):=by
 refine zh func125 results125 ntmps125 call125 ?_;simp only[f125,Option.getD];cases hl:((a.length:Int) !=(b.length:Int))
 .obtain⟨hle,hsr⟩:=oZ (eq:=md) hl;rw[hsr];refine az hl ?_;refine bq (τ:=Nat) (λ i=>⟨(al a.length (bT a)::al b.length (bT b)::nz (ai a.length::ai i::nT [])),[]⟩)
   (λ i=>i≤a.length) (λ i=>kA md a b i) (λ i=>a.length - i) 0
   (Gh.canon [] [] [] zK rfl rfl) (bc _) ?_
  intro i hi0 hF K hK;refine zw ?_;refine aq (λ hlt=> ?_) (λ hge=> ?_)
  .have hi:i<a.length:=by simpa using hlt
   have hi2:i<b.length:=by omega
   have hat:=hU hi;have hat2:=hU hi2;have hw:=bz hi (by omega);have hlb:decide ((i:Int)<a.length)=true:=by simp;omega
   have hst:=oP (eq:=md) hi hi2;cases hq:md a[i] b[i]
   .rw[hq]at hst;have he:((a[i].af==b[i].af)&&((a[i].num==b[i].num)&&(a[i].dp==b[i].dp)))=false:=by exact hq
    rw[←hF,hst];exact bA (I hat (I hat2 (I hlb (I he (I @dx (I @eR (I @iu (I @ca bw))))))))
   .rw[hq,ec]at hst;have he:((a[i].af==b[i].af)&&((a[i].num==b[i].num)&&(a[i].dp==b[i].dp)))=true:=by exact hq
    refine az (I hat (I hat2 (I hlb (I he (I @dx (I @eR (I @iu (I @ca bw)))))))) ?_;exact hK _ (i+1) (Gh.canon [] [] [] (zk hw) rfl rfl) hi hst.symm (by omega)
  .have hi:i=a.length:=by
    have:¬(i:Int)<a.length:=by simpa using hge
    omega
   rw[←hF,oQ hi];exact bA trivial
 .rw[o7 hl];exact bA hl
theorem Z6 (a b:Lk) (ha:a.line.length<2^30) (hb:b.line.length<2^30):ah prog 127 [.f (.agg (a.enc.map C.d)), .f (.agg (b.enc.map C.d))] (λ r o=>r=[rb (lg a b)]/\o=[]):=by refine zh func127 results127 ntmps127 call127 ?_;simp only[f127,Option.getD];have hi:=ZQ a.line b.line ha hb;refine zL trivial (hi) ?_;rfl
theorem aae (a b:bN) (ha:a.bd.held.length<2^30) (hb:b.bd.held.length<2^30):ah prog 130 [.f (.agg (a.enc.map C.d)), .f (.agg (b.enc.map C.d))] (λ r o=>r=[rb (dZ a b)]/\o=[]):=by refine zh func130 results130 ntmps130 call130 ?_;simp only[f130,Option.getD];have hi:=Wz a.bd.held b.bd.held ha hb;refine zL trivial (hi) ?_;rfl
abbrev vk (n:Nat):AV:= .one (.d (.v (.func (.func n) #[] #[])))
theorem X7 (a b:List Lk) (ha:a.length<2^30) (hb:b.length<2^30) (hla:∀x∈a,x.line.length<2^30) (hlb2:∀x∈b,x.line.length<2^30):ah prog 126 [.f (al a.length (aU a)), .f (al b.length (aU b)), .f (vk 127)] (λ r o=>r=[rb (eF lg a b)]/\o=[]):=by
 refine zh func126 results126 ntmps126 call126 ?_;simp only[f126,Option.getD];have hfn:∀(Z:List Nat) (r:Rs) (xs ys:List AV),fk Z r (vk 127::xs) (vk 127::ys)=fk Z r xs ys:=λ Z r xs ys=>C8 rfl rfl
 cases hl:((a.length:Int) !=(b.length:Int))
 .obtain⟨hle,hsr⟩:=oZ (eq:=lg) hl;rw[hsr];refine az hl ?_;refine bq (τ:=Nat) (λ i=>⟨(dd::al b.length (aU b)::vk 127::nT (al a.length (aU a)::ai a.length::ai i::wJ [])),[(8,⟨2,[]⟩),(9,⟨2,[]⟩)]⟩)
   (λ i=>i≤a.length) (λ i=>kA lg a b i) (λ i=>a.length - i) 0
   (Gh.canon [] [8,9] [] (zk hfn) rfl rfl) (bc _) ?_
  intro i hi0 hF K hK;refine zw ?_;refine aq (λ hlt=> ?_) (λ hge=> ?_)
  .have hi:i<a.length:=by simpa using hlt
   have hi2:i<b.length:=by omega
   have hat:=f8 hi;have hat2:=f8 hi2;have hw:=bz hi (by omega);have hlb:decide ((i:Int)<a.length)=true:=by simp;omega
   have hst:=oP (eq:=lg) hi hi2;have hc:=Z6 a[i] b[i] (hla _ (cb hi)) (hlb2 _ (cb hi2));cases hq:lg a[i] b[i]
   .rw[hq]at hst;have he:(!lg a[i] b[i])=true:=by rw[hq];rfl
    rw[←hF,hst];exact zW (I hat (I hat2 (I hlb (I he (I @dx (I @eR (I @iu (I @bK bw)))))))) (hc)
   .rw[hq,ec]at hst;have he:(!lg a[i] b[i])=false:=by rw[hq];rfl
    refine zL (I hat (I hat2 (I hlb (I he (I @dx (I @eR (I @iu (I @bK bw)))))))) (hc) ?_;exact hK _ (i+1) (Gh.canon [] [] [] (zk (I hw hfn)) rfl rfl) hi hst.symm (by omega)
  .have hi:i=a.length:=by
    have:¬(i:Int)<a.length:=by simpa using hge
    omega
   rw[←hF,oQ hi];exact bA trivial
 .rw[o7 hl];exact bA hl
theorem Xp (a b:List bN) (ha:a.length<2^30) (hb:b.length<2^30) (hla:∀x∈a,x.bd.held.length<2^30) (hlb2:∀x∈b,x.bd.held.length<2^30):ah prog 129 [.f (al a.length (ct a)), .f (al b.length (ct b)), .f (vk 130)] (λ r o=>r=[rb (eF dZ a b)]/\o=[]):=by
 refine zh func129 results129 ntmps129 call129 ?_;simp only[f129,Option.getD];have hfn:∀(Z:List Nat) (r:Rs) (xs ys:List AV),fk Z r (vk 130::xs) (vk 130::ys)=fk Z r xs ys:=λ Z r xs ys=>C8 rfl rfl
 cases hl:((a.length:Int) !=(b.length:Int))
 .obtain⟨hle,hsr⟩:=oZ (eq:=dZ) hl;rw[hsr];refine az hl ?_;refine bq (τ:=Nat) (λ i=>⟨(dd::al b.length (ct b)::vk 130::nT (al a.length (ct a)::ai a.length::ai i::wJ [])),[(8,⟨2,[]⟩),(9,⟨2,[]⟩)]⟩)
   (λ i=>i≤a.length) (λ i=>kA dZ a b i) (λ i=>a.length - i) 0
   (Gh.canon [] [8,9] [] (zk hfn) rfl rfl) (bc _) ?_
  intro i hi0 hF K hK;refine zw ?_;refine aq (λ hlt=> ?_) (λ hge=> ?_)
  .have hi:i<a.length:=by simpa using hlt
   have hi2:i<b.length:=by omega
   have hat:=nE hi;have hat2:=nE hi2;have hw:=bz hi (by omega);have hlb:decide ((i:Int)<a.length)=true:=by simp;omega
   have hst:=oP (eq:=dZ) hi hi2;have hc:=aae a[i] b[i] (hla _ (cb hi)) (hlb2 _ (cb hi2));cases hq:dZ a[i] b[i]
   .rw[hq]at hst;have he:(!dZ a[i] b[i])=true:=by rw[hq];rfl
    rw[←hF,hst];exact zW (I hat (I hat2 (I hlb (I he (I @dx (I @eR (I @iu (I @cN bw)))))))) (hc)
   .rw[hq,ec]at hst;have he:(!dZ a[i] b[i])=false:=by rw[hq];rfl
    refine zL (I hat (I hat2 (I hlb (I he (I @dx (I @eR (I @iu (I @cN bw)))))))) (hc) ?_;exact hK _ (i+1) (Gh.canon [] [] [] (zk (I hw hfn)) rfl rfl) hi hst.symm (by omega)
  .have hi:i=a.length:=by
    have:¬(i:Int)<a.length:=by simpa using hge
    omega
   rw[←hF,oQ hi];exact bA trivial
 .rw[o7 hl];exact bA hl
theorem PD {p q r s t u:Bool}:((!(!p|| !q|| !r|| !s))&&t&&u)=(p&&q&&r&&s&&t&&u):=by cases p<;>cases q<;>cases r<;>cases s<;>simp
theorem ZD (a b:St) (ha:Small a) (hb:Small b):ah prog 81 [.f (.agg a.aC), .f (.agg b.aC)] (λ r o=>r=[rb (r7 a b)]/\o=[]):=by
 refine zh func81 results81 ntmps81 call81 ?_;simp only[f81,Option.getD];have h1:=ZH a.ax b.ax ha.ax hb.ax;have h2:=X7 a.ae b.ae ha.ae hb.ae (λ k hk=>(ha.line k hk).1) (λ k hk=>(hb.line k hk).1);have h3:=Xp a.aI b.aI ha.aI hb.aI (λ k hk=>(ha.held k hk).1) (λ k hk=>(hb.held k hk).1);cases hq:((((a.time !=b.time)||(a.num !=b.num))||(a.token !=b.token))|| !eF md a.ax b.ax)
 .have he:r7 a b=(eF lg a.ae b.ae&&eF dZ a.aI b.aI):=by unfold r7;rw[←PD,show(!(!(a.time==b.time)|| !(a.num==b.num)|| !(a.token==b.token)|| !eF md a.ax b.ax))=true from by revert hq;simp only[bne];cases(a.time==b.time)<;>cases(a.num==b.num)<;>cases(a.token==b.token)<;>cases eF md a.ax b.ax<;>simp];simp
  rw[he];exact zW hq (I (h1) (I (h2) (h3)))
 .have he:r7 a b=false:=by unfold r7;rw[←PD,show(!(!(a.time==b.time)|| !(a.num==b.num)|| !(a.token==b.token)|| !eF md a.ax b.ax))=false from by revert hq;simp only[bne];cases(a.time==b.time)<;>cases(a.num==b.num)<;>cases(a.token==b.token)<;>cases eF md a.ax b.ax<;>simp];simp
  rw[he];exact zW hq (I (h1) (I (h2) (h3)))
theorem V5 (a b:List dO) (ha:a.length<2^30) (hb:b.length<2^30):ah prog 153 [.f (al a.length (dV a)), .f (al b.length (dV b))] (λ r o=>r=[rb (eF nZ a b)]/\o=[]):=by
 refine zh func153 results153 ntmps153 call153 ?_;simp only[f153,Option.getD];cases hl:((a.length:Int) !=(b.length:Int))
 .obtain⟨hle,hsr⟩:=oZ (eq:=nZ) hl;rw[hsr];refine az hl ?_;refine bq (τ:=Nat) (λ i=>⟨(al a.length (dV a)::al b.length (dV b)::jt (ai i::qM [])),[]⟩)
   (λ i=>i≤a.length) (λ i=>kA nZ a b i) (λ i=>a.length - i) 0
   (Gh.canon [] [] [] zK rfl rfl) (bc _) ?_
  intro i hi0 hF K hK;refine zw ?_;refine aq (λ hlt=> ?_) (λ hge=> ?_)
  .have hi:i<a.length:=by simpa using hlt
   have hi2:i<b.length:=by omega
   have hat:=oU hi;have hat2:=oU hi2;have hw:=bz hi (by omega);have hlb:decide ((i:Int)<a.length)=true:=by simp;omega
   have hst:=oP (eq:=nZ) hi hi2;cases hq:nZ a[i] b[i]
   .rw[hq]at hst;have he:((a[i].name.toList==b[i].name.toList)&&(a[i].token==b[i].token))=false:=by exact hq
    rw[←hF,hst];exact bA (I hat (I hat2 (I hlb (I he (I @dx (I @eR (I @iu (I @cI bw))))))))
   .rw[hq,ec]at hst;have he:((a[i].name.toList==b[i].name.toList)&&(a[i].token==b[i].token))=true:=by exact hq
    refine az (I hat (I hat2 (I hlb (I he (I @dx (I @eR (I @iu (I @cI bw)))))))) ?_;exact hK _ (i+1) (Gh.canon [] [] [] (zk hw) rfl rfl) hi hst.symm (by omega)
  .have hi:i=a.length:=by
    have:¬(i:Int)<a.length:=by simpa using hge
    omega
   rw[←hF,oQ hi];exact bA trivial
 .rw[o7 hl];exact bA hl
theorem KY (a b:eh) (ha:a.held.length<2^30) (hb:b.held.length<2^30):ah prog 104 [.f (.agg a.aC), .f (.agg b.aC)] (λ r o=>r=[rb (tP a b)]/\o=[]):=by refine zh func104 results104 ntmps104 call104 ?_;simp only[f104,Option.getD];have hi:=V5 a.held b.held ha hb;refine zL trivial (hi) ?_;rfl
theorem Yy (a b:List bg) (ha:a.length<2^30) (hb:b.length<2^30):ah prog 154 [.f (al a.length (bT a)), .f (al b.length (bT b))] (λ r o=>r=[rb (eF md a b)]/\o=[]):=by
 refine zh func154 results154 ntmps154 call154 ?_;simp only[f154,Option.getD];cases hl:((a.length:Int) !=(b.length:Int))
 .obtain⟨hle,hsr⟩:=oZ (eq:=md) hl;rw[hsr];refine az hl ?_;refine bq (τ:=Nat) (λ i=>⟨(al a.length (bT a)::al b.length (bT b)::jt (ai i::qM [])),[]⟩)
   (λ i=>i≤a.length) (λ i=>kA md a b i) (λ i=>a.length - i) 0
   (Gh.canon [] [] [] zK rfl rfl) (bc _) ?_
  intro i hi0 hF K hK;refine zw ?_;refine aq (λ hlt=> ?_) (λ hge=> ?_)
  .have hi:i<a.length:=by simpa using hlt
   have hi2:i<b.length:=by omega
   have hat:=hU hi;have hat2:=hU hi2;have hw:=bz hi (by omega);have hlb:decide ((i:Int)<a.length)=true:=by simp;omega
   have hst:=oP (eq:=md) hi hi2;cases hq:md a[i] b[i]
   .rw[hq]at hst;have he:((a[i].af==b[i].af)&&((a[i].num==b[i].num)&&(a[i].dp==b[i].dp)))=false:=by exact hq
    rw[←hF,hst];exact bA (I hat (I hat2 (I hlb (I he (I @dx (I @eR (I @iu (I @ca bw))))))))
   .rw[hq,ec]at hst;have he:((a[i].af==b[i].af)&&((a[i].num==b[i].num)&&(a[i].dp==b[i].dp)))=true:=by exact hq
    refine az (I hat (I hat2 (I hlb (I he (I @dx (I @eR (I @iu (I @ca bw)))))))) ?_;exact hK _ (i+1) (Gh.canon [] [] [] (zk hw) rfl rfl) hi hst.symm (by omega)
  .have hi:i=a.length:=by
    have:¬(i:Int)<a.length:=by simpa using hge
    omega
   rw[←hF,oQ hi];exact bA trivial
 .rw[o7 hl];exact bA hl
theorem VX (a b:List Lk) (ha:a.length<2^30) (hb:b.length<2^30) (hla:∀x∈a,x.line.length<2^30) (hlb2:∀x∈b,x.line.length<2^30):ah prog 155 [.f (al a.length (aU a)), .f (al b.length (aU b))] (λ r o=>r=[rb (eF lg a b)]/\o=[]):=by
 refine zh func155 results155 ntmps155 call155 ?_;simp only[f155,Option.getD];cases hl:((a.length:Int) !=(b.length:Int))
 .obtain⟨hle,hsr⟩:=oZ (eq:=lg) hl;rw[hsr];refine az hl ?_;refine bq (τ:=Nat) (λ i=>⟨(al a.length (aU a)::al b.length (aU b)::jt (ai i::wB (b8 []))),[]⟩)
   (λ i=>i≤a.length) (λ i=>kA lg a b i) (λ i=>a.length - i) 0
   (Gh.canon [] [] [] zK rfl rfl) (bc _) ?_
  intro i hi0 hF K hK;refine zw ?_;refine aq (λ hlt=> ?_) (λ hge=> ?_)
  .have hi:i<a.length:=by simpa using hlt
   have hi2:i<b.length:=by omega
   have hat:=f8 hi;have hat2:=f8 hi2;have hw:=bz hi (by omega);have hlb:decide ((i:Int)<a.length)=true:=by simp;omega
   have hst:=oP (eq:=lg) hi hi2;have hd1:(aU a).drop (i*4+1)=iD a[i].bh::iD a[i].token:: .sl a[i].line.length (bt a[i].line)::aU (a.drop (i+1)):=by rw[←jD,hat];rfl
   have hd2:(aU b).drop (i*4+1)=iD b[i].bh::iD b[i].token:: .sl b[i].line.length (bt b[i].line)::aU (b.drop (i+1)):=by rw[←jD,hat2];rfl
   have hsi:=Vw a[i].line b[i].line (by have:=hla _ (cb hi);omega) (by have:=hlb2 _ (cb hi2);omega);cases hq:lg a[i] b[i]
   .rw[hq]at hst;have he:((((!(a[i].name.toList==b[i].name.toList))||(a[i].bh !=b[i].bh))||(a[i].token !=b[i].token))|| !uO a[i].line b[i].line)=true:=by unfold lg at hq;rw[Nl];revert hq;cases eF oG a[i].line b[i].line<;>cases h1:(a[i].name.toList==b[i].name.toList)<;>cases h2:(a[i].bh==b[i].bh)<;>cases h3:(a[i].token==b[i].token)<;>simp[bne,h1,h2,h3]
    rw[←hF,hst];exact zW (I hat (I hat2 (I hlb (I he (I @dx (I @eR (I @iu (I hd1 (I hd2 (I @bK bw)))))))))) (hsi)
   .rw[hq,ec]at hst;have he:((((!(a[i].name.toList==b[i].name.toList))||(a[i].bh !=b[i].bh))||(a[i].token !=b[i].token))|| !uO a[i].line b[i].line)=false:=by unfold lg at hq;rw[Nl];revert hq;cases eF oG a[i].line b[i].line<;>cases h1:(a[i].name.toList==b[i].name.toList)<;>cases h2:(a[i].bh==b[i].bh)<;>cases h3:(a[i].token==b[i].token)<;>simp[bne,h1,h2,h3]
    refine zL (I hat (I hat2 (I hlb (I he (I @dx (I @eR (I @iu (I hd1 (I hd2 (I @bK bw)))))))))) (hsi) ?_;exact hK _ (i+1) (Gh.canon [] [] [] (zk hw) rfl rfl) hi hst.symm (by omega)
  .have hi:i=a.length:=by
    have:¬(i:Int)<a.length:=by simpa using hge
    omega
   rw[←hF,oQ hi];exact bA trivial
 .rw[o7 hl];exact bA hl
theorem WE (a b:List bN) (ha:a.length<2^30) (hb:b.length<2^30) (hla:∀x∈a,x.bd.held.length<2^30) (hlb2:∀x∈b,x.bd.held.length<2^30):ah prog 156 [.f (al a.length (ct a)), .f (al b.length (ct b))] (λ r o=>r=[rb (eF dZ a b)]/\o=[]):=by
 refine zh func156 results156 ntmps156 call156 ?_;simp only[f156,Option.getD];cases hl:((a.length:Int) !=(b.length:Int))
 .obtain⟨hle,hsr⟩:=oZ (eq:=dZ) hl;rw[hsr];refine az hl ?_;refine bq (τ:=Nat) (λ i=>⟨(al a.length (ct a)::al b.length (ct b)::jt (ai i::r8 (b8 []))),[]⟩)
   (λ i=>i≤a.length) (λ i=>kA dZ a b i) (λ i=>a.length - i) 0
   (Gh.canon [] [] [] zK rfl rfl) (bc _) ?_
  intro i hi0 hF K hK;refine zw ?_;refine aq (λ hlt=> ?_) (λ hge=> ?_)
  .have hi:i<a.length:=by simpa using hlt
   have hi2:i<b.length:=by omega
   have hat:=nE hi;have hat2:=nE hi2;have hw:=bz hi (by omega);have hlb:decide ((i:Int)<a.length)=true:=by simp;omega
   have hst:=oP (eq:=dZ) hi hi2;have hd1:(ct a).drop (i*6+1)=iD a[i].seq::(a[i].bd.enc++ct (a.drop (i+1))):=by rw[←jD,hat];rfl
   have hd2:(ct b).drop (i*6+1)=iD b[i].seq::(b[i].bd.enc++ct (b.drop (i+1))):=by rw[←jD,hat2];rfl
   have hsr:=KY a[i].bd b[i].bd (hla _ (cb hi)) (hlb2 _ (cb hi2));have hme:dZ a[i] b[i]=((a[i].af==b[i].af)&&(a[i].seq==b[i].seq)&&tP a[i].bd b[i].bd):=by unfold dZ tP;simp only[eJ]
   cases hq:dZ a[i] b[i]
   .rw[hq]at hst;have he:(((a[i].af !=b[i].af)||(a[i].seq !=b[i].seq))|| !tP a[i].bd b[i].bd)=true:=by rw[hme]at hq;revert hq;cases tP a[i].bd b[i].bd<;>cases h1:(a[i].af==b[i].af)<;>cases h2:(a[i].seq==b[i].seq)<;>simp[bne,h1,h2]
    rw[←hF,hst];exact zW (I hat (I hat2 (I hlb (I he (I @dx (I @eR (I @iu (I hd1 (I hd2 (I @cN bw)))))))))) (hsr)
   .rw[hq,ec]at hst;have he:(((a[i].af !=b[i].af)||(a[i].seq !=b[i].seq))|| !tP a[i].bd b[i].bd)=false:=by rw[hme]at hq;revert hq;cases tP a[i].bd b[i].bd<;>cases h1:(a[i].af==b[i].af)<;>cases h2:(a[i].seq==b[i].seq)<;>simp[bne,h1,h2]
    refine zL (I hat (I hat2 (I hlb (I he (I @dx (I @eR (I @iu (I hd1 (I hd2 (I @cN bw)))))))))) (hsr) ?_;exact hK _ (i+1) (Gh.canon [] [] [] (zk hw) rfl rfl) hi hst.symm (by omega)
  .have hi:i=a.length:=by
    have:¬(i:Int)<a.length:=by simpa using hge
    omega
   rw[←hF,oQ hi];exact bA trivial
 .rw[o7 hl];exact bA hl
theorem Zf (a b:St) (ha:Small a) (hb:Small b):ah prog 107 [.f (.agg a.aC), .f (.agg b.aC)] (λ r o=>r=[rb (r7 a b)]/\o=[]):=by refine zh func107 results107 ntmps107 call107 ?_;simp only[f107,Option.getD];have h1:=Yy a.ax b.ax ha.ax hb.ax;have h2:=VX a.ae b.ae ha.ae hb.ae (λ k hk=>(ha.line k hk).1) (λ k hk=>(hb.line k hk).1);have h3:=WE a.aI b.aI ha.aI hb.aI (λ k hk=>(ha.held k hk).1) (λ k hk=>(hb.held k hk).1);refine zL trivial (I (h1) (I (h2) (h3))) ?_;rfl
theorem Yi (bO:List Act) (hl:bO.length<2^60) (ha:∀a∈bO,we a) (d v s:Int) (hd:aO d) (hv:aO v) (hs:aO s):
  ah prog 62 [.f (al bO.length (tE bO)), .f (au d), .f (au v), .f (au s)] (λ r o=>r=[HX ⟨d,v,s,uR bO⟩]/\o=[]):=by
 refine zh func62 results62 ntmps62 call62 ?_;simp only[f62,Option.getD];have hm:=aby bO hl ha;have w1:=sv hd;have w2:=sv hv;have w3:=sv hs;refine zL (I w1 (I w2 w3)) (hm) ?_;rfl
def jr (a b:Sn):Bool:=(a.done==b.done)&&((a.view==b.view)&&(a.slot==b.slot))&&r7 a.st b.st
theorem VS (a b:Sn) (ha:Small a.st) (hb:Small b.st):ah prog 56 [.f (.agg a.aC), .f (.agg b.aC)] (λ r o=>r=[rb (jr a b)]/\o=[]):=by refine zh func56 results56 ntmps56 call56 ?_;simp only[f56,Option.getD];have hs:=Zf a.st b.st ha hb;refine zL trivial (hs) ?_;rfl
theorem uw {α:Type} {eq:α->α->Bool} (h:∀a,eq a a=true) (l:List α):eF eq l l=true:=by unfold eF;simp only[wo,ec,jh];intro p hp;obtain⟨j,h1,h2⟩:=oA hp;rw[←h2,List.getElem_zip];exact h _
theorem WN (l:List Int):eF oG l l=true:=uw (λ x=>by simp[oG]) l
theorem F4 (l:List dO):eF nZ l l=true:=uw (λ x=>by simp[nZ]) l
theorem Y8 (s:St):r7 s s=true:=by unfold r7;rw[uw (λ a=>by simp[md]),uw (λ a=>by simp[lg,WN]),uw (λ a=>by simp[dZ,F4])];simp
theorem ki (s:Sn):jr s s=true:=by simp[jr,Y8]
abbrev Z27:List Int:=List.replicate 27 0
end Go.Proofs.YtliimajkpggbhaaGreat
