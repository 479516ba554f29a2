import Derived.Test.YtliimajkpggbhaaGreatWJ
set_option maxHeartbeats 8000000
namespace Go.Proofs.YtliimajkpggbhaaGreat
open Go.Pk Tryz
set_option maxRecDepth 100000
set_option linter.unusedSimpArgs false
set_option linter.unusedVariables false
abbrev jG:cr:=⟨0,0,⟨0,0⟩,0,[]⟩
abbrev aR (k:Int):cf:=⟨k,0,0,0,gl,gT,dP,jG,iY⟩
def nd (bs:List Int) (k p:Int):Rr cf:=
 if k=1 then aP (fy bs p) λ x=> .ok ({aR k with ba:=x.1},x.2)
 else if k=2 then aP (jn bs p) λ x=> .ok ({aR k with aV:=x.1},x.2)
 else if k=3 then aP (aD bs p) λ x=> .ok ({aR k with aA:=x.1},x.2)
 else if k=4 then aP (aD bs p) λ x=>aP (nP bs x.2) λ y=> .ok ({aR k with aA:=x.1,prom:=y.1},y.2)
 else if k=5 then aP (aD bs p) λ x=>aP (aD bs x.2) λ y=>aP (dr bs y.2) λ z=> .ok ({aR k with aA:=x.1,slot:=y.1,aJ:=z.1},z.2)
 else if k=6 then aP (aD bs p) λ x=>aP (aD bs x.2) λ y=>aP (dr bs y.2) λ z=> .ok ({aR k with aA:=x.1,slot:=y.1,aJ:=z.1},z.2)
 else if k=7 then aP (aD bs p) λ x=>aP (aD bs x.2) λ y=> .ok ({aR k with aA:=x.1,done:=y.1},y.2)
 else if k=8 then aP (aD bs p) λ x=> .ok ({aR k with done:=x.1},x.2)
 else if k=9 then aP (j6 bs p) λ x=> .ok ({aR k with snap:=x.1},x.2)
 else .error 4
def oH (bs:List Int) (p:Int):Rr cf:=aP (bI bs p) λ k=>nd bs k.1 k.2
def NZ {α:Type} (r:Rr α):Prop:=∀e,r= .error e->(e !=0)=true
theorem Ef {α:Type} {x:α×Int×Int}:NZ (kc x):=λ e h=>by simpa using(iH h).2
theorem Oj {α:Type} {x:α×Int}:NZ (.ok x:Rr α):=λ e h=>by cases h
theorem Ov {α:Type} {c:Prop} [Decidable c] {x:α×Int}:NZ (if c then(.ok x:Rr α)else .error 4):=λ e h=>by
 split at h
 .cases h
 .cases h;rfl
theorem jx {α β:Type} {r:Rr α} {k:α×Int->Rr β} (h1:NZ r) (h2:∀x,NZ (k x)):NZ (aP r k):=λ e h=>by
 cases r with
 |error z=>cases h;exact h1 _ rfl
 |ok x=>exact h2 x e h
theorem DC {α:Type} {f:Int->Rr α} (hf:∀p,NZ (f p)) {n:Nat} {p:Int} {acc:List α}:NZ (bL f n p acc):=λ e h=>z0 (λ p e h=>hf p e h) h
theorem CY {bs:List Int} {p m:Int}:NZ (ef bs p m):=λ e h=>by
 rcases zi h with hz|⟨_,_,_,rfl⟩
 .simpa using(iH hz).2
 .rfl
theorem M3 {bs:List Int} {p:Int}:NZ (j6 bs p):=by
 have hn:∀p,NZ (aD bs p):=λ p=>Ef
 have hb:∀p,NZ (bI bs p):=λ p=>Ef
 have hs:∀p,NZ (na bs p):=λ p=>by rw[show na bs p=aP (bI bs p) λ c=>aP (aD bs c.2) λ n=>aP (aD bs n.2) λ r=> .ok (⟨c.1,n.1,r.1⟩,r.2) from by kernel_rfl];exact jx (hb _) λ _=>jx (hn _) λ _=>jx (hn _) λ _=>Oj
 have hl:∀p,NZ (j8 bs p):=λ p=>by
  rw[show j8 bs p=aP (jl bs p) λ nm=>aP (bI bs nm.2) λ hd=>aP (aD bs hd.2) λ tk=>aP (ef bs tk.2 3) λ n=>aP (lZ bs n.1.toNat n.2 []) λ x=> .ok (⟨nm.1,hd.1,tk.1,x.1⟩,x.2) from by kernel_rfl];refine jx Ef λ _=>jx (hb _) λ _=>jx (hn _) λ _=>jx CY λ _=>jx ?_ λ _=>Oj
  rw[FF];exact DC hb
 have hst:∀p,NZ (ko bs p):=λ p=>by
  rw[show ko bs p=aP (aD bs p) λ t=>aP (aD bs t.2) λ u=>aP (aD bs u.2) λ k=>aP (ef bs k.2 5) λ n=>aP (bL (na bs) n.1.toNat n.2 []) λ ss=>aP (ef bs ss.2 4) λ n2=>aP (bL (j8 bs) n2.1.toNat n2.2 []) λ ls=>aP (ef bs ls.2 8) λ n3=>aP (bL (jn bs) n3.1.toNat n3.2 []) λ ms=>
   if gE ⟨t.1,u.1,k.1,ss.1,ls.1,ms.1⟩=true then .ok (⟨t.1,u.1,k.1,ss.1,ls.1,ms.1⟩,ms.2)else .error 4 from by kernel_rfl]
  exact jx (hn _) λ _=>jx (hn _) λ _=>jx (hn _) λ _=>jx CY λ _=>jx (DC hs) λ _=>jx CY λ _=>jx (DC hl) λ _=>jx CY λ _=>jx (DC λ _=>Ef) λ _=>Ov
 rw[show j6 bs p=aP (aD bs p) λ d=>aP (aD bs d.2) λ v=>aP (aD bs v.2) λ l=>aP (ko bs l.2) λ s=>if gw ⟨d.1,v.1,l.1,s.1⟩=true then .ok (⟨d.1,v.1,l.1,s.1⟩,s.2)else .error 4 from by kernel_rfl];exact jx (hn _) λ _=>jx (hn _) λ _=>jx (hn _) λ _=>jx (hst _) λ _=>Ov
theorem JM (bs:List Int) (p:Int) (h:bu bs) (hp:i64 p) (b:Bool) (y:cf×Int) (e:Int) (hy:lj b y e (oH bs p)):
  (b=true->ah prog 49 [.obj (b4 bs p)] (λ r o=>aT r [.agg (y.1.enc.map RO.d)]/\o=[b4 bs y.2]))/\(b=false->gF prog 49 [.obj (b4 bs p)] yB):=by
 refine EV func49 results49 ntmps49 call49 ?_;simp only[f49,Option.getD];unfold oH at hy;cases e1:bI bs p with
 |error x=>
  rw[e1]at hy;obtain⟨rfl,rfl⟩:=ea hy;have hr:=Gc bs _ h hp e1;refine az trivial ?_;refine zp (b4 bs p) (hr) ?_
  first|refine zs (I @bY @bx) ?_|exact zt (I @bY @bx)
 |ok k=>
 have he1:=GI bs _ h hp e1;have p1:=jT h e1;rw[e1]at hy;obtain⟨kv,kq⟩:=k;have hy:lj b y e (nd bs kv kq):=hy;simp only at he1 p1;refine az trivial ?_;refine zj (he1) ?_;rcases kinds kv with rfl|rfl|rfl|rfl|rfl|rfl|rfl|rfl|rfl|⟨k1,k2,k3,k4,k5,k6,k7,k8,k9⟩
 .have hy:lj b y e (aP (fy bs kq) λ x=> .ok ({aR 1 with ba:=x.1},x.2)):=hy;have h1:=KU bs kq h p1;cases x1:fy bs kq with
  |error er=>
   rw[x1]at hy;obtain⟨rfl,rfl⟩:=ea hy;rw[x1]at h1;simp only[cy]at h1;have hq:=Ap x1;refine zL trivial (h1) ?_;refine rl (xn _ hq) rfl ?_
   first|refine zs (I @bY @bx) ?_|exact zt (I @bY @bx)
  |ok x=>
  rw[x1]at hy;obtain⟨rfl,rfl⟩:=o9 hy;rw[x1]at h1;simp only[cy]at h1
  repeat'(first|exact zC|refine zq @pa ?_|refine zx (h1) ?_|refine zx (oV) ?_|(apply aq<;>intro hb)|(apply I;exact zI)|(apply I<;>intro hg))
  simp[aT,bf,aY,ak,cm, -List.length_flatMap,cI,cQ,dg,ca,bK,cN]
 .have hy:lj b y e (aP (jn bs kq) λ x=> .ok ({aR 2 with aV:=x.1},x.2)):=hy;have h1:=E' bs kq h p1;cases x1:jn bs kq with
  |error er=>
   rw[x1]at hy;obtain⟨rfl,rfl⟩:=ea hy;have h9:=iH x1;rw[h9.1]at h1;have hq:=h9.2;rw[←bne_iff_ne]at hq;refine zL trivial (h1) ?_;refine rl (xn _ hq) rfl ?_
   first|refine zs (I @bY @bx) ?_|exact zt (I @bY @bx)
  |ok x=>
  rw[x1]at hy;obtain⟨rfl,rfl⟩:=o9 hy;obtain⟨h0,rfl⟩:=iJ x1;rw[h0]at h1
  repeat'(first|exact zC|refine zq @pa ?_|refine zx (h1) ?_|refine zx (oV) ?_|(apply aq<;>intro hb)|(apply I;exact zI)|(apply I<;>intro hg))
  simp[aT,bf,aY,ak,cm, -List.length_flatMap,cI,cQ,dg,ca,bK,cN]
 .have hy:lj b y e (aP (aD bs kq) λ x=> .ok ({aR 3 with aA:=x.1},x.2)):=hy;cases xx:aD bs kq with
  |error er=>
   rw[xx]at hy;obtain⟨rfl,rfl⟩:=ea hy;have hr:=mN bs _ h p1 xx;refine az trivial ?_;refine zp (b4 bs p) (hr) ?_
   first|refine zs (I @bY @bx) ?_|exact zt (I @bY @bx)
  |ok x=>
  rw[xx]at hy;simp only[aP]at hy;have hrx:=mR bs _ h p1 xx;have px:=dU h xx;refine az trivial ?_;refine zj (hrx) ?_;obtain⟨rfl,rfl⟩:=o9 hy
  repeat'(first|exact zC|refine zq @pa ?_|refine zx (oV) ?_|(apply aq<;>intro hb)|(apply I;exact zI)|(apply I<;>intro hg))
  simp[aT,bf,aY,ak,cm, -List.length_flatMap,cI,cQ,dg,ca,bK,cN]
 .have hy:lj b y e (aP (aD bs kq) λ x=>aP (nP bs x.2) λ y=> .ok ({aR 4 with aA:=x.1,prom:=y.1},y.2)):=hy;cases xx:aD bs kq with
  |error er=>
   rw[xx]at hy;obtain⟨rfl,rfl⟩:=ea hy;have hr:=mN bs _ h p1 xx;refine az trivial ?_;refine zp (b4 bs p) (hr) ?_
   first|refine zs (I @bY @bx) ?_|exact zt (I @bY @bx)
  |ok x=>
  rw[xx]at hy;have hrx:=mR bs _ h p1 xx;have px:=dU h xx;refine az trivial ?_;refine zj (hrx) ?_;cases xy:nP bs x.2 with
  |error er=>
   have hy:lj b y e (aP (nP bs x.2) λ y=> .ok ({aR 4 with aA:=x.1,prom:=y.1},y.2)):=hy;rw[xy]at hy;obtain⟨rfl,rfl⟩:=ea hy;have hr:=(IC bs _ h px false (jG,0) _ xy).2 rfl;refine az trivial ?_;refine zp (b4 bs p) (hr) ?_
   first|refine zs (I @bY @bx) ?_|exact zt (I @bY @bx)
  |ok z=>
  have hy:lj b y e (aP (nP bs x.2) λ y=> .ok ({aR 4 with aA:=x.1,prom:=y.1},y.2)):=hy;rw[xy]at hy;have hry:=ah.nil ((IC bs _ h px true z 0 xy).1 rfl);refine az trivial ?_;refine zj (hry) ?_;obtain⟨rfl,rfl⟩:=o9 hy
  repeat'(first|exact zC|refine zq @pa ?_|refine zx (oV) ?_|(apply aq<;>intro hb)|(apply I;exact zI)|(apply I<;>intro hg))
  simp[aT,bf,aY,ak,cm, -List.length_flatMap,cI,cQ,dg,ca,bK,cN]
 .have hy:lj b y e (aP (aD bs kq) λ x=>aP (aD bs x.2) λ w=>aP (dr bs w.2) λ z=> .ok ({aR 5 with aA:=x.1,slot:=w.1,aJ:=z.1},z.2)):=hy;cases xx:aD bs kq with
  |error er=>
   rw[xx]at hy;obtain⟨rfl,rfl⟩:=ea hy;have hr:=mN bs _ h p1 xx;refine az trivial ?_;refine zp (b4 bs p) (hr) ?_
   first|refine zs (I @bY @bx) ?_|exact zt (I @bY @bx)
  |ok x=>
  rw[xx]at hy;simp only[aP]at hy;have hrx:=mR bs _ h p1 xx;have px:=dU h xx;refine az trivial ?_;refine zj (hrx) ?_;cases xw:aD bs x.2 with
  |error er=>
   rw[xw]at hy;obtain⟨rfl,rfl⟩:=ea hy;have hr:=mN bs _ h px xw;refine az trivial ?_;refine zp (b4 bs p) (hr) ?_
   first|refine zs (I @bY @bx) ?_|exact zt (I @bY @bx)
  |ok w=>
  rw[xw]at hy;simp only[aP]at hy;have hrw:=mR bs _ h px xw;have pw:=dU h xw;refine az trivial ?_;refine zj (hrw) ?_;cases xz:dr bs w.2 with
  |error er=>
   rw[xz]at hy;obtain⟨rfl,rfl⟩:=ea hy;have hr:=F0 bs _ h pw xz;refine az trivial ?_;refine zp (b4 bs p) (hr) ?_
   first|refine zs (I @bY @bx) ?_|exact zt (I @bY @bx)
  |ok z=>
  rw[xz]at hy;simp only[aP]at hy;have hrz:=Gw bs _ h pw xz;have pz:=zN h xz;refine az trivial ?_;refine zj (hrz) ?_;obtain⟨rfl,rfl⟩:=o9 hy
  repeat'(first|exact zC|refine zq @pa ?_|refine zx (oV) ?_|(apply aq<;>intro hb)|(apply I;exact zI)|(apply I<;>intro hg))
  simp[aT,bf,aY,ak,cm, -List.length_flatMap,cI,cQ,dg,ca,bK,cN]
 .have hy:lj b y e (aP (aD bs kq) λ x=>aP (aD bs x.2) λ w=>aP (dr bs w.2) λ z=> .ok ({aR 6 with aA:=x.1,slot:=w.1,aJ:=z.1},z.2)):=hy;cases xx:aD bs kq with
  |error er=>
   rw[xx]at hy;obtain⟨rfl,rfl⟩:=ea hy;have hr:=mN bs _ h p1 xx;refine az trivial ?_;refine zp (b4 bs p) (hr) ?_
   first|refine zs (I @bY @bx) ?_|exact zt (I @bY @bx)
  |ok x=>
  rw[xx]at hy;simp only[aP]at hy;have hrx:=mR bs _ h p1 xx;have px:=dU h xx;refine az trivial ?_;refine zj (hrx) ?_;cases xw:aD bs x.2 with
  |error er=>
   rw[xw]at hy;obtain⟨rfl,rfl⟩:=ea hy;have hr:=mN bs _ h px xw;refine az trivial ?_;refine zp (b4 bs p) (hr) ?_
   first|refine zs (I @bY @bx) ?_|exact zt (I @bY @bx)
  |ok w=>
  rw[xw]at hy;simp only[aP]at hy;have hrw:=mR bs _ h px xw;have pw:=dU h xw;refine az trivial ?_;refine zj (hrw) ?_;cases xz:dr bs w.2 with
  |error er=>
   rw[xz]at hy;obtain⟨rfl,rfl⟩:=ea hy;have hr:=F0 bs _ h pw xz;refine az trivial ?_;refine zp (b4 bs p) (hr) ?_
   first|refine zs (I @bY @bx) ?_|exact zt (I @bY @bx)
  |ok z=>
  rw[xz]at hy;simp only[aP]at hy;have hrz:=Gw bs _ h pw xz;have pz:=zN h xz;refine az trivial ?_;refine zj (hrz) ?_;obtain⟨rfl,rfl⟩:=o9 hy
  repeat'(first|exact zC|refine zq @pa ?_|refine zx (oV) ?_|(apply aq<;>intro hb)|(apply I;exact zI)|(apply I<;>intro hg))
  simp[aT,bf,aY,ak,cm, -List.length_flatMap,cI,cQ,dg,ca,bK,cN]
 .have hy:lj b y e (aP (aD bs kq) λ x=>aP (aD bs x.2) λ w=> .ok ({aR 7 with aA:=x.1,done:=w.1},w.2)):=hy;cases xx:aD bs kq with
  |error er=>
   rw[xx]at hy;obtain⟨rfl,rfl⟩:=ea hy;have hr:=mN bs _ h p1 xx;refine az trivial ?_;refine zp (b4 bs p) (hr) ?_
   first|refine zs (I @bY @bx) ?_|exact zt (I @bY @bx)
  |ok x=>
  rw[xx]at hy;simp only[aP]at hy;have hrx:=mR bs _ h p1 xx;have px:=dU h xx;refine az trivial ?_;refine zj (hrx) ?_;cases xw:aD bs x.2 with
  |error er=>
   rw[xw]at hy;obtain⟨rfl,rfl⟩:=ea hy;have hr:=mN bs _ h px xw;refine az trivial ?_;refine zp (b4 bs p) (hr) ?_
   first|refine zs (I @bY @bx) ?_|exact zt (I @bY @bx)
  |ok w=>
  rw[xw]at hy;simp only[aP]at hy;have hrw:=mR bs _ h px xw;have pw:=dU h xw;refine az trivial ?_;refine zj (hrw) ?_;obtain⟨rfl,rfl⟩:=o9 hy
  repeat'(first|exact zC|refine zq @pa ?_|refine zx (oV) ?_|(apply aq<;>intro hb)|(apply I;exact zI)|(apply I<;>intro hg))
  simp[aT,bf,aY,ak,cm, -List.length_flatMap,cI,cQ,dg,ca,bK,cN]
 .have hy:lj b y e (aP (aD bs kq) λ x=> .ok ({aR 8 with done:=x.1},x.2)):=hy;cases xx:aD bs kq with
  |error er=>
   rw[xx]at hy;obtain⟨rfl,rfl⟩:=ea hy;have hr:=mN bs _ h p1 xx;refine az trivial ?_;refine zp (b4 bs p) (hr) ?_
   first|refine zs (I @bY @bx) ?_|exact zt (I @bY @bx)
  |ok x=>
  rw[xx]at hy;simp only[aP]at hy;have hrx:=mR bs _ h p1 xx;have px:=dU h xx;refine az trivial ?_;refine zj (hrx) ?_;obtain⟨rfl,rfl⟩:=o9 hy
  repeat'(first|exact zC|refine zq @pa ?_|refine zx (oV) ?_|(apply aq<;>intro hb)|(apply I;exact zI)|(apply I<;>intro hg))
  simp[aT,bf,aY,ak,cm, -List.length_flatMap,cI,cQ,dg,ca,bK,cN]
 .have hy:lj b y e (aP (j6 bs kq) λ x=> .ok ({aR 9 with snap:=x.1},x.2)):=hy;have h1:=UW bs kq h p1;cases x1:j6 bs kq with
  |error er=>
   rw[x1]at hy;obtain⟨rfl,rfl⟩:=ea hy;have hq:=M3 _ x1;unfold iZ at h1;rw[x1]at h1;simp only at h1;refine zL trivial (h1) ?_;refine rl (xn _ hq) rfl ?_
   first|refine zs (I @bY @bx) ?_|exact zt (I @bY @bx)
  |ok x=>
  rw[x1]at hy;obtain⟨rfl,rfl⟩:=o9 hy;unfold iZ at h1;rw[x1]at h1;simp only at h1
  repeat'(first|exact zC|refine zq @pa ?_|refine zx (h1) ?_|refine zx (oV) ?_|(apply aq<;>intro hb)|(apply I;exact zI)|(apply I<;>intro hg))
  simp[aT,bf,aY,ak,cm, -List.length_flatMap,cI,cQ,dg,ca,bK,cN]
 .have hz:nd bs kv kq= .error 4:=by simp only[kU,kt]at k1 k2 k3 k4 k5 k6 k7 k8 k9;unfold nd;simp only[k1,k2,k3,k4,k5,k6,k7,k8,k9,cE]
  rw[hz]at hy;obtain⟨rfl,rfl⟩:=ea hy;exact bA (I k1 (I k2 (I k3 (I k4 (I k5 (I k6 (I k7 (I k8 (I k9 (I @bY @bx))))))))))
theorem I7 (a b:List Int) (ha:a.length<2^40) (hb:b.length<2^40):ah prog 50 [.f (al a.length (ag a)), .f (al b.length (ag b))] (λ r o=>r=[rb ((jZ a).toList==(jZ b).toList)]/\o=[]):=by refine zh func50 results50 ntmps50 call50 ?_;simp only[f50,Option.getD];refine az (I @BR @dD) ?_;rfl
theorem I4 (a:List Int):(jZ a).toList=a.map λ n=>UInt8.ofNat n.toNat:=by rw[yW];rfl
theorem ofNat_inj {x y:Int} (hx:aO x) (hy:aO y) (h:UInt8.ofNat x.toNat=UInt8.ofNat y.toNat):x=y:=by unfold aO at hx hy;have:=congrArg UInt8.toNat h;simp only[UInt8.toNat_ofNat']at this;omega
theorem map_inj:∀{a b:List Int},(∀x∈a,aO x)->(∀x∈b,aO x)->(a.map λ n=>UInt8.ofNat n.toNat)=(b.map λ n=>UInt8.ofNat n.toNat)->a=b
 |[],[],_,_,_=>rfl
 |[],_::_,_,_,h=>by simp at h
 |_::_,[],_,_,h=>by simp at h
 |x::a,y::b,ha,hb,h=>by simp only[b7,List.cons.injEq]at h;rw[ofNat_inj (ha x (by simp)) (hb y (by simp)) h.1,map_inj (λ z hz=>ha z (by simp[hz])) (λ z hz=>hb z (by simp[hz])) h.2]
theorem acN {a b:List Int} (ha:∀x∈a,aO x) (hb:∀x∈b,aO x):((jZ a).toList==(jZ b).toList)=decide (a=b):=by rw[I4,I4,nK,iz,dX];exact⟨map_inj ha hb,λ h=>by rw[h]⟩
def Uc (k:Nat):Nat:=if k=2 then 36 else 1
def ac8:List Value:=[.int .i64 0, .int .i64 0, .int .i64 0, .int .i64 0, .int .i64 0, .int .i64 0, .int .i64 0, .int .i64 0, .string .empty, .int .i64 0, .int .i64 0, .int .i64 0, .int .i64 0, .int .i64 0,cY, .bool false, .int .i64 0, .int .i64 0, .int .i64 0, .int .i64 0,cY, .int .i64 0, .int .i64 0, .int .i64 0, .int .i64 0, .int .i64 0,cY, .int .i64 0, .int .i64 0, .int .i64 0, .int .i64 0, .int .i64 0, .int .i64 0,cY,cY,cY]
def Hz:List C:=[di 0,di 0,di 0,di 0,di 0,di 0,di 0,di 0,dS .empty,di 0,di 0,di 0,di 0,di 0, .d (.v cY),db false,di 0,di 0,di 0,di 0, .d (.v cY),di 0,di 0,di 0,di 0,di 0, .d (.v cY),di 0,di 0,di 0,di 0,di 0,di 0, .d (.v cY), .d (.v cY), .d (.v cY)]
def H8 (x:Value) (k:Nat):List Value:=if k=2 then ac8 else [AR x]
theorem ff {l:List Value} {n:Nat} (h:l.length=n+1):∃a m,l=a::m/\m.length=n:=by
 cases l with
 |nil=>cases h
 |cons a m=>exact⟨a,m,rfl,by simpa using h⟩
theorem Zy:(prog.info? 84).bind (·.zero)=some (.agg #[.int .i64 0]):=by kernel_rfl
theorem VG:vZ prog 48 [2,3] Uc H8 (Aw 84):=by
 refine zF eV mixed (T:=Ty) func48 rfl rfl ntmps48 rfl rfl rfl rfl rfl rfl rfl (by decide) (by decide) (by decide) ?_
 rintro x ⟨n,rfl⟩ ls hl hs
 obtain⟨y,z,rfl⟩:∃y z,ls=[y,z]:=by
  match ls,hl with
  |[y,z],_=>exact⟨y,z,rfl⟩
 have h1:y.length=35+1:=hs 0 2 y rfl rfl;obtain⟨g,rfl⟩:=yv (hs 1 3 z rfl rfl);clear hl hs;obtain⟨a0,y0,rfl,k0⟩:=ff h1;obtain⟨a1,y1,rfl,k1⟩:=ff k0;obtain⟨a2,y2,rfl,k2⟩:=ff k1;obtain⟨a3,y3,rfl,k3⟩:=ff k2;obtain⟨a4,y4,rfl,k4⟩:=ff k3;obtain⟨a5,y5,rfl,k5⟩:=ff k4;obtain⟨a6,y6,rfl,k6⟩:=ff k5;obtain⟨a7,y7,rfl,k7⟩:=ff k6;obtain⟨a8,y8,rfl,k8⟩:=ff k7;obtain⟨a9,y9,rfl,k9⟩:=ff k8;obtain⟨a10,y10,rfl,k10⟩:=ff k9;obtain⟨a11,y11,rfl,k11⟩:=ff k10;obtain⟨a12,y12,rfl,k12⟩:=ff k11;obtain⟨a13,y13,rfl,k13⟩:=ff k12;obtain⟨a14,y14,rfl,k14⟩:=ff k13;obtain⟨a15,y15,rfl,k15⟩:=ff k14;obtain⟨a16,y16,rfl,k16⟩:=ff k15;obtain⟨a17,y17,rfl,k17⟩:=ff k16;obtain⟨a18,y18,rfl,k18⟩:=ff k17;obtain⟨a19,y19,rfl,k19⟩:=ff k18;obtain⟨a20,y20,rfl,k20⟩:=ff k19;obtain⟨a21,y21,rfl,k21⟩:=ff k20;obtain⟨a22,y22,rfl,k22⟩:=ff k21;obtain⟨a23,y23,rfl,k23⟩:=ff k22;obtain⟨a24,y24,rfl,k24⟩:=ff k23;obtain⟨a25,y25,rfl,k25⟩:=ff k24;obtain⟨a26,y26,rfl,k26⟩:=ff k25;obtain⟨a27,y27,rfl,k27⟩:=ff k26;obtain⟨a28,y28,rfl,k28⟩:=ff k27;obtain⟨a29,y29,rfl,k29⟩:=ff k28;obtain⟨a30,y30,rfl,k30⟩:=ff k29;obtain⟨a31,y31,rfl,k31⟩:=ff k30;obtain⟨a32,y32,rfl,k32⟩:=ff k31;obtain⟨a33,y33,rfl,k33⟩:=ff k32;obtain⟨a34,y34,rfl,k34⟩:=ff k33;obtain⟨a35,y35,rfl,k35⟩:=ff k34;obtain rfl:=List.length_eq_zero_iff.1 k35;refine⟨.tuple #[.agg #[.int .i64 n], .bool true], .ig [.agg [di n],ab true], ?_, ?_,rfl, ?_⟩
 .intro w;simp[Instr.typeAssert,Tryz.underlying84]
 .intro cx w r β;simp[aE,bU,ay,aH,Rd,flat]
 .simp only[jV,jA,b7,fY]
  first|refine gq ?_|exact gn
  refine az trivial ?_;rfl
theorem WS:v5 prog 48 2:=by
 refine yX eV mixed (T:=Ty) func48 rfl rfl ntmps48 rfl rfl rfl rfl rfl rfl rfl (by decide) (y7:= .tuple #[.agg #[.int .i64 0], .bool false]) (V7:= .ig [.agg [di 0],ab false]) ?_ ?_ (by decide) rfl ?_
 .intro w;simp[Instr.typeAssert,Tryz.underlying84,AA Zy w]
 .intro cx w r β;simp[aE,bU,ay,aH,Rd,flat]
 .simp only[List.replicate]
  first|refine gq ?_|exact gn
  exact bA trivial
def Fx {α:Type} (Q:α×Int->Prop) (r:Rr α):Prop:=∀y,r= .ok y->Q y
theorem qw {α:Type} {Q:α×Int->Prop} {x:α×Int} (h:Q x):Fx Q (.ok x):=λ y hy=>by cases hy;exact h
theorem f9 {α β:Type} {Q:α×Int->Prop} {R:β×Int->Prop} {r:Rr α} {k:α×Int->Rr β} (h1:Fx Q r) (h2:∀x,Q x->Fx R (k x)):Fx R (aP r k):=λ y hy=>by
 cases r with
 |error e=>cases hy
 |ok x=>exact h2 x (h1 x rfl) y hy
theorem acU {α:Type} {Q:α×Int->Prop} {c:Prop} [Decidable c] {x:α×Int} {e:Int} (h:c->Q x):Fx Q (if c then .ok x else .error e):=λ y hy=>by
 split at hy
 .rename_i hc;cases hy;exact h hc
 .cases hy
theorem aaB {bs:List Int} {p:Int}:Fx (λ y=>Small y.1.st) (j6 bs p):=by rw[show j6 bs p=aP (aD bs p) λ d=>aP (aD bs d.2) λ v=>aP (aD bs v.2) λ l=>aP (ko bs l.2) λ s=>if gw ⟨d.1,v.1,l.1,s.1⟩=true then .ok (⟨d.1,v.1,l.1,s.1⟩,s.2)else .error 4 from by kernel_rfl];exact f9 (Q:=λ _=>True) (λ _ _=>trivial) λ _ _=>f9 (Q:=λ _=>True) (λ _ _=>trivial) λ _ _=>f9 (Q:=λ _=>True) (λ _ _=>trivial) λ _ _=>f9 (Q:=λ s=>Small s.1) (λ y hy=>oO (uk.1 (BT hy))) λ _ hs=>acU λ _=>hs
theorem kS {n:Int} (h:0≤n/\n<4611686018427387904):i64 n:=by unfold i64;omega
theorem oy {k:Int} (hk:i64 k):(aR k).ok:=⟨hk,cV,cV,cV,⟨cV,cV,cV,cV,(by show(ByteArray.empty).size<2^62;decide)⟩,⟨by simp,by simp⟩,⟨cV,cV,cV,cV,by simp,by simp⟩,by simp,⟨cV,cV,cV,cV,cV,by simp,by simp⟩,by simp,by simp,(show Small cm from HE)⟩
section
variable {bs:List Int} (h:bu bs)
include h
theorem mY {p:Int}:Fx (λ y=>i64 y.2/\0≤y.1/\y.1<4611686018427387904) (aD bs p):=λ y hy=>⟨dU h hy,Af h hy⟩
theorem Hy {p:Int}:Fx (λ y=>i64 y.2/\Batch.may y.1=true) (dr bs p):=λ y hy=>by
 refine⟨zN h hy, ?_⟩;unfold dr at hy;cases e1:bI bs p with
 |error x=>rw[e1]at hy;cases hy
 |ok k=>
 rw[e1]at hy;simp only at hy;split at hy
 .cases hy
 split at hy
 .cases hy;rfl
 cases e2:bL (aD bs) 4 k.2 []with
 |error x=>rw[e2]at hy;cases hy
 |ok l=>
 rw[e2]at hy;simp only at hy;cases e3:ef bs l.2 3 with
 |error x=>rw[e3]at hy;cases hy
 |ok n=>
 rw[e3]at hy;simp only at hy;cases e4:bL (fy bs) n.1.toNat n.2 []with
 |error x=>rw[e4]at hy;cases hy
 |ok rs=>
 rw[e4]at hy;simp only at hy;split at hy
 .rename_i hm;cases hy;exact hm
 .cases hy
def DU (v:ep):Prop:=(0≤v.slot/\v.slot<4611686018427387904)/\(0≤v.aA/\v.aA<4611686018427387904)/\Batch.may v.batch=true
theorem abv {p:Int}:Fx (λ y=>i64 y.2/\DU y.1) (lO bs p):=by rw[show lO bs p=aP (aD bs p) λ s=>aP (aD bs s.2) λ b=>aP (dr bs b.2) λ x=> .ok (⟨s.1,b.1,x.1⟩,x.2) from by kernel_rfl];exact f9 (mY h) λ s hs=>f9 (mY h) λ b hb=>f9 (Hy h) λ x hx=>qw ⟨hx.1,hs.2,hb.2,hx.2⟩
structure ac3 (p:cr):Prop where
 src:0≤p.src/\p.src<256
 done:0≤p.done/\p.done<4611686018427387904
 view:0≤p.bB.view/\p.bB.view<4611686018427387904
 slot:0≤p.bB.slot/\p.bB.slot<4611686018427387904
 time:0≤p.time/\p.time<4611686018427387904
 len:p.aM.length<256
 aM:∀v∈p.aM,DU v
theorem aay {p:Int}:Fx (λ y=>i64 y.2/\ac3 y.1) (nP bs p):=by
 rw[show nP bs p=aP (bI bs p) λ f=>aP (aD bs f.2) λ d=>aP (aD bs d.2) λ v=>aP (aD bs v.2) λ s=>aP (aD bs s.2) λ t=>aP (bI bs t.2) λ n=>aP (bL (lO bs) n.1.toNat n.2 []) λ l=> .ok (⟨f.1,d.1,⟨v.1,s.1⟩,t.1,l.1⟩,l.2) from by kernel_rfl];have hb:∀p,Fx (λ y=>i64 y.2/\0≤y.1/\y.1<256) (bI bs p):=λ p y hy=>⟨jT h hy,pZ h hy⟩
 refine f9 (hb _) λ f hf=>f9 (mY h) λ d hd=>f9 (mY h) λ v hv=>f9 (mY h) λ s hs=>f9 (mY h) λ t ht=>f9 (hb _) λ n hn=> ?_
 refine f9 (Q:=λ l=>i64 l.2/\l.1.length<256/\∀v∈l.1,DU v) (λ l hl=> ?_) λ l hl=>qw ⟨hl.1,hf.2,hd.2,hv.2,hs.2,ht.2,hl.2.1,hl.2.2⟩
 have:=xe (ok:=DU) (λ p y hy=>abv h y hy) hn.1 (λ _ hx=>by cases hx) hl;refine⟨this.1, ?_,this.2.2⟩;have h3:=this.2.1;simp only[fN]at h3;omega
theorem HK {p:Int}:Fx (λ y=>y.1.ok) (oH bs p):=by
 have hb:∀p,Fx (λ y=>i64 y.2/\0≤y.1/\y.1<256) (bI bs p):=λ p y hy=>⟨jT h hy,pZ h hy⟩
 refine f9 (hb _) λ k hk=> ?_
 have h0:=oy (k:=k.1) (by unfold i64;omega);have hbo:∀b,Batch.may b=true->b.ok/\b.reqs.length<2^30:=λ b hb=>⟨GS hb,by have:=(vC hb).1;omega⟩
 unfold nd;split
 .exact f9 (Q:=λ x=>aX.may x.1=true) (λ y hy=>(Ch h hy).2) λ x hx=>qw {h0 with ba:=(uv hx).2.2.2}
 split
 .exact f9 (Q:=λ x=>ik x.1.bd) (λ y hy=>(IA h hy).2) λ x hx=>qw {h0 with aV:=hx}
 split
 .exact f9 (mY h) λ x hx=>qw {h0 with b:=kS hx.2}
 split
 .refine f9 (mY h) λ x hx=>f9 (aay h) λ y hy=>qw {h0 with b:=kS hx.2,prom:= ?_,pl:= ?_,vl:= ?_}
  .have m:=hy.2;have hsr:i64 y.1.src:=by have:=m.src;unfold i64;omega
   have hvl:y.1.aM.length<2^42:=by have:=m.len;omega
   exact⟨hsr,kS m.done,kS m.view,kS m.slot,kS m.time,hvl,λ v hv=>⟨kS (m.aM v hv).1,kS (m.aM v hv).2.1,(hbo _ (m.aM v hv).2.2).1⟩⟩
  .have:=hy.2.len;show y.1.aM.length<_;omega
  .exact λ v hv=>(hbo _ (hy.2.aM v hv).2.2).2
 split
 .exact f9 (mY h) λ x hx=>f9 (mY h) λ w hw=>f9 (Hy h) λ z hz=>qw {h0 with b:=kS hx.2,s:=kS hw.2,aJ:=(hbo _ hz.2).1,bl:=(hbo _ hz.2).2}
 split
 .exact f9 (mY h) λ x hx=>f9 (mY h) λ w hw=>f9 (Hy h) λ z hz=>qw {h0 with b:=kS hx.2,s:=kS hw.2,aJ:=(hbo _ hz.2).1,bl:=(hbo _ hz.2).2}
 split
 .exact f9 (mY h) λ x hx=>f9 (mY h) λ w hw=>qw {h0 with b:=kS hx.2,d:=kS hw.2}
 split
 .exact f9 (mY h) λ x hx=>qw {h0 with d:=kS hx.2}
 split
 .exact f9 aaB λ x hx=>qw {h0 with snap:=hx}
 .intro y hy;cases hy
end
def Bo (p:cf):List Int:=if gm p=true then lr p else []
def pN (bs:List Int):cf×Int:=if bs.length>2048 then(aR 0,3)else match oH bs 0 with
 | .error _=>(aR 0,4)
 | .ok y=>if(y.2 !=(bs.length:Int)|| !((jZ (Bo y.1)).toList==(jZ bs).toList))=true then(aR 0,4)else(y.1,0)
theorem xO (e:Int):mG 39 [2,3] (H8 (pk 84 e))=⟨(dM (.one (.ptr ⟨2,0,0⟩ 0):: .one (.ptr ⟨3,0,0⟩ 0)::wQ [])),[(2,{next:=1,l:=[aW 0 (Hz)]}),(3,{next:=1,l:=[aW 0 [di e]]})]⟩:=rfl
theorem vH:Hz=[di 0,di 0,di 0,di 0,di 0,di 0,di 0,di 0,dS .empty,di 0,di 0,di 0,di 0,di 0, .d (.v cY),db false,di 0,di 0,di 0,di 0, .d (.v cY),di 0,di 0,di 0,di 0,di 0, .d (.v cY),di 0,di 0,di 0,di 0,di 0,di 0, .d (.v cY), .d (.v cY), .d (.v cY)]:=rfl
theorem Cv (bs:List Int) (h:bu bs) (hl:bs.length<2^30):
  ah prog 15 [.f (de bs.length (ag bs))] (λ r o=>r=[.agg ((pN bs).1.enc.map RO.d),ri (pN bs).2]/\o=[]):=by
 refine ah.nil ?_;refine qX eV mixed (T:=Ty) func15 rfl results15 ntmps15 call15 call48 (ks:=[2,3]) rfl rfl rfl rfl rfl rfl (by decide) (by decide)
  (xs:=[de bs.length (ag bs)]) (sz:=Uc) (nw:=H8) WS VG ⟨(de bs.length (ag bs)::dd:: .one (.ptr ⟨2,0,0⟩ 0):: .one (.ptr ⟨3,0,0⟩ 0)::wQ []),[(2,{next:=1,l:=[aW 0 (Hz),none,none,none,none,none,none,none,none,none,none,none,none,none,none,none,none,none,none,none,none,none,none,none,none,none,none,none,none,none,none,none,none,none,none,none,none]}),(3,{next:=1,l:=[aW 0 [di 0],none]})]⟩ ?_ ?_ rfl ?_
 .simp only[b7,fY];refine az trivial ?_;exact λ _ _ _ h=>h
 .exact⟨⟨_,rfl,rfl,rfl,rfl,rfl⟩,⟨_,rfl,rfl,rfl,rfl,rfl⟩,trivial⟩
 .unfold pN;rw[vH];cases hlen:decide ((bs.length:Int)>2048)
  .rw[aa (by simp at hlen;omega)];cases e1:oH bs 0 with
   |error e=>
    have hr:=(JM bs 0 h cV false (aR 0,0) e e1).2 rfl;refine az hlen ?_;refine zp (b4 bs 0) (hr) ?_;simp only[kf,kd,ke,lz];refine⟨⟨_,rfl⟩,rfl,⟨⟨_,rfl,rfl,rfl,rfl,rfl⟩,⟨_,rfl,rfl,rfl,rfl,rfl⟩,trivial⟩, ?_⟩;rw[xO,vH]
    first|refine gq ?_|exact gn
    simp[aT,bf,aY,ak,cm]
   |ok y=>
   have hr:=ah.nil ((JM bs 0 h cV true y 0 e1).1 rfl);have hok:=HK h y e1;refine az hlen ?_;refine zj (hr) ?_;have hbl:bs.length<2^40:=by omega
   cases hm:gm y.1
   .have hp:=X' y.1 hok hm;have he:=I7 [] bs (by simp) hbl;simp only[Bo,hm,lU,cE];cases hc:(y.2 !=(bs.length:Int))
    .cases hd:((jZ ([])).toList==(jZ bs).toList)
     .refine zL (I hc hd) (I (hp) (he)) ?_;simp only[kf,kd,ke,lz];refine⟨⟨_,rfl⟩,rfl,⟨⟨_,rfl,rfl,rfl,rfl,rfl⟩,⟨_,rfl,rfl,rfl,rfl,rfl⟩,trivial⟩, ?_⟩;rw[xO,vH]
      first|refine gq ?_|exact gn
      simp[aT,bf,aY,ak,cm]
     .repeat'(first|exact zC|refine zq (I hc (I hd @xG)) ?_|refine zx (hp) ?_|refine zx (he) ?_|(apply aq<;>intro hb)|(apply I;exact zI)|(apply I<;>intro hg))
      simp[aT,bf,aY,ak, -List.length_flatMap,cI,cQ,dg,ca,bK,cN]
    .refine zL hc (hp) ?_;simp only[kf,kd,ke,lz];refine⟨⟨_,rfl⟩,rfl,⟨⟨_,rfl,rfl,rfl,rfl,rfl⟩,⟨_,rfl,rfl,rfl,rfl,rfl⟩,trivial⟩, ?_⟩;rw[xO,vH]
     first|refine gq ?_|exact gn
     simp[aT,bf,aY,ak,cm]
   .have hp:=Kz y.1 hok hm;have hl9:=CT hm;have he:=I7 (lr y.1) bs (by rw[lr,aG,bG];omega) hbl;simp only[Bo,hm,cS];cases hc:(y.2 !=(bs.length:Int))
    .cases hd:((jZ (lr y.1)).toList==(jZ bs).toList)
     .refine zL (I hc (I hd @dD)) (I (hp) (he)) ?_;simp only[kf,kd,ke,lz];refine⟨⟨_,rfl⟩,rfl,⟨⟨_,rfl,rfl,rfl,rfl,rfl⟩,⟨_,rfl,rfl,rfl,rfl,rfl⟩,trivial⟩, ?_⟩;rw[xO,vH]
      first|refine gq ?_|exact gn
      simp[aT,bf,aY,ak,cm]
     .repeat'(first|exact zC|refine zq (I hc (I hd (I @dD @xG))) ?_|refine zx (hp) ?_|refine zx (he) ?_|(apply aq<;>intro hb)|(apply I;exact zI)|(apply I<;>intro hg))
      simp[aT,bf,aY,ak, -List.length_flatMap,cI,cQ,dg,ca,bK,cN]
    .refine zL (I hc @dD) (hp) ?_;simp only[kf,kd,ke,lz];refine⟨⟨_,rfl⟩,rfl,⟨⟨_,rfl,rfl,rfl,rfl,rfl⟩,⟨_,rfl,rfl,rfl,rfl,rfl⟩,trivial⟩, ?_⟩;rw[xO,vH]
     first|refine gq ?_|exact gn
     simp[aT,bf,aY,ak,cm]
  .rw[aj (by simp at hlen;omega)];refine az hlen ?_;simp only[kf,kd,ke,lz];refine⟨⟨_,rfl⟩,rfl,⟨⟨_,rfl,rfl,rfl,rfl,rfl⟩,⟨_,rfl,rfl,rfl,rfl,rfl⟩,trivial⟩, ?_⟩;rw[xO,vH]
   first|refine gq ?_|exact gn
   simp[aT,bf,aY,ak,cm]
abbrev oL:cf:={aR 8 with done:=1}
theorem DZ:oL.ok:=⟨by unfold i64;decide,cV,cV,by unfold i64;decide,⟨cV,cV,cV,cV,(by show(ByteArray.empty).size<2^62;decide)⟩,⟨by simp,by simp⟩,⟨cV,cV,cV,cV,by simp,by simp⟩,by simp,⟨cV,cV,cV,cV,cV,by simp,by simp⟩,by simp,by simp,(show Small cm from HE)⟩
theorem M5:gm oL=true:=by kernel_rfl
theorem Ye:lr oL=[8,0,0,0,0,0,0,0,1]:=by kernel_rfl
theorem abY:pN [8,0,0,0,0,0,0,0,1]=(oL,0):=by kernel_rfl
theorem abE:pN []=(aR 0,4):=by kernel_rfl
theorem Y3:oL.aC=[di 8,di 0,di 0,di 1,di 0,di 0,di 0,di 0,dS .empty,di 0,di 0,di 0,di 0,di 0, .aC 0 [],db false,di 0,di 0,di 0,di 0, .aC 0 [],di 0,di 0,di 0,di 0,di 0, .aC 0 [],di 0,di 0,di 0,di 0,di 0,di 0, .aC 0 [], .aC 0 [], .aC 0 []]:=rfl
theorem aaX:oL.enc.map RO.d=[.d (iD 8), .d (iD 0), .d (iD 0), .d (iD 1), .d (iD 0), .d (iD 0), .d (iD 0), .d (iD 0), .d (sD .empty), .d (iD 0), .d (iD 0), .d (iD 0), .d (iD 0), .d (iD 0), .d (.sl 0 []), .d (bD false), .d (iD 0), .d (iD 0), .d (iD 0), .d (iD 0), .d (.sl 0 []), .d (iD 0), .d (iD 0), .d (iD 0), .d (iD 0), .d (iD 0), .d (.sl 0 []), .d (iD 0), .d (iD 0), .d (iD 0), .d (iD 0), .d (iD 0), .d (iD 0), .d (.sl 0 []), .d (.sl 0 []), .d (.sl 0 [])]:=rfl
theorem ZY:fP oL oL=true:=by kernel_rfl
theorem Wh:ah prog 10 [] (λ r o=>r=[rb true]/\o=[]):=by
 refine zh func10 results10 ntmps10 call10 ?_;simp only[f10,Option.getD];have h1:=Kz oL DZ M5;rw[Ye]at h1;have h2:=Cv [8,0,0,0,0,0,0,0,1] ⟨by decide,by simp[aO]⟩ (by decide);rw[abY]at h2;have h3:=Cv [] ⟨by decide,by simp⟩ (by decide);rw[abE]at h3;have h4:=Dw oL oL DZ DZ;rw[ZY]at h4;have h5:=Gi oL DZ;rw[M5]at h5;rw[Y3]at h1 h4 h5;rw[show(oL,(0:Int)).1.enc.map RO.d=_ from aaX]at h2;have hb:bytesOf (ag [8,0,0,0,0,0,0,0,1])=some [8,0,0,0,0,0,0,0,1]:=rfl
 repeat'(first|exact zC|(with_reducible first|refine gA 3 ?_|refine gz 3 ?_|refine gy 3 ?_)|refine TH ?_|(with_reducible first|refine bH _ _ ?_)|refine zx (h1) ?_|(apply aq<;>intro hb)|(apply I;exact zI)|(apply I<;>intro hg))
 refine gK (gB (Gh.HP 2 (x:= .own ⟨2,1,0⟩ 0 9) (d:= .sl 9 (ag [8,0,0,0,0,0,0,0,1])) rfl (by simp only[zY,Nat.reduceSub,Nat.reduceEqDiff,Nat.reduceAdd,Nat.reduceMul,Nat.reduceLeDiff,Nat.reduceLT,Nat.reduceBEq,reduceCtorEq];rfl)) ?_);refine zL hb (I (h2) (I (h3) (I (h4) (h5)))) ?_;rw[yW,yW];rfl
abbrev adF (n i:Nat) (f:Int):List D:=(List.replicate i (uD f))++List.replicate (n - i) (uD 0)
theorem nB {n:Int} (h:aO n):u8 n:=⟨h.1,by have:=h.2;omega⟩
theorem oc {ns:List Int} (h:∀x∈ns,aO x) (k:Nat):aO (ns.getD k 0):=by
 rcases iw k ns.length with hk|hk
 .exact rn hk h
 .rw[j7,uW hk];exact⟨by decide,by decide⟩
def wV (ns:List Int) (i k:Nat):Int:=if k<i then ns.getD k 0 else 0
abbrev n5 (ns:List Int):List RO:=[.d (uD (ns.getD 0 0)), .d (uD (ns.getD 1 0)), .d (uD (ns.getD 2 0)), .d (uD (ns.getD 3 0)), .d (uD (ns.getD 4 0))]
theorem ZR (ns:List Int) (hl:ns.length<2^60):ah prog 57 [.f (al ns.length (ag ns))] (λ r o=>r=[.agg (n5 ns)]/\o=[]):=by
 refine zh func57 results57 ntmps57 call57 ?_;simp only[f57,Option.getD];refine az trivial ?_;refine bq (τ:=Nat) (λ i=>⟨(al ns.length (ag ns)::dd::cd 2::cd 3::ai i::tT []),[(2,⟨2,[aW 1 [.d (uD 0), .d (uD 0), .d (uD 0), .d (uD 0), .d (uD 0)],none,none,none,none,none]⟩),(3,⟨2,[aW 1 [.d (uD (wV ns i 0)), .d (uD (wV ns i 1)), .d (uD (wV ns i 2)), .d (uD (wV ns i 3)), .d (uD (wV ns i 4))],none,none,none,none,none]⟩)]⟩)
  (λ i=>i≤ns.length/\i≤5) (λ _=>()) (λ i=>5 - i) 0
  (Gh.canon [2,3] [] [] zK rfl rfl) ⟨bc _,bc _⟩ ?_
 intro i ⟨hi0,hi5⟩ hF K hK;cases hc:(decide ((i:Int)<ns.length)&&decide ((i:Int)<5))
 .have he:∀k,k<5->wV ns i k=ns.getD k 0:=λ k hk=>by
   unfold wV;split
   .rfl
   .have hge:ns.length≤k:=by simp only[oF,gg]at hc;omega
    rw[j7,uW hge];rfl
  exact bA (I hc (I (he 0 (by omega)) (I (he 1 (by omega)) (I (he 2 (by omega)) (I (he 3 (by omega)) (he 4 (by omega)))))))
 .have hi:i<ns.length/\i<5:=by simp only[bM,dX]at hc;omega
  have hat:=oR hi.1;have hw:IntKind.i64.wrap ((i:Int)+1)=((i+1:Nat):Int):=bz hi.1 (by omega);obtain⟨j,hj⟩:∃j,i+1=j:=⟨_,rfl⟩;rw[hj]at hw;rcases(show i=0∨i=1∨i=2∨i=3∨i=4 by omega)with rfl|rfl|rfl|rfl|rfl
  all_goals
   refine az (I hc (I hat @ij)) ?_;have hk:=λ g=>hK g j
   subst hj;exact hk _ (Gh.canon [2,3] [] [] (zk hw) rfl rfl) ⟨by omega,by omega⟩ rfl (by omega)
def qV (k:Nat):ByteArray:=if k=0 then⟨#[97]⟩else if k=1 then⟨#[98]⟩else if k=2 then⟨#[107,101,121,45,49]⟩else if k=3 then⟨#[108,111,99,107]⟩else⟨#[120]⟩
def nN (ns:List Int):Nat->Nat->List dO->List dO
 |0,_,acc=>acc
 |f+1,i,acc=>if(decide (i<ns.length)&&decide (acc.length<4))=true then(if ns.getD i 0 % 2=1 then nN ns f (i+1) (acc++[⟨qV (i - 3),1+ns.getD i 0⟩])else nN ns f (i+1) acc)else acc
def tV (ns:List Int):eh:=if ns.length>2 then⟨ns.getD 0 0 % 13,ns.getD 1 0 % 5,ns.getD 2 0 % 4,if ns.getD 1 0 % 5>0 then nN ns 5 3 []else []⟩else⟨0,0,0,[]⟩
theorem qz {n m:Int} (h:aO n) (hm:0<m):n.tmod m=n % m:=D8 h.1
abbrev Oh (r:eh):RF:= .agg (r.enc.map RO.d)
theorem vu {l:List dO}:(dV l).take (l.length*2)=dV l:=o8 dO.enc 2 (λ _=>rfl) l
theorem ace {k:Nat} (hk:k<5):∃rest,List.drop k [C.d (sD ⟨#[97]⟩),C.d (sD ⟨#[98]⟩),C.d (sD ⟨#[107,101,121,45,49]⟩),C.d (sD ⟨#[108,111,99,107]⟩),C.d (sD ⟨#[120]⟩)]=C.d (sD (qV k))::rest:=by rcases(show k=0∨k=1∨k=2∨k=3∨k=4 by omega)with rfl|rfl|rfl|rfl|rfl<;>exact⟨_,rfl⟩
theorem Kw (ns:List Int) (hl:ns.length<2^60) (hb:∀x∈ns,aO x) (c s a:Int) (L:List dO) (hL:L=if s>0 then nN ns 5 3 []else []) (x:Code)
  (hc:ry 6 (f109.body.getD .skip)=some x):
  cH Ty prog x ⟨(al ns.length (ag ns)::dd::cd 2::cd 3::wU (b8 [])),[(2,⟨2,[aW 1 [di 0,di 0,di 0, .d (.v cY)],none,none,none,none]⟩),(3,⟨2,[aW 1 [di c,di s,di a, .d (.v cY)],none,none,none,none]⟩)]⟩ (ja Ty [.cell 2 29] [] (λ q o=>aT q [Oh ⟨c,s,a,L⟩]/\o=[])):=by
 simp only[f109,Option.getD,ry,Nat.reduceBEq,cS,cE,lU,Option.none_or,Option.some_or,bn]at hc;subst hc;refine az trivial ?_;refine bq (τ:=Nat×List dO) (λ t=>⟨(al ns.length (ag ns)::dd::cd 2::cd 3:: .one (.own ⟨4,1,1⟩ 0 5)::ai t.1::BC (b8 [])),[(2,⟨2,[aW 1 [di 0,di 0,di 0, .d (.v cY)],none,none,none,none]⟩),(3,⟨2,[aW 1 [di c,di s,di a, .own ⟨3,4,1⟩ 0 t.2.length],none,none,none,b9 1 2 (dV t.2)]⟩),(27,⟨2,[]⟩),(4,⟨2,[none,b9 1 1 ([sD ⟨#[97]⟩,sD ⟨#[98]⟩,sD ⟨#[107,101,121,45,49]⟩,sD ⟨#[108,111,99,107]⟩,sD ⟨#[120]⟩])]⟩),(69,⟨2,[]⟩),(70,⟨2,[]⟩)]⟩)
  (λ t=>3≤t.1/\t.1≤8/\t.2.length≤4) (λ t=>if s>0 then nN ns (8 - t.1) t.1 t.2 else t.2) (λ t=>8 - t.1) (3,[])
  ((Gh.mI 3 3 2 rfl).trans (Gh.canon [2,3,4] [69,70] [] zK rfl rfl)) ⟨Nat.le_refl _,by decide,by simp⟩ ?_
 intro⟨i,acc⟩ ⟨j1,j2,j3⟩ hF K hK;simp only at j1 j2 j3 hF hK⊢;cases hq:(((decide ((i:Int)<ns.length)&&decide ((i:Int)<8))&&decide (s>0))&&decide ((acc.length:Int)<4))
 .have hz:L=acc:=by
   rw[hL];refine hF.symm.trans ?_;split
   .rename_i hs;simp only[oF,gg]at hq;rcases iw i 8 with h8|h8
    .obtain⟨f,hf⟩:∃f,8 - i=f+1:=⟨8 - i - 1,by omega⟩;rw[hf,nN,aa];simp only[bM,dX];omega
    .rw[show 8 - i=0 by omega,nN]
   .rfl
  rw[hz]
  repeat'(first|exact zC|refine zq (I hq @vu) ?_|(apply aq<;>intro hb)|(apply I;exact zI)|(apply I<;>intro hg))
  simp[aT,bf,aY,ak, -List.length_flatMap,cI]
 .have hq2:=hq;simp only[bM,dX]at hq2;obtain⟨⟨⟨q1,q2⟩,q3⟩,q4⟩:=hq2;have hi:i<ns.length:=by omega
  have hat:=oR hi;have hv:=oc hb i;have hm:=qz (m:=2) hv (by decide);have hw:IntKind.i64.wrap ((i:Int)+1)=((i+1:Nat):Int):=bz hi (by omega);have hw3:IntKind.i64.wrap ((i:Int) - 3)=((i - 3:Nat):Int):=by rw[wrap64 (by omega) (by omega)];omega
  have hw1:IntKind.i64.wrap (1+ns.getD i 0)=1+ns.getD i 0:=wrap64 (by have:=hv.1;omega) (by have:=hv.2;omega);have hw0:IntKind.i64.wrap (ns.getD i 0)=ns.getD i 0:=wrap64 (by have:=hv.1;omega) (by have:=hv.2;omega);obtain⟨rest,hnm⟩:=ace (k:=i - 3) (by omega);have hcl:(acc.length+1≤2^47)=True:=b5 (by omega);have hst:nN ns (8 - i) i acc=if ns.getD i 0 % 2=1 then nN ns (8 - (i+1)) (i+1) (acc++[⟨qV (i - 3),1+ns.getD i 0⟩])else nN ns (8 - (i+1)) (i+1) acc:=by obtain⟨f,hf⟩:∃f,8 - i=f+1:=⟨8 - i - 1,by omega⟩;rw[hf,nN,aj (by simp only[bM,dX];omega),show 8 - (i+1)=f by omega]
  rw[aj q3,hst]at hF;cases hod:(ns.getD i 0 % 2==1)
  .rw[aa (by simpa using hod)]at hF;refine az (I hq (I hat (I @ij (I hm hod)))) ?_;exact hK _ (i+1,acc) (Gh.canon [2,3,4] [] [] (zk hw) rfl rfl) ⟨by simp only;omega,by simp only;omega,j3⟩ (by simp only;rw[aj q3,aj q3,hst,aa (by simpa using hod)]) (by simp only;omega)
  .refine az (I hq (I hat (I @ij (I hm (I hod (I hw3 (I hw1 (I hw0 (I hnm (I @vu (I @cI hcl))))))))))) ?_;exact hK _ (i+1,acc++[⟨qV (i - 3),1+ns.getD i 0⟩]) (Gh.canon [2,3,4] [] [] (zk (I hw (I @aG.{0} @bG.{0}))) rfl (by simp only[aG,bG];rw[BW];rfl)) ⟨by simp only;omega,by simp only;omega,by simp;omega⟩ (by simp only;rw[aj q3,aj q3,hst,aj (by simpa using hod)]) (by simp only;omega)
theorem aav (ns:List Int) (hl:ns.length<2^60) (hbs:∀x∈ns,aO x):ah prog 109 [.f (al ns.length (ag ns))] (λ r o=>r=[Oh (tV ns)]/\o=[]):=by
 refine ah.nil ?_;refine zh func109 results109 ntmps109 call109 ?_;simp only[f109,Option.getD];have w0:∀k,IntKind.i64.wrap (ns.getD k 0)=ns.getD k 0:=λ k=>wrap64 (by have:=(oc hbs k).1;omega) (by have:=(oc hbs k).2;omega)
 have m0:=qz (m:=13) (oc hbs 0) (by decide);have m1:=qz (m:=5) (oc hbs 1) (by decide);have m2:=qz (m:=4) (oc hbs 2) (by decide);cases h2:decide ((ns.length:Int)>2)
 .have hz:tV ns=⟨0,0,0,[]⟩:=by rw[tV,aa (by simp at h2;omega)]
  rw[hz]
  repeat'(first|exact zC|(with_reducible first|refine gA 6 ?_|refine gz 6 ?_|refine gy 6 ?_)|refine zu h2 ?_|(with_reducible first|refine bH _ _ ?_)|(apply aq<;>intro hb)|(apply I;exact zI)|(apply I<;>intro hg))
  exact Mi (Gh.canon [2,3] [] [] zK rfl rfl) (Kw ns hl hbs 0 0 0 [] rfl _ rfl)
 .have h3:3≤ns.length:=by simp at h2;omega
  have a0:=oR (l:=ns) (i:=0) (by omega);have a1:=oR (l:=ns) (i:=1) (by omega);have a2:=oR (l:=ns) (i:=2) (by omega);have l1:(1:Int)<ns.length:=by omega
  have l2:(2:Int)<ns.length:=by omega
  have hz:tV ns=⟨ns.getD 0 0 % 13,ns.getD 1 0 % 5,ns.getD 2 0 % 4,if ns.getD 1 0 % 5>0 then nN ns 5 3 []else []⟩:=by rw[tV,aj (by omega)]
  rw[hz];have t1:Int.toNat 1=1:=rfl;have t2:Int.toNat 2=2:=rfl
  repeat'(first|exact zC|(with_reducible first|refine gA 6 ?_|refine gz 6 ?_|refine gy 6 ?_)|refine zv (I h2 (I a0 (I a1 (I a2 (I t1 (I t2 (I @ij (I w0 (I m0 (I m1 m2)))))))))) ?_|(with_reducible first|refine bH _ _ ?_)|(apply aq<;>intro hb)|(apply I;exact zJ)|(apply I<;>intro hg))
  exact Mi (Gh.canon [2,3] [] [] zK rfl rfl) (Kw ns hl hbs _ _ _ _ rfl _ rfl)
theorem Fo {n:Int} (h:aO n):within n=true:=by unfold aO at h;rw[wX];simp;omega
def zz:ByteArray:=⟨#[122,122]⟩
theorem MU:((List.range 5).all λ k=>fb (qV k)&&(List.range 5).all λ j=> !decide (j<k)||jk (qV j) (qV k))=true:=by kernel_rfl
theorem Zs {k:Nat} (hk:k<5):fb (qV k)=true:=by have:=jh.1 MU k (tx.2 hk);rw[bM]at this;exact this.1
theorem ZJ {j k:Nat} (hk:k<5) (hj:j<k):jk (qV j) (qV k)=true:=by have:=jh.1 MU k (tx.2 hk);rw[bM]at this;have:=jh.1 this.2 j (tx.2 (by omega));simpa[hj]using this
structure ES (i:Nat) (l:List dO):Prop where
 len:l.length≤4
 all:∀g∈l,∃k,k<i/\k<5/\g.name=qV k/\1≤g.token/\g.token≤256
 yx:l.Pairwise λ a b=>jk a.name b.name=true
theorem Fh {ns:List Int} (hb:∀x∈ns,aO x):∀{f i:Nat} {acc:List dO},3≤i->i+f≤8->ES (i - 3) acc->ES 5 (nN ns f i acc)
 |0,i,acc,h1,h2,h=>⟨h.len,λ g hg=>by obtain⟨k,a,b,c⟩:=h.all g hg;exact⟨k,b,b,c⟩,h.yx⟩
 |f+1,i,acc,h1,h2,h=>by
  have hn:ES (i+1 - 3) acc:=⟨h.len,λ g hg=>by obtain⟨k,a,b,c⟩:=h.all g hg;exact⟨k,by omega,b,c⟩,h.yx⟩;rw[nN];split
  .rename_i hc;simp only[bM,dX]at hc;split
   .have hv:=oc hb i;unfold aO at hv;refine Fh hb (by omega) (by omega) ⟨by rw[aG,bG];omega,λ g hg=> ?_, ?_⟩
    .rcases dN.1 hg with hg|hg
     .exact hn.all g hg
     .simp only[jE]at hg;subst hg;exact⟨i - 3,by omega,by omega,rfl,by simp only;omega,by simp only;omega⟩
    .rw[List.pairwise_append];refine⟨h.yx,by simp,λ a ha b hb2=> ?_⟩;simp only[jE]at hb2;subst hb2;obtain⟨k,q1,q2,q3,_⟩:=h.all a ha;rw[q3];exact ZJ (by omega) q1
   .exact Fh hb (by omega) (by omega) hn
  .exact⟨h.len,λ g hg=>by obtain⟨k,a,b,c⟩:=h.all g hg;exact⟨k,b,b,c⟩,h.yx⟩
theorem YL {l:List dO} (h:ES 5 l):eD (i5 l) 0 l=true:=by
 have hH:bj=2305843009213693952:=rfl;refine sm.2 λ j hj=> ?_
 obtain⟨k,q1,q2,q3,q4,q5⟩:=h.all _ (cb hj);rw[cc,i5,q3,Zs q2,hH,←q3];have e1:decide (l[j].token<1)=false:=by simp;omega
 have e2:decide (l[j].token>2305843009213693952)=false:=by simp;omega
 rw[e1,e2];by_cases hz:j=0
 .subst hz;simp
 .have hp:xT l j=l[j - 1].name:=by rw[xT,dG (by omega)];rfl
  have:=nt.1 h.yx (j - 1) j (by omega) hj (by omega);rw[hp,this];simp
theorem Kj {r:eh} (h1:0≤r.code/\r.code≤12) (h2:0≤r.br/\r.br≤2305843009213693952) (h3:0≤r.ahead/\r.ahead≤3) (h4:r.held.length≤4) (h5:r.br=0->r.held.length=0) (h6:eD (i5 r.held) 0 r.held=true):fR r=true:=by
 have hH:bj=2305843009213693952:=rfl;have e1:decide (r.code<0)=false:=by simp;omega
 have e2:decide (r.code>12)=false:=by simp;omega
 have e3:decide (r.br<0)=false:=by simp;omega
 have e4:decide (r.br>2305843009213693952)=false:=by simp;omega
 have e5:decide (r.ahead<0)=false:=by simp;omega
 have e6:decide (r.ahead>3)=false:=by simp;omega
 have e7:decide ((r.held.length:Int)>4)=false:=by simp;omega
 have e8:((r.br==0)&&decide ((r.held.length:Int)>0))=false:=by
  by_cases hz:r.br=0
  .have:=h5 hz;rw[this];simp
  .simp[hz]
 rw[fR,h6,hH,e1,e2,e3,e4,e5,e6,e7,e8];rfl
theorem Z9 {ns:List Int} (hb:∀x∈ns,aO x):fR (tV ns)=true/\(tV ns).held.length≤4:=by
 unfold tV;split
 .have b0:=oc hb 0;have b1:=oc hb 1;have b2:=oc hb 2;unfold aO at b0 b1 b2;have hH:bj=2305843009213693952:=rfl;split
  .rename_i hs;have g:=Fh hb (f:=5) (i:=3) (acc:=[]) (by omega) (by omega) ⟨by simp,by simp,by simp⟩;exact⟨Kj ⟨by simp only;omega,by simp only;omega⟩ ⟨by simp only;omega,by simp only;omega⟩ ⟨by simp only;omega,by simp only;omega⟩ g.len (λ hz=>by simp only at hz;omega) (YL g),g.len⟩
  .exact⟨Kj ⟨by simp only;omega,by simp only;omega⟩ ⟨by simp only;omega,by simp only;omega⟩ ⟨by simp only;omega,by simp only;omega⟩ (by simp) (λ _=>rfl) rfl,by simp⟩
 .exact⟨by decide,by simp⟩
def wC (c q:Int) (ns:List Int):bN:=⟨c % 8,1+q % 40,tV ns⟩
theorem abk (c q:Int) (ns:List Int) (hc:aO c) (hq:aO q) (hl:ns.length<2^60) (hb:∀x∈ns,aO x):ah prog 59 [.f (au c), .f (au q), .f (al ns.length (ag ns))] (λ r o=>r=[DO (wC c q ns)]/\o=[]):=by refine zh func59 results59 ntmps59 call59 ?_;simp only[f59,Option.getD];have h1:=aav ns hl hb;have m0:=qz (m:=8) hc (by decide);have m1:=qz (m:=40) hq (by decide);unfold aO at hc hq;have w0:IntKind.i64.wrap c=c:=wrap64 (by omega) (by omega);have w1:IntKind.i64.wrap q=q:=wrap64 (by omega) (by omega);have w2:IntKind.i64.wrap (1+q % 40)=1+q % 40:=wrap64 (by omega) (by omega);refine zL (I w0 (I w1 (I m0 (I m1 w2)))) (h1) ?_;rfl
theorem K' {c q:Int} {ns:List Int} (hc:aO c) (hq:aO q) (hb:∀x∈ns,aO x):eB (wC c q ns)=true:=by have hH:bj=2305843009213693952:=rfl;unfold aO at hc hq;rw[eB,wC,(Z9 hb).1,hH];simp;omega
structure ub where
 kind:Int
 ns:List Int
 bO:List Act
 told:mD
structure ub.ok (x:ub):Prop where
 kind:aO x.kind
 nl:x.ns.length<2^60
 nb:∀y∈x.ns,aO y
 al:x.bO.length<2^60
 ab:∀a∈x.bO,we a
 told:x.told.ok
abbrev ub.n (x:ub) (k:Nat):Int:=x.ns.getD k 0
def cT (x:ub):cf:=
 if x.kind % 9=0 then {aR 1 with ba:=nW (x.n 0) (x.n 1) (x.n 2) (x.n 3) (x.n 4)}
 else if x.kind % 9=1 then {aR 2 with aV:=wC (x.n 0) (x.n 1) x.ns}
 else if x.kind % 9=2 then {aR 3 with aA:=x.n 0 % 16}
 else if x.kind % 9=3 then {aR 4 with aA:=x.n 0 % 16,prom:=lf (x.n 1 % 5) x.told}
 else if x.kind % 9=4 then {aR 5 with aA:=x.n 0 % 16,slot:=1+x.n 1 % 9,aJ:=hY x.ns}
 else if x.kind % 9=5 then {aR 6 with aA:=x.n 0 % 16,slot:=1+x.n 1 % 9,aJ:=hY x.ns}
 else if x.kind % 9=6 then {aR 7 with aA:=x.n 0 % 16,done:=x.n 1 % 16}
 else if x.kind % 9=7 then {aR 8 with done:=x.n 0 % 16}
 else {aR 9 with snap:=⟨x.n 0 % 16,x.n 1 % 8,x.n 2 % 16,uR x.bO⟩}
theorem FR {k:Int} (h:aO k):k % 9=0∨k % 9=1∨k % 9=2∨k % 9=3∨k % 9=4∨k % 9=5∨k % 9=6∨k % 9=7∨k % 9=8:=by omega
abbrev mD.aC (t:mD):List C:=[.d (uD t.done), .d (uD t.view), .d (uD t.slot), .d (uD t.time), .aC t.aM.length (sJ t.aM)]
theorem aaG (x:ub) (h:x.ok):ah prog 18 [.f (au x.kind), .f (al x.ns.length (ag x.ns)), .f (al x.bO.length (tE x.bO)), .f (.agg x.told.aC)] (λ r o=>r=[.agg ((cT x).enc.map RO.d)]/\o=[]):=by
 refine ah.nil ?_;refine zh func18 results18 ntmps18 call18 ?_;simp only[f18,Option.getD];obtain⟨kind,ns,bO,told⟩:=x;obtain⟨hk,hnl,hnb,hal,hab,ht⟩:=h;simp only at hk hnl hnb hal hab ht;have hg:∀k,aO (ns.getD k 0):=oc hnb;have hu:∀k,u8 (ns.getD k 0):=λ k=>nB (hg k)
 have h0:=ZR ns hnl;have mk:=qz (m:=9) hk (by decide);have wk:IntKind.i64.wrap kind=kind:=wrap64 (by have:=hk.1;omega) (by have:=hk.2;omega);have w0:∀k,IntKind.i64.wrap (ns.getD k 0)=ns.getD k 0:=λ k=>wrap64 (by have:=(hg k).1;omega) (by have:=(hg k).2;omega)
 have m16:∀k,(ns.getD k 0).tmod 16=ns.getD k 0 % 16:=λ k=>qz (hg k) (by decide)
 have m5:=qz (m:=5) (hg 1) (by decide);have m9:=qz (m:=9) (hg 1) (by decide);have m8':=qz (m:=8) (hg 1) (by decide);have w9:IntKind.i64.wrap (1+ns.getD 1 0 % 9)=1+ns.getD 1 0 % 9:=wrap64 (by omega) (by omega);rcases FR hk with e|e|e|e|e|e|e|e|e
 .have kk:IntKind.i64.wrap (1+0)=1:=wrap64 (by omega) (by omega);have hc:=GZ _ _ _ _ _ (hu 0) (hu 1) (hu 2) (hu 3) (hu 4);rw[show cT ⟨kind,ns,bO,told⟩={aR 1 with ba:=nW (ns.getD 0 0) (ns.getD 1 0) (ns.getD 2 0) (ns.getD 3 0) (ns.getD 4 0)} from by unfold cT;simp only[e,Int.reduceEq,cS,cE]]
  repeat'(first|exact zC|refine zq (I mk (I wk (I w0 (I m16 (I e kk))))) ?_|refine zx (h0) ?_|refine zx (hc) ?_|(apply aq<;>intro hb)|(apply I;exact zI)|(apply I<;>intro hg))
  simp[aT,bf,aY,ak,cm, -List.length_flatMap,cI,cQ,dg,ca,bK,cN]
 .have kk:IntKind.i64.wrap (1+1)=2:=wrap64 (by omega) (by omega);have hc:=abk _ _ ns (hg 0) (hg 1) hnl hnb;rw[show cT ⟨kind,ns,bO,told⟩={aR 2 with aV:=wC (ns.getD 0 0) (ns.getD 1 0) ns} from by unfold cT;simp only[e,Int.reduceEq,cS,cE]]
  repeat'(first|exact zC|refine zq (I mk (I wk (I w0 (I m16 (I e kk))))) ?_|refine zx (h0) ?_|refine zx (hc) ?_|(apply aq<;>intro hb)|(apply I;exact zI)|(apply I<;>intro hg))
  simp[aT,bf,aY,ak,cm, -List.length_flatMap,cI,cQ,dg,ca,bK,cN]
 .have kk:IntKind.i64.wrap (1+2)=3:=wrap64 (by omega) (by omega);rw[show cT ⟨kind,ns,bO,told⟩={aR 3 with aA:=ns.getD 0 0 % 16} from by unfold cT;simp only[e,Int.reduceEq,cS,cE]]
  repeat'(first|exact zC|refine zq (I mk (I wk (I w0 (I m16 (I e kk))))) ?_|refine zx (h0) ?_|(apply aq<;>intro hb)|(apply I;exact zI)|(apply I<;>intro hg))
  simp[aT,bf,aY,ak,cm, -List.length_flatMap,cI,cQ,dg,ca,bK,cN]
 .have kk:IntKind.i64.wrap (1+3)=4:=wrap64 (by omega) (by omega);have hc:=Vy (ns.getD 1 0 % 5) told (by omega) ht;rw[show cT ⟨kind,ns,bO,told⟩={aR 4 with aA:=ns.getD 0 0 % 16,prom:=lf (ns.getD 1 0 % 5) told} from by unfold cT;simp only[e,Int.reduceEq,cS,cE]]
  repeat'(first|exact zC|refine zq (I mk (I wk (I w0 (I m16 (I e (I kk m5)))))) ?_|refine zx (h0) ?_|refine zx (hc) ?_|(apply aq<;>intro hb)|(apply I;exact zI)|(apply I<;>intro hg))
  simp[aT,bf,aY,ak,cm, -List.length_flatMap,cI,cQ,dg,ca,bK,cN]
 .have kk:IntKind.i64.wrap (1+4)=5:=wrap64 (by omega) (by omega);have hc:=Gq ns hnl (λ y hy=>nB (hnb y hy));rw[show cT ⟨kind,ns,bO,told⟩={aR 5 with aA:=ns.getD 0 0 % 16,slot:=1+ns.getD 1 0 % 9,aJ:=hY ns} from by unfold cT;simp only[e,Int.reduceEq,cS,cE]]
  repeat'(first|exact zC|refine zq (I mk (I wk (I w0 (I m16 (I e (I kk (I m9 w9))))))) ?_|refine zx (h0) ?_|refine zx (hc) ?_|(apply aq<;>intro hb)|(apply I;exact zI)|(apply I<;>intro hg))
  simp[aT,bf,aY,ak,cm, -List.length_flatMap,cI,cQ,dg,ca,bK,cN]
 .have kk:IntKind.i64.wrap (1+5)=6:=wrap64 (by omega) (by omega);have hc:=Gq ns hnl (λ y hy=>nB (hnb y hy));rw[show cT ⟨kind,ns,bO,told⟩={aR 6 with aA:=ns.getD 0 0 % 16,slot:=1+ns.getD 1 0 % 9,aJ:=hY ns} from by unfold cT;simp only[e,Int.reduceEq,cS,cE]]
  repeat'(first|exact zC|refine zq (I mk (I wk (I w0 (I m16 (I e (I kk (I m9 w9))))))) ?_|refine zx (h0) ?_|refine zx (hc) ?_|(apply aq<;>intro hb)|(apply I;exact zI)|(apply I<;>intro hg))
  simp[aT,bf,aY,ak,cm, -List.length_flatMap,cI,cQ,dg,ca,bK,cN]
 .have kk:IntKind.i64.wrap (1+6)=7:=wrap64 (by omega) (by omega);rw[show cT ⟨kind,ns,bO,told⟩={aR 7 with aA:=ns.getD 0 0 % 16,done:=ns.getD 1 0 % 16} from by unfold cT;simp only[e,Int.reduceEq,cS,cE]]
  repeat'(first|exact zC|refine zq (I mk (I wk (I w0 (I m16 (I e kk))))) ?_|refine zx (h0) ?_|(apply aq<;>intro hb)|(apply I;exact zI)|(apply I<;>intro hg))
  simp[aT,bf,aY,ak,cm, -List.length_flatMap,cI,cQ,dg,ca,bK,cN]
 .have kk:IntKind.i64.wrap (1+7)=8:=wrap64 (by omega) (by omega);rw[show cT ⟨kind,ns,bO,told⟩={aR 8 with done:=ns.getD 0 0 % 16} from by unfold cT;simp only[e,Int.reduceEq,cS,cE]]
  repeat'(first|exact zC|refine zq (I mk (I wk (I w0 (I m16 (I e kk))))) ?_|refine zx (h0) ?_|(apply aq<;>intro hb)|(apply I;exact zI)|(apply I<;>intro hg))
  simp[aT,bf,aY,ak,cm, -List.length_flatMap,cI,cQ,dg,ca,bK,cN]
 .have kk:IntKind.i64.wrap (1+8)=9:=wrap64 (by omega) (by omega);have hg0:=hg 0;have hg1:=hg 1;have hg2:=hg 2;unfold aO at hg0 hg1 hg2;have t2:Int.toNat 2=2:=rfl;have hc:=Yi bO hal hab (ns.getD 0 0 % 16) (ns.getD 1 0 % 8) (ns.getD 2 0 % 16) ⟨by omega,by omega⟩ ⟨by omega,by omega⟩ ⟨by omega,by omega⟩;rw[show cT ⟨kind,ns,bO,told⟩={aR 9 with snap:=⟨ns.getD 0 0 % 16,ns.getD 1 0 % 8,ns.getD 2 0 % 16,uR bO⟩} from by unfold cT;simp only[e,Int.reduceEq,cS,cE]]
  repeat'(first|exact zC|refine zq (I mk (I wk (I w0 (I m16 (I e (I kk (I m8' t2))))))) ?_|refine zx (h0) ?_|refine zx (hc) ?_|(apply aq<;>intro hb)|(apply I;exact zI)|(apply I<;>intro hg))
  simp[aT,bf,aY,ak,cm, -List.length_flatMap,cI,cQ,dg,ca,bK,cN]
theorem YB (k:Int):iI (aR k)=true:=by kernel_rfl
theorem sL {p:cf} {k:Int} (h1:qQ p=true) (h2:HN p=aR k):gm p=true:=by rw[gm,h1,h2,YB];rfl
theorem Hw {v a:Int} (h:a≤v) (h2:v≤2305843009213693952):bm v a=true:=by simp[bm];omega
theorem GF {n m:Int} (h:aO n) (hm:0<m) (h2:m≤256):aO (n % m):=by unfold aO;have:=Int.emod_nonneg n (show m≠0 by omega);have:=Int.emod_lt_of_pos n hm;omega
theorem X5 (x:ub) (h:x.ok):gm (cT x)=true:=by
 obtain⟨kind,ns,bO,told⟩:=x;obtain⟨hk,hnl,hnb,hal,hab,ht⟩:=h;simp only at hk hnl hnb hal hab ht;have hg:∀k,aO (ns.getD k 0):=oc hnb;have hb1:Batch.may (hY ns)=true:=I8 λ y hy=>nB (hnb y hy)
 have i0:bm (ns.getD 0 0 % 16) 0=true:=Hw (by omega) (by omega);have i1:bm (ns.getD 1 0 % 16) 0=true:=Hw (by omega) (by omega);have i2:bm (1+ns.getD 1 0 % 9) 1=true:=Hw (by omega) (by omega);rcases FR hk with e|e|e|e|e|e|e|e|e
 .rw[show cT ⟨kind,ns,bO,told⟩={aR 1 with ba:=nW (ns.getD 0 0) (ns.getD 1 0) (ns.getD 2 0) (ns.getD 3 0) (ns.getD 4 0)} from by unfold cT;simp only[e,Int.reduceEq,cS,cE]];exact sL (k:=1) (show aX.may _=true from Lm (nB (hg 1))) rfl
 .rw[show cT ⟨kind,ns,bO,told⟩={aR 2 with aV:=wC (ns.getD 0 0) (ns.getD 1 0) ns} from by unfold cT;simp only[e,Int.reduceEq,cS,cE]];exact sL (k:=2) (show eB _=true from K' (hg 0) (hg 1) hnb) rfl
 .rw[show cT ⟨kind,ns,bO,told⟩={aR 3 with aA:=ns.getD 0 0 % 16} from by unfold cT;simp only[e,Int.reduceEq,cS,cE]];exact sL (k:=3) (i0) rfl
 .rw[show cT ⟨kind,ns,bO,told⟩={aR 4 with aA:=ns.getD 0 0 % 16,prom:=lf (ns.getD 1 0 % 5) told} from by unfold cT;simp only[e,Int.reduceEq,cS,cE]];exact sL (k:=4) (show(bm _ 0&&cr.may _)=true by rw[i0,Kf (by omega) ht];rfl) rfl
 .rw[show cT ⟨kind,ns,bO,told⟩={aR 5 with aA:=ns.getD 0 0 % 16,slot:=1+ns.getD 1 0 % 9,aJ:=hY ns} from by unfold cT;simp only[e,Int.reduceEq,cS,cE]];exact sL (k:=5) (show(bm _ 0&&bm _ 1&&Batch.may _)=true by rw[i0,i2,hb1];rfl) rfl
 .rw[show cT ⟨kind,ns,bO,told⟩={aR 6 with aA:=ns.getD 0 0 % 16,slot:=1+ns.getD 1 0 % 9,aJ:=hY ns} from by unfold cT;simp only[e,Int.reduceEq,cS,cE]];exact sL (k:=6) (show(bm _ 0&&bm _ 1&&Batch.may _)=true by rw[i0,i2,hb1];rfl) rfl
 .rw[show cT ⟨kind,ns,bO,told⟩={aR 7 with aA:=ns.getD 0 0 % 16,done:=ns.getD 1 0 % 16} from by unfold cT;simp only[e,Int.reduceEq,cS,cE]];exact sL (k:=7) (show(bm _ 0&&bm _ 0)=true by rw[i0,i1];rfl) rfl
 .rw[show cT ⟨kind,ns,bO,told⟩={aR 8 with done:=ns.getD 0 0 % 16} from by unfold cT;simp only[e,Int.reduceEq,cS,cE]];exact sL (k:=8) (i0) rfl
 .rw[show cT ⟨kind,ns,bO,told⟩={aR 9 with snap:=⟨ns.getD 0 0 % 16,ns.getD 1 0 % 8,ns.getD 2 0 % 16,uR bO⟩} from by unfold cT;simp only[e,Int.reduceEq,cS,cE]];exact sL (k:=9) (show gw _=true by simp only[gw,Fo (GF (m:=16) (hg 0) (by decide) (by decide)),Fo (GF (m:=8) (hg 1) (by decide) (by decide)),Fo (GF (m:=16) (hg 2) (by decide) (by decide)),uk.2 (LB bO).rt,iu]) rfl
theorem YU (x:ub) (h:x.ok):(cT x).ok:=by
 obtain⟨kind,ns,bO,told⟩:=x;obtain⟨hk,hnl,hnb,hal,hab,ht⟩:=h;simp only at hk hnl hnb hal hab ht;have hg:∀k,aO (ns.getD k 0):=oc hnb;have hu:∀k,u8 (ns.getD k 0):=λ k=>nB (hg k)
 have hb1:=Kc λ y hy=>nB (hnb y hy)
 have hbl:(hY ns).reqs.length<2^30:=by have:=hb1.2;omega
 have q0:i64 (ns.getD 0 0 % 16):=kS (by omega);have q1:i64 (ns.getD 1 0 % 16):=kS (by omega);have q2:i64 (1+ns.getD 1 0 % 9):=kS (by omega);rcases FR hk with e|e|e|e|e|e|e|e|e
 .rw[show cT ⟨kind,ns,bO,told⟩={aR 1 with ba:=nW (ns.getD 0 0) (ns.getD 1 0) (ns.getD 2 0) (ns.getD 3 0) (ns.getD 4 0)} from by unfold cT;simp only[e,Int.reduceEq,cS,cE]];have h0:=oy (k:=1) (by unfold i64;omega);exact {h0 with ba:=MG (hu 1)}
 .rw[show cT ⟨kind,ns,bO,told⟩={aR 2 with aV:=wC (ns.getD 0 0) (ns.getD 1 0) ns} from by unfold cT;simp only[e,Int.reduceEq,cS,cE]];have h0:=oy (k:=2) (by unfold i64;omega);exact {h0 with aV:=Fc (K' (hg 0) (hg 1) hnb)}
 .rw[show cT ⟨kind,ns,bO,told⟩={aR 3 with aA:=ns.getD 0 0 % 16} from by unfold cT;simp only[e,Int.reduceEq,cS,cE]];have h0:=oy (k:=3) (by unfold i64;omega);exact {h0 with b:=q0}
 .rw[show cT ⟨kind,ns,bO,told⟩={aR 4 with aA:=ns.getD 0 0 % 16,prom:=lf (ns.getD 1 0 % 5) told} from by unfold cT;simp only[e,Int.reduceEq,cS,cE]];have h0:=oy (k:=4) (by unfold i64;omega);have hm:=AG (Kf (i:=ns.getD 1 0 % 5) (by omega) ht);have pl3:(lf (ns.getD 1 0 % 5) told).aM.length<2^30:=by have:=hm.len;omega
  have vl3:∀v∈(lf (ns.getD 1 0 % 5) told).aM,v.batch.reqs.length<2^30:=λ v hv=>by have:=(vC (hm.aM v hv).2.2.2.2).1;omega
  exact {h0 with b:=q0,prom:=Z' (by omega) ht,pl:=pl3,vl:=vl3}
 .rw[show cT ⟨kind,ns,bO,told⟩={aR 5 with aA:=ns.getD 0 0 % 16,slot:=1+ns.getD 1 0 % 9,aJ:=hY ns} from by unfold cT;simp only[e,Int.reduceEq,cS,cE]];have h0:=oy (k:=5) (by unfold i64;omega);exact {h0 with b:=q0,s:=q2,aJ:=hb1.1,bl:=hbl}
 .rw[show cT ⟨kind,ns,bO,told⟩={aR 6 with aA:=ns.getD 0 0 % 16,slot:=1+ns.getD 1 0 % 9,aJ:=hY ns} from by unfold cT;simp only[e,Int.reduceEq,cS,cE]];have h0:=oy (k:=6) (by unfold i64;omega);exact {h0 with b:=q0,s:=q2,aJ:=hb1.1,bl:=hbl}
 .rw[show cT ⟨kind,ns,bO,told⟩={aR 7 with aA:=ns.getD 0 0 % 16,done:=ns.getD 1 0 % 16} from by unfold cT;simp only[e,Int.reduceEq,cS,cE]];have h0:=oy (k:=7) (by unfold i64;omega);exact {h0 with b:=q0,d:=q1}
 .rw[show cT ⟨kind,ns,bO,told⟩={aR 8 with done:=ns.getD 0 0 % 16} from by unfold cT;simp only[e,Int.reduceEq,cS,cE]];have h0:=oy (k:=8) (by unfold i64;omega);exact {h0 with d:=q0}
 .rw[show cT ⟨kind,ns,bO,told⟩={aR 9 with snap:=⟨ns.getD 0 0 % 16,ns.getD 1 0 % 8,ns.getD 2 0 % 16,uR bO⟩} from by unfold cT;simp only[e,Int.reduceEq,cS,cE]];have h0:=oy (k:=9) (by unfold i64;omega);exact {h0 with snap:=oO (LB bO).rt}
structure adL (p:cf):Prop where
 kind:1≤p.kind/\p.kind≤9
 aA:0≤p.aA/\p.aA≤2305843009213693952
 slot:0≤p.slot/\p.slot≤2305843009213693952
 done:0≤p.done/\p.done≤2305843009213693952
 ba:fO p.ba ⟨0,0,0,0, .empty⟩=true∨aX.may p.ba=true
 aV:p.aV.seq=0∨eB p.aV=true
 time:p.prom.time=0∨cr.may p.prom=true
end Go.Proofs.YtliimajkpggbhaaGreat
