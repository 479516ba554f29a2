import Derived.Test.YtliimajkpggbhaaGreatK9
import Derived.JoinedOf
import Derived.Handed
import Derived.ProofKit
import Derived.Test.YtliimajkpggbhaaGreatQK
set_option maxHeartbeats 8000000
namespace Go.Proofs.YtliimajkpggbhaaGreat
open Go.Pk Tryz
set_option maxRecDepth 100000
set_option linter.unusedSimpArgs false
set_option linter.unusedVariables false
abbrev kE (bs:List Int) (p:Int) (b:Bool):List RO:=[.d (.sl bs.length (ag bs)), .d (iD p), .d (bD b)]
def tR {α:Type} (z:α) (r:Int->Rr α) (p:Int) (b:Bool):α×Int×Bool:=if b=true then(z,p,true)else match r p with
 | .ok y=>(y.1,y.2,false)
 | .error _=>(z,p,true)
theorem rp (bs:List Int) (p:Int) (b:Bool) (h:bu bs) (hp:i64 p):
  ah prog 100 [.obj (kE bs p b)] (λ r o=>r=[ri (tR 0 (aD bs) p b).1]/\o=[kE bs (tR 0 (aD bs) p b).2.1 (tR 0 (aD bs) p b).2.2]):=by
 refine zh func100 results100 ntmps100 call100 ?_;simp only[f100,Option.getD];have h1:=vJ bs p h hp;unfold tR;cases b
 .rw[aa (by simp)];cases x1:aD bs p with
  |error e=>
   obtain⟨h2,hz⟩:=Et h hp x1;exact zW hz (h2)
  |ok x=>
   have h2:=Ea h hp x1;exact zW trivial (h2)
 .rw[aj rfl];exact zW trivial (h1)
theorem Gu (bs:List Int) (p:Int) (b:Bool) (h:bu bs) (hp:i64 p):
  ah prog 51 [.obj (kE bs p b)] (λ r o=>r=[ri (tR 0 (bI bs) p b).1]/\o=[kE bs (tR 0 (bI bs) p b).2.1 (tR 0 (bI bs) p b).2.2]):=by
 refine zh func51 results51 ntmps51 call51 ?_;simp only[f51,Option.getD];have h1:=sB bs p h hp;unfold tR;cases b
 .rw[aa (by simp)];cases x1:bI bs p with
  |error e=>
   obtain⟨h2,hz⟩:=AF h hp x1;exact zW hz (h2)
  |ok x=>
   have h2:=xP h hp x1;exact zW trivial (h2)
 .rw[aj rfl];exact zW trivial (h1)
theorem G6 (bs:List Int) (p:Int) (b:Bool) (h:bu bs) (hp:i64 p):
  ah prog 102 [.obj (kE bs p b)] (λ r o=>r=[El (tR dP (dr bs) p b).1]/\o=[kE bs (tR dP (dr bs) p b).2.1 (tR dP (dr bs) p b).2.2]):=by
 refine ah.nil ?_;refine zh func102 results102 ntmps102 call102 ?_;simp only[f102,Option.getD];have h1:=W1 bs p h hp;unfold tR;cases b
 .rw[aa (by simp)];cases x1:dr bs p with
  |error e=>
   rw[x1]at h1;simp only[cy]at h1;have hz:(e !=0)=true:=LH x1
   repeat'(first|exact zC|refine zq hz ?_|refine zx (h1) ?_|(apply aq<;>intro hb)|(apply I;exact zI)|(apply I<;>intro hg))
   simp[aT,bf,aY,ak]
  |ok x=>
   rw[x1]at h1;simp only[cy]at h1
   repeat'(first|exact zC|refine fX ?_|refine zx (h1) ?_|(apply aq<;>intro hb)|(apply I;exact zI)|(apply I<;>intro hg))
   simp[aT,bf,aY,ak, -List.length_flatMap,cQ]
 .rw[aj rfl]
  repeat'(first|exact zC|refine fX ?_|refine zx (h1) ?_|(apply aq<;>intro hb)|(apply I;exact zI)|(apply I<;>intro hg))
  simp[aT,bf,aY,ak]
theorem G3 {α:Type} {z:α} {r:Int->Rr α} {p:Int} {b:Bool} (hp:i64 p) (h:∀y,r p= .ok y->i64 y.2):i64 (tR z r p b).2.1:=by
 unfold tR;split
 .exact hp
 .split
  .rename_i y hy;exact h y hy
  .exact hp
theorem ra {bs:List Int} {p:Int} {b:Bool} (h:bu bs) (hp:i64 p):i64 (tR 0 (aD bs) p b).2.1:=G3 hp λ y hy=>dU h hy
theorem Fw {bs:List Int} {p:Int} {b:Bool} (h:bu bs) (hp:i64 p):i64 (tR 0 (bI bs) p b).2.1:=G3 hp λ y hy=>jT h hy
theorem XN {bs:List Int} {p:Int} {b:Bool} (h:bu bs) (hp:i64 p):i64 (tR dP (dr bs) p b).2.1:=G3 hp λ y hy=>zN h hy
theorem Ya {bs:List Int} {p:Int} {b:Bool} (h:bu bs):0≤(tR 0 (bI bs) p b).1/\(tR 0 (bI bs) p b).1<256:=by
 unfold tR;split
 .simp
 .split
  .rename_i y hy;exact pZ h hy
  .simp
def oC (bs:List Int) (p:Int) (b:Bool):ep×Int×Bool:=
 let s:=tR 0 (aD bs) p b
 let m:=tR 0 (aD bs) s.2.1 s.2.2
 let x:=tR dP (dr bs) m.2.1 m.2.2
 (⟨s.1,m.1,x.1⟩,x.2)
def oz (bs:List Int):Nat->Int->Bool->List ep->List ep×Int×Bool
 |0,p,b,acc=>(acc,p,b)
 |_+1,p,true,acc=>(acc,p,true)
 |n+1,p,false,acc=>oz bs n (oC bs p false).2.1 (oC bs p false).2.2 (acc++[(oC bs p false).1])
theorem Fp {bs:List Int} {n:Nat} {p:Int} {acc:List ep}:oz bs n p true acc=(acc,p,true):=by cases n<;>rfl
def rG (bs:List Int) (p:Int) (b:Bool):cr×Int×Bool:=
 let f:=tR 0 (bI bs) p b
 let d:=tR 0 (aD bs) f.2.1 f.2.2
 let v:=tR 0 (aD bs) d.2.1 d.2.2
 let s:=tR 0 (aD bs) v.2.1 v.2.2
 let t:=tR 0 (aD bs) s.2.1 s.2.2
 let n:=tR 0 (bI bs) t.2.1 t.2.2
 let l:=oz bs n.1.toNat n.2.1 n.2.2 []
 (⟨f.1,d.1,⟨v.1,s.1⟩,t.1,l.1⟩,l.2)
abbrev ac9 (bs:List Int) (q:Int) (b:Bool) (nx:Nat):Nat×RS:=(0,{next:=nx,l:=[some {e:=0,var:=true,fz:=false,dR:=true,sz:=0,cells:=[.d (.sl bs.length (ag bs)),di q, .d (bD b)]},none,none,none]})
theorem ZB (bs:List Int) (p:Int) (b:Bool) (h:bu bs) (hp:i64 p):
  ah prog 101 [.obj (kE bs p b)] (λ r o=>r=[.agg ((rG bs p b).1.enc.map RO.d)]/\o=[kE bs (rG bs p b).2.1 (rG bs p b).2.2]):=by
 refine ah.nil ?_;refine zh func101 results101 ntmps101 call101 ?_;simp only[f101,Option.getD];unfold rG;simp only;have h1:=Gu bs p b h hp;have p1:=Fw (b:=b) h hp;generalize tR 0 (bI bs) p b=f at*;have h2:=rp bs f.2.1 f.2.2 h p1;have p2:=ra (b:=f.2.2) h p1;generalize tR 0 (aD bs) f.2.1 f.2.2=d at*;have h3:=rp bs d.2.1 d.2.2 h p2;have p3:=ra (b:=d.2.2) h p2;generalize tR 0 (aD bs) d.2.1 d.2.2=v at*;have h4:=rp bs v.2.1 v.2.2 h p3;have p4:=ra (b:=v.2.2) h p3;generalize tR 0 (aD bs) v.2.1 v.2.2=s at*;have h5:=rp bs s.2.1 s.2.2 h p4;have p5:=ra (b:=s.2.2) h p4;generalize tR 0 (aD bs) s.2.1 s.2.2=t at*;have h6:=Gu bs t.2.1 t.2.2 h p5;have p6:=Fw (b:=t.2.2) h p5;have n1:=Ya (p:=t.2.1) (b:=t.2.2) h;generalize tR 0 (bI bs) t.2.1 t.2.2=n at*;refine az trivial ?_;refine zj (h1) ?_;refine az trivial ?_;refine zj (h2) ?_;refine az trivial ?_;refine zj (h3) ?_;refine az trivial ?_;refine zj (h4) ?_;refine az trivial ?_;refine zj (h5) ?_;refine az trivial ?_;refine zj (h6) ?_;refine az trivial ?_;refine bq (τ:=Nat×Int×Bool×List ep×Nat) (λ a=>⟨(.one (.ptr ⟨0,0,0⟩ 0)::dd::cd 2::cd 3::ai n.1::ai a.1::yJ (b8 [])),[ac9 bs a.2.1 a.2.2.1 a.2.2.2.2,(2,⟨2,[aW 1 [di 0,di 0,di 0,di 0,di 0, .d (.v cY)],none,none,none,none,none,none]⟩),(3,⟨2,[aW 1 [di f.1,di d.1,di v.1,di s.1,di t.1, .own ⟨3,6,1⟩ 0 a.2.2.2.1.length],none,none,none,none,none,b9 1 8 (eI a.2.2.2.1)]⟩),(6,⟨2,[]⟩),(45,⟨2,[]⟩),(50,⟨2,[]⟩),(51,⟨2,[]⟩)]⟩)
  (λ a=>a.1≤n.1.toNat/\i64 a.2.1/\a.2.2.2.1.length=a.1) (λ a=>oz bs (n.1.toNat - a.1) a.2.1 a.2.2.1 a.2.2.2.1) (λ a=>n.1.toNat - a.1) (0,n.2.1,n.2.2,[],7)
  ((Gh.mI 3 5 8 rfl).trans (Gh.canon [0,2,3] [6,45,50,51] [0] zK rfl rfl)) ⟨bc _,p6,rfl⟩ ?_
 intro⟨i,q,c,acc,nx⟩ ⟨hi0,hq,ha⟩ hF K hK;simp only[i7]at hi0 hq ha hF hK⊢;cases c
 .refine zw ?_;refine aq (λ hlt=> ?_) (λ hge=> ?_)
  .have hi:i<n.1.toNat:=by simp at hlt;omega
   have hw:=bz hi (by omega);have hst:n.1.toNat - i=(n.1.toNat - (i+1))+1:=by omega
   have g1:=rp bs q false h hq;have q1:=ra (b:=false) h hq;have g2:=rp bs _ (tR 0 (aD bs) q false).2.2 h q1;have q2:=ra (b:=(tR 0 (aD bs) q false).2.2) h q1;have g3:=G6 bs _ (tR 0 (aD bs) (tR 0 (aD bs) q false).2.1 (tR 0 (aD bs) q false).2.2).2.2 h q2;have q3:i64 (oC bs q false).2.1:=XN h q2;have hF2:oz bs (n.1.toNat - (i+1)) (oC bs q false).2.1 (oC bs q false).2.2 (acc++[(oC bs q false).1])=oz bs (n.1.toNat - i) q false acc:=by rw[hst,oz]
   have hcl:(acc.length+1≤2^47)=True:=b5 (by omega);refine az trivial ?_;refine zj (g1) ?_;refine az trivial ?_;refine zj (g2) ?_;refine az trivial ?_;refine zj (g3) ?_;refine az (I @uj (I @dg hcl)) ?_;refine hK _ (i+1,(oC bs q false).2.1,(oC bs q false).2.2,acc++[(oC bs q false).1],nx+3) (Gh.canon [0,2,3] [] [0] (zk (I hw (I @aG.{0} @bG.{0}))) rfl (by simp only[aG,bG];rw[B4];rfl)) ⟨hi,q3,by simp only[aG,bG];omega⟩ (by simp only;rw[hF2,hF]) (by simp only;omega)
  .have hi:i=n.1.toNat:=by simp at hge;omega
   rw[hi,iq,oz]at hF;rw[←hF];simp only;clear hK hF
   repeat'(first|exact zC|refine zq @uj ?_|(apply aq<;>intro hb)|(apply I;exact zI)|(apply I<;>intro hg))
   simp[aT,bf,aY,ak, -List.length_flatMap,dg]
 .rw[Fp]at hF;rw[←hF];simp only;refine zw ?_;refine aq (λ hlt=> ?_) (λ hge=> ?_)
  .simp at hlt
  .clear hK hF
   repeat'(first|exact zC|refine zq @uj ?_|(apply aq<;>intro hb)|(apply I;exact zI)|(apply I<;>intro hg))
   simp[aT,bf,aY,ak, -List.length_flatMap,dg]
abbrev Tp:=cf×Int×Bool
def yN (bs:List Int) (k p:Int):Tp:=({aR k with ba:=(cy gl (fy bs p)).1},(cy gl (fy bs p)).2.1,(cy gl (fy bs p)).2.2 !=0)
def yR (bs:List Int) (k p:Int):Tp:=({aR k with aV:=(eC bs p).1},(eC bs p).2.1,(eC bs p).2.2 !=0)
def BP (bs:List Int) (k p:Int) (b:Bool):Tp:=({aR k with aA:=(tR 0 (aD bs) p b).1},(tR 0 (aD bs) p b).2)
def BM (bs:List Int) (k p:Int) (b:Bool):Tp:=
 let x:=tR 0 (aD bs) p b
 let y:=rG bs x.2.1 x.2.2
 ({aR k with aA:=x.1,prom:=y.1},y.2)
def sf (bs:List Int) (k p:Int) (b:Bool):Tp:=
 let x:=tR 0 (aD bs) p b
 let w:=tR 0 (aD bs) x.2.1 x.2.2
 let y:=tR dP (dr bs) w.2.1 w.2.2
 ({aR k with aA:=x.1,slot:=w.1,aJ:=y.1},y.2)
def BN (bs:List Int) (k p:Int) (b:Bool):Tp:=
 let x:=tR 0 (aD bs) p b
 let w:=tR 0 (aD bs) x.2.1 x.2.2
 ({aR k with aA:=x.1,done:=w.1},w.2)
def BO (bs:List Int) (k p:Int) (b:Bool):Tp:=({aR k with done:=(tR 0 (aD bs) p b).1},(tR 0 (aD bs) p b).2)
def yL (bs:List Int) (k p:Int):Tp:=({aR k with snap:=(iZ bs p).1},(iZ bs p).2.1,(iZ bs p).2.2 !=0)
def mF (bs:List Int) (k p:Int) (b:Bool):Tp:=if k=1 then yN bs k p else if k=2 then yR bs k p else if k=3 then BP bs k p b else if k=4 then BM bs k p b else if k=5 then sf bs k p b else if k=6 then sf bs k p b else if k=7 then BN bs k p b else if k=8 then BO bs k p b else if k=9 then yL bs k p else(aR k,p,b)
theorem aap (bs:List Int) (k p:Int) (b:Bool) (h:bu bs) (hp:i64 p):
  ah prog 52 [.obj (kE bs p b), .f (ai k)] (λ r o=>r=[.agg ((mF bs k p b).1.enc.map RO.d)]/\o=[kE bs (mF bs k p b).2.1 (mF bs k p b).2.2]):=by
 refine ah.nil ?_;refine zh func52 results52 ntmps52 call52 ?_;simp only[f52,Option.getD];have g1:=rp bs p b h hp;have q1:=ra (b:=b) h hp;rcases kinds k with rfl|rfl|rfl|rfl|rfl|rfl|rfl|rfl|rfl|⟨k1,k2,k3,k4,k5,k6,k7,k8,k9⟩
 .have h1:=I3 bs p h hp;show cH _ _ _ _ (ja _ _ _ λ r o=>aT r [.agg ((yN bs 1 p).1.enc.map RO.d)]/\o=[kE bs (yN bs 1 p).2.1 (yN bs 1 p).2.2]);unfold yN;generalize cy gl (fy bs p)=x at*
  repeat'(first|exact zC|refine fX ?_|refine zx (h1) ?_|(apply aq<;>intro hb)|(apply I;exact zI)|(apply I<;>intro hg))
  simp[aT,bf,aY,ak,cm, -List.length_flatMap,cI,cQ,dg,ca,bK,cN]
 .have h1:=Ic bs p h hp;show cH _ _ _ _ (ja _ _ _ λ r o=>aT r [.agg ((yR bs 2 p).1.enc.map RO.d)]/\o=[kE bs (yR bs 2 p).2.1 (yR bs 2 p).2.2]);unfold yR;generalize eC bs p=x at*
  repeat'(first|exact zC|refine fX ?_|refine zx (h1) ?_|(apply aq<;>intro hb)|(apply I;exact zI)|(apply I<;>intro hg))
  simp[aT,bf,aY,ak,cm, -List.length_flatMap,cI,cQ,dg,ca,bK,cN]
 .show cH _ _ _ _ (ja _ _ _ λ r o=>aT r [.agg ((BP bs 3 p b).1.enc.map RO.d)]/\o=[kE bs (BP bs 3 p b).2.1 (BP bs 3 p b).2.2]);unfold BP;simp only;generalize tR 0 (aD bs) p b=x at*;refine az trivial ?_;refine zj (g1) ?_
  repeat'(first|exact zC|refine fX ?_|(apply aq<;>intro hb)|(apply I;exact zI)|(apply I<;>intro hg))
  simp[aT,bf,aY,ak,cm, -List.length_flatMap,cI,cQ,dg,ca,bK,cN]
 .show cH _ _ _ _ (ja _ _ _ λ r o=>aT r [.agg ((BM bs 4 p b).1.enc.map RO.d)]/\o=[kE bs (BM bs 4 p b).2.1 (BM bs 4 p b).2.2]);unfold BM;simp only;generalize tR 0 (aD bs) p b=x at*;have g2:=ZB bs x.2.1 x.2.2 h q1;generalize rG bs x.2.1 x.2.2=y at*;refine az trivial ?_;refine zj (g1) ?_;refine az trivial ?_;refine zj (g2) ?_
  repeat'(first|exact zC|refine fX ?_|(apply aq<;>intro hb)|(apply I;exact zI)|(apply I<;>intro hg))
  simp[aT,bf,aY,ak,cm, -List.length_flatMap,cI,cQ,dg,ca,bK,cN]
 .show cH _ _ _ _ (ja _ _ _ λ r o=>aT r [.agg ((sf bs 5 p b).1.enc.map RO.d)]/\o=[kE bs (sf bs 5 p b).2.1 (sf bs 5 p b).2.2]);unfold sf;simp only;generalize tR 0 (aD bs) p b=x at*;have g2:=rp bs x.2.1 x.2.2 h q1;have q2:=ra (b:=x.2.2) h q1;generalize tR 0 (aD bs) x.2.1 x.2.2=w at*;have g3:=G6 bs w.2.1 w.2.2 h q2;generalize tR dP (dr bs) w.2.1 w.2.2=y at*;refine az trivial ?_;refine zj (g1) ?_;refine az trivial ?_;refine zj (g2) ?_;refine az trivial ?_;refine zj (g3) ?_
  repeat'(first|exact zC|refine fX ?_|(apply aq<;>intro hb)|(apply I;exact zI)|(apply I<;>intro hg))
  simp[aT,bf,aY,ak,cm, -List.length_flatMap,cI,cQ,dg,ca,bK,cN]
 .show cH _ _ _ _ (ja _ _ _ λ r o=>aT r [.agg ((sf bs 6 p b).1.enc.map RO.d)]/\o=[kE bs (sf bs 6 p b).2.1 (sf bs 6 p b).2.2]);unfold sf;simp only;generalize tR 0 (aD bs) p b=x at*;have g2:=rp bs x.2.1 x.2.2 h q1;have q2:=ra (b:=x.2.2) h q1;generalize tR 0 (aD bs) x.2.1 x.2.2=w at*;have g3:=G6 bs w.2.1 w.2.2 h q2;generalize tR dP (dr bs) w.2.1 w.2.2=y at*;refine az trivial ?_;refine zj (g1) ?_;refine az trivial ?_;refine zj (g2) ?_;refine az trivial ?_;refine zj (g3) ?_
  repeat'(first|exact zC|refine fX ?_|(apply aq<;>intro hb)|(apply I;exact zI)|(apply I<;>intro hg))
  simp[aT,bf,aY,ak,cm, -List.length_flatMap,cI,cQ,dg,ca,bK,cN]
 .show cH _ _ _ _ (ja _ _ _ λ r o=>aT r [.agg ((BN bs 7 p b).1.enc.map RO.d)]/\o=[kE bs (BN bs 7 p b).2.1 (BN bs 7 p b).2.2]);unfold BN;simp only;generalize tR 0 (aD bs) p b=x at*;have g2:=rp bs x.2.1 x.2.2 h q1;have q2:=ra (b:=x.2.2) h q1;generalize tR 0 (aD bs) x.2.1 x.2.2=w at*;refine az trivial ?_;refine zj (g1) ?_;refine az trivial ?_;refine zj (g2) ?_
  repeat'(first|exact zC|refine fX ?_|(apply aq<;>intro hb)|(apply I;exact zI)|(apply I<;>intro hg))
  simp[aT,bf,aY,ak,cm, -List.length_flatMap,cI,cQ,dg,ca,bK,cN]
 .show cH _ _ _ _ (ja _ _ _ λ r o=>aT r [.agg ((BO bs 8 p b).1.enc.map RO.d)]/\o=[kE bs (BO bs 8 p b).2.1 (BO bs 8 p b).2.2]);unfold BO;simp only;generalize tR 0 (aD bs) p b=x at*;refine az trivial ?_;refine zj (g1) ?_
  repeat'(first|exact zC|refine fX ?_|(apply aq<;>intro hb)|(apply I;exact zI)|(apply I<;>intro hg))
  simp[aT,bf,aY,ak,cm, -List.length_flatMap,cI,cQ,dg,ca,bK,cN]
 .have h1:=VA bs p h hp;show cH _ _ _ _ (ja _ _ _ λ r o=>aT r [.agg ((yL bs 9 p).1.enc.map RO.d)]/\o=[kE bs (yL bs 9 p).2.1 (yL bs 9 p).2.2]);unfold yL;generalize iZ bs p=x at*
  repeat'(first|exact zC|refine fX ?_|refine zx (h1) ?_|(apply aq<;>intro hb)|(apply I;exact zI)|(apply I<;>intro hg))
  simp[aT,bf,aY,ak,cm, -List.length_flatMap,cI,cQ,dg,ca,bK,cN]
 .have hz:mF bs k p b=(aR k,p,b):=by simp only[kU,kt]at k1 k2 k3 k4 k5 k6 k7 k8 k9;unfold mF;simp only[k1,k2,k3,k4,k5,k6,k7,k8,k9,cE]
  rw[hz]
  repeat'(first|exact zC|refine zq (I k1 (I k2 (I k3 (I k4 (I k5 (I k6 (I k7 (I k8 k9)))))))) ?_|(apply aq<;>intro hb)|(apply I;exact zI)|(apply I<;>intro hg))
  simp[aT,bf,aY,ak,cm, -List.length_flatMap,cI,cQ,dg,ca,bK,cN]
def TR {α:Type} (x:α×Int×Bool) (r:Rr α):Prop:=match r with
 | .ok y=>x=(y.1,y.2,false)
 | .error _=>x.2.2=true
theorem jY {α:Type} {z:α} {r:Int->Rr α} {p:Int}:TR (tR z r p false) (r p):=by unfold TR tR;cases r p<;>rfl
theorem il {α β:Type} {x:α×Int×Bool} {r:Rr α} {k:α×Int->Rr β} (f:α×Int×Bool->β×Int×Bool) (h1:TR x r) (h2:∀a q,TR (f (a,q,false)) (k (a,q))) (h3:∀a q,(f (a,q,true)).2.2=true):TR (f x) (aP r k):=by
 obtain⟨a,q,b⟩:=x;cases r with
 |error e=>
  have hb:b=true:=h1;subst hb;exact h3 a q
 |ok y=>
  have:(a,q,b)=(y.1,y.2,false):=h1;rw[this];exact h2 _ _
theorem abM {bs:List Int} {p:Int}:TR (oC bs p false) (lO bs p):=by rw[show lO bs p=aP (aD bs p) λ s=>aP (aD bs s.2) λ b=>aP (dr bs b.2) λ x=> .ok (⟨s.1,b.1,x.1⟩,x.2) from by kernel_rfl];refine il (λ s=>((⟨s.1,(tR 0 (aD bs) s.2.1 s.2.2).1,(tR dP (dr bs) (tR 0 (aD bs) s.2.1 s.2.2).2.1 (tR 0 (aD bs) s.2.1 s.2.2).2.2).1⟩:ep),(tR dP (dr bs) (tR 0 (aD bs) s.2.1 s.2.2).2.1 (tR 0 (aD bs) s.2.1 s.2.2).2.2).2)) jY (λ a q=> ?_) (λ a q=>rfl);refine il (λ m=>((⟨a,m.1,(tR dP (dr bs) m.2.1 m.2.2).1⟩:ep),(tR dP (dr bs) m.2.1 m.2.2).2)) jY (λ c q=> ?_) (λ c q=>rfl);exact il (λ x=>((⟨a,c,x.1⟩:ep),x.2)) jY (λ c q=>rfl) (λ c q=>rfl)
theorem LC {bs:List Int}:∀{n:Nat} {p:Int} {acc:List ep},TR (oz bs n p false acc) (bL (lO bs) n p acc)
 |0,p,acc=>rfl
 |n+1,p,acc=>by
  have h:=abM (bs:=bs) (p:=p);rw[oz,bL];cases e:lO bs p with
  |error x=>
   rw[e]at h;have hb:(oC bs p false).2.2=true:=h;rw[hb,Fp];rfl
  |ok y=>
   rw[e]at h;have hb:oC bs p false=(y.1,y.2,false):=h;rw[hb];exact LC
section
variable (bs:List Int)
def UG (f d v s t:Int) (n:Int×Int×Bool):cr×Int×Bool:=(⟨f,d,⟨v,s⟩,t,(oz bs n.1.toNat n.2.1 n.2.2 []).1⟩,(oz bs n.1.toNat n.2.1 n.2.2 []).2)
def UB (f d v s:Int) (t:Int×Int×Bool):=UG bs f d v s t.1 (tR 0 (bI bs) t.2.1 t.2.2)
def S3 (f d v:Int) (s:Int×Int×Bool):=UB bs f d v s.1 (tR 0 (aD bs) s.2.1 s.2.2)
def TF (f d:Int) (v:Int×Int×Bool):=S3 bs f d v.1 (tR 0 (aD bs) v.2.1 v.2.2)
def Sx (f:Int) (d:Int×Int×Bool):=TF bs f d.1 (tR 0 (aD bs) d.2.1 d.2.2)
def tp1 (f:Int×Int×Bool):=Sx bs f.1 (tR 0 (aD bs) f.2.1 f.2.2)
end
theorem XO {bs:List Int} {p:Int}:(rG bs p true).2.2=true:=rfl
theorem aaP {bs:List Int} {p:Int}:TR (rG bs p false) (nP bs p):=by rw[show nP bs p=aP (bI bs p) λ f=>aP (aD bs f.2) λ d=>aP (aD bs d.2) λ v=>aP (aD bs v.2) λ s=>aP (aD bs s.2) λ t=>aP (bI bs t.2) λ n=>aP (bL (lO bs) n.1.toNat n.2 []) λ l=> .ok (⟨f.1,d.1,⟨v.1,s.1⟩,t.1,l.1⟩,l.2) from by kernel_rfl];refine il (tp1 bs) jY (λ f q=> ?_) (λ _ _=>rfl);refine il (Sx bs f) jY (λ d q=> ?_) (λ _ _=>rfl);refine il (TF bs f d) jY (λ v q=> ?_) (λ _ _=>rfl);refine il (S3 bs f d v) jY (λ s q=> ?_) (λ _ _=>rfl);refine il (UB bs f d v s) jY (λ t q=> ?_) (λ _ _=>rfl);refine il (UG bs f d v s t) jY (λ n q=> ?_) (λ n q=>by show(oz bs n.toNat q true []).2.2=true;rw[Fp]);exact il (λ l=>((⟨f,d,⟨v,s⟩,t,l.1⟩:cr),l.2)) LC (λ _ _=>rfl) (λ _ _=>rfl)
theorem NM {α:Type} {z:α} {r:Rr α} (h:∀e,r= .error e->(e !=0)=true) {x:α×Int×Int} (hx:x=cy z r):TR (x.1,x.2.1,x.2.2 !=0) r:=by
 subst hx;cases r with
 |error e=>exact h e rfl
 |ok y=>rfl
theorem MO {bs:List Int} {k p:Int}:TR (mF bs k p false) (nd bs k p)∨(mF bs k p false=(aR k,p,false)/\(∃e,nd bs k p= .error e)/\gm (aR k)=false):=by
 rcases kinds k with rfl|rfl|rfl|rfl|rfl|rfl|rfl|rfl|rfl|⟨k1,k2,k3,k4,k5,k6,k7,k8,k9⟩
 .refine Or.inl ?_;show TR (yN bs 1 p) (aP (fy bs p) λ x=> .ok (({aR 1 with ba:=x.1}:cf),x.2));exact il (λ x=>(({aR 1 with ba:=x.1}:cf),x.2)) (NM (λ _ h=>Ap h) rfl) (λ _ _=>rfl) (λ _ _=>rfl)
 .refine Or.inl ?_;show TR (yR bs 2 p) (aP (jn bs p) λ x=> .ok (({aR 2 with aV:=x.1}:cf),x.2));have hm:TR ((eC bs p).1,(eC bs p).2.1,(eC bs p).2.2 !=0) (jn bs p):=by
   unfold jn kc;split
   .rename_i h0;show(_,_,_)=(_,_,_);rw[h0];rfl
   .rename_i h0;show((eC bs p).2.2 !=0)=true;simpa using h0
  exact il (λ x=>(({aR 2 with aV:=x.1}:cf),x.2)) hm (λ _ _=>rfl) (λ _ _=>rfl)
 .refine Or.inl ?_;exact il (λ x=>(({aR 3 with aA:=x.1}:cf),x.2)) jY (λ _ _=>rfl) (λ _ _=>rfl)
 .refine Or.inl ?_;refine il (λ x=>(({aR 4 with aA:=x.1,prom:=(rG bs x.2.1 x.2.2).1}:cf),(rG bs x.2.1 x.2.2).2)) jY (λ a q=> ?_) (λ _ _=>XO);exact il (λ y=>(({aR 4 with aA:=a,prom:=y.1}:cf),y.2)) aaP (λ _ _=>rfl) (λ _ _=>rfl)
 .refine Or.inl ?_;refine il (λ x=>(({aR 5 with aA:=x.1,slot:=(tR 0 (aD bs) x.2.1 x.2.2).1,aJ:=(tR dP (dr bs) (tR 0 (aD bs) x.2.1 x.2.2).2.1 (tR 0 (aD bs) x.2.1 x.2.2).2.2).1}:cf),(tR dP (dr bs) (tR 0 (aD bs) x.2.1 x.2.2).2.1 (tR 0 (aD bs) x.2.1 x.2.2).2.2).2)) jY (λ a q=> ?_) (λ _ _=>rfl);refine il (λ x=>(({aR 5 with aA:=a,slot:=x.1,aJ:=(tR dP (dr bs) x.2.1 x.2.2).1}:cf),(tR dP (dr bs) x.2.1 x.2.2).2)) jY (λ c q=> ?_) (λ _ _=>rfl);exact il (λ y=>(({aR 5 with aA:=a,slot:=c,aJ:=y.1}:cf),y.2)) jY (λ _ _=>rfl) (λ _ _=>rfl)
 .refine Or.inl ?_;refine il (λ x=>(({aR 6 with aA:=x.1,slot:=(tR 0 (aD bs) x.2.1 x.2.2).1,aJ:=(tR dP (dr bs) (tR 0 (aD bs) x.2.1 x.2.2).2.1 (tR 0 (aD bs) x.2.1 x.2.2).2.2).1}:cf),(tR dP (dr bs) (tR 0 (aD bs) x.2.1 x.2.2).2.1 (tR 0 (aD bs) x.2.1 x.2.2).2.2).2)) jY (λ a q=> ?_) (λ _ _=>rfl);refine il (λ x=>(({aR 6 with aA:=a,slot:=x.1,aJ:=(tR dP (dr bs) x.2.1 x.2.2).1}:cf),(tR dP (dr bs) x.2.1 x.2.2).2)) jY (λ c q=> ?_) (λ _ _=>rfl);exact il (λ y=>(({aR 6 with aA:=a,slot:=c,aJ:=y.1}:cf),y.2)) jY (λ _ _=>rfl) (λ _ _=>rfl)
 .refine Or.inl ?_;refine il (λ x=>(({aR 7 with aA:=x.1,done:=(tR 0 (aD bs) x.2.1 x.2.2).1}:cf),(tR 0 (aD bs) x.2.1 x.2.2).2)) jY (λ a q=> ?_) (λ _ _=>rfl);exact il (λ x=>(({aR 7 with aA:=a,done:=x.1}:cf),x.2)) jY (λ _ _=>rfl) (λ _ _=>rfl)
 .refine Or.inl ?_;exact il (λ x=>(({aR 8 with done:=x.1}:cf),x.2)) jY (λ _ _=>rfl) (λ _ _=>rfl)
 .refine Or.inl ?_;show TR (yL bs 9 p) (aP (j6 bs p) λ x=> .ok (({aR 9 with snap:=x.1}:cf),x.2));have hm:TR ((iZ bs p).1,(iZ bs p).2.1,(iZ bs p).2.2 !=0) (j6 bs p):=by refine NM (z:=iY) (λ e h=>M3 e h) ?_;unfold iZ cy;cases j6 bs p<;>rfl
  exact il (λ x=>(({aR 9 with snap:=x.1}:cf),x.2)) hm (λ _ _=>rfl) (λ _ _=>rfl)
 .refine Or.inr ?_;simp only[kU,kt]at k1 k2 k3 k4 k5 k6 k7 k8 k9;refine⟨?_,⟨4, ?_⟩, ?_⟩
  .unfold mF;simp only[k1,k2,k3,k4,k5,k6,k7,k8,k9,cE]
  .unfold nd;simp only[k1,k2,k3,k4,k5,k6,k7,k8,k9,cE]
  .unfold gm qQ;simp only[k1,k2,k3,k4,k5,k6,k7,k8,k9,cE,gV]
def yE (bs:List Int):cf×Int:=
 if bs.length>2048 then(aR 0,3)else
 let k:=tR 0 (bI bs) 0 false
 let y:=mF bs k.1 k.2.1 k.2.2
 if((y.2.2||(y.2.1 !=(bs.length:Int)))|| !gm y.1)=true then(aR 0,4)else(y.1,0)
theorem Mz {bs:List Int}:(∃kb,bI bs 0= .ok kb/\tR 0 (bI bs) 0 false=(kb.1,kb.2,false))∨((∃e,bI bs 0= .error e)/\tR 0 (bI bs) 0 false=(0,0,true)):=by
 cases e:bI bs 0 with
 |error x=>exact Or.inr ⟨⟨x,rfl⟩,by unfold tR;rw[aa (by simp),e]⟩
 |ok y=>exact Or.inl ⟨y,rfl,by unfold tR;rw[aa (by simp),e]⟩
theorem W2 {bs:List Int} (h:bu bs):(mF bs (tR 0 (bI bs) 0 false).1 (tR 0 (bI bs) 0 false).2.1 (tR 0 (bI bs) 0 false).2.2).2.2=false->(mF bs (tR 0 (bI bs) 0 false).1 (tR 0 (bI bs) 0 false).2.1 (tR 0 (bI bs) 0 false).2.2).1.ok:=by
 intro hy;rcases Mz (bs:=bs)with⟨kb,h1,h2⟩|⟨_,h2⟩
 .rw[h2]at hy⊢;simp only at hy⊢;have hk:i64 kb.1:=by have:=pZ h h1;unfold i64;omega
  rcases MO (bs:=bs) (k:=kb.1) (p:=kb.2)with ht|⟨ht,_⟩
  .have hp:oH bs 0=nd bs kb.1 kb.2:=by unfold oH;rw[h1]
   cases e:nd bs kb.1 kb.2 with
   |error x=>
    rw[e]at ht;have ht:(mF bs kb.1 kb.2 false).2.2=true:=ht;rw[ht]at hy;exact absurd hy (by simp)
   |ok y=>
    rw[e]at ht hp;rw[show mF bs kb.1 kb.2 false=(y.1,y.2,false) from ht];exact HK h y hp
  .rw[ht];exact oy hk
 .rw[h2]at hy;cases hy
theorem M9 (bs:List Int) (h:bu bs):
  ah prog 16 [.f (de bs.length (ag bs))] (λ r o=>r=[.agg ((yE bs).1.enc.map RO.d),ri (yE bs).2]/\o=[]):=by
 refine ah.nil ?_;refine zh func16 results16 ntmps16 call16 ?_;simp only[f16,Option.getD];unfold yE;cases hl:decide ((bs.length:Int)>2048)
 .rw[aa (by simp at hl;omega)];simp only;have hok:=W2 h;have h1:=Gu bs 0 false h cV;have p1:=Fw (b:=false) h cV;generalize tR 0 (bI bs) 0 false=k at*;have h2:=aap bs k.1 k.2.1 k.2.2 h p1;generalize mF bs k.1 k.2.1 k.2.2=y at*;refine az hl ?_;refine zj (h1) ?_;refine az trivial ?_;refine zj (h2) ?_;obtain⟨y,q,b⟩:=y;simp only at hok⊢;cases b
  .have hm:=Lh y (hok rfl);rw[LV]at hm;cases hq:(q !=(bs.length:Int))
   .cases em:gm y
    .rw[em]at hm;rw[show(if((false||false)|| !false)=true then(aR 0,(4:Int))else(y,0))=(aR 0,4) from rfl]
     repeat'(first|exact zC|refine zq hq ?_|refine zx (hm) ?_|(apply aq<;>intro hb)|(apply I;exact zI)|(apply I<;>intro hg))
     simp[aT,bf,aY,ak,cm]
    .rw[em]at hm;rw[show(if((false||false)|| !true)=true then(aR 0,(4:Int))else(y,0))=(y,0) from rfl]
     repeat'(first|exact zC|refine zq hq ?_|refine zx (hm) ?_|(apply aq<;>intro hb)|(apply I;exact zI)|(apply I<;>intro hg))
     simp[aT,bf,aY,ak, -List.length_flatMap,cI,cQ,dg,ca,bK,cN]
   .rw[show(if((false||true)|| !gm y)=true then(aR 0,(4:Int))else(y,0))=(aR 0,4) from rfl]
    repeat'(first|exact zC|refine zq hq ?_|(apply aq<;>intro hb)|(apply I;exact zI)|(apply I<;>intro hg))
    simp[aT,bf,aY,ak,cm]
  .rw[show(if((true||(q !=(bs.length:Int)))|| !gm y)=true then(aR 0,(4:Int))else(y,0))=(aR 0,4) from rfl]
   repeat'(first|exact zC|refine fX ?_|(apply aq<;>intro hb)|(apply I;exact zI)|(apply I<;>intro hg))
   simp[aT,bf,aY,ak,cm]
 .rw[aj (by simp at hl;omega)]
  repeat'(first|exact zC|refine zq hl ?_|(apply aq<;>intro hb)|(apply I;exact zI)|(apply I<;>intro hg))
  simp[aT,bf,aY,ak,cm]
theorem abX {bs:List Int} (h:bu bs) (hk:∀y,oH bs 0= .ok y->y.2=(bs.length:Int)->gm y.1=true->lr y.1=bs):yE bs=pN bs:=by
 unfold yE pN;split
 .rfl
 rename_i hl;simp only;rcases Mz (bs:=bs)with⟨kb,h1,h2⟩|⟨⟨e,h1⟩,h2⟩
 .rw[h2];simp only;have hp:oH bs 0=nd bs kb.1 kb.2:=by unfold oH;rw[h1]
  have hne:bs≠[]:=λ e=>by subst e;simp[bI,kc,bQ,eU]at h1
  rcases MO (bs:=bs) (k:=kb.1) (p:=kb.2)with ht|⟨ht,⟨e,hr⟩,hm⟩
  .cases e:nd bs kb.1 kb.2 with
   |error x=>
    rw[e]at ht hp;have ht:(mF bs kb.1 kb.2 false).2.2=true:=ht;rw[hp,ht];rfl
   |ok y=>
    rw[e]at ht hp;have ht:mF bs kb.1 kb.2 false=(y.1,y.2,false):=ht;rw[ht,hp];simp only[lR];cases hq:(y.2 !=(bs.length:Int))
    .have hq2:y.2=(bs.length:Int):=by simpa using hq
     have hmm:gm y.1=((jZ (Bo y.1)).toList==(jZ bs).toList):=by
      unfold Bo;cases hm:gm y.1
      .rw[aa (by simp),acN (λ _ hx=>by cases hx) h.b];simpa using λ e=>hne e
      .rw[aj rfl,hk y hp hq2 hm];simp
     rw[hmm]
    .rfl
  .rw[hp,hr,ht];simp only[lR,hm,eR,Bool.or_true,cS]
 .have hp:oH bs 0= .error e:=by unfold oH;rw[h1]
  rw[h2,hp];rfl
def Sp (bs:List Int) (p q:Int) (l:List Int):Prop:=∃a:Nat,p=a/\q=((a+l.length:Nat):Int)/\bs.drop a=l++bs.drop (a+l.length)
theorem Sp.trans {bs:List Int} {p q r:Int} {l m:List Int} (h1:Sp bs p q l) (h2:Sp bs q r m):Sp bs p r (l++m):=by
 obtain⟨a,rfl,rfl,h⟩:=h1;obtain⟨b,hb,rfl,h'⟩:=h2;have hb:b=a+l.length:=by omega
 subst hb;exact⟨a,rfl,by rw[aG,ey],by rw[h,h',aG,fH,ey]⟩
theorem Sp.cast {bs:List Int} {p q:Int} {l m:List Int} (h:Sp bs p q l) (e:l=m):Sp bs p q m:=e▸h
theorem Sp.nil {bs:List Int} {a:Nat}:Sp bs a a []:=⟨a,rfl,by simp,by simp⟩
theorem Sp.all {bs:List Int} {q:Int} {l:List Int} (h:Sp bs 0 q l) (hq:q=(bs.length:Int)):l=bs:=by
 obtain⟨a,ha,rfl,h⟩:=h;have:a=0:=by omega
 subst this;have:l.length=bs.length:=by omega
 rw[cc,this,eL,fe,cC]at h;exact h.symm
theorem Sp.end {bs:List Int} {p q:Int} {l:List Int} (h:Sp bs p q l):∃b:Nat,q=b:=by obtain⟨a,_,h,_⟩:=h;exact⟨_,h⟩
def SR {α:Type} (bs:List Int) (f:Int->Rr α) (enc:α->List Int):Prop:=∀p y,f p= .ok y->Sp bs p y.2 (enc y.1)
theorem dh {α β:Type} {r:Rr α} {k:α×Int->Rr β} {y:β×Int} (h:aP r k= .ok y):∃x,r= .ok x/\k x= .ok y:=by
 cases r with
 |error e=>cases h
 |ok x=>exact⟨x,rfl,h⟩
theorem Mb:∀{l m:List Int} {a b:Int},l.length=m.length->(∀x∈l,aO x)->(∀x∈m,aO x)->l.foldl (λ u c=>u*256+c) a=m.foldl (λ u c=>u*256+c) b->a=b/\l=m
 |[],[],a,b,_,_,_,h=>⟨h,rfl⟩
 |c::l,d::m,a,b,hl,h1,h2,h=>by have hc:=h1 c (by simp);have hd:=h2 d (by simp);unfold aO at hc hd;obtain⟨e1,e2⟩:=Mb (l:=l) (m:=m) (a:=a*256+c) (b:=b*256+d) (by simpa using hl) (λ x hx=>h1 x (by simp[hx])) (λ x hx=>h2 x (by simp[hx])) h;refine⟨by omega, ?_⟩;rw[e2,show c=d from by omega]
theorem Zk (v:Int) (k:Nat):aO (nI v k):=by
 have e:nI v k=(v.fdiv (2^(8*(7 - k)))) % 256:=by unfold nI IntKind.wrap;simp[IntKind.bits,IntKind.signed]
 unfold aO;rw[e];omega
theorem WZ (v:Int):∀x∈aK v,aO x:=λ x hx=>by unfold aK at hx;rw[kx]at hx;obtain⟨k,_,rfl⟩:=hx;exact Zk v k
theorem ach {c:List Int} (h8:c.length=8) (h:∀x∈c,aO x) (hv:eO c<4611686018427387904):aK (eO c)=c:=by have h0:=(zl h).1;exact(Mb (a:=0) (b:=0) (by rw[h8,cg]) (WZ _) h (ab6 _ ⟨h0,hv⟩)).2
section
variable {bs:List Int} (h:bu bs)
include h
theorem nG:SR bs (bI bs) λ v=>[v]:=λ p y hy=>by
 obtain⟨h0,rfl⟩:=iJ hy;unfold bQ at h0⊢;cases hs:eU bs.length p 1
 .rw[aa (by simp)];have hbl:=h.l;obtain⟨g1,g2,g3⟩:=lC hs;obtain⟨a,rfl⟩:=nL g1;have ha:a<bs.length:=by omega
  refine⟨a,rfl,by simp, ?_⟩;simp only[gW,bG];rw[cB ha];simp[ha]
 .rw[hs,aj rfl]at h0;exact absurd h0 (by decide)
theorem gf:SR bs (aD bs) aK:=λ p y hy=>by
 obtain⟨h0,rfl⟩:=iJ hy;unfold ch at h0⊢;cases hs:eU bs.length p 8
 .rw[hs]at h0;rw[aa (by simp)]at h0⊢;obtain⟨g1,g2,g3⟩:=lC hs;obtain⟨a,rfl⟩:=nL g1;simp only[gW]at h0⊢;split at h0
  .rename_i hv;rw[aj hv];have hc:((bs.drop a).take 8).length=8:=by rw[cu,iM];omega
   have hb:∀x∈(bs.drop a).take 8,aO x:=λ x hx=>h.b _ (oD (jm hx))
   simp only;rw[ach hc hb hv];refine⟨a,rfl,by rw[hc];simp, ?_⟩;rw[hc,←jD,lN]
  .exact absurd h0 (by decide)
 .rw[hs,aj rfl]at h0;exact absurd h0 (by decide)
theorem Mw {most:Int}:SR bs (λ p=>kc (cP bs p most)) iU:=λ p y hy=>by
 obtain⟨h0,rfl⟩:=iJ hy;unfold cP at h0⊢;cases hs:eU bs.length p 1
 .rw[hs]at h0;rw[aa (by simp)]at h0⊢;obtain⟨g1,g2,g3⟩:=lC hs;obtain⟨a,rfl⟩:=nL g1;have ha:a<bs.length:=by omega
  have hb:=rn ha h.b;unfold aO at hb;simp only[gW]at h0⊢;split at h0
  .exact absurd h0 (by decide)
  rename_i hm;rw[aa hm];cases hs2:eU bs.length ((a:Int)+1) (bs.getD a 0)
  .rw[aa (by simp)];obtain⟨f1,f2,f3⟩:=lC hs2;simp only;obtain⟨n,hn⟩:=nL hb.1;have hlen:((bs.drop (a+1)).take n).length=n:=by rw[cu,iM];omega
   have hbb:∀x∈(bs.drop (a+1)).take n,aO x:=λ x hx=>h.b _ (oD (jm hx))
   rw[hn,gW];have hd:(jZ ((bs.drop (a+1)).take n)).data.toList.map (λ b=>(b.toNat:Int))=(bs.drop (a+1)).take n:=by unfold jZ;simp only[rT];refine(Bj λ x hx=> ?_).trans (List.map_id _);have:=hbb x hx;unfold aO at this;simp only[Function.comp,UInt8.toNat_ofNat',id];omega
   have hz:(jZ ((bs.drop (a+1)).take n)).size=n:=by have:=congrArg List.length hd;rw[bE,hlen,mC]at this;exact this
   have e:iU (jZ ((bs.drop (a+1)).take n))=(n:Int)::(bs.drop (a+1)).take n:=by unfold iU;rw[hz,hd]
   rw[e];refine⟨a,rfl,by rw[cL,hlen];omega, ?_⟩;rw[cL,hlen,cB ha,show bs[a]=(n:Int) from by rw[←hn];simp[ha],dW,show a+(n+1)=a+1+n from by omega];have e2:=(lN n (bs.drop (a+1))).symm;rw[jD]at e2;exact congrArg _ e2
  .rw[hs2,aj rfl]at h0;exact absurd h0 (by decide)
 .rw[hs,aj rfl]at h0;exact absurd h0 (by decide)
theorem MF:SR bs (jl bs) iU:=Mw h
omit h in
theorem vP {α:Type} {f:Int->Rr α} {enc:α->List Int} (hf:SR bs f enc):∀{n:Nat} {p:Int} {acc:List α} {y:List α×Int},(∃a:Nat,p=a)->bL f n p acc= .ok y->∃l,y.1=acc++l/\l.length=n/\Sp bs p y.2 (l.flatMap enc)
 |0,p,acc,y,⟨a,ha⟩,hy=>by cases hy;subst ha;exact⟨[],by simp,rfl,Sp.nil⟩
 |n+1,p,acc,y,hp,hy=>by
  rw[bL]at hy;cases e:f p with
  |error x=>rw[e]at hy;cases hy
  |ok x=>
  rw[e]at hy;have h1:=hf p x e;obtain⟨l,e1,e2,h2⟩:=vP hf h1.end hy;exact⟨x.1::l,by rw[e1];simp,by simp[e2],by rw[fv];exact h1.trans h2⟩
theorem MS:∀{n:Nat} {p:Int} {acc:List Int} {y:List Int×Int},(∃a:Nat,p=a)->lZ bs n p acc= .ok y->∃l,y.1=acc++l/\l.length=n/\Sp bs p y.2 l
 |0,p,acc,y,⟨a,ha⟩,hy=>by cases hy;subst ha;exact⟨[],by simp,rfl,Sp.nil⟩
 |n+1,p,acc,y,hp,hy=>by
  rw[lZ]at hy;cases e:bI bs p with
  |error x=>rw[e]at hy;cases hy
  |ok x=>
  rw[e]at hy;have h1:=nG h p x e;obtain⟨l,e1,e2,h2⟩:=MS h1.end hy;exact⟨x.1::l,by rw[e1];simp,by simp[e2],h1.trans h2⟩
theorem Aj {most:Int} {p:Int} {y:Int×Int} (hy:ef bs p most= .ok y):Sp bs p y.2 [y.1]/\0≤y.1/\((y.1.toNat:Nat):Int)=y.1:=by obtain⟨hz,_⟩:=zZ hy;have:=pZ h hz;exact⟨nG h p y hz,this.1,yp this.1⟩
theorem Ke:∀{n:Nat} {p:Int} {acc:List dO},(∃a:Nat,p=a)->(gP bs n p acc).2.2=0->∃l,(gP bs n p acc).1=acc++l/\l.length=n/\Sp bs p (gP bs n p acc).2.1 (nF l)
 |0,p,acc,⟨a,ha⟩,hy=>by subst ha;exact⟨[],by simp[gP],rfl,Sp.nil⟩
 |n+1,p,acc,hp,hy=>by
  rw[gP]at hy⊢;split at hy
  .rename_i hne;exact absurd hy hne
  rename_i h1;split at hy
  .rename_i hne;exact absurd hy hne
  rename_i h2;rw[aa h1,aa h2];have s1:=Mw h (most:=12) p ((cP bs p 12).1,(cP bs p 12).2.1) (aj (by simpa using h1));have s2:=gf h (cP bs p 12).2.1 ((ch bs (cP bs p 12).2.1).1,(ch bs (cP bs p 12).2.1).2.1) (aj (by simpa using h2));obtain⟨l,e1,e2,s3⟩:=Ke s2.end hy;refine⟨⟨(cP bs p 12).1,(ch bs (cP bs p 12).2.1).1⟩::l,by rw[e1];simp,by simp[e2], ?_⟩;exact((s1.trans s2).trans s3).cast (by simp[nF,AD])
theorem Mh:SR bs (jn bs) fE:=λ p y hy=>by
 obtain⟨h0,rfl⟩:=iJ hy;unfold eC at h0⊢;simp only at h0⊢;split at h0
 .rename_i hne;exact absurd h0 hne
 rename_i h1;split at h0
 .rename_i hne;exact absurd h0 hne
 rename_i h2;split at h0
 .rename_i hne;exact absurd h0 hne
 rename_i h3;split at h0
 .exact absurd h0 (by simp)
 rename_i h4;rw[aa h1,aa h2,aa h3,aa h4];have s1:=nG h p ((bQ bs p).1,(bQ bs p).2.1) (aj (by simpa using h1));have s2:=gf h (bQ bs p).2.1 ((ch bs (bQ bs p).2.1).1,(ch bs (bQ bs p).2.1).2.1) (aj (by simpa using h2));have s3:Sp bs (ch bs (bQ bs p).2.1).2.1 (kj bs (ch bs (bQ bs p).2.1).2.1).2.1 (gR (kj bs (ch bs (bQ bs p).2.1).2.1).1):=by
  have h0:(kj bs (ch bs (bQ bs p).2.1).2.1).2.2=0:=by simpa using h3
  clear h4 h3 s1;generalize (ch bs (bQ bs p).2.1).2.1=q at*;unfold kj at h0⊢;simp only at h0⊢;split at h0
  .rename_i hne;exact absurd h0 hne
  rename_i h1;split at h0
  .rename_i hne;exact absurd h0 hne
  rename_i h2;split at h0
  .rename_i hne;exact absurd h0 hne
  rename_i h3;split at h0
  .rename_i hne;exact absurd h0 hne
  rename_i h4;split at h0
  .exact absurd h0 (by simp)
  rename_i h5;split at h0
  .rename_i hne;exact absurd h0 hne
  rename_i h6;split at h0
  .exact absurd h0 (by simp)
  rename_i h7;rw[aa h1,aa h2,aa h3,aa h4,aa h5,aa h6,aa h7];have t1:=nG h q ((bQ bs q).1,(bQ bs q).2.1) (aj (by simpa using h1));generalize bQ bs q=b at*;have t2:=gf h b.2.1 ((ch bs b.2.1).1,(ch bs b.2.1).2.1) (aj (by simpa using h2));generalize ch bs b.2.1=c at*;have t3:=nG h c.2.1 ((bQ bs c.2.1).1,(bQ bs c.2.1).2.1) (aj (by simpa using h3));generalize bQ bs c.2.1=d at*;have t4:=nG h d.2.1 ((bQ bs d.2.1).1,(bQ bs d.2.1).2.1) (aj (by simpa using h4));have hv:=vF (p:=d.2.1) h;generalize bQ bs d.2.1=n at*;obtain⟨l,e1,e2,t5⟩:=Ke h (acc:=[]) t4.end (by simpa using h6);generalize gP bs n.1.toNat n.2.1 []=g at*;unfold aO at hv;simp only[c5]at e1;refine((t1.trans t2).trans ((t3.trans t4).trans t5)).cast ?_;rw[gR,e1];simp only;rw[e2,yp hv.1];simp
 exact((s1.trans s2).trans s3).cast (by simp[fE])
end
theorem Bi {α:Type} {c:Prop} [Decidable c] {x:α×Int} {e:Int} {y:α×Int} (h:(if c then(.ok x:Rr α)else .error e)= .ok y):c/\x=y:=by
 split at h
 .rename_i hc;cases h;exact⟨hc,rfl⟩
 .cases h
section
variable {bs:List Int} (h:bu bs)
include h
theorem abQ:SR bs (na bs) rH:=λ p y hy=>by
 have hy:aP (bI bs p) (λ c=>aP (aD bs c.2) λ n=>aP (aD bs n.2) λ r=> .ok (⟨c.1,n.1,r.1⟩,r.2))= .ok y:=by rw[←hy];kernel_rfl
 obtain⟨c,e1,hy⟩:=dh hy;obtain⟨n,e2,hy⟩:=dh hy;obtain⟨r,e3,hy⟩:=dh hy;cases hy;exact(((nG h _ _ e1).trans (gf h _ _ e2)).trans (gf h _ _ e3)).cast (by simp[rH])
theorem abU:SR bs (j8 bs) sW:=λ p y hy=>by
 have hy:aP (jl bs p) (λ nm=>aP (bI bs nm.2) λ hd=>aP (aD bs hd.2) λ tk=>aP (ef bs tk.2 3) λ n=>aP (lZ bs n.1.toNat n.2 []) λ l=> .ok (⟨nm.1,hd.1,tk.1,l.1⟩,l.2))= .ok y:=by rw[←hy];kernel_rfl
 obtain⟨nm,e1,hy⟩:=dh hy;obtain⟨hd,e2,hy⟩:=dh hy;obtain⟨tk,e3,hy⟩:=dh hy;obtain⟨n,e4,hy⟩:=dh hy;obtain⟨l,e5,hy⟩:=dh hy;cases hy;obtain⟨s4,n0,n1⟩:=Aj h e4;obtain⟨L,l1,l2,s5⟩:=MS h s4.end e5;simp only[c5]at l1;refine(((((MF h _ _ e1).trans (nG h _ _ e2)).trans (gf h _ _ e3)).trans s4).trans s5).cast ?_;simp only[sW,ue];rw[l1,l2,n1];simp
theorem aao:SR bs (ko bs) kn:=λ p y hy=>by rw[show ko bs p=aP (aD bs p) λ t=>aP (aD bs t.2) λ u=>aP (aD bs u.2) λ k=>aP (ef bs k.2 5) λ n=>aP (bL (na bs) n.1.toNat n.2 []) λ ss=>aP (ef bs ss.2 4) λ n2=>aP (bL (j8 bs) n2.1.toNat n2.2 []) λ ls=>aP (ef bs ls.2 8) λ n3=>aP (bL (jn bs) n3.1.toNat n3.2 []) λ ms=>if gE ⟨t.1,u.1,k.1,ss.1,ls.1,ms.1⟩=true then .ok (⟨t.1,u.1,k.1,ss.1,ls.1,ms.1⟩,ms.2)else .error 4 from by kernel_rfl]at hy;obtain⟨t,e1,hy⟩:=dh hy;obtain⟨u,e2,hy⟩:=dh hy;obtain⟨k,e3,hy⟩:=dh hy;obtain⟨n,e4,hy⟩:=dh hy;obtain⟨ss,e5,hy⟩:=dh hy;obtain⟨n2,e6,hy⟩:=dh hy;obtain⟨ls,e7,hy⟩:=dh hy;obtain⟨n3,e8,hy⟩:=dh hy;obtain⟨ms,e9,hy⟩:=dh hy;obtain⟨_,rfl⟩:=Bi hy;clear hy;obtain⟨s4,_,c4⟩:=Aj h e4;obtain⟨S,a1,a2,s5⟩:=vP (abQ h) s4.end e5;obtain⟨s6,_,c6⟩:=Aj h e6;obtain⟨L,b1,b2,s7⟩:=vP (abU h) s6.end e7;obtain⟨s8,_,c8⟩:=Aj h e8;obtain⟨M,m1,m2,s9⟩:=vP (Mh h) s8.end e9;simp only[c5]at a1 b1 m1;refine(((((((((gf h _ _ e1).trans (gf h _ _ e2)).trans (gf h _ _ e3)).trans s4).trans s5).trans s6).trans s7).trans s8).trans s9).cast ?_;rw[kn,jQ,f7,gp,qy,a1,b1,m1];simp only;rw[lP,lP,lP,a2,b2,m2,c4,c6,c8];simp
theorem abc:SR bs (j6 bs) ie:=λ p y hy=>by rw[show j6 bs p=aP (aD bs p) λ d=>aP (aD bs d.2) λ v=>aP (aD bs v.2) λ l=>aP (ko bs l.2) λ s=>if gw ⟨d.1,v.1,l.1,s.1⟩=true then .ok (⟨d.1,v.1,l.1,s.1⟩,s.2)else .error 4 from by kernel_rfl]at hy;obtain⟨d,e1,hy⟩:=dh hy;obtain⟨v,e2,hy⟩:=dh hy;obtain⟨l,e3,hy⟩:=dh hy;obtain⟨s,e4,hy⟩:=dh hy;obtain⟨_,rfl⟩:=Bi hy;exact((((gf h _ _ e1).trans (gf h _ _ e2)).trans (gf h _ _ e3)).trans (aao h _ _ e4)).cast (by simp[ie])
theorem acH:SR bs (kD bs) λ c=>kB c.1 c.2.1 c.2.2:=λ p y hy=>by
 have hy:aP (bI bs p) (λ k=>aP (aD bs k.2) λ n=>aP (jl bs n.2) λ s=>if jq k.1 n.1 s.1=true then .ok ((k.1,n.1,s.1),s.2)else .error 4)= .ok y:=by rw[←hy];kernel_rfl
 obtain⟨k,e1,hy⟩:=dh hy;obtain⟨n,e2,hy⟩:=dh hy;obtain⟨s,e3,hy⟩:=dh hy;obtain⟨_,rfl⟩:=Bi hy;exact(((nG h _ _ e1).trans (gf h _ _ e2)).trans (MF h _ _ e3)).cast (by simp[kB])
theorem Nw:SR bs (fy bs) gj:=λ p y hy=>by
 have hy:aP (bI bs p) (λ k=>aP (aD bs k.2) λ n=>aP (kD bs n.2) λ c=>if aX.may ⟨k.1,n.1,c.1.1,c.1.2.1,c.1.2.2⟩=true then .ok (⟨k.1,n.1,c.1.1,c.1.2.1,c.1.2.2⟩,c.2)else .error 4)= .ok y:=by rw[←hy];kernel_rfl
 obtain⟨k,e1,hy⟩:=dh hy;obtain⟨n,e2,hy⟩:=dh hy;obtain⟨c,e3,hy⟩:=dh hy;obtain⟨_,rfl⟩:=Bi hy;exact(((nG h _ _ e1).trans (gf h _ _ e2)).trans (acH h _ _ e3)).cast (by simp[gj])
theorem HI:SR bs (dr bs) dB:=λ p y hy=>by
 unfold dr at hy;cases e1:bI bs p with
 |error x=>rw[e1]at hy;cases hy
 |ok k=>
 rw[e1]at hy;simp only at hy;have s1:=nG h _ _ e1;have kv:=pZ h e1;split at hy
 .cases hy
 rename_i hk;split at hy
 .rename_i hk1;cases hy;exact s1.cast (by simp[dB,hk1])
 rename_i hk1;cases e2:bL (aD bs) 4 k.2 []with
 |error x=>rw[e2]at hy;cases hy
 |ok l=>
 rw[e2]at hy;simp only at hy;cases e3:ef bs l.2 3 with
 |error x=>rw[e3]at hy;cases hy
 |ok n=>
 rw[e3]at hy;simp only at hy;cases e4:bL (fy bs) n.1.toNat n.2 []with
 |error x=>rw[e4]at hy;cases hy
 |ok rs=>
 rw[e4]at hy;simp only at hy;obtain⟨_,rfl⟩:=Bi hy;obtain⟨L,l1,l2,s2⟩:=vP (gf h) s1.end e2;obtain⟨s3,n0,n1⟩:=Aj h e3;obtain⟨R,r1,r2,s4⟩:=vP (Nw h) s3.end e4;simp only[c5]at l1 r1;obtain⟨v0,v1,v2,v3,rfl⟩:=Hi l2;refine(((s1.trans s2).trans s3).trans s4).cast ?_;rw[dB,aa (by simp),jR,ln,l1,r1];simp only[A7,List.getD_cons_succ];rw[lP,r2,n1,show k.1=0 from by omega];simp[tw,bp]
theorem aa3:SR bs (lO bs) rK:=λ p y hy=>by rw[show lO bs p=aP (aD bs p) λ s=>aP (aD bs s.2) λ b=>aP (dr bs b.2) λ x=> .ok (⟨s.1,b.1,x.1⟩,x.2) from by kernel_rfl]at hy;obtain⟨s,e1,hy⟩:=dh hy;obtain⟨b,e2,hy⟩:=dh hy;obtain⟨x,e3,hy⟩:=dh hy;cases hy;exact(((gf h _ _ e1).trans (gf h _ _ e2)).trans (HI h _ _ e3)).cast (by simp[rK,bp])
theorem abA:SR bs (nP bs) i9:=λ p y hy=>by rw[show nP bs p=aP (bI bs p) λ f=>aP (aD bs f.2) λ d=>aP (aD bs d.2) λ v=>aP (aD bs v.2) λ s=>aP (aD bs s.2) λ t=>aP (bI bs t.2) λ n=>aP (bL (lO bs) n.1.toNat n.2 []) λ l=> .ok (⟨f.1,d.1,⟨v.1,s.1⟩,t.1,l.1⟩,l.2) from by kernel_rfl]at hy;obtain⟨f,e1,hy⟩:=dh hy;obtain⟨d,e2,hy⟩:=dh hy;obtain⟨v,e3,hy⟩:=dh hy;obtain⟨s,e4,hy⟩:=dh hy;obtain⟨t,e5,hy⟩:=dh hy;obtain⟨n,e6,hy⟩:=dh hy;obtain⟨l,e7,hy⟩:=dh hy;cases hy;have s6:=nG h _ _ e6;have nv:=pZ h e6;obtain⟨L,l1,l2,s7⟩:=vP (aa3 h) s6.end e7;simp only[c5]at l1;refine(((((((nG h _ _ e1).trans (gf h _ _ e2)).trans (gf h _ _ e3)).trans (gf h _ _ e4)).trans (gf h _ _ e5)).trans s6).trans s7).cast ?_;rw[i9,ic,qR,l1];simp only;rw[lP,l2,yp nv.1];simp[tz,bp]
end
section
variable {bs:List Int} (h:bu bs)
include h
theorem aa4 {k p:Int} {y:cf×Int} (hy:nd bs k p= .ok y):y.1.kind=k/\Sp bs p y.2 (HO y.1):=by
 rcases kinds k with rfl|rfl|rfl|rfl|rfl|rfl|rfl|rfl|rfl|⟨k1,k2,k3,k4,k5,k6,k7,k8,k9⟩
 .obtain⟨x,e1,hy⟩:=dh (show aP (fy bs p) (λ x=> .ok (({aR 1 with ba:=x.1}:cf),x.2))= .ok y from hy);cases hy;exact⟨rfl,Nw h _ _ e1⟩
 .obtain⟨x,e1,hy⟩:=dh (show aP (jn bs p) (λ x=> .ok (({aR 2 with aV:=x.1}:cf),x.2))= .ok y from hy);cases hy;exact⟨rfl,Mh h _ _ e1⟩
 .obtain⟨x,e1,hy⟩:=dh (show aP (aD bs p) (λ x=> .ok (({aR 3 with aA:=x.1}:cf),x.2))= .ok y from hy);cases hy;exact⟨rfl,(gf h _ _ e1).cast (by show _=bp [x.1];simp[bp])⟩
 .obtain⟨x,e1,hy⟩:=dh (show aP (aD bs p) (λ x=>aP (nP bs x.2) λ z=> .ok (({aR 4 with aA:=x.1,prom:=z.1}:cf),z.2))= .ok y from hy);obtain⟨z,e2,hy⟩:=dh hy;cases hy;exact⟨rfl,((gf h _ _ e1).trans (abA h _ _ e2)).cast (by show _=bp [x.1]++i9 z.1;simp[bp])⟩
 .obtain⟨x,e1,hy⟩:=dh (show aP (aD bs p) (λ x=>aP (aD bs x.2) λ w=>aP (dr bs w.2) λ z=> .ok (({aR 5 with aA:=x.1,slot:=w.1,aJ:=z.1}:cf),z.2))= .ok y from hy);obtain⟨w,e2,hy⟩:=dh hy;obtain⟨z,e3,hy⟩:=dh hy;cases hy;exact⟨rfl,(((gf h _ _ e1).trans (gf h _ _ e2)).trans (HI h _ _ e3)).cast (by show _=bp [x.1,w.1]++dB z.1;simp[bp])⟩
 .obtain⟨x,e1,hy⟩:=dh (show aP (aD bs p) (λ x=>aP (aD bs x.2) λ w=>aP (dr bs w.2) λ z=> .ok (({aR 6 with aA:=x.1,slot:=w.1,aJ:=z.1}:cf),z.2))= .ok y from hy);obtain⟨w,e2,hy⟩:=dh hy;obtain⟨z,e3,hy⟩:=dh hy;cases hy;exact⟨rfl,(((gf h _ _ e1).trans (gf h _ _ e2)).trans (HI h _ _ e3)).cast (by show _=bp [x.1,w.1]++dB z.1;simp[bp])⟩
 .obtain⟨x,e1,hy⟩:=dh (show aP (aD bs p) (λ x=>aP (aD bs x.2) λ w=> .ok (({aR 7 with aA:=x.1,done:=w.1}:cf),w.2))= .ok y from hy);obtain⟨w,e2,hy⟩:=dh hy;cases hy;exact⟨rfl,((gf h _ _ e1).trans (gf h _ _ e2)).cast (by show _=bp [x.1,w.1];simp[bp])⟩
 .obtain⟨x,e1,hy⟩:=dh (show aP (aD bs p) (λ x=> .ok (({aR 8 with done:=x.1}:cf),x.2))= .ok y from hy);cases hy;exact⟨rfl,(gf h _ _ e1).cast (by show _=bp [x.1];simp[bp])⟩
 .obtain⟨x,e1,hy⟩:=dh (show aP (j6 bs p) (λ x=> .ok (({aR 9 with snap:=x.1}:cf),x.2))= .ok y from hy);cases hy;exact⟨rfl,abc h _ _ e1⟩
 .simp only[kU,kt]at k1 k2 k3 k4 k5 k6 k7 k8 k9;unfold nd at hy;simp only[k1,k2,k3,k4,k5,k6,k7,k8,k9,cE]at hy;cases hy
theorem acB:SR bs (oH bs) lr:=λ p y hy=>by obtain⟨k,e1,hy⟩:=dh (show aP (bI bs p) (λ k=>nd bs k.1 k.2)= .ok y from hy);obtain⟨hk,s⟩:=aa4 h hy;exact((nG h _ _ e1).trans s).cast (by rw[lr,hk])
theorem KF:yE bs=pN bs:=abX h λ y hy hq _=>(acB h 0 y hy).all hq
theorem ML:(pN bs).1.ok:=by
 have h0:=oy (k:=0) cV;unfold pN;split
 .exact h0
 .split
  .exact h0
  .rename_i y hy;split
   .exact h0
   .exact HK h y hy
end
theorem tq1 (X:List Int) (v:Int):(ag X++ag (aK v)).take (X.length+8)=ag X++ag (aK v):=dk (by simp[cg])
theorem tq2 (X:List Int) (v w:Int):(ag X++ag (aK v)++ag (aK w)).take (X.length+8+8)=ag X++ag (aK v)++ag (aK w):=dk (by simp[cg])
theorem Y4 (p:cr) (m:wK p):ah prog 31 [.f (.agg p.aC)] (λ x o=>x=[.one (.own 1 (i9 p).length (ag (i9 p)) false)]/\o=[]):=by
 refine zh func31 results31 ntmps31 call31 ?_;simp only[f31,Option.getD];have hsrc:=m.src;have hvl:=m.len;have hmay:∀v∈p.aM,Batch.may v.batch=true:=λ v hv=>(m.aM v hv).2.2.2.2
 have hn:=Kh m;have n1:=fL p.done (hn _ (by simp));have n2:=fL p.bB.view (hn _ (by simp));have n3:=fL p.bB.slot (hn _ (by simp));have n4:=fL p.time (hn _ (by simp));have w1:IntKind.u8.wrap p.src=p.src:=dj (by omega) (by omega);have w2:IntKind.u8.wrap (p.aM.length:Int)=p.aM.length:=dj (by omega) (by omega);refine zL (I oI (I oM (I qF (I Rh (I Qk (I w1 (I w2 (I t8 (I @bE.{0,0} @cg))))))))) (I (n1) (I (n2) (I (n3) (n4)))) ?_;have hh:ag (qR p)=D.v (Value.int .u8 p.src)::(ag (aK p.done)++ag (aK p.bB.view)++ag (aK p.bB.slot)++ag (aK p.time)++[D.v (Value.int .u8 (p.aM.length:Int))]):=by simp[qR,bp,ag]
 refine bq (τ:=Nat) (λ i=>⟨(dd::cd 1::dd:: .one (.own ⟨3,1,1⟩ 0 (ic p i).length)::ai i::Br (b8 [])),[(1,⟨2,[aW 1 [di p.src,di p.done,di p.bB.view,di p.bB.slot,di p.time, .aC p.aM.length (eI p.aM)],none,none,none,none,none,none]⟩),(11,⟨2,[]⟩),(14,⟨2,[]⟩),(3,⟨2,[none,b9 1 1 (ag (ic p i))]⟩),(20,⟨2,[]⟩),(25,⟨2,[]⟩),(29,⟨2,[]⟩),(36,⟨2,[]⟩),(5,⟨2,[]⟩),(6,⟨2,[]⟩),(53,⟨2,[]⟩),(59,⟨2,[]⟩),(60,⟨2,[]⟩),(63,⟨2,[]⟩),(64,⟨2,[]⟩),(66,⟨2,[]⟩)]⟩)
  (λ i=>i≤p.aM.length) (λ _=>()) (λ i=>p.aM.length - i) 0
  (Gh.canon [1,3] [5,6,53,59,60,63,64,66] [] (zk (I @CX @Nm)) rfl (by rw[CX,hh];rfl)) (bc _) ?_
 intro i hi0 hF K hK;refine zw ?_;refine aq (λ hlt=> ?_) (λ hge=> ?_)
 .have hi:i<p.aM.length:=by simpa using hlt
  have hat:=vM hi;have hw:=bz hi (by omega);obtain⟨vn,vm⟩:=J7 m (cb hi);have hb:=FJ p.aM[i].batch vm;have m1:=fL p.aM[i].slot (vn _ (by simp));have m2:=fL p.aM[i].aA (vn _ (by simp));have hl0:=Hu hmay i;have hl1:=Am vm;have hsu:=LZ hi;have hsl:(ic p (i+1)).length=(ic p i).length+8+8+(dB p.aM[i].batch).length:=by rw[hsu];simp[rK,oe];omega
  have e1:((ic p i).length+8≤2^47)=True:=b5 (by omega);have e2:((ic p i).length+8+8≤2^47)=True:=b5 (by omega);have e3:((ic p i).length+8+8+(dB p.aM[i].batch).length≤2^47)=True:=b5 (by omega);refine zL (I hat (I @dg (I t8 (I tq1 (I tq2 (I e1 (I e2 (I e3 (I @dD (I @bE.{0,0} (I @cg bw))))))))))) (I (hb) (I (m1) (m2))) ?_;exact hK _ (i+1) (Gh.canon [1,3] [] [] (zk (I hw hsl)) rfl (by rw[hsu];simp only[b9,ag,fU,rK,bp,fv,qB,fe,fH];rfl)) hi rfl (by omega)
 .have hi:i=p.aM.length:=by
   have:¬(i:Int)<p.aM.length:=by simpa using hge
   omega
  subst hi;refine az trivial ?_;rfl
theorem ua:∀a:D,dC (sub 0 1 1 [C.d a])=some [a]:=λ _=>rfl
theorem abn (k v:Int) (l:List Int):[RF.one (.own 1 (9+l.length) (uD k::(ag (aK v)++ag l)) false),ri 0]=[RF.one (.own 1 ([k]++(bp [v]++l)).length (ag ([k]++(bp [v]++l))) false),ri 0]:=by simp[ag,bp,cg];omega
theorem Mm (k v w:Int) (l:List Int):[RF.one (.own 1 (17+l.length) (uD k::(ag (aK v)++ag (aK w)++ag l)) false),ri 0]=[RF.one (.own 1 ([k]++(bp [v,w]++l)).length (ag ([k]++(bp [v,w]++l))) false),ri 0]:=by simp[ag,bp,cg];omega
theorem MJ (k v:Int):[RF.one (.own 1 9 (uD k::ag (aK v)) false),ri 0]=[RF.one (.own 1 ([k]++bp [v]).length (ag ([k]++bp [v])) false),ri 0]:=by simp[ag,bp,cg]
theorem aax (k v w:Int):[RF.one (.own 1 17 (uD k::(ag (aK v)++ag (aK w))) false),ri 0]=[RF.one (.own 1 ([k]++bp [v,w]).length (ag ([k]++bp [v,w])) false),ri 0]:=by simp[ag,bp,cg]
theorem WT (p:cf) (hp:p.ok) (h:gm p=true):ah prog 12 [.f (.agg (p.enc.map C.d))] (λ r o=>r=[.one (.own 1 (lr p).length (ag (lr p)) false),ri 0]/\o=[]):=by
 refine zh func12 results12 ntmps12 call12 ?_;simp only[f12,Option.getD];have hm:=Lh p hp;rw[LV,h]at hm;have ho:=(z7 h).1;have hl:=CT h;obtain⟨kind,aA,slot,done,ba,aV,aJ,prom,snap⟩:=p;rcases kinds kind with rfl|rfl|rfl|rfl|rfl|rfl|rfl|rfl|rfl|⟨k1,k2,k3,k4,k5,k6,k7,k8,k9⟩
 .have hc:=Jj ba ho;have w:IntKind.u8.wrap 1=1:=dj (by omega) (by omega);have hl:(gj ba).length≤1400:=hl;have hle:(1+(gj ba).length≤2^47)=True:=b5 (by omega);refine zL (I ua (I oI (I oM (I qF (I w (I t8 (I hle (I @dD (I @bE.{0,0} @cg))))))))) (I (hm) (hc)) ?_;exact qj _ _
 .have hc:=Ip aV ho;have w:IntKind.u8.wrap 2=2:=dj (by omega) (by omega);have hl:(fE aV).length≤1400:=hl;have hle:(1+(fE aV).length≤2^47)=True:=b5 (by omega);refine zL (I ua (I oI (I oM (I qF (I w (I t8 (I hle (I @dD (I @bE.{0,0} @cg))))))))) (I (hm) (hc)) ?_;exact qj _ _
 .have n1:=fL aA (kN (show bm aA 0=true from ho) (by omega));have w:IntKind.u8.wrap 3=3:=dj (by omega) (by omega);refine zL (I ua (I oI (I oM (I qF (I w (I t8 (I @dD (I @bE.{0,0} @cg)))))))) (I (hm) (n1)) ?_;exact MJ _ _
 .have ho:(bm aA 0&&cr.may prom)=true:=ho;rw[bM]at ho;have n1:=fL aA (kN ho.1 (by omega));have w:IntKind.u8.wrap 4=4:=dj (by omega) (by omega);have hc:=Y4 prom (AG ho.2);have hl:(bp [aA]++i9 prom).length≤1400:=hl;rw[aG]at hl;have hle:(9+(i9 prom).length≤2^47)=True:=b5 (by omega);refine zL (I ua (I oI (I oM (I qF (I w (I t8 (I hle (I @dD (I @bE.{0,0} @cg))))))))) (I (hm) (I (n1) (hc))) ?_;exact abn _ _ _
 .have ho:(bm aA 0&&bm slot 1&&Batch.may aJ)=true:=ho;rw[bM,bM]at ho;have n1:=fL aA (kN ho.1.1 (by omega));have n2:=fL slot (kN ho.1.2 (by omega));have w:IntKind.u8.wrap 5=5:=dj (by omega) (by omega);have hc:=FJ aJ ho.2;have hl:(bp [aA,slot]++dB aJ).length≤1400:=hl;rw[aG]at hl;have hle:(17+(dB aJ).length≤2^47)=True:=b5 (by omega);refine zL (I ua (I oI (I oM (I qF (I w (I t8 (I hle (I @dD (I @bE.{0,0} @cg))))))))) (I (hm) (I (n1) (I (n2) (hc)))) ?_;exact Mm _ _ _ _
 .have ho:(bm aA 0&&bm slot 1&&Batch.may aJ)=true:=ho;rw[bM,bM]at ho;have n1:=fL aA (kN ho.1.1 (by omega));have n2:=fL slot (kN ho.1.2 (by omega));have w:IntKind.u8.wrap 6=6:=dj (by omega) (by omega);have hc:=FJ aJ ho.2;have hl:(bp [aA,slot]++dB aJ).length≤1400:=hl;rw[aG]at hl;have hle:(17+(dB aJ).length≤2^47)=True:=b5 (by omega);refine zL (I ua (I oI (I oM (I qF (I w (I t8 (I hle (I @dD (I @bE.{0,0} @cg))))))))) (I (hm) (I (n1) (I (n2) (hc)))) ?_;exact Mm _ _ _ _
 .have ho:(bm aA 0&&bm done 0)=true:=ho;rw[bM]at ho;have n1:=fL aA (kN ho.1 (by omega));have n2:=fL done (kN ho.2 (by omega));have w:IntKind.u8.wrap 7=7:=dj (by omega) (by omega);refine zL (I ua (I oI (I oM (I qF (I w (I t8 (I @dD (I @bE.{0,0} @cg)))))))) (I (hm) (I (n1) (n2))) ?_;exact aax _ _ _
 .have n1:=fL done (kN (show bm done 0=true from ho) (by omega));have w:IntKind.u8.wrap 8=8:=dj (by omega) (by omega);refine zL (I ua (I oI (I oM (I qF (I w (I t8 (I @dD (I @bE.{0,0} @cg)))))))) (I (hm) (n1)) ?_;exact MJ _ _
 .have hc:=Vx snap ho;have w:IntKind.u8.wrap 9=9:=dj (by omega) (by omega);have hl:(ie snap).length≤1400:=hl;have hle:(1+(ie snap).length≤2^47)=True:=b5 (by omega);refine zL (I ua (I oI (I oM (I qF (I w (I t8 (I hle (I @dD (I @bE.{0,0} @cg))))))))) (I (hm) (hc)) ?_;exact qj _ _
 .simp only[kU,kt]at k1 k2 k3 k4 k5 k6 k7 k8 k9;unfold qQ at ho;simp only[k1,k2,k3,k4,k5,k6,k7,k8,k9,cE]at ho;cases ho
theorem acW {n:Int} (h:(Lit.int .u8 n).wf=true):aO n:=by
 have h2:(decide (IntKind.u8.min≤n)&&decide (n≤IntKind.u8.max))=true:=h;have e1:IntKind.u8.min=0:=by decide
 have e2:IntKind.u8.max=255:=by decide
 rw[e1,e2]at h2;simp only[bM,dX]at h2;unfold aO;omega
theorem Dz {α:Type} {enc:α->List D} {ok:α->Prop} {s:Sh} (h:∀ds,eY s ds->∃x,ds=enc x/\ok x):∀xs:List (List D),(∀x∈xs,eY s x)->∃l:List α,l.length=xs.length/\xs.flatten=l.flatMap enc/\∀x∈l,ok x
 |[],_=>⟨[],rfl,rfl,λ x hx=>by cases hx⟩
 |x::xs,hx=>by
  obtain⟨a,ha1,ha2⟩:=h x (hx x (by simp));obtain⟨l,h1,h2,h3⟩:=Dz h xs λ y hy=>hx y (by simp[hy])
  refine⟨a::l,by simp[h1], ?_,λ y hy=> ?_⟩
  .rw[jK,fv,h2,ha1]
  .rcases cF.1 hy with rfl|hy
   .exact ha2
   .exact h3 y hy
theorem GY:reachBytes<2^60:=by decide
theorem mS (ds:List D) (h:eY (.int .u8) ds):∃x:Int,ds=[uD x]/\aO x:=by simp only[eY]at h;obtain⟨n,rfl,hn⟩:=h;exact⟨n,rfl,acW hn⟩
abbrev Ba:Sh:= .struct [.int .u8, .int .u8, .int .u8, .int .u8, .int .u8, .int .u8]
theorem acd (ds:List D) (h:eY Ba ds):∃a:Act,ds=a.enc/\we a:=by rw[eY]at h;simp only[pJ]at h;obtain⟨_,_,rfl,h1,_,_,rfl,h2,_,_,rfl,h3,_,_,rfl,h4,_,_,rfl,h5,_,_,rfl,h6,rfl⟩:=h;obtain⟨a,rfl,ha⟩:=mS _ h1;obtain⟨b,rfl,hb⟩:=mS _ h2;obtain⟨c,rfl,hc⟩:=mS _ h3;obtain⟨d,rfl,hd⟩:=mS _ h4;obtain⟨e,rfl,he⟩:=mS _ h5;obtain⟨f,rfl,hf⟩:=mS _ h6;exact⟨⟨a,b,c,d,e,f⟩,rfl,ha,hb,hc,hd,he,hf⟩
theorem aaw (ds:List D) (h:eY (.slice 6 Ba) ds):∃l:List Act,ds=[.sl l.length (tE l)]/\l.length<2^60/\∀x∈l,we x:=by rw[eY]at h;obtain⟨xs,rfl,hx1,hx2⟩:=h;obtain⟨l,l1,l2,l3⟩:=Dz acd xs hx2;have:=GY;exact⟨l,by rw[←l1,l2],by omega,l3⟩
theorem VB (l:List Int):(l.flatMap λ n=>[uD n])=ag l:=by
 induction l with
 |nil=>rfl
 |cons a l ih=>simp[fv,ih]
theorem HM (ds:List D) (h:eY (.slice 1 (.int .u8)) ds):∃l:List Int,ds=[.sl l.length (ag l)]/\l.length<2^60/\∀x∈l,aO x:=by rw[eY]at h;obtain⟨xs,rfl,hx1,hx2⟩:=h;obtain⟨l,l1,l2,l3⟩:=Dz mS xs hx2;have:=GY;rw[VB]at l2;exact⟨l,by rw[←l1,l2],by omega,l3⟩
def sY (n:Int):Prop:=0≤n/\n<65536
abbrev wD (n:Int):D:= .v (.int .u16 n)
abbrev aw (n:Int):AV:= .one (.d (wD n))
theorem acu {n:Int} (h:(Lit.int .u16 n).wf=true):sY n:=by
 have h2:(decide (IntKind.u16.min≤n)&&decide (n≤IntKind.u16.max))=true:=h;have e1:IntKind.u16.min=0:=by decide
 have e2:IntKind.u16.max=65535:=by decide
 rw[e1,e2]at h2;simp only[bM,dX]at h2;unfold sY;omega
theorem MV (ds:List D) (h:eY (.int .u16) ds):∃x:Int,ds=[wD x]/\sY x:=by simp only[eY]at h;obtain⟨n,rfl,hn⟩:=h;exact⟨n,rfl,acu hn⟩
abbrev Mn:Sh:= .struct [.int .u8, .int .u8, .slice 1 (.int .u8)]
abbrev DM:Sh:= .struct [.int .u8, .int .u8, .int .u8, .int .u8, .slice 32 Mn]
theorem Zn (ds:List D) (h:eY Mn ds):∃v:m7,ds=v.enc/\v.ok:=by rw[eY]at h;simp only[pJ]at h;obtain⟨_,_,rfl,h1,_,_,rfl,h2,_,_,rfl,h3,rfl⟩:=h;obtain⟨a,rfl,ha⟩:=mS _ h1;obtain⟨b,rfl,hb⟩:=mS _ h2;obtain⟨l,rfl,l1,l2⟩:=HM _ h3;exact⟨⟨a,b,l⟩,rfl,nB ha,nB hb,l1,λ x hx=>nB (l2 x hx)⟩
theorem Z4 (ds:List D) (h:eY DM ds):∃v:mD,ds=v.enc/\v.ok:=by rw[eY]at h;simp only[pJ]at h;obtain⟨_,_,rfl,h1,_,_,rfl,h2,_,_,rfl,h3,_,_,rfl,h4,_,_,rfl,h5,rfl⟩:=h;obtain⟨a,rfl,ha⟩:=mS _ h1;obtain⟨b,rfl,hb⟩:=mS _ h2;obtain⟨c,rfl,hc⟩:=mS _ h3;obtain⟨d,rfl,hd⟩:=mS _ h4;rw[eY]at h5;obtain⟨xs,rfl,hx1,hx2⟩:=h5;obtain⟨l,l1,l2,l3⟩:=Dz Zn xs hx2;have:=GY;refine⟨⟨a,b,c,d,l⟩, ?_,nB ha,nB hb,nB hc,nB hd,by simp only;omega,l3⟩;rw[←l1,l2];rfl
end Go.Proofs.YtliimajkpggbhaaGreat
