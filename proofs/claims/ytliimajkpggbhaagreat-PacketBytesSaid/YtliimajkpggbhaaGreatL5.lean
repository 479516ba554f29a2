import Derived.Test.YtliimajkpggbhaaGreatK9
import Derived.Test.YtliimajkpggbhaaGreatVG
set_option maxHeartbeats 8000000
namespace Go.Proofs.YtliimajkpggbhaaGreat
open Go.Pk Tryz
set_option maxRecDepth 100000
set_option linter.unusedSimpArgs false
set_option linter.unusedVariables false
theorem J3 (l:List bN) (hl:l.length<2^62) (c q:Int):ah prog 188 [.f (al l.length (ct l)), .f (ai c), .f (ai q)] (λ r o=>r=[ri (kl l c q)]/\o=[]):=by
 refine zh func188 results188 ntmps188 call188 ?_;simp only[f188,Option.getD];have hla:=GJ l hl c;cases hf:eM l c with
 |none=>
  rw[hf]at hla;simp only[yc,Bd]at hla;have:kl l c q=1:=by unfold kl;rw[hf]
  rw[this];exact zW trivial (hla)
 |some m=>
  rw[hf]at hla;simp only[Be,ku]at hla;have:kl l c q=if decide (m.seq<q)=true then 1 else if(m.seq==q)=true then 0 else -1:=by unfold kl;rw[hf];simp only[dX,iz]
  rw[this];cases h1:decide (m.seq<q)
  .cases h2:(m.seq==q)
   .exact zW (I h1 h2) (hla)
   .exact zW (I h1 h2) (hla)
  .exact zW h1 (hla)
def kR (a:bN):List bN->Bool->List bN
 |[],put=>if put=true then []else [a]
 |m::r,put=>if(m.af==a.af)=true then a::kR a r true else if(!put&&decide (m.af>a.af))=true then a::m::kR a r true else m::kR a r put
theorem Hr {a:bN}:∀{l:List bN},(∀m∈l,(m.af==a.af)=false)->kR a l true=l
 |[],_=>rfl
 |m::r,h=>by rw[kR,aa (by rw[h m nQ];simp),aa (by simp),Hr λ x hx=>h x (jI _ hx)]
theorem Ni {a:bN}:∀{l:List bN},SM l->kR a l false=if(eM l a.af).isSome=true then l.set (mJ l a.af) a else l.take (mJ l a.af)++a::l.drop (mJ l a.af)
 |[],_=>rfl
 |m::r,hs=>by
  have hs':=oE.1 hs;rw[kR];by_cases h1:m.af=a.af
  .have hp:mJ (m::r) a.af=0:=by unfold mJ;rw[sq,aa (by simp;omega)]
   have hf:(eM (m::r) a.af).isSome=true:=by unfold eM;rw[List.find?_cons_of_pos (by simpa using h1)];rfl
   rw[aj (by simpa using h1),aj hf,hp,iO,Hr λ x hx=>by have:=hs'.1 x hx;simp;omega]
  .rw[aa (by simpa using h1)];by_cases h2:m.af>a.af
   .have hp:mJ (m::r) a.af=0:=by unfold mJ;rw[sq,aa (by simp;omega)]
    have hf:(eM (m::r) a.af).isSome=false:=by
     rw[Option.isSome_eq_false_iff,Option.isNone_iff_eq_none];refine tJ.2 λ x hx=> ?_
     rcases cF.1 hx with rfl|hx
     .simpa using h1
     .have:=hs'.1 x hx;simp;omega
    rw[aj (by simpa using h2),hf,aa (by simp),hp,Hr λ x hx=>by have:=hs'.1 x hx;simp;omega];rfl
   .have hp:mJ (m::r) a.af=mJ r a.af+1:=by unfold mJ;rw[sq,aj (by simp;omega)]
    have hf:eM (m::r) a.af=eM r a.af:=by unfold eM;rw[List.find?_cons_of_neg (by simpa using h1)]
    rw[aa (by simpa using h2),Ni hs'.2,hf,hp];split<;>rfl
theorem abr {a:bN} {l:List bN} {i:Nat} {put:Bool} (hi:i<l.length):kR a (l.drop i) put=if(l[i].af==a.af)=true then a::kR a (l.drop (i+1)) true else if(!put&&decide (l[i].af>a.af))=true then a::l[i]::kR a (l.drop (i+1)) true else l[i]::kR a (l.drop (i+1)) put:=by rw[cB hi,kR]
abbrev adD (a:bN):List C:=[di a.af,di a.seq,di a.bd.code,di a.bd.br,di a.bd.ahead, .d (.sl a.bd.held.length (dV a.bd.held))]
theorem Z7 (l:List bN) (hs:SM l) (hl:l.length<2^30) (a:bN) (ha:eB a=true) (har:ik a.bd) (hf:kl l a.af a.seq=1):
  ah prog 191 [.f (al l.length (ct l)), .f (.agg (a.enc.map C.d))] (λ r o=>r=[.one (.own 6 (tD l a).length (ct (tD l a)) false)]/\o=[]):=by
 refine ah.nil ?_;have hk:tD l a=kR a l false:=by rw[Ni hs];unfold tD;rw[aa (by rw[ha,hf];simp)]
 rw[hk];refine zh func191 results191 ntmps191 call191 ?_;simp only[f191,Option.getD];have hma:=yT a har;rw[ha]at hma;have hfr:=J3 l (by omega) a.af a.seq;rw[hf]at hfr;have h11:((1:Int) !=1)=false:=rfl;refine zL h11 (I (hma) (hfr)) ?_
 refine bq (τ:=Nat×Bool×List bN) (λ t=>⟨(al l.length (ct l)::dM (cd 3::dd::cd 5:: .one (.own ⟨6,1,1⟩ 0 t.2.2.length)::ab t.2.1::ai t.1::tZ (b8 []))),
   [(3,⟨2,[aW 1 [di a.af,di a.seq,di a.bd.code,di a.bd.br,di a.bd.ahead, .d (.sl a.bd.held.length (dV a.bd.held))],none,none,none,none,none,none]⟩),(5,⟨2,[aW 1 [di a.af,di a.seq,di a.bd.code,di a.bd.br,di a.bd.ahead, .d (.sl a.bd.held.length (dV a.bd.held))],none,none,none,none,none,none]⟩),(6,⟨2,[none,b9 1 6 (ct t.2.2)]⟩),(47,⟨2,[]⟩),(48,⟨2,[]⟩),(63,⟨2,[]⟩),(64,⟨2,[]⟩),(70,⟨2,[]⟩),(71,⟨2,[]⟩)]⟩)
  (λ t=>t.1≤l.length/\t.2.2.length≤t.1+1+1/\(t.2.1=false->t.2.2.length≤t.1)) (λ t=>t.2.2++kR a (l.drop t.1) t.2.1) (λ t=>l.length - t.1) (0,false,[])
  ((Gh.nil (i:=6) (s:=6) (sz:=6) rfl).trans (Gh.canon [3,5,6] [47,48,63,64,70,71] [] zK rfl rfl)) ⟨bc _,by simp,by simp⟩ ?_
 rintro⟨i,put,m⟩ ⟨hi0,hm1,hm2⟩ hF K hK
 simp only[cC,c5]at hi0 hm1 hm2 hF hK⊢;refine zw ?_;refine aq (λ hlt=> ?_) (λ hge=> ?_)
 .have hi:i<l.length:=by simpa using hlt
  have hat:=nE hi;have hw:=bz hi (by omega);have hd:=abr (a:=a) (put:=put) hi;have hb1:((m.length+1)*64≤2^47)=True:=b5 (by omega);have hb2:((m.length+1+1)*64≤2^47)=True:=b5 (by omega);have hsA:ct m++[iD a.af,iD a.seq,iD a.bd.code,iD a.bd.br,iD a.bd.ahead, .sl a.bd.held.length (dV a.bd.held)]=ct (m++[a]):=by rw[xa]
  cases h1:(l[i].af==a.af)
  .rw[aa (by rw[h1];simp)]at hd;cases h2:(!put&&decide (l[i].af>a.af))
   .rw[h2,aa (by simp)]at hd;have hsB:ct m++[iD l[i].af,iD l[i].seq,iD l[i].bd.code,iD l[i].bd.br,iD l[i].bd.ahead, .sl l[i].bd.held.length (dV l[i].bd.held)]=ct (m++[l[i]]):=by rw[xa]
    refine az (I hat (I h1 (I h2 (I hb1 (I hsB (I @cN bw)))))) ?_;exact hK _ (i+1,put,m++[l[i]]) (Gh.canon [3,5,6] [] [] (zk (I hw (I @aG.{0} @bG.{0}))) rfl rfl) ⟨hi,by simp;omega,λ hp=>by have:=hm2 hp;simp;omega⟩ (by simp only;rw[hd];simp) (by simp only;omega)
   .rw[h2,aj rfl]at hd;have hsB:ct (m++[a])++[iD l[i].af,iD l[i].seq,iD l[i].bd.code,iD l[i].bd.br,iD l[i].bd.ahead, .sl l[i].bd.held.length (dV l[i].bd.held)]=ct (m++[a]++[l[i]]):=by rw[xa (l:=m++[a])]
    have htA:(ct (m++[a])).take ((m.length+1)*6)=ct (m++[a]):=by have:=n9 (l:=m++[a]);rwa[aG,bG]at this
    refine az (I hat (I h1 (I h2 (I hb1 (I hb2 (I hsA (I htA (I hsB (I @cN bw))))))))) ?_;have hpf:put=false:=by cases put;rfl;simp at h2
    have hm3:=hm2 hpf;exact hK _ (i+1,true,m++[a]++[l[i]]) (Gh.canon [3,5,6] [] [] (zk (I hw (I @aG.{0} @bG.{0}))) rfl rfl) ⟨hi,by simp;omega,λ hp=>by cases hp⟩ (by simp only;rw[hd];simp) (by simp only;omega)
  .rw[aj h1]at hd;refine az (I hat (I h1 (I hb1 (I hsA (I @cN bw))))) ?_;exact hK _ (i+1,true,m++[a]) (Gh.canon [3,5,6] [] [] (zk (I hw (I @aG.{0} @bG.{0}))) rfl rfl) ⟨hi,by simp;omega,λ hp=>by cases hp⟩ (by simp only;rw[hd];simp) (by simp only;omega)
 .have hi:i=l.length:=by
   have:¬(i:Int)<l.length:=by simpa using hge
   omega
  subst hi;rw[eL,kR]at hF;have hb1:((m.length+1)*64≤2^47)=True:=b5 (by omega);have hsA:ct m++[iD a.af,iD a.seq,iD a.bd.code,iD a.bd.br,iD a.bd.ahead, .sl a.bd.held.length (dV a.bd.held)]=ct (m++[a]):=by rw[xa]
  cases put
  .refine az (I hb1 (I hsA (I @cN bw))) ?_;have hF':m++[a]=kR a l false:=hF;rw[←hF'];show ak _ _/\True;simp[ak]
  .refine az (I hb1 hsA) ?_;have hF':m=kR a l false:=by rw[←hF];simp
   rw[←hF'];show ak _ _/\True;simp[ak]
theorem KD (l:List bN) (c q:Int):kl l c q=1∨kl l c q=0∨kl l c q= -1:=by
 unfold kl;cases eM l c with
 |none=>exact .inl rfl
 |some m=>simp only;split;exact .inl rfl;split;exact .inr (.inl rfl);exact .inr (.inr rfl)
abbrev G1 (a:eh):RF:= .agg [.d (iD a.code), .d (iD a.br), .d (iD a.ahead), .d (.sl a.held.length (dV a.held))]
theorem Yv (s:St) (h:Small s) (hr:cZ s) (r:aX) (hro:r.ok) (hdr:aX.may r=true->eB ⟨r.af,r.seq,(dv s r).2⟩=true) (hdo:aX.may r=true->ik (dv s r).2):
  ah prog 159 [.f (wH s), .f (.agg (r.enc.map C.d))]
  (λ x o=>x=[wM (ox s r).1,G1 (ox s r).2.1,rb (ox s r).2.2]/\o=[]):=by
 refine ah.nil ?_;refine zh func159 results159 ntmps159 call159 ?_;simp only[f159,Option.getD];have hmr:=xi r hro;have hfr:=J3 s.aI (by have:=h.aI;omega) r.af r.seq;cases hm:aX.may r
 .rw[hm]at hmr;have ha:ox s r=(s,⟨1,0,0,[]⟩,false):=by unfold ox;rw[aj (by rw[hm];rfl)]
  rw[ha]
  repeat'(first|exact zC|refine fX ?_|refine zx (hmr) ?_|(apply aq<;>intro hb)|(apply I;exact zI)|(apply I<;>intro hg))
  simp[aT,bf,aY,ak]
 .rw[hm]at hmr;have hap:ox s r=if decide (kl s.aI r.af r.seq<0)=true then(s,⟨0,0,0,[]⟩,false)else if(kl s.aI r.af r.seq==0)=true then(s,((eM s.aI r.af).map bN.bd).getD ⟨0,0,0,[]⟩,false)else
    ({(dv s r).1 with aI:=tD (dv s r).1.aI ⟨r.af,r.seq,(dv s r).2⟩},(dv s r).2,true):=by
   unfold ox;rw[aa (by rw[hm];simp)];have hc:=KD s.aI r.af r.seq;rcases hc with e|e|e<;>rw[e]<;>rfl
  cases f1:decide (kl s.aI r.af r.seq<0)
  .rw[aa (by rw[f1];simp)]at hap;cases f2:(kl s.aI r.af r.seq==0)
   .rw[aa (by rw[f2];simp)]at hap;rw[hap];have hdn:=Ze s h hr r hro hm;have hdm:=WB h r;have hf1:kl s.aI r.af r.seq=1:=by
     rcases KD s.aI r.af r.seq with e|e|e
     .exact e
     .rw[e]at f2;cases f2
     .rw[e]at f1;cases f1
    have hke:=Z7 s.aI hr.ms h.aI ⟨r.af,r.seq,(dv s r).2⟩ (hdr hm) (hdo hm) hf1;rw[hdm]
    repeat'(first|exact zC|(with_reducible first|refine gA 10 ?_|refine gz 10 ?_|refine gy 10 ?_)|refine zu (I f1 (I f2 hdm)) ?_|(with_reducible first|refine bH _ _ ?_)|refine zx (hmr) ?_|refine zx (hfr) ?_|refine zx (hdn) ?_|(apply aq<;>intro hb)|(apply I;exact zI)|(apply I<;>intro hg))
    refine gK (gB (Gh.gH 11 3 (.own ⟨11,4,4⟩ 0 (dv s r).2.held.length) ?_) ?_)
    .exact jb
    refine jc ?_
    repeat'(first|exact zC|(with_reducible first|refine gA 11 ?_|refine gz 11 ?_|refine gy 11 ?_)|refine zu hdm ?_|(with_reducible first|refine bH _ _ ?_)|refine zx (hke) ?_|(apply aq<;>intro hb)|(apply I;exact zI)|(apply I<;>intro hg))
    refine gK (gB (Gh.gH 10 5 (.own ⟨10,6,7⟩ 0 (tD s.aI ⟨r.af,r.seq,(dv s r).2⟩).length) ?_) ?_)
    .exact jb
    refine jc ?_
    repeat'(first|exact zC|refine zq hdm ?_|(apply aq<;>intro hb)|(apply I;exact zI)|(apply I<;>intro hg))
    simp[aT,bf,aY,ak]
   .rw[aj f2]at hap;rw[hap];have hla:=GJ s.aI (by have:=h.aI;omega) r.af;refine zL (I f1 f2) (I (hmr) (I (hfr) (hla))) ?_;cases hfm:eM s.aI r.af with
    |none=>unfold kl at f2;rw[hfm]at f2;cases f2
    |some m=>simp[aT,bf,aY,ak]
  .rw[aj f1]at hap;rw[hap]
   repeat'(first|exact zC|refine zq f1 ?_|refine zx (hmr) ?_|refine zx (hfr) ?_|(apply aq<;>intro hb)|(apply I;exact zI)|(apply I<;>intro hg))
   simp[aT,bf,aY,ak]
theorem Gt {T:Nat->Option TI} {P:Program} {x:Code} {g g':G} {Q:Ex->G->Prop} (h:Gh g g') (hl:yf T P x g' Q):yf T P x g Q:=by obtain⟨I,n0,⟨g0,h1,h2⟩,h3⟩:=hl;exact⟨I,n0,⟨g0,h.trans h1,h2⟩,h3⟩
def uO (a b:List Int):Bool:=(a.length==b.length)&&((a.zip b).all λ p=>p.1==p.2)
theorem Vw (a b:List Int) (ha:a.length<2^62) (hb:b.length<2^62):ah prog 185 [.f (al a.length (bt a)), .f (al b.length (bt b))] (λ r o=>r=[rb (uO a b)]/\o=[]):=by
 refine zh func185 results185 ntmps185 call185 ?_;simp only[f185,Option.getD];cases hl:((a.length:Int) !=(b.length:Int))
 .have hle:a.length=b.length:=by simp at hl;omega
  have hs:uO a b=(a.zip b).all λ p=>p.1==p.2:=by unfold uO;rw[hle];simp
  rw[hs];refine az hl ?_;refine bq (τ:=Nat) (λ i=>⟨(al a.length (bt a)::al b.length (bt b)::jt (ai i::qM [])),[]⟩)
   (λ i=>i≤a.length) (λ i=>((a.drop i).zip (b.drop i)).all λ p=>p.1==p.2) (λ i=>a.length - i) 0
   (Gh.canon [] [] [] zK rfl rfl) (bc _) ?_
  intro i hi0 hF K hK;rw[cC,cC]at hF;refine zw ?_;refine aq (λ hlt=> ?_) (λ hge=> ?_)
  .have hi:i<a.length:=by simpa using hlt
   have hib:i<b.length:=by omega
   have hat:=mm hi;have hbt:=mm hib;have hw:=bz hi ha;have hq:(((a.drop i).zip (b.drop i)).all λ p=>p.1==p.2)=((a[i]==b[i])&&(((a.drop (i+1)).zip (b.drop (i+1))).all λ p=>p.1==p.2)):=by rw[cB hi,cB hib,yq,lY]
   rw[hq]at hF;cases he:a[i] !=b[i]
   .have he':(a[i]==b[i])=true:=by simpa using he
    rw[he',ec]at hq;refine az (I hat (I hbt (I he (I @eu bw)))) ?_;exact hK _ (i+1) (Gh.canon [] [] [] (zk hw) rfl rfl) hi hq.symm (by omega)
   .have he':(a[i]==b[i])=false:=by simpa using he
    rw[he',gV]at hF;refine az (I hat (I hbt (I he (I @eu bw)))) ?_;rw[←hF]
  .have hi:i=a.length:=by
    have:¬(i:Int)<a.length:=by simpa using hge
    omega
   rw[hi,eL,List.zip_nil_left,uN]at hF;rw[←hF];exact bA trivial
 .have hs:uO a b=false:=by
   have:(a.length==b.length)=false:=by simp at hl⊢;omega
   unfold uO;rw[this];rfl
  rw[hs];exact bA hl
def cm:St:=⟨0,0,0,[],[],[]⟩
def rq0:aX:=⟨3,1,1,0, .empty⟩
theorem Ka:cZ cm:=uk.1 rfl
def H4:St:=⟨0,1,0,[⟨3,1,0⟩],[],[⟨3,1,⟨0,1,0,[]⟩⟩]⟩
theorem WI (n:Int):(AK n).size≤12:=by unfold AK;rcases H0 n with h|h|h|h|h|h<;>rw[h]<;>decide
theorem abO {s:St} (hr:cZ s) {a:Act} (ha:we a):(rX s a).ok:=by
 obtain⟨_,h1,h2,h3,h4,h5⟩:=ha;unfold aO at*;have hH:bj=2305843009213693952:=rfl;have hsq:∀c,0≤((eM s.aI c).getD rq).seq/\((eM s.aI c).getD rq).seq≤bj:=λ c=>by
  cases hf:eM s.aI c with
  |none=>decide
  |some m=>
   have:=(yS (hr.lx m (uX hf))).2.1;simp only[ku];omega
 have hnm:∀c,0≤((bC s.ax c).getD pg).num/\((bC s.ax c).getD pg).num≤bj:=λ c=>by
  cases hf:bC s.ax c with
  |none=>decide
  |some m=>
   have:=(qZ.1 (hr.jS m (uX hf)).1).2.1;simp only[ku];omega
 have hk:1≤rM a.kind/\rM a.kind≤6:=by unfold rM;omega
 have hs:0≤xU a.kind a.br/\xU a.kind a.br≤7:=by unfold xU;split<;>omega
 have hn:(AX a.kind a.name).size≤12:=by
  unfold AX;split
  .exact WI _
  .decide
 unfold rX aX.ok i64 EK;simp only;have:=hsq (a.af % 8);have:=hnm (a.af % 8);refine⟨by omega, ?_, ?_, ?_, ?_⟩
 .split
  .split<;>omega
  .omega
 .split<;>omega
 .split
  .omega
  .split<;>omega
 .split
  .decide
  .omega
def Ed (s:St) (a:Act):St:=(ox (ou s (s.time+a.time % 16) 60) (rX (ou s (s.time+a.time % 16) 60) a)).1
def uP:List Act->St->St
 |[],s=>s
 |a::r,s=>uP r (Ed s a)
structure Mk (s:St) (i:Nat):Prop where
 rt:cZ s
 num:s.num≤i
 tok:s.token≤8*i
theorem M4 {s:St} {i:Nat} (h:Mk s i) (hi:i≤1000) (a:Act):Mk (Ed s a) (i+1):=by have hH:bj=2305843009213693952:=rfl;obtain⟨h1,h2,h3⟩:=h;obtain⟨r1,r2,r3,r4,r5⟩:=Il h1 (s.time+a.time % 16) 60 (by omega);unfold Ed;obtain⟨d1,d2,d3,d4,d5⟩:=Vr r1 (rX (ou s (s.time+a.time % 16) 60) a) (by omega) (by omega);exact⟨d1,by omega,by omega⟩
theorem MC:∀{l:List Act} {s:St} {i:Nat},Mk s i->i+l.length≤1000->Mk (uP l s) (i+l.length)
 |[],_,_,h,_=>h
 |a::l,s,i,h,hi=>by
  simp only[cL]at hi⊢;have:=MC (l:=l) (M4 h (by omega) a) (by omega)
  rwa[show i+1+l.length=i+(l.length+1) by omega]at this
abbrev uR (bO:List Act):St:=uP (bO.take 60) cm
theorem LB (bO:List Act):Mk (uR bO) 60:=by
 have h:=MC (l:=bO.take 60) (s:=cm) (i:=0) ⟨Ka,by decide,by decide⟩ (by simp;omega);have hl:(bO.take 60).length≤60:=by simp;omega
 exact⟨h.rt,by have:=h.num;show(uP (bO.take 60) cm).num≤_;omega,by have:=h.tok;show(uP (bO.take 60) cm).token≤_;omega⟩
theorem aby (bO:List Act) (hl:bO.length<2^60) (ha:∀a∈bO,we a):ah prog 110 [.f (al bO.length (tE bO))] (λ r o=>r=[wM (uR bO)]/\o=[]):=by
 refine ah.nil ?_;refine zh func110 results110 ntmps110 call110 ?_;simp only[f110,Option.getD];refine az trivial ?_;refine Gt (Gh.gH 3 3 (.d (.v (.slice none 0 0))) ?_) ?_
 .exact jb
 refine jc ?_;refine Gt (Gh.gH 3 4 (.d (.v (.slice none 0 0))) ?_) ?_
 .exact jb
 refine jc ?_;refine Gt (Gh.gH 3 5 (.d (.v (.slice none 0 0))) ?_) ?_
 .exact jb
 refine jc ?_;refine bq (τ:=Nat×St) (λ q=>⟨(al bO.length (tE bO)::dd::cd 2::cd 3::ai q.1::wS []),[(2,⟨2,[aW 1 [di 0,di 0,di 0, .d (.v (.slice none 0 0)), .d (.v (.slice none 0 0)), .d (.v (.slice none 0 0))],none,none,none,none,none,none]⟩),(3,⟨2,[aW 1 [di q.2.time,di q.2.num,di q.2.token, .d (.sl q.2.ax.length (bT q.2.ax)), .d (.sl q.2.ae.length (aU q.2.ae)), .d (.sl q.2.aI.length (ct q.2.aI))],none,none,none,none,none,none]⟩),(5,⟨2,[]⟩),(6,⟨2,[]⟩),(29,⟨2,[]⟩),(38,⟨2,[]⟩)]⟩)
  (λ q=>q.1≤bO.length/\q.1≤60/\Mk q.2 q.1) (λ q=>uP ((bO.take 60).drop q.1) q.2) (λ q=>bO.length - q.1) (0,cm)
  (Gh.canon [2,3] [5,6,29,38] [] zK rfl rfl) ⟨bc _,by decide,Ka,by decide,by decide⟩ ?_
 intro⟨i,s⟩ ⟨j1,j2,j3⟩ hF K hK;simp only[cC]at j1 j2 j3 hF hK⊢;have hH:bj=2305843009213693952:=rfl;refine zw ?_;refine aq (λ hlt=> ?_) (λ hge=> ?_)
 .have hlt2:i<bO.length/\i<60:=by simp at hlt;omega
  have hi:=hlt2.1;have hat:=aaQ hi;have hw:=bz hi (by omega);have hao:=ha _ (cb hi);have hwt:=sv hao.1;have htm:=sC hao.1.1 16;have hrt:=j3.rt.time;have hnu:=j3.num;have htk:=j3.tok;have hwa:IntKind.i64.wrap (s.time+bO[i].time % 16)=s.time+bO[i].time % 16:=wrap64 (by omega) (by omega);have had:=VK s (oO j3.rt) j3.rt (s.time+bO[i].time % 16) 60;obtain⟨r1,r2,r3,r4,r5⟩:=Il j3.rt (s.time+bO[i].time % 16) 60 (by omega);have hmk:=M4 j3 (by omega) bO[i];have hds:(bO.take 60).drop i=bO[i]::(bO.take 60).drop (i+1):=by rw[cB (by simp;omega),wy]
  have hst:Ed s bO[i]=(ox (ou s (s.time+bO[i].time % 16) 60) (rX (ou s (s.time+bO[i].time % 16) 60) bO[i])).1:=rfl;generalize ou s (s.time+bO[i].time % 16) 60=t at*;have hrq:=Wp t (oO r1) r1 bO[i] hao;have hro:=abO r1 hao;generalize rX t bO[i]=q at*;have hap:=Yv t (oO r1) r1 q hro (λ hm=>VP r1 hm (by omega) (by omega)) (λ hm=>WH r1 hm (by omega) (by omega));generalize ox t q=U at*;refine zL (I hat (I hwt (I htm (I hwa (I @ZU bw))))) (I (had) (I (hrq) (hap))) ?_;refine hK _ (i+1,U.1) (Gh.canon [2,3] [] [] (zk hw) rfl rfl) ⟨hi,by simp only;omega,by rw[←hst];exact hmk⟩ ?_ (by simp only;omega);simp only;rw[hds,uP,hst]
 .have hd:(bO.take 60).drop i=[]:=D4 (by simp at hge⊢;omega);rw[hd,uP]at hF;rw[show uR bO=s from hF.symm]
  repeat'(first|exact zC|refine fX ?_|(apply aq<;>intro hb)|(apply I;exact zI)|(apply I<;>intro hg))
  simp[aT,bf,aY,ak]
abbrev ag (l:List Int):List D:=l.map uD
def nI (v:Int) (k:Nat):Int:=IntKind.u8.wrap (v.fdiv (2^(8*(7 - k))))
def aK (v:Int):List Int:=(List.range 8).map (nI v)
abbrev Bv (v:Int) (i:Nat):List D:=(List.range 8).map λ k=>uD (if k<i then nI v k else 0)
theorem dj {v:Int} (h0:0≤v) (h1:v≤255):IntKind.u8.wrap v=v:=by
 have e:IntKind.u8.wrap v=v % 256:=by unfold IntKind.wrap;simp[IntKind.bits,IntKind.signed]
 rw[e];omega
theorem ZP (v:Int) (i:Nat) (hi:i<8):(Bv v i).set i (uD (nI v i))=Bv v (i+1):=by
 apply wv
 .simp
 .intro k h1 h2;simp only[u6,bE,Bk]at h1;rw[uI];simp only[yb,List.getElem_range];split
  .rename_i e;subst e;rw[aj (by omega)]
  .rename_i e;by_cases h:k<i
   .rw[aj h,aj (by omega)]
   .rw[aa h,aa (by omega)]
theorem JQ (v:Int) (h:0≤v/\v≤255):ah prog 63 [.f (ai v)] (λ r o=>r=[.one (.own 1 1 (ag [v]) false),ri 0]/\o=[]):=by
 refine zh func63 results63 ntmps63 call63 ?_;simp only[f63,Option.getD];have h1:decide (v<0)=false:=by simp;omega
 have h2:decide (v>255)=false:=by simp;omega
 have hw:IntKind.u8.wrap v=v:=dj h.1 h.2;exact bA (I h1 (I h2 hw))
theorem ur (v:Int) (h:0≤v/\v<4611686018427387904):ah prog 64 [.f (ai v)] (λ r o=>r=[.one (.own 1 8 (ag (aK v)) false),ri 0]/\o=[]):=by
 refine zh func64 results64 ntmps64 call64 ?_;simp only[f64,Option.getD];have h1:decide (v<0)=false:=by simp;omega
 have h2:decide (v≥4611686018427387904)=false:=by simp;omega
 refine az (I h1 h2) ?_;refine bq (τ:=Nat) (λ i=>⟨(ai v::jt (.one (.own ⟨4,1,1⟩ 0 8)::r8 (ai 8::ai i::qN []))),[(12,⟨2,[]⟩),(4,⟨2,[none,b9 1 1 (Bv v i)]⟩)]⟩)
  (λ i=>i≤8) (λ _=>()) (λ i=>8 - i) 0
  (Gh.canon [4] [] [] zK rfl rfl) (bc _) ?_
 intro i hi0 hF K hK;refine zw ?_;refine aq (λ hlt=> ?_) (λ hge=> ?_)
 .have hi:i<8:=by simp at hlt;omega
  have w1:IntKind.i64.wrap (7 - (i:Int))=7 - i:=wrap64 (by omega) (by omega);have w2:IntKind.i64.wrap (8*(7 - (i:Int)))=((8*(7 - i):Nat):Int):=by rw[wrap64 (by omega) (by omega)];omega
  have w3:¬(((8*(7 - i):Nat):Int)<0):=by omega
  have w4:min (8*(7 - i)) IntKind.i64.bits=8*(7 - i):=by have:IntKind.i64.bits=64:=rfl;omega
  have hw:IntKind.i64.wrap ((i:Int)+1)=((i+1:Nat):Int):=by rw[wrap64 (by omega) (by omega)];omega
  have hset:((Bv v i).map C.d).set i (C.d (D.v (Value.int IntKind.u8 (IntKind.u8.wrap (v.fdiv (2^(8*(7 - i))))))))=(Bv v (i+1)).map C.d:=by have:=ZP v i hi;rw[←this,List.map_set];rfl
  have hle:(i+1≤8)=True:=b5 (by omega)
  repeat'(first|(with_reducible first|refine bH _ _ ?_|refine fC ?_|refine fD ?_)|rw[dE]|simp only[w1,w2,aa w3,gW,w4,hset,Bk,hle,zY,Int.reduceEq,Int.reduceBEq,Int.reduceBNe,Nat.reduceSub,Nat.reduceEqDiff,Nat.reduceAdd,Nat.reduceMul,Nat.reduceLeDiff,Nat.reduceLT,Nat.reduceBEq,reduceCtorEq]|refine eA ?_|refine aq (λ hb=> ?_) (λ hb=> ?_)|(refine And.intro ?_ ?_;exact zI)|refine And.intro (λ hg=> ?_) (λ hg=> ?_)|exact zC|fail)
  exact hK _ (i+1) (Gh.canon [4] [] [] (zk hw) rfl rfl) hi rfl (by omega)
 .have hi:i=8:=by
   have:¬(i:Int)<8:=by simpa using hge
   omega
  subst hi;refine az trivial ?_;rfl
theorem sG (s:ByteArray):s.data.toList.length=s.size:=by rw[mC];rfl
abbrev rL (s:ByteArray):List D:=s.data.toList.map λ b=>uD b.toNat
def pD (s:ByteArray):List D:=uD s.size::rL s
theorem Cy (s:ByteArray):(pD s).length=1+s.size:=by simp[pD,sG,kT]
theorem FB (s:ByteArray) (h:s.size≤255):ah prog 111 [.f (kG s)] (λ r o=>r=[.one (.own 1 (1+s.size) (pD s) false),ri 0]/\o=[]):=by
 refine zh func111 results111 ntmps111 call111 ?_;simp only[f111,Option.getD];have h1:decide ((s.size:Int)>255)=false:=by simp;omega
 have hw:IntKind.u8.wrap (s.size:Int)=s.size:=dj (by omega) (by omega);have hle:(1+s.size≤2^47)=True:=b5 (by omega);refine az (I h1 (I hw (I @sG hle))) ?_;rfl
theorem abT (n:Nat) (h:n<2^40):ah prog 112 [.f (.one (.d (.v (.slice none 0 0)))), .f (ai n)] (λ r o=>r=[.one (.own 1 0 (lV [.int .u8 0] n) false)]/\o=[]):=by
 refine Je eV mixed (T:=Ty) (n:=27) func112 (c:=f112.body.getD .skip) rfl results112 ntmps112 call112
  (λ _=>⟨(eg 27 [.f (.one (.d (.v (.slice none 0 0)))), .f (ai n)]).v.set 0 (.one (.eX ⟨0,1,0⟩ 0 0 0)),[(0,⟨1,[none,some {e:=0,var:=false,fz:=false,sz:=1,cells:=[]}]⟩)]⟩)
  (λ _=>True) (λ cx a w hh=>⟨0,trivial,Gh.adh (i:=0) (s:=0) (sz:=1) rfl cx a w hh⟩) ?_
 intro k _;simp only[f112,Option.getD];have h1:decide ((n:Int)<0)=false:=by simp
 have hw:IntKind.i64.wrap ((n:Int) - IntKind.i64.wrap (((0:Nat):Int) - ((0:Nat):Int)))=n:=by rw[show IntKind.i64.wrap (((0:Nat):Int) - ((0:Nat):Int))=0 from by decide,Int.sub_zero,wrap64 (by omega) (by omega)]
 cases h2:decide ((n:Int)>0)
 .have:n=0:=by simp at h2;omega
  subst this;refine az (I h1 (I hw h2)) ?_;rfl
 .have h3:0<n:=by simp at h2;omega
  have hc1:(0≤(n:Int)/\(n:Int)<2^62/\0<n/\n≤2^47)=True:=b5 (by omega);exact bA (I h1 (I hw (I h2 (I hc1 @gW))))
def wN (ls:List (List D)) (i:Nat):List D:=if i=0 then lV [.int .u8 0] ls.flatten.length else(ls.take i).flatten
theorem XS (ls:List (List D)) (i:Nat):(wN ls i).take (ls.take i).flatten.length=(ls.take i).flatten:=by
 unfold wN;split
 .rename_i h;subst h;simp
 .rw[lP]
theorem Cu {ls:List (List D)} {i:Nat} (hi:i<ls.length):(ls.take (i+1)).flatten=(ls.take i).flatten++ls[i]:=by rw[A6 hi,List.flatten_append];simp
theorem Hh {ls:List (List D)} {m:Nat} (hs:∀l∈ls,l.length≤m):∀i,(ls.take i).flatten.length≤i*m
 |0=>by simp
 |i+1=>by
  by_cases hi:i<ls.length
  .rw[Cu hi,aG];have:=Hh hs i;have:=hs _ (cb hi);rw[eQ];omega
  .have h1:ls.take (i+1)=ls:=dk (by omega);have h2:ls.take i=ls:=dk (by omega);rw[h1,←h2];have:=Hh hs i;rw[eQ];omega
theorem X1 {ls:List (List D)} {i:Nat} (hi:i<ls.length):wN ls (i+1)=(ls.take i).flatten++ls[i]:=by unfold wN;rw[aa (by omega),Cu hi]
theorem aah (ls:List (List D)):wN ls ls.length=ls.flatten:=by
 unfold wN;cases ls with
 |nil=>rfl
 |cons a l=>rw[aa (by simp),lP]
abbrev rW (ls:List (List D)):List D:=ls.map λ l=> .sl l.length l
theorem N3 {ls:List (List D)} {i:Nat} (hi:i<ls.length):(rW ls).drop i= .sl ls[i].length ls[i]::rW (ls.drop (i+1)):=by rw[←la,cB hi];rfl
theorem Nj {ls:List (List D)}:(rW ls).length=ls.length:=by simp
theorem FV (ls:List (List D)) (hl:ls.length<2^10) (hs:∀l∈ls,l.length≤2^12):
  ah prog 66 [.f (al ls.length (rW ls))] (λ r o=>r=[.one (.own 1 ls.flatten.length ls.flatten false)]/\o=[]):=by
 refine zh func66 results66 ntmps66 call66 ?_;simp only[f66,Option.getD];have hfl:=Hh hs;refine az trivial ?_;refine bq (τ:=Nat) (λ i=>⟨(al ls.length (rW ls)::dM (ai (ls.take i).flatten.length::pT (al ls.length (rW ls)::ai ls.length::ai i::yG []))),[(5,⟨2,[]⟩)]⟩)
  (λ i=>i≤ls.length) (λ _=>()) (λ i=>ls.length - i) 0
  (Gh.canon [] [5] [] (zk (I @uM.{0} (I @yi.{0} @fN.{0}))) rfl rfl) (bc _) ?_
 intro i hi0 hF K hK;refine zw ?_;refine aq (λ hlt=> ?_) (λ hge=> ?_)
 .have hi:i<ls.length:=by simpa using hlt
  have hat:=N3 hi;have hw:=bz hi (by omega);have hb:=hfl i;have hb2:=hfl (i+1);have hil:i*2^12≤2^10*2^12:=gU _ (by omega);have hil2:(i+1)*2^12≤2^10*2^12:=gU _ (by omega);have hfs:(ls.take (i+1)).flatten.length=(ls.take i).flatten.length+ls[i].length:=by rw[Cu hi,aG]
  have hws:IntKind.i64.wrap (((ls.take i).flatten.length:Int)+(ls[i].length:Int))=((ls.take (i+1)).flatten.length:Int):=by rw[wrap64 (by omega) (by omega),hfs];omega
  have hn:decide (((ls.take (i+1)).flatten.length:Int)<0)=false:=by simp
  refine az (I hat (I hws (I hn @Nj))) ?_;exact hK _ (i+1) (Gh.canon [] [] [] (zk hw) rfl rfl) hi rfl (by omega)
 .have hi:i=ls.length:=by
   have:¬(i:Int)<ls.length:=by simpa using hge
   omega
  subst hi;have hb:=hfl ls.length;have hil:ls.length*2^12≤2^10*2^12:=gU _ (by omega);rw[lP]at*;have hgr:=abT ls.flatten.length (by omega);clear hK;refine zL trivial (hgr) ?_;refine bq (τ:=Nat) (λ i=>⟨(lq (.one (.own ⟨6,1,1⟩ 0 (ls.take i).flatten.length)::rZ (al ls.length (rW ls)::ai ls.length::ai i::yJ []))),[(5,⟨2,[]⟩),(24,⟨2,[]⟩),(6,⟨2,[none,b9 1 1 (wN ls i)]⟩),(8,⟨2,[]⟩),(33,⟨2,[]⟩)]⟩)
   (λ i=>i≤ls.length) (λ _=>()) (λ i=>ls.length - i) 0
   (Gh.canon [6] [8,33] [] (zk (I @uM.{0} (I @yi.{0} @fN.{0}))) rfl rfl) (bc _) ?_
  intro i hi0 hF K hK;refine zw ?_;refine aq (λ hlt=> ?_) (λ hge=> ?_)
  .have hi:i<ls.length:=by simpa using hlt
   have hat:=N3 hi;have hw:=bz hi (by omega);have hb:=hfl i;have hb2:=hfl (i+1);have hil:i*2^12≤2^10*2^12:=gU _ (by omega);have hil2:(i+1)*2^12≤2^10*2^12:=gU _ (by omega);have hfs:(ls.take (i+1)).flatten.length=(ls.take i).flatten.length+ls[i].length:=by rw[Cu hi,aG]
   have hle:((ls.take i).flatten.length+ls[i].length≤2^47)=True:=b5 (by omega);refine az (I hat (I @Nj (I @ac6 (I @XS (I hle @je))))) ?_;exact hK _ (i+1) (Gh.canon [6] [] [] (zk (I hw hfs)) rfl (by rw[X1 hi];rfl)) hi rfl (by omega)
  .have hi:i=ls.length:=by
    have:¬(i:Int)<ls.length:=by simpa using hge
    omega
   subst hi;refine az trivial ?_;rw[lP,aah]
theorem oi (n:Int):(ag (aK n)).length=8:=rfl
theorem oR {l:List Int} {i:Nat} (hi:i<l.length):(ag l).drop i=uD (l.getD i 0)::ag (l.drop (i+1)):=by rw[←la,cB hi,j7,dG hi];rfl
theorem ij {l:List Int}:(ag l).length=l.length:=by simp
def AR:Value->Value
 | .iface _ (.agg ⟨[c]⟩)=>c
 |_=>undef
abbrev pk (t:Nat) (n:Int):Value:= .iface t (.agg #[.int .i64 n])
def Aw (t:Nat) (x:Value):Prop:=∃n,x=pk t n
def BL (z:Value) (x:Value) (k:Nat):List Value:=if k=4 then [z]else if k=5 then [.int .i64 0]else [AR x]
def EU (x:Value) (k:Nat):List Value:=if k=6 then [.string .empty]else if k=7 then [.int .i64 0]else [AR x]
def ER (_:Nat):Nat:=1
theorem yv {l:List Value} (h:l.length=1):∃a,l=[a]:=by
 match l,h with
 |[a],_=>exact⟨a,rfl⟩
theorem HJ {ks:List Nat} {ls:List (List Value)} (hk:ks.length=3) (h:ls.length=ks.length) (hs:∀(i k:Nat) (l:List Value),ks[i]? =some k->ls[i]? =some l->l.length=ER k):∃a b c,ls=[[a],[b],[c]]:=by
 rw[hk]at h
 match ls,h with
 |[x,y,z],_=>
  obtain⟨a,rfl⟩:=yv (hs 0 ks[0] x (dG (by omega)) rfl);obtain⟨b,rfl⟩:=yv (hs 1 ks[1] y (dG (by omega)) rfl);obtain⟨c,rfl⟩:=yv (hs 2 ks[2] z (dG (by omega)) rfl);exact⟨a,b,c,rfl⟩
theorem AA {P:Program} {t:Nat} {z:Value} (h:(P.info? t).bind (·.zero)=some z) (w:World):(zeroValue t).run P w= .ok z w:=by
 cases hi:P.info? t with
 |none=>rw[hi]at h;cases h
 |some i=>rw[hi]at h;simp[zeroValue,typeInfo,hi,show i.zero=some z from h]
theorem FM:(prog.info? 206).bind (·.zero)=some (.agg #[.int .i64 0]):=by kernel_rfl
theorem IX:vZ prog 172 [4,5,6] ER (BL (.int .i64 0)) (Aw 206):=by
 refine zF eV mixed (T:=Ty) func172 rfl rfl ntmps172 rfl rfl rfl rfl rfl rfl rfl (by decide) (by decide) (by decide) ?_
 rintro x ⟨n,rfl⟩ ls hl hs
 obtain⟨a,b,c,rfl⟩:=HJ rfl hl hs;refine⟨.tuple #[.agg #[.int .i64 n], .bool true], .ig [.agg [di n],ab true], ?_, ?_,rfl, ?_⟩
 .intro w;simp[Instr.typeAssert,Tryz.underlying206]
 .intro cx w r β;simp[aE,bU,ay,aH,Rd,flat]
 .simp only[jV,jA,b7,fY]
  first|refine gq ?_|exact gn
  refine az trivial ?_;rfl
theorem Jc:v5 prog 172 3:=by
 refine yX eV mixed (T:=Ty) func172 rfl rfl ntmps172 rfl rfl rfl rfl rfl rfl rfl (by decide) (y7:= .tuple #[.agg #[.int .i64 0], .bool false]) (V7:= .ig [.agg [di 0],ab false]) ?_ ?_ (by decide) rfl ?_
 .intro w;simp[Instr.typeAssert,Tryz.underlying206,AA (FM) w]
 .intro cx w r β;simp[aE,bU,ay,aH,Rd,flat]
 .simp only[List.replicate]
  first|refine gq ?_|exact gn
  exact bA trivial
theorem JI:vZ prog 174 [4,5,6] ER (BL (.int .i64 0)) (Aw 206):=by
 refine zF eV mixed (T:=Ty) func174 rfl rfl ntmps174 rfl rfl rfl rfl rfl rfl rfl (by decide) (by decide) (by decide) ?_
 rintro x ⟨n,rfl⟩ ls hl hs
 obtain⟨a,b,c,rfl⟩:=HJ rfl hl hs;refine⟨.tuple #[.agg #[.int .i64 n], .bool true], .ig [.agg [di n],ab true], ?_, ?_,rfl, ?_⟩
 .intro w;simp[Instr.typeAssert,Tryz.underlying206]
 .intro cx w r β;simp[aE,bU,ay,aH,Rd,flat]
 .simp only[jV,jA,b7,fY]
  first|refine gq ?_|exact gn
  refine az trivial ?_;rfl
theorem Kn:v5 prog 174 3:=by
 refine yX eV mixed (T:=Ty) func174 rfl rfl ntmps174 rfl rfl rfl rfl rfl rfl rfl (by decide) (y7:= .tuple #[.agg #[.int .i64 0], .bool false]) (V7:= .ig [.agg [di 0],ab false]) ?_ ?_ (by decide) rfl ?_
 .intro w;simp[Instr.typeAssert,Tryz.underlying206,AA (FM) w]
 .intro cx w r β;simp[aE,bU,ay,aH,Rd,flat]
 .simp only[List.replicate]
  first|refine gq ?_|exact gn
  exact bA trivial
theorem B3:vZ prog 198 [6,7,8] ER (EU) (Aw 206):=by
 refine zF eV mixed (T:=Ty) func198 rfl rfl ntmps198 rfl rfl rfl rfl rfl rfl rfl (by decide) (by decide) (by decide) ?_
 rintro x ⟨n,rfl⟩ ls hl hs
 obtain⟨a,b,c,rfl⟩:=HJ rfl hl hs;refine⟨.tuple #[.agg #[.int .i64 n], .bool true], .ig [.agg [di n],ab true], ?_, ?_,rfl, ?_⟩
 .intro w;simp[Instr.typeAssert,Tryz.underlying206]
 .intro cx w r β;simp[aE,bU,ay,aH,Rd,flat]
 .simp only[jV,jA,b7,fY]
  first|refine gq ?_|exact gn
  refine az trivial ?_;rfl
theorem B':v5 prog 198 3:=by
 refine yX eV mixed (T:=Ty) func198 rfl rfl ntmps198 rfl rfl rfl rfl rfl rfl rfl (by decide) (y7:= .tuple #[.agg #[.int .i64 0], .bool false]) (V7:= .ig [.agg [di 0],ab false]) ?_ ?_ (by decide) rfl ?_
 .intro w;simp[Instr.typeAssert,Tryz.underlying206,AA (FM) w]
 .intro cx w r β;simp[aE,bU,ay,aH,Rd,flat]
 .simp only[List.replicate]
  first|refine gq ?_|exact gn
  exact bA trivial
abbrev de (n:Nat) (ds:List D):AV:= .one (.d (.sl n ds))
abbrev vp (n:Nat) (ds:List D) (p:Int):List RO:=[.d (.sl n ds), .d (iD p)]
theorem x9 (n:Nat) (ds:List D) (p k:Nat) (hl:ds.length=n) (hn:n<2^62) (h:p+k≤n):
  ah prog 173 [.obj (vp n ds p), .f (ai k)] (λ r o=>r=[.one (.d (.sl k ((ds.drop p).take k)))]/\o=[vp n ds ((p+k:Nat):Int)]):=by
 refine zh func173 results173 ntmps173 call173 ?_;simp only[f173,Option.getD];have h1:decide ((p:Int)<0)=false:=by simp
 have h2:decide ((p:Int)>(n:Int))=false:=by simp;omega
 have h3:IntKind.i64.wrap ((n:Int) - (p:Int))=(n:Int) - p:=wrap64 (by omega) (by omega);have h4:decide ((n:Int) - (p:Int)<(k:Int))=false:=by simp;omega
 have h5:IntKind.i64.wrap ((p:Int)+(k:Int))=((p+k:Nat):Int):=by rw[wrap64 (by omega) (by omega)];omega
 have h6:p+k - p=k:=by omega
 exact bA (I h1 (I h2 (I h3 (I h4 (I h5 (I h6 (I @gW hl)))))))
def eU (n:Nat) (p k:Int):Bool:=decide (p<0)||decide (p>(n:Int))||decide ((n:Int) - p<k)
theorem C3 (n:Nat) (ds:List D) (p k:Int) (hl:ds.length=n) (hn:n<2^62) (hp:i64 p) (h:eU n p k=true):
  gF prog 173 [.obj (vp n ds p), .f (ai k)] (pk 206 2):=by
 refine qU func173 ntmps173 call173 ?_;simp only[f173,Option.getD];unfold eU at h;cases h1:decide (p<0)
 .cases h2:decide (p>(n:Int))
  .have h4:decide ((n:Int) - p<k)=true:=by rw[h1,h2]at h;simpa using h
   have h3:IntKind.i64.wrap ((n:Int) - p)=(n:Int) - p:=by simp at h1 h2;exact wrap64 (by omega) (by omega)
   exact bA (I h1 (I h2 (I h3 (I h4 (I @bx hl)))))
  .exact bA (I h1 (I h2 (I @bx hl)))
 .exact bA (I h1 (I @bx hl))
theorem abK (n:Nat) (ds:List D) (p:Nat) (x:Int) (rest:List D) (hl:ds.length=n) (hn:n<2^62) (hp:p<n) (hat:ds.drop p= .v (.int .u8 x)::rest) (hx:0≤x/\x≤255):
  ah prog 138 [.f (de n ds), .f (ai p)] (λ r o=>r=[ri x,ri ((p+1:Nat):Int),ri 0]/\o=[]):=by
 refine qX eV mixed (T:=Ty) func138 rfl results138 ntmps138 call138 call172 (ks:=[4,5,6]) rfl rfl rfl rfl rfl rfl (by decide) (by decide)
  (xs:=[de n ds,ai p]) Jc IX ⟨(de n ds::ai p::dM (.one (.ptr ⟨4,0,0⟩ 0):: .one (.ptr ⟨5,0,0⟩ 0):: .one (.ptr ⟨6,0,0⟩ 0)::qN [])),[(4,{next:=1,l:=[aW 0 [di 0],none]}),(5,{next:=1,l:=[aW 0 [di 0],none]}),(6,{next:=1,l:=[aW 0 [di 0],none]})]⟩ ?_ ?_ rfl ?_
 .simp only[b7,fY];refine az trivial ?_;exact λ _ _ _ h=>h
 .exact⟨⟨_,rfl,rfl,rfl,rfl,rfl⟩,⟨_,rfl,rfl,rfl,rfl,rfl⟩,⟨_,rfl,rfl,rfl,rfl,rfl⟩,trivial⟩
 .have htk:=x9 n ds p 1 hl hn (by omega);rw[hat]at htk;have hw:IntKind.i64.wrap x=x:=wrap64 (by omega) (by omega);refine az trivial ?_;refine zj (htk) ?_;exact bA (I hw @xG)
theorem Y9 (n:Nat) (ds:List D) (p:Int) (hl:ds.length=n) (hn:n<2^62) (hp:i64 p) (h:eU n p 1=true):
  ah prog 138 [.f (de n ds), .f (ai p)] (λ r o=>r=[ri 0,ri 0,ri 2]/\o=[]):=by
 refine qX eV mixed (T:=Ty) func138 rfl results138 ntmps138 call138 call172 (ks:=[4,5,6]) rfl rfl rfl rfl rfl rfl (by decide) (by decide)
  (xs:=[de n ds,ai p]) Jc IX ⟨(de n ds::ai p::dM (.one (.ptr ⟨4,0,0⟩ 0):: .one (.ptr ⟨5,0,0⟩ 0):: .one (.ptr ⟨6,0,0⟩ 0)::qN [])),[(4,{next:=1,l:=[aW 0 [di 0],none]}),(5,{next:=1,l:=[aW 0 [di 0],none]}),(6,{next:=1,l:=[aW 0 [di 0],none]})]⟩ ?_ ?_ rfl ?_
 .simp only[b7,fY];refine az trivial ?_;exact λ _ _ _ h=>h
 .exact⟨⟨_,rfl,rfl,rfl,rfl,rfl⟩,⟨_,rfl,rfl,rfl,rfl,rfl⟩,⟨_,rfl,rfl,rfl,rfl,rfl⟩,trivial⟩
 .have htk:=C3 n ds p 1 hl hn hp h;refine az trivial ?_;refine zp (vp n ds p) (htk) ?_;simp only[kf,kd,ke,lz];refine⟨⟨_,rfl⟩,rfl,⟨⟨_,rfl,rfl,rfl,rfl,rfl⟩,⟨_,rfl,rfl,rfl,rfl,rfl⟩,⟨_,rfl,rfl,rfl,rfl,rfl⟩,trivial⟩, ?_⟩;rw[show mG 20 [4,5,6] (BL (.int .i64 0) (pk 206 2))=⟨(js (.one (.ptr ⟨4,0,0⟩ 0):: .one (.ptr ⟨5,0,0⟩ 0):: .one (.ptr ⟨6,0,0⟩ 0)::qN [])),[(4,{next:=1,l:=[aW 0 [di 0]]}),(5,{next:=1,l:=[aW 0 [di 0]]}),(6,{next:=1,l:=[aW 0 [di 2]]})]⟩ from rfl]
  first|refine gq ?_|exact gn
def eO (l:List Int):Int:=l.foldl (λ u c=>u*256+c) 0
theorem X9 {l:List Int} {c:Int}:eO (l++[c])=eO l*256+c:=by unfold eO;rw[List.foldl_append];rfl
theorem Cf:∀{l:List Int} {a:Int},0≤a->(∀c∈l,aO c)->0≤l.foldl (λ u c=>u*256+c) a/\l.foldl (λ u c=>u*256+c) a<(a+1)*256^l.length
 |[],a,ha,_=>by simp;omega
 |c::l,a,ha,h=>by
  have h2:=h c (by simp);unfold aO at h2;obtain⟨h3,h4⟩:=Cf (l:=l) (a:=a*256+c) (by omega) λ x hx=>h x (by simp[hx])
  refine⟨h3,Int.lt_of_lt_of_le h4 ?_⟩;rw[cL,Int.pow_succ,Int.mul_comm (256^l.length) 256,←Int.mul_assoc];exact Int.mul_le_mul_of_nonneg_right (by omega) (tC (by decide))
theorem zl {l:List Int} (h:∀c∈l,aO c):0≤eO l/\eO l<256^l.length:=by have:=Cf (l:=l) (a:=0) (by decide) h;rw[Int.zero_add,Int.one_mul]at this;exact this
theorem ade {i:Nat} (h:i<8):(256:Int)^i≤72057594037927936:=by rcases(show i=0∨i=1∨i=2∨i=3∨i=4∨i=5∨i=6∨i=7 by omega)with rfl|rfl|rfl|rfl|rfl|rfl|rfl|rfl<;>decide
theorem Ec {n:Int} (h0:0≤n) (h1:n<18446744073709551616):IntKind.u64.wrap n=n:=by
 have e:IntKind.u64.wrap n=n % 18446744073709551616:=by unfold IntKind.wrap;simp[IntKind.bits,IntKind.signed]
 rw[e];omega
theorem Nt {u c:Int} (hu:0≤u/\u<72057594037927936) (hc:0≤c/\c≤255):
  IntKind.u64.wrap (BitVec.ofInt IntKind.u64.bits (u*256)|||BitVec.ofInt IntKind.u64.bits c).toNat=u*256+c:=by
 obtain⟨a,rfl⟩:=nL hu.1;obtain⟨b,rfl⟩:=nL hc.1;have hb:IntKind.u64.bits=64:=rfl;rw[hb];have e1:(BitVec.ofInt 64 ((a:Int)*256)|||BitVec.ofInt 64 (b:Int)).toNat=a*256+b:=by
  have h1:((a:Int)*256)=((a*256:Nat):Int):=by omega
  rw[h1,BitVec.ofInt_natCast,BitVec.ofInt_natCast,BitVec.toNat_or,BitVec.toNat_ofNat,BitVec.toNat_ofNat];rw[Nat.mod_eq_of_lt (by omega),Nat.mod_eq_of_lt (by omega)];have:=Nat.shiftLeft_add_eq_or_of_lt (i:=8) (b:=b) (by omega) a;rw[Nat.shiftLeft_eq]at this;exact this.symm
 rw[e1,Ec (by omega) (by omega)];omega
theorem rn {l:List Int} {i:Nat} (hi:i<l.length) (h:∀c∈l,aO c):aO (l.getD i 0):=by rw[j7,dG hi];exact h _ (cb hi)
theorem J4 {l:List Int} {i:Nat} (hi:i<l.length):eO (l.take (i+1))=eO (l.take i)*256+l.getD i 0:=by rw[A6 hi,X9,j7,dG hi];rfl
theorem ZE (n:Nat) (ds:List D) (p:Nat) (c:List Int) (hl:ds.length=n) (hn:n<2^62) (hp:p+8≤n) (hat:(ds.drop p).take 8=ag c) (hc8:c.length=8) (hc:∀x∈c,aO x):
  ah prog 139 [.f (de n ds), .f (ai p)] (λ r o=>r=(if eO c<4611686018427387904 then [ri (eO c),ri ((p+8:Nat):Int),ri 0]else [ri 0,ri 0,ri 4])/\o=[]):=by
 refine qX eV mixed (T:=Ty) func139 rfl results139 ntmps139 call139 call174 (ks:=[4,5,6]) rfl rfl rfl rfl rfl rfl (by decide) (by decide)
  (xs:=[de n ds,ai p]) Kn JI ⟨(de n ds::ai p::dM (.one (.ptr ⟨4,0,0⟩ 0):: .one (.ptr ⟨5,0,0⟩ 0):: .one (.ptr ⟨6,0,0⟩ 0)::tY [])),[(4,{next:=1,l:=[aW 0 [di 0],none]}),(5,{next:=1,l:=[aW 0 [di 0],none]}),(6,{next:=1,l:=[aW 0 [di 0],none]})]⟩ ?_ ?_ rfl ?_
 .simp only[b7,fY];refine az trivial ?_;exact λ _ _ _ h=>h
 .exact⟨⟨_,rfl,rfl,rfl,rfl,rfl⟩,⟨_,rfl,rfl,rfl,rfl,rfl⟩,⟨_,rfl,rfl,rfl,rfl,rfl⟩,trivial⟩
 .have htk:=x9 n ds p 8 hl hn hp;rw[hat]at htk;have hb1:=zl hc;rw[hc8]at hb1;refine az trivial ?_;refine zj (htk) ?_;refine az trivial ?_;refine Ac Ty prog (τ:=Nat) (λ i=>⟨(js (.one (.ptr ⟨4,0,0⟩ 0):: .one (.ptr ⟨5,0,0⟩ 0):: .one (.ptr ⟨6,0,0⟩ 0)::cd 7:: .one (.d (.v (.int .u64 (eO (c.take i)))))::lq (de 8 (ag c)::ai 8::ai i::tT []))),[(4,{next:=1,l:=[aW 0 [di 0],none]}),(5,{next:=1,l:=[aW 0 [di 0],none]}),(6,{next:=1,l:=[aW 0 [di 0],none]}),(7,⟨2,[aW 1 [.d (.sl n ds),di ((p+8:Nat):Int)],none,none]⟩)]⟩)
   (λ i=>i≤8) (λ i=>8 - i) 0 (Gh.canon [4,5,6,7] [] [4,5,6] zK rfl rfl) (bc _) ?_
  intro i hi0 K hK;refine zw ?_;refine aq (λ hlt=> ?_) (λ hge=> ?_)
  .have hi:i<c.length:=by simp at hlt;omega
   have hat2:=oR hi;have hw:=bz (i:=i) (n:=8) (by omega) (by omega);have hx:=rn hi hc;unfold aO at hx;have hbi:=zl (l:=c.take i) λ x hx=>hc x (jm hx)
   have hli:(c.take i).length=i:=by rw[cu];omega
   rw[hli]at hbi;have hp8:=ade (i:=i) (by omega);have w1:min (Int.toNat 8) IntKind.u64.bits=8:=by decide
   have w2:IntKind.u64.wrap (eO (c.take i)*2^8)=eO (c.take i)*256:=Ec (by omega) (by omega);have w3:IntKind.u64.wrap (c.getD i 0)=c.getD i 0:=Ec (by omega) (by omega);have w4:=Nt (u:=eO (c.take i)) (c:=c.getD i 0) ⟨hbi.1,by omega⟩ ⟨hx.1,by omega⟩;have w5:=J4 hi;have w6:¬((8:Int)<0):=by decide
   repeat'(first|(with_reducible first|refine bH _ _ ?_|refine fC ?_|refine fD ?_)|rw[dE]|simp only[hat2,ij,hc8,w1,w2,w3,w4,aa w6,zY,Int.reduceEq,Int.reduceBEq,Int.reduceBNe,Nat.reduceSub,Nat.reduceEqDiff,Nat.reduceAdd,Nat.reduceMul,Nat.reduceLeDiff,Nat.reduceLT,Nat.reduceBEq,reduceCtorEq]|refine eA ?_|refine aq (λ hb=> ?_) (λ hb=> ?_)|(refine And.intro ?_ ?_;exact zI)|refine And.intro (λ hg=> ?_) (λ hg=> ?_)|exact zC|fail)
   exact hK _ (i+1) (Gh.canon [4,5,6,7] [] [4,5,6] (zk (I hw w5)) rfl rfl) (by omega) (by omega)
  .have hi:i=8:=by
    have:¬(i:Int)<8:=by simpa using hge
    omega
   subst hi;have ht:c.take 8=c:=dk (by omega);have w7:IntKind.i64.wrap (eO c)=eO c∨¬eO c<4611686018427387904:=by
    by_cases h:eO c<4611686018427387904
    .exact .inl (wrap64 (by omega) (by omega))
    .exact .inr h
   by_cases hlt:eO c<4611686018427387904
   .have h1:decide (eO c≥4611686018427387904)=false:=by simp;omega
    have w7:IntKind.i64.wrap (eO c)=eO c:=wrap64 (by omega) (by omega)
    repeat'(first|(with_reducible first|refine bH _ _ ?_|refine fC ?_|refine fD ?_)|rw[dE]|simp only[ht,h1,w7,aj hlt,xG,zY,Int.reduceEq,Int.reduceBEq,Int.reduceBNe,Nat.reduceSub,Nat.reduceEqDiff,Nat.reduceAdd,Nat.reduceMul,Nat.reduceLeDiff,Nat.reduceLT,Nat.reduceBEq,reduceCtorEq]|refine eA ?_|refine aq (λ hb=> ?_) (λ hb=> ?_)|(refine And.intro ?_ ?_;exact zI)|refine And.intro (λ hg=> ?_) (λ hg=> ?_)|exact zC|fail)
   .have h1:decide (eO c≥4611686018427387904)=true:=by simp;omega
    repeat'(first|(with_reducible first|refine bH _ _ ?_|refine fC ?_|refine fD ?_)|rw[dE]|simp only[ht,h1,aa hlt,zY,Int.reduceEq,Int.reduceBEq,Int.reduceBNe,Nat.reduceSub,Nat.reduceEqDiff,Nat.reduceAdd,Nat.reduceMul,Nat.reduceLeDiff,Nat.reduceLT,Nat.reduceBEq,reduceCtorEq]|refine eA ?_|refine aq (λ hb=> ?_) (λ hb=> ?_)|(refine And.intro ?_ ?_;exact zI)|refine And.intro (λ hg=> ?_) (λ hg=> ?_)|exact zC|fail)
    simp only[kf,kd,ke,lz];refine⟨⟨_,rfl⟩,rfl,⟨⟨_,rfl,rfl,rfl,rfl,rfl⟩,⟨_,rfl,rfl,rfl,rfl,rfl⟩,⟨_,rfl,rfl,rfl,rfl,rfl⟩,trivial⟩, ?_⟩;rw[show mG 35 [4,5,6] (BL (.int .i64 0) (pk 206 4))=⟨(js (.one (.ptr ⟨4,0,0⟩ 0):: .one (.ptr ⟨5,0,0⟩ 0):: .one (.ptr ⟨6,0,0⟩ 0)::tY [])),[(4,{next:=1,l:=[aW 0 [di 0]]}),(5,{next:=1,l:=[aW 0 [di 0]]}),(6,{next:=1,l:=[aW 0 [di 4]]})]⟩ from rfl]
    first|refine gq ?_|exact gn
theorem aaD (n:Nat) (ds:List D) (p:Int) (hl:ds.length=n) (hn:n<2^62) (hp:i64 p) (h:eU n p 8=true):
  ah prog 139 [.f (de n ds), .f (ai p)] (λ r o=>r=[ri 0,ri 0,ri 2]/\o=[]):=by
 refine qX eV mixed (T:=Ty) func139 rfl results139 ntmps139 call139 call174 (ks:=[4,5,6]) rfl rfl rfl rfl rfl rfl (by decide) (by decide)
  (xs:=[de n ds,ai p]) Kn JI ⟨(de n ds::ai p::dM (.one (.ptr ⟨4,0,0⟩ 0):: .one (.ptr ⟨5,0,0⟩ 0):: .one (.ptr ⟨6,0,0⟩ 0)::tY [])),[(4,{next:=1,l:=[aW 0 [di 0],none]}),(5,{next:=1,l:=[aW 0 [di 0],none]}),(6,{next:=1,l:=[aW 0 [di 0],none]})]⟩ ?_ ?_ rfl ?_
 .simp only[b7,fY];refine az trivial ?_;exact λ _ _ _ h=>h
 .exact⟨⟨_,rfl,rfl,rfl,rfl,rfl⟩,⟨_,rfl,rfl,rfl,rfl,rfl⟩,⟨_,rfl,rfl,rfl,rfl,rfl⟩,trivial⟩
 .have htk:=C3 n ds p 8 hl hn hp h;refine az trivial ?_;refine zp (vp n ds p) (htk) ?_;simp only[kf,kd,ke,lz];refine⟨⟨_,rfl⟩,rfl,⟨⟨_,rfl,rfl,rfl,rfl,rfl⟩,⟨_,rfl,rfl,rfl,rfl,rfl⟩,⟨_,rfl,rfl,rfl,rfl,rfl⟩,trivial⟩, ?_⟩;rw[show mG 35 [4,5,6] (BL (.int .i64 0) (pk 206 2))=⟨(js (.one (.ptr ⟨4,0,0⟩ 0):: .one (.ptr ⟨5,0,0⟩ 0):: .one (.ptr ⟨6,0,0⟩ 0)::tY [])),[(4,{next:=1,l:=[aW 0 [di 0]]}),(5,{next:=1,l:=[aW 0 [di 0]]}),(6,{next:=1,l:=[aW 0 [di 2]]})]⟩ from rfl]
  first|refine gq ?_|exact gn
theorem BR:∀l:List Int,bytesOf (ag l)=some (l.map λ n=>UInt8.ofNat n.toNat)
 |[]=>rfl
 |n::l=>by have:=BR l;simp only[ag,b7,bytesOf]at this⊢;rw[this]
def jZ (c:List Int):ByteArray:=⟨(c.map λ n=>UInt8.ofNat n.toNat).toArray⟩
theorem aa9 (n:Nat) (ds:List D) (p x:Nat) (most:Int) (c:List Int) (rest:List D) (hl:ds.length=n) (hn:n<2^62) (hp:p+1+x≤n) (hat:ds.drop p= .v (.int .u8 (x:Int))::rest) (hx:x≤255) (hm:(x:Int)≤most)
  (hat2:(ds.drop (p+1)).take x=ag c) (hcx:c.length=x):ah prog 175 [.f (de n ds), .f (ai p), .f (ai most)] (λ r o=>r=[.one (.d (sD (jZ c))),ri ((p+1+x:Nat):Int),ri 0]/\o=[]):=by
 refine qX eV mixed (T:=Ty) func175 rfl results175 ntmps175 call175 call198 (ks:=[6,7,8]) rfl rfl rfl rfl rfl rfl (by decide) (by decide)
  (xs:=[de n ds,ai p,ai most]) B' B3 ⟨(de n ds::ai p::ai most::jt (.one (.ptr ⟨6,0,0⟩ 0):: .one (.ptr ⟨7,0,0⟩ 0):: .one (.ptr ⟨8,0,0⟩ 0)::mH [])),[(6,{next:=1,l:=[aW 0 [dS .empty],none]}),(7,{next:=1,l:=[aW 0 [di 0],none]}),(8,{next:=1,l:=[aW 0 [di 0],none]})]⟩ ?_ ?_ rfl ?_
 .simp only[b7,fY];refine az trivial ?_;exact λ _ _ _ h=>h
 .exact⟨⟨_,rfl,rfl,rfl,rfl,rfl⟩,⟨_,rfl,rfl,rfl,rfl,rfl⟩,⟨_,rfl,rfl,rfl,rfl,rfl⟩,trivial⟩
 .have htk:=x9 n ds p 1 hl hn (by omega);rw[hat]at htk;have htk2:=x9 n ds (p+1) x hl hn (by omega);rw[hat2]at htk2;have hw:IntKind.i64.wrap (x:Int)=(x:Int):=wrap64 (by omega) (by omega);have h1:decide ((x:Int)>most)=false:=by simp;omega
  refine az trivial ?_;refine zj (htk) ?_;refine az (I hw h1) ?_;refine zj (htk2) ?_;refine az (I @BR (I @ij (I hcx @xG))) ?_;rfl
theorem Yj (n:Nat) (ds:List D) (p x:Nat) (most:Int) (rest:List D) (hl:ds.length=n) (hn:n<2^62) (hp:p+1≤n) (hat:ds.drop p= .v (.int .u8 (x:Int))::rest) (hx:x≤255) (hm:¬(x:Int)≤most):
  ah prog 175 [.f (de n ds), .f (ai p), .f (ai most)] (λ r o=>r=[.one (.d (sD .empty)),ri 0,ri 3]/\o=[]):=by
 refine qX eV mixed (T:=Ty) func175 rfl results175 ntmps175 call175 call198 (ks:=[6,7,8]) rfl rfl rfl rfl rfl rfl (by decide) (by decide)
  (xs:=[de n ds,ai p,ai most]) B' B3 ⟨(de n ds::ai p::ai most::jt (.one (.ptr ⟨6,0,0⟩ 0):: .one (.ptr ⟨7,0,0⟩ 0):: .one (.ptr ⟨8,0,0⟩ 0)::mH [])),[(6,{next:=1,l:=[aW 0 [dS .empty],none]}),(7,{next:=1,l:=[aW 0 [di 0],none]}),(8,{next:=1,l:=[aW 0 [di 0],none]})]⟩ ?_ ?_ rfl ?_
 .simp only[b7,fY];refine az trivial ?_;exact λ _ _ _ h=>h
 .exact⟨⟨_,rfl,rfl,rfl,rfl,rfl⟩,⟨_,rfl,rfl,rfl,rfl,rfl⟩,⟨_,rfl,rfl,rfl,rfl,rfl⟩,trivial⟩
 .have htk:=x9 n ds p 1 hl hn (by omega);rw[hat]at htk;have hw:IntKind.i64.wrap (x:Int)=(x:Int):=wrap64 (by omega) (by omega);have h1:decide ((x:Int)>most)=true:=by simp;omega
  refine az trivial ?_;refine zj (htk) ?_;refine az (I hw h1) ?_;simp only[kf,kd,ke,lz];refine⟨⟨_,rfl⟩,rfl,⟨⟨_,rfl,rfl,rfl,rfl,rfl⟩,⟨_,rfl,rfl,rfl,rfl,rfl⟩,⟨_,rfl,rfl,rfl,rfl,rfl⟩,trivial⟩, ?_⟩;rw[show mG 30 [6,7,8] (EU (pk 206 3))=⟨(lq (.one (.ptr ⟨6,0,0⟩ 0):: .one (.ptr ⟨7,0,0⟩ 0):: .one (.ptr ⟨8,0,0⟩ 0)::mH [])),[(6,{next:=1,l:=[aW 0 [dS .empty]]}),(7,{next:=1,l:=[aW 0 [di 0]]}),(8,{next:=1,l:=[aW 0 [di 3]]})]⟩ from rfl]
  first|refine gq ?_|exact gn
theorem Zj (n:Nat) (ds:List D) (p most:Int) (hl:ds.length=n) (hn:n<2^62) (hp:i64 p) (h:eU n p 1=true):
  ah prog 175 [.f (de n ds), .f (ai p), .f (ai most)] (λ r o=>r=[.one (.d (sD .empty)),ri 0,ri 2]/\o=[]):=by
 refine qX eV mixed (T:=Ty) func175 rfl results175 ntmps175 call175 call198 (ks:=[6,7,8]) rfl rfl rfl rfl rfl rfl (by decide) (by decide)
  (xs:=[de n ds,ai p,ai most]) B' B3 ⟨(de n ds::ai p::ai most::jt (.one (.ptr ⟨6,0,0⟩ 0):: .one (.ptr ⟨7,0,0⟩ 0):: .one (.ptr ⟨8,0,0⟩ 0)::mH [])),[(6,{next:=1,l:=[aW 0 [dS .empty],none]}),(7,{next:=1,l:=[aW 0 [di 0],none]}),(8,{next:=1,l:=[aW 0 [di 0],none]})]⟩ ?_ ?_ rfl ?_
 .simp only[b7,fY];refine az trivial ?_;exact λ _ _ _ h=>h
 .exact⟨⟨_,rfl,rfl,rfl,rfl,rfl⟩,⟨_,rfl,rfl,rfl,rfl,rfl⟩,⟨_,rfl,rfl,rfl,rfl,rfl⟩,trivial⟩
 .have htk:=C3 n ds p 1 hl hn hp h;refine az trivial ?_;refine zp (vp n ds p) (htk) ?_;simp only[kf,kd,ke,lz];refine⟨⟨_,rfl⟩,rfl,⟨⟨_,rfl,rfl,rfl,rfl,rfl⟩,⟨_,rfl,rfl,rfl,rfl,rfl⟩,⟨_,rfl,rfl,rfl,rfl,rfl⟩,trivial⟩, ?_⟩;rw[show mG 30 [6,7,8] (EU (pk 206 2))=⟨(lq (.one (.ptr ⟨6,0,0⟩ 0):: .one (.ptr ⟨7,0,0⟩ 0):: .one (.ptr ⟨8,0,0⟩ 0)::mH [])),[(6,{next:=1,l:=[aW 0 [dS .empty]]}),(7,{next:=1,l:=[aW 0 [di 0]]}),(8,{next:=1,l:=[aW 0 [di 2]]})]⟩ from rfl]
  first|refine gq ?_|exact gn
theorem Wy (n:Nat) (ds:List D) (p x:Nat) (most:Int) (rest:List D) (hl:ds.length=n) (hn:n<2^62) (hp:p+1≤n) (hat:ds.drop p= .v (.int .u8 (x:Int))::rest) (hx:x≤255) (hm:(x:Int)≤most)
  (hs:eU n ((p+1:Nat):Int) x=true):ah prog 175 [.f (de n ds), .f (ai p), .f (ai most)] (λ r o=>r=[.one (.d (sD .empty)),ri 0,ri 2]/\o=[]):=by
 refine qX eV mixed (T:=Ty) func175 rfl results175 ntmps175 call175 call198 (ks:=[6,7,8]) rfl rfl rfl rfl rfl rfl (by decide) (by decide)
  (xs:=[de n ds,ai p,ai most]) B' B3 ⟨(de n ds::ai p::ai most::jt (.one (.ptr ⟨6,0,0⟩ 0):: .one (.ptr ⟨7,0,0⟩ 0):: .one (.ptr ⟨8,0,0⟩ 0)::mH [])),[(6,{next:=1,l:=[aW 0 [dS .empty],none]}),(7,{next:=1,l:=[aW 0 [di 0],none]}),(8,{next:=1,l:=[aW 0 [di 0],none]})]⟩ ?_ ?_ rfl ?_
 .simp only[b7,fY];refine az trivial ?_;exact λ _ _ _ h=>h
 .exact⟨⟨_,rfl,rfl,rfl,rfl,rfl⟩,⟨_,rfl,rfl,rfl,rfl,rfl⟩,⟨_,rfl,rfl,rfl,rfl,rfl⟩,trivial⟩
 .have htk:=x9 n ds p 1 hl hn (by omega);rw[hat]at htk;have htk2:=C3 n ds ((p+1:Nat):Int) x hl hn (by unfold i64;omega) hs;have hw:IntKind.i64.wrap (x:Int)=(x:Int):=wrap64 (by omega) (by omega);have h1:decide ((x:Int)>most)=false:=by simp;omega
  refine az trivial ?_;refine zj (htk) ?_;refine az (I hw h1) ?_;refine zp (vp n ds p) (htk2) ?_;simp only[kf,kd,ke,lz];refine⟨⟨_,rfl⟩,rfl,⟨⟨_,rfl,rfl,rfl,rfl,rfl⟩,⟨_,rfl,rfl,rfl,rfl,rfl⟩,⟨_,rfl,rfl,rfl,rfl,rfl⟩,trivial⟩, ?_⟩;rw[show mG 30 [6,7,8] (EU (pk 206 2))=⟨(lq (.one (.ptr ⟨6,0,0⟩ 0):: .one (.ptr ⟨7,0,0⟩ 0):: .one (.ptr ⟨8,0,0⟩ 0)::mH [])),[(6,{next:=1,l:=[aW 0 [dS .empty]]}),(7,{next:=1,l:=[aW 0 [di 0]]}),(8,{next:=1,l:=[aW 0 [di 2]]})]⟩ from rfl]
  first|refine gq ?_|exact gn
def bQ (bs:List Int) (p:Int):Int×Int×Int:=if eU bs.length p 1=true then(0,0,2)else(bs.getD p.toNat 0,p+1,0)
def ch (bs:List Int) (p:Int):Int×Int×Int:=
 if eU bs.length p 8=true then(0,0,2)else if eO ((bs.drop p.toNat).take 8)<4611686018427387904 then(eO ((bs.drop p.toNat).take 8),p+8,0)else(0,0,4)
def cP (bs:List Int) (p most:Int):ByteArray×Int×Int:=
 if eU bs.length p 1=true then(.empty,0,2)else if¬bs.getD p.toNat 0≤most then(.empty,0,3)else
 if eU bs.length (p+1) (bs.getD p.toNat 0)=true then(.empty,0,2)else(jZ ((bs.drop (p.toNat+1)).take (bs.getD p.toNat 0).toNat),p+1+bs.getD p.toNat 0,0)
theorem lC {n:Nat} {p k:Int} (h:eU n p k=false):0≤p/\p≤n/\k≤n - p:=by unfold eU at h;simp at h;omega
structure bu (bs:List Int):Prop where
 l:bs.length<2^60
 b:∀x∈bs,aO x
theorem rm (bs:List Int) (p:Int) (h:bu bs) (hp:i64 p):ah prog 138 [.f (de bs.length (ag bs)), .f (ai p)] (λ r o=>r=[ri (bQ bs p).1,ri (bQ bs p).2.1,ri (bQ bs p).2.2]/\o=[]):=by
 have hl:=h.l;cases hs:eU bs.length p 1
 .obtain⟨h1,h2,h3⟩:=lC hs;obtain⟨q,rfl⟩:=nL h1;have hq:q<bs.length:=by omega
  have hb:=rn hq h.b;unfold aO at hb;rw[bQ,aa (by rw[hs];simp)];have:=abK bs.length (ag bs) q (bs.getD q 0) _ ij (by omega) hq (oR hq) ⟨hb.1,by omega⟩;simpa using this
 .rw[bQ,aj hs];exact Y9 bs.length (ag bs) p ij (by omega) hp hs
theorem sM (bs:List Int) (p:Int) (h:bu bs) (hp:i64 p):ah prog 139 [.f (de bs.length (ag bs)), .f (ai p)] (λ r o=>r=[ri (ch bs p).1,ri (ch bs p).2.1,ri (ch bs p).2.2]/\o=[]):=by
 have hl:=h.l;cases hs:eU bs.length p 8
 .obtain⟨h1,h2,h3⟩:=lC hs;obtain⟨q,rfl⟩:=nL h1;rw[ch,aa (by rw[hs];simp)];have:=ZE bs.length (ag bs) q ((bs.drop q).take 8) ij (by omega) (by omega) (by rw[←la,←tj]) (by rw[cu,iM];omega) (λ x hx=>h.b x (oD (jm hx)));simp only[gW];split
  .rename_i hv;rw[aj hv]at this;exact this
  .rename_i hv;rw[aa hv]at this;exact this
 .rw[ch,aj hs];exact aaD bs.length (ag bs) p ij (by omega) hp hs
theorem Ah (bs:List Int) (p most:Int) (h:bu bs) (hp:i64 p):ah prog 175 [.f (de bs.length (ag bs)), .f (ai p), .f (ai most)] (λ r o=>r=[.one (.d (sD (cP bs p most).1)),ri (cP bs p most).2.1,ri (cP bs p most).2.2]/\o=[]):=by
 have hl:=h.l;cases hs:eU bs.length p 1
 .obtain⟨h1,h2,h3⟩:=lC hs;obtain⟨q,rfl⟩:=nL h1;have hq:q<bs.length:=by omega
  have hb:=rn hq h.b;unfold aO at hb;obtain⟨x,hx⟩:=nL hb.1;have hat:=oR hq;rw[hx]at hat;rw[cP,aa (by rw[hs];simp)];simp only[gW,hx];by_cases hm:(x:Int)≤most
  .rw[aa (by simpa using hm)];cases hs2:eU bs.length ((q:Int)+1) (x:Int)
   .obtain⟨h4,h5,h6⟩:=lC hs2;rw[aa (by simp)];have:=aa9 bs.length (ag bs) q x most ((bs.drop (q+1)).take x) _ ij (by omega) (by omega) hat (by omega) hm (by rw[←la,←tj]) (by rw[cu,iM];omega);simpa using this
   .rw[aj rfl];exact Wy bs.length (ag bs) q x most _ ij (by omega) (by omega) hat (by omega) hm (by simpa using hs2)
  .rw[aj (by simpa using hm)];exact Yj bs.length (ag bs) q x most _ ij (by omega) (by omega) hat (by omega) hm
 .rw[cP,aj hs];exact Zj bs.length (ag bs) p most ij (by omega) hp hs
theorem pW {bs:List Int} {p:Int}:0≤(bQ bs p).2.1/\(bQ bs p).2.1≤bs.length:=by
 unfold bQ;cases hs:eU bs.length p 1
 .obtain⟨h1,h2,h3⟩:=lC hs;rw[aa (by simp)];simp only;omega
 .rw[aj rfl];simp only;omega
theorem sA {bs:List Int} {p:Int}:0≤(ch bs p).2.1/\(ch bs p).2.1≤bs.length:=by
 unfold ch;cases hs:eU bs.length p 8
 .obtain⟨h1,h2,h3⟩:=lC hs;rw[aa (by simp)];split
  .simp only;omega
  .simp only;omega
 .rw[aj rfl];simp only;omega
theorem B9 {bs:List Int} {p most:Int} (h:bu bs):0≤(cP bs p most).2.1/\(cP bs p most).2.1≤bs.length:=by
 unfold cP;cases hs:eU bs.length p 1
 .obtain⟨h1,h2,h3⟩:=lC hs;rw[aa (by simp)];have hb:=rn (i:=p.toNat) (by omega) h.b;unfold aO at hb;split
  .simp only;omega
  .cases hs2:eU bs.length (p+1) (bs.getD p.toNat 0)
   .obtain⟨h4,h5,h6⟩:=lC hs2;rw[aa (by simp)];simp only;omega
   .rw[aj rfl];simp only;omega
 .rw[aj rfl];simp only;omega
def gP (bs:List Int):Nat->Int->List dO->List dO×Int×Int
 |0,p,acc=>(acc,p,0)
 |k+1,p,acc=>
  if(cP bs p 12).2.2≠0 then([],0,(cP bs p 12).2.2)else
  if(ch bs (cP bs p 12).2.1).2.2≠0 then([],0,(ch bs (cP bs p 12).2.1).2.2)else
  gP bs k (ch bs (cP bs p 12).2.1).2.1 (acc++[⟨(cP bs p 12).1,(ch bs (cP bs p 12).2.1).1⟩])
abbrev acX (l:List dO):RF:= .one (.own 2 l.length (dV l) false)
theorem iL {n:Nat} (hn:n<2^60) {p:Int} (h:0≤p/\p≤n):i64 p:=by unfold i64;omega
theorem Ys (bs:List Int) (p:Int) (n:Nat) (h:bu bs) (hp:i64 p) (hn:n<2^20):
  ah prog 176 [.f (de bs.length (ag bs)), .f (ai p), .f (ai n)] (λ r o=>r=[acX (gP bs n p []).1,ri (gP bs n p []).2.1,ri (gP bs n p []).2.2]/\o=[]):=by
 refine ah.nil ?_;refine zh func176 results176 ntmps176 call176 ?_;simp only[f176,Option.getD];refine az trivial ?_;refine bq (τ:=Nat×Int×List dO) (λ t=>⟨(de bs.length (ag bs)::ai t.2.1::r9 (.one (.own ⟨9,1,1⟩ 0 t.2.2.length)::dM (ai n::ai t.1::yz []))),[(9,⟨2,[none,b9 1 2 (dV t.2.2)]⟩),(6,⟨2,[]⟩),(10,⟨2,[]⟩),(40,⟨2,[]⟩),(41,⟨2,[]⟩)]⟩)
  (λ t=>t.1≤n/\i64 t.2.1/\t.2.2.length=t.1) (λ t=>gP bs (n - t.1) t.2.1 t.2.2) (λ t=>n - t.1) (0,p,[])
  ((Gh.nil (i:=9) (s:=9) (sz:=2) rfl).trans (Gh.canon [9] [6,10,40,41] [] zK rfl rfl)) ⟨bc _,hp,rfl⟩ ?_
 intro⟨i,q,acc⟩ ⟨hi0,hq,ha⟩ hF K hK;simp only[i7]at hi0 hq ha hF hK⊢;refine zw ?_;refine aq (λ hlt=> ?_) (λ hge=> ?_)
 .have hi:i<n:=by simpa using hlt
  have hw:=bz hi (by omega);have ht:=Ah bs q 12 h hq;have hm:=sM bs (cP bs q 12).2.1 h (iL h.l (B9 h));have hst:n - i=(n - (i+1))+1:=by omega
  rw[hst,gP]at hF;have hle:(acc.length+1≤2^47)=True:=b5 (by omega);cases e1:((cP bs q 12).2.2 !=0)
  .have e1':(cP bs q 12).2.2=0:=by simpa using e1
   rw[aa (by simp[e1'])]at hF;cases e2:((ch bs (cP bs q 12).2.1).2.2 !=0)
   .have e2':(ch bs (cP bs q 12).2.1).2.2=0:=by simpa using e2
    rw[aa (by simp[e2'])]at hF;refine zL (I e1 (I e2 hle)) (I (ht) (hm)) ?_;refine hK _ (i+1,(ch bs (cP bs q 12).2.1).2.1,acc++[⟨(cP bs q 12).1,(ch bs (cP bs q 12).2.1).1⟩]) (Gh.canon [9] [] [] (zk (I hw (I @aG.{0} @bG.{0}))) rfl (by simp only[aG,bG];rw[BW];rfl)) ⟨hi,iL h.l sA,by simp only[aG,bG];omega⟩ ?_ (by simp only;omega);simp only;rw[hst,gP,aa (by simp[e1']),aa (by simp[e2'])]
   .have e2':(ch bs (cP bs q 12).2.1).2.2≠0:=by simpa using e2
    rw[aj e2']at hF;rw[←hF];refine zL (I e1 e2) (I (ht) (hm)) ?_;show ak _ _/\ak _ _/\ak _ _/\True;simp[ak]
  .have e1':(cP bs q 12).2.2≠0:=by simpa using e1
   rw[aj e1']at hF;rw[←hF];refine zL e1 (I (ht) (hm)) ?_;show ak _ _/\ak _ _/\ak _ _/\True;simp[ak]
 .have hi:i=n:=by
   have:¬(i:Int)<n:=by simpa using hge
   omega
  rw[hi,iq,gP]at hF;rw[←hF];refine az trivial ?_;show ak _ _/\ak _ _/\ak _ _/\True;simp[ak]
end Go.Proofs.YtliimajkpggbhaaGreat
