import Derived.Test.YtliimajkpggbhaaGreatMX
set_option maxHeartbeats 8000000
namespace Go.Proofs.YtliimajkpggbhaaGreat
open Go.Pk Tryz
set_option maxRecDepth 100000
set_option linter.unusedSimpArgs false
set_option linter.unusedVariables false
def fO (a b:aX):Bool:=(a.af==b.af)&&((a.seq==b.seq)&&((a.kind==b.kind)&&((a.br==b.br)&&(a.name.toList==b.name.toList))))
def gX (a b:Batch):Bool:=(a.fill==b.fill)&&(a.view==b.view)&&((a.bB.view==b.bB.view)&&(a.bB.slot==b.bB.slot))&&(a.time==b.time)&&eF fO a.reqs b.reqs
def qK (a b:ep):Bool:=(a.slot==b.slot)&&(a.aA==b.aA)&&gX a.batch b.batch
def iV (a b:cr):Bool:=(a.src==b.src)&&(a.done==b.done)&&((a.bB.view==b.bB.view)&&(a.bB.slot==b.bB.slot))&&(a.time==b.time)&&eF qK a.aM b.aM
theorem Y1 (a b:List aX) (ha:a.length<2^30) (hb:b.length<2^30):ah prog 124 [.f (al a.length (dw a)), .f (al b.length (dw b))] (λ r o=>r=[rb (eF fO a b)]/\o=[]):=by
 refine zh func124 results124 ntmps124 call124 ?_;simp only[f124,Option.getD];cases hl:((a.length:Int) !=(b.length:Int))
 .obtain⟨hle,hsr⟩:=oZ (eq:=fO) hl;rw[hsr];refine az hl ?_;refine bq (τ:=Nat) (λ i=>⟨(al a.length (dw a)::al b.length (dw b)::nz (ai a.length::ai i::nT [])),[]⟩)
   (λ i=>i≤a.length) (λ i=>kA fO a b i) (λ i=>a.length - i) 0
   (Gh.canon [] [] [] zK rfl rfl) (bc _) ?_
  intro i hi0 hF K hK;refine zw ?_;refine aq (λ hlt=> ?_) (λ hge=> ?_)
  .have hi:i<a.length:=by simpa using hlt
   have hi2:i<b.length:=by omega
   have hat:=qg hi;have hat2:=qg hi2;have hw:=bz hi (by omega);have hlb:decide ((i:Int)<a.length)=true:=by simp;omega
   have hst:=oP (eq:=fO) hi hi2;cases hq:fO a[i] b[i]
   .rw[hq]at hst;have he:((a[i].af==b[i].af)&&((a[i].seq==b[i].seq)&&((a[i].kind==b[i].kind)&&((a[i].br==b[i].br)&&(a[i].name.toList==b[i].name.toList)))))=false:=by exact hq
    rw[←hF,hst];exact bA (I hat (I hat2 (I hlb (I he (I @dx (I @eR (I @iu (I @cQ bw))))))))
   .rw[hq,ec]at hst;have he:((a[i].af==b[i].af)&&((a[i].seq==b[i].seq)&&((a[i].kind==b[i].kind)&&((a[i].br==b[i].br)&&(a[i].name.toList==b[i].name.toList)))))=true:=by exact hq
    refine az (I hat (I hat2 (I hlb (I he (I @dx (I @eR (I @iu (I @cQ bw)))))))) ?_;exact hK _ (i+1) (Gh.canon [] [] [] (zk hw) rfl rfl) hi hst.symm (by omega)
  .have hi:i=a.length:=by
    have:¬(i:Int)<a.length:=by simpa using hge
    omega
   rw[←hF,oQ hi];exact bA trivial
 .rw[o7 hl];exact bA hl
theorem aai (a b:List aX) (ha:a.length<2^30) (hb:b.length<2^30):ah prog 105 [.f (al a.length (dw a)), .f (al b.length (dw b))] (λ r o=>r=[rb (eF fO a b)]/\o=[]):=by
 refine zh func105 results105 ntmps105 call105 ?_;simp only[f105,Option.getD];cases hl:((a.length:Int) !=(b.length:Int))
 .obtain⟨hle,hsr⟩:=oZ (eq:=fO) hl;rw[hsr];refine az hl ?_;refine bq (τ:=Nat) (λ i=>⟨(al a.length (dw a)::al b.length (dw b)::jt (ai i::qM [])),[]⟩)
   (λ i=>i≤a.length) (λ i=>kA fO a b i) (λ i=>a.length - i) 0
   (Gh.canon [] [] [] zK rfl rfl) (bc _) ?_
  intro i hi0 hF K hK;refine zw ?_;refine aq (λ hlt=> ?_) (λ hge=> ?_)
  .have hi:i<a.length:=by simpa using hlt
   have hi2:i<b.length:=by omega
   have hat:=qg hi;have hat2:=qg hi2;have hw:=bz hi (by omega);have hlb:decide ((i:Int)<a.length)=true:=by simp;omega
   have hst:=oP (eq:=fO) hi hi2;cases hq:fO a[i] b[i]
   .rw[hq]at hst;have he:((a[i].af==b[i].af)&&((a[i].seq==b[i].seq)&&((a[i].kind==b[i].kind)&&((a[i].br==b[i].br)&&(a[i].name.toList==b[i].name.toList)))))=false:=by exact hq
    rw[←hF,hst];exact bA (I hat (I hat2 (I hlb (I he (I @dx (I @eR (I @iu (I @cQ bw))))))))
   .rw[hq,ec]at hst;have he:((a[i].af==b[i].af)&&((a[i].seq==b[i].seq)&&((a[i].kind==b[i].kind)&&((a[i].br==b[i].br)&&(a[i].name.toList==b[i].name.toList)))))=true:=by exact hq
    refine az (I hat (I hat2 (I hlb (I he (I @dx (I @eR (I @iu (I @cQ bw)))))))) ?_;exact hK _ (i+1) (Gh.canon [] [] [] (zk hw) rfl rfl) hi hst.symm (by omega)
  .have hi:i=a.length:=by
    have:¬(i:Int)<a.length:=by simpa using hge
    omega
   rw[←hF,oQ hi];exact bA trivial
 .rw[o7 hl];exact bA hl
theorem W7 (a b:Batch) (ha:a.reqs.length<2^30) (hb:b.reqs.length<2^30):ah prog 80 [.f (.agg a.aC), .f (.agg b.aC)] (λ r o=>r=[rb (gX a b)]/\o=[]):=by refine zh func80 results80 ntmps80 call80 ?_;simp only[f80,Option.getD];have hi:=Y1 a.reqs b.reqs ha hb;refine zL trivial (hi) ?_;rfl
theorem KL (a b:Batch) (ha:a.reqs.length<2^30) (hb:b.reqs.length<2^30):ah prog 54 [.f (.agg a.aC), .f (.agg b.aC)] (λ r o=>r=[rb (gX a b)]/\o=[]):=by refine zh func54 results54 ntmps54 call54 ?_;simp only[f54,Option.getD];have hi:=aai a.reqs b.reqs ha hb;refine zL trivial (hi) ?_;rfl
theorem XX (a b:List ep) (ha:a.length<2^30) (hb:b.length<2^30) (hla:∀x∈a,x.batch.reqs.length<2^30) (hlb2:∀x∈b,x.batch.reqs.length<2^30):ah prog 106 [.f (al a.length (eI a)), .f (al b.length (eI b))] (λ r o=>r=[rb (eF qK a b)]/\o=[]):=by
 refine zh func106 results106 ntmps106 call106 ?_;simp only[f106,Option.getD];cases hl:((a.length:Int) !=(b.length:Int))
 .obtain⟨hle,hsr⟩:=oZ (eq:=qK) hl;rw[hsr];refine az hl ?_;refine bq (τ:=Nat) (λ i=>⟨(al a.length (eI a)::al b.length (eI b)::jt (ai i::r8 (b8 []))),[]⟩)
   (λ i=>i≤a.length) (λ i=>kA qK a b i) (λ i=>a.length - i) 0
   (Gh.canon [] [] [] zK rfl rfl) (bc _) ?_
  intro i hi0 hF K hK;refine zw ?_;refine aq (λ hlt=> ?_) (λ hge=> ?_)
  .have hi:i<a.length:=by simpa using hlt
   have hi2:i<b.length:=by omega
   have hat:=vM hi;have hat2:=vM hi2;have hw:=bz hi (by omega);have hlb:decide ((i:Int)<a.length)=true:=by simp;omega
   have hst:=oP (eq:=qK) hi hi2;have hd1:(eI a).drop (i*8+1)=iD a[i].aA::(a[i].batch.enc++eI (a.drop (i+1))):=by rw[←jD,hat];rfl
   have hd2:(eI b).drop (i*8+1)=iD b[i].aA::(b[i].batch.enc++eI (b.drop (i+1))):=by rw[←jD,hat2];rfl
   have hd3:(eI a).drop (i*8+2)=a[i].batch.enc++eI (a.drop (i+1)):=by rw[←jD,hat];rfl
   have hd4:(eI b).drop (i*8+2)=b[i].batch.enc++eI (b.drop (i+1)):=by rw[←jD,hat2];rfl
   have hsr:=KL a[i].batch b[i].batch (hla _ (cb hi)) (hlb2 _ (cb hi2));have hme:qK a[i] b[i]=((a[i].slot==b[i].slot)&&(a[i].aA==b[i].aA)&&gX a[i].batch b[i].batch):=rfl;cases hq:qK a[i] b[i]
   .rw[hq]at hst;have he:(((a[i].slot !=b[i].slot)||(a[i].aA !=b[i].aA))|| !gX a[i].batch b[i].batch)=true:=by rw[hme]at hq;revert hq;cases gX a[i].batch b[i].batch<;>cases h1:(a[i].slot==b[i].slot)<;>cases h2:(a[i].aA==b[i].aA)<;>simp[bne,h1,h2]
    rw[←hF,hst];exact zW (I hat (I hat2 (I hlb (I he (I @dx (I @eR (I @iu (I hd1 (I hd2 (I hd3 (I hd4 (I @dg bw)))))))))))) (hsr)
   .rw[hq,ec]at hst;have he:(((a[i].slot !=b[i].slot)||(a[i].aA !=b[i].aA))|| !gX a[i].batch b[i].batch)=false:=by rw[hme]at hq;revert hq;cases gX a[i].batch b[i].batch<;>cases h1:(a[i].slot==b[i].slot)<;>cases h2:(a[i].aA==b[i].aA)<;>simp[bne,h1,h2]
    refine zL (I hat (I hat2 (I hlb (I he (I @dx (I @eR (I @iu (I hd1 (I hd2 (I hd3 (I hd4 (I @dg bw)))))))))))) (hsr) ?_;exact hK _ (i+1) (Gh.canon [] [] [] (zk hw) rfl rfl) hi hst.symm (by omega)
  .have hi:i=a.length:=by
    have:¬(i:Int)<a.length:=by simpa using hge
    omega
   rw[←hF,oQ hi];exact bA trivial
 .rw[o7 hl];exact bA hl
theorem ZT (a b:cr) (ha:a.aM.length<2^30) (hb:b.aM.length<2^30) (hla:∀x∈a.aM,x.batch.reqs.length<2^30) (hlb2:∀x∈b.aM,x.batch.reqs.length<2^30):ah prog 55 [.f (.agg a.aC), .f (.agg b.aC)] (λ r o=>r=[rb (iV a b)]/\o=[]):=by refine zh func55 results55 ntmps55 call55 ?_;simp only[f55,Option.getD];have hi:=XX a.aM b.aM ha hb hla hlb2;refine zL trivial (hi) ?_;rfl
theorem abN (a b:bN):((a.af==b.af)&&(a.seq==b.seq)&&tP a.bd b.bd)=dZ a b:=by unfold dZ tP;simp only[eJ]
theorem WQ (a b:bN) (ha:a.bd.held.length<2^30) (hb:b.bd.held.length<2^30):ah prog 53 [.f (.agg a.aC), .f (.agg b.aC)] (λ r o=>r=[rb (dZ a b)]/\o=[]):=by refine zh func53 results53 ntmps53 call53 ?_;simp only[f53,Option.getD];have h:=KY a.bd b.bd ha hb;refine zL trivial (h) ?_;rw[←abN]
structure cf where
 kind:Int
 aA:Int
 slot:Int
 done:Int
 ba:aX
 aV:bN
 aJ:Batch
 prom:cr
 snap:Sn
abbrev snE (s:Sn):List D:=iD s.done::iD s.view::iD s.slot::EP s.st
abbrev cf.enc (p:cf):List D:=iD p.kind::iD p.aA::iD p.slot::iD p.done::(p.ba.enc++(p.aV.enc++(p.aJ.enc++(p.prom.enc++snE p.snap))))
abbrev cf.aC (p:cf):List C:=di p.kind::di p.aA::di p.slot::di p.done::(p.ba.enc.map C.d++(p.aV.aC++(p.aJ.aC++(p.prom.aC++p.snap.aC))))
structure cf.ok (p:cf):Prop where
 k:i64 p.kind
 b:i64 p.aA
 s:i64 p.slot
 d:i64 p.done
 ba:p.ba.ok
 aV:ik p.aV.bd
 aJ:p.aJ.ok
 bl:p.aJ.reqs.length<2^30
 prom:p.prom.ok
 pl:p.prom.aM.length<2^30
 vl:∀x∈p.prom.aM,x.batch.reqs.length<2^30
 snap:Small p.snap.st
def fP (a b:cf):Bool:=(a.kind==b.kind)&&(a.aA==b.aA)&&(a.slot==b.slot)&&(a.done==b.done)&&fO a.ba b.ba&&dZ a.aV b.aV&&gX a.aJ b.aJ&&iV a.prom b.prom&&jr a.snap b.snap
theorem Dw (a b:cf) (ha:a.ok) (hb:b.ok):ah prog 17 [.f (.agg a.aC), .f (.agg b.aC)] (λ r o=>r=[rb (fP a b)]/\o=[]):=by refine zh func17 results17 ntmps17 call17 ?_;simp only[f17,Option.getD];have h1:=WQ a.aV b.aV (by have:=ha.aV.1;omega) (by have:=hb.aV.1;omega);have h2:=KL a.aJ b.aJ ha.bl hb.bl;have h3:=ZT a.prom b.prom ha.pl hb.pl ha.vl hb.vl;have h4:=VS a.snap b.snap ha.snap hb.snap;refine zL trivial (I (h1) (I (h2) (I (h3) (h4)))) ?_;rfl
abbrev BA:St:=⟨0,0,0,[],[],[]⟩
abbrev v8:Batch:=⟨false,0,⟨0,0⟩,0,[]⟩
def iI (p:cf):Bool:=p.aA==0&&p.slot==0&&p.done==0&&fO p.ba ⟨0,0,0,0, .empty⟩&&p.aV.af==0&&p.aV.seq==0&&p.aV.bd.code==0&&p.aV.bd.br==0&&p.aV.bd.ahead==0&&(p.aV.bd.held.length:Int)==0&&
 gX p.aJ v8&&p.prom.src==0&&p.prom.done==0&&((p.prom.bB.view==0)&&(p.prom.bB.slot==0))&&p.prom.time==0&&(p.prom.aM.length:Int)==0&&p.snap.done==0&&((p.snap.view==0)&&(p.snap.slot==0))&&r7 p.snap.st BA
theorem FG (v a:Int):ah prog 36 [.f (ai v), .f (ai a)] (λ r o=>r=[rb (decide (v≥a)&&decide (v≤2305843009213693952))]/\o=[]):=by refine zh func36 results36 ntmps36 call36 ?_;simp only[f36,Option.getD];exact bA trivial
theorem rh (p:cf) (h:p.ok):ah prog 40 [.f (.agg p.aC)] (λ r o=>r=[rb (iI p)]/\o=[]):=by refine zh func40 results40 ntmps40 call40 ?_;simp only[f40,Option.getD];have h1:=W7 p.aJ v8 h.bl (by simp);have h2:=ZD p.snap.st BA h.snap ⟨by simp,by simp,by simp,by simp,by simp⟩;refine zL trivial (I (h1) (h2)) ?_;rfl
abbrev bm (v a:Int):Bool:=decide (v≥a)&&decide (v≤2305843009213693952)
def HN (p:cf):cf:=if p.kind=1 then {p with ba:=⟨0,0,0,0, .empty⟩}else if p.kind=2 then {p with aV:=⟨0,0,⟨0,0,0,[]⟩⟩}else if p.kind=3 then {p with aA:=0}else if p.kind=4 then {p with aA:=0,prom:=⟨0,0,⟨0,0⟩,0,[]⟩}else if p.kind=5 then {p with aA:=0,slot:=0,aJ:=v8}else if p.kind=6 then {p with aA:=0,slot:=0,aJ:=v8}else if p.kind=7 then {p with aA:=0,done:=0}else if p.kind=8 then {p with done:=0}else if p.kind=9 then {p with snap:=⟨0,0,0,BA⟩}else p
def qQ (p:cf):Bool:=if p.kind=1 then aX.may p.ba else if p.kind=2 then eB p.aV else if p.kind=3 then bm p.aA 0 else if p.kind=4 then bm p.aA 0&&cr.may p.prom else if p.kind=5 then bm p.aA 0&&bm p.slot 1&&Batch.may p.aJ else if p.kind=6 then bm p.aA 0&&bm p.slot 1&&Batch.may p.aJ else if p.kind=7 then bm p.aA 0&&bm p.done 0 else if p.kind=8 then bm p.done 0 else if p.kind=9 then gw p.snap else false
def gm (p:cf):Bool:=qQ p&&iI (HN p)
theorem kinds (k:Int):k=1∨k=2∨k=3∨k=4∨k=5∨k=6∨k=7∨k=8∨k=9∨((k==1)=false/\(k==2)=false/\(k==3)=false/\(k==4)=false/\(k==5)=false/\(k==6)=false/\(k==7)=false/\(k==8)=false/\(k==9)=false):=by simp only[kU,kt];omega
theorem HE:Small BA:=⟨by simp,by simp,by simp,by simp,by simp⟩
theorem cV:i64 0:=by unfold i64;omega
theorem NO:v8.ok:=⟨cV,cV,cV,cV,by simp,by simp⟩
theorem Gi (p:cf) (h:p.ok):ah prog 13 [.f (.agg p.aC)] (λ r o=>r=[rb (gm p)]/\o=[]):=by
 refine zh func13 results13 ntmps13 call13 ?_;simp only[f13,Option.getD];obtain⟨kind,aA,slot,done,ba,aV,aJ,prom,snap⟩:=p;obtain⟨hk,hb,hs,hd,hreq,hans,hbat,hbl,hprom,hpl,hvl,hsn⟩:=h;simp only at hk hb hs hd hreq hans hbat hbl hprom hpl hvl hsn;have w1:=FG aA 0;have w2:=FG slot 1;have w3:=FG done 0;rcases kinds kind with rfl|rfl|rfl|rfl|rfl|rfl|rfl|rfl|rfl|⟨k1,k2,k3,k4,k5,k6,k7,k8,k9⟩
 .have he:=rh ⟨1,aA,slot,done,⟨0,0,0,0, .empty⟩,aV,aJ,prom,snap⟩ ⟨hk,hb,hs,hd,⟨cV,cV,cV,cV,(by show(ByteArray.empty).size<2^62;decide)⟩,hans,hbat,hbl,hprom,hpl,hvl,hsn⟩;have hm:=zH ba hreq;refine zL trivial (I (hm) (he)) ?_;rfl
 .have he:=rh ⟨2,aA,slot,done,ba,⟨0,0,⟨0,0,0,[]⟩⟩,aJ,prom,snap⟩ ⟨hk,hb,hs,hd,hreq,⟨by simp,by simp⟩,hbat,hbl,hprom,hpl,hvl,hsn⟩;have hm:=BX aV hans;refine zL trivial (I (hm) (he)) ?_;rfl
 .have he:=rh ⟨3,0,slot,done,ba,aV,aJ,prom,snap⟩ ⟨hk,cV,hs,hd,hreq,hans,hbat,hbl,hprom,hpl,hvl,hsn⟩;refine zL trivial (I (w1) (he)) ?_;rfl
 .have he:=rh ⟨4,0,slot,done,ba,aV,aJ,⟨0,0,⟨0,0⟩,0,[]⟩,snap⟩ ⟨hk,cV,hs,hd,hreq,hans,hbat,hbl,⟨cV,cV,cV,cV,cV,by simp,by simp⟩,by simp,by simp,hsn⟩;have hm:=V8 prom hprom;refine zL trivial (I (hm) (I (w1) (he))) ?_;rfl
 .have he:=rh ⟨5,0,0,done,ba,aV,v8,prom,snap⟩ ⟨hk,cV,cV,hd,hreq,hans,NO,by simp,hprom,hpl,hvl,hsn⟩;have hm:=xd aJ hbat;refine zL trivial (I (hm) (I (w1) (I (w2) (he)))) ?_;rfl
 .have he:=rh ⟨6,0,0,done,ba,aV,v8,prom,snap⟩ ⟨hk,cV,cV,hd,hreq,hans,NO,by simp,hprom,hpl,hvl,hsn⟩;have hm:=xd aJ hbat;refine zL trivial (I (hm) (I (w1) (I (w2) (he)))) ?_;rfl
 .have he:=rh ⟨7,0,slot,0,ba,aV,aJ,prom,snap⟩ ⟨hk,cV,hs,cV,hreq,hans,hbat,hbl,hprom,hpl,hvl,hsn⟩;refine zL trivial (I (w1) (I (w3) (he))) ?_;rfl
 .have he:=rh ⟨8,aA,slot,0,ba,aV,aJ,prom,snap⟩ ⟨hk,hb,hs,cV,hreq,hans,hbat,hbl,hprom,hpl,hvl,hsn⟩;refine zL trivial (I (w3) (he)) ?_;rfl
 .have he:=rh ⟨9,aA,slot,done,ba,aV,aJ,prom,⟨0,0,0,BA⟩⟩ ⟨hk,hb,hs,hd,hreq,hans,hbat,hbl,hprom,hpl,hvl,HE⟩;have hm:=FN snap hsn;refine zL trivial (I (hm) (he)) ?_;rfl
 .have he:=rh ⟨kind,aA,slot,done,ba,aV,aJ,prom,snap⟩ ⟨hk,hb,hs,hd,hreq,hans,hbat,hbl,hprom,hpl,hvl,hsn⟩;have hz:gm ⟨kind,aA,slot,done,ba,aV,aJ,prom,snap⟩=false:=by simp only[kU,kt]at k1 k2 k3 k4 k5 k6 k7 k8 k9;unfold gm qQ;simp only[k1,k2,k3,k4,k5,k6,k7,k8,k9,cE,gV]
  rw[hz];exact zW (I k1 (I k2 (I k3 (I k4 (I k5 (I k6 (I k7 (I k8 k9)))))))) (he)
def rK (v:ep):List Int:=bp [v.slot,v.aA]++dB v.batch
abbrev tz (p:cr):List Int:=[p.done,p.bB.view,p.bB.slot,p.time]
def qR (p:cr):List Int:=[p.src]++(bp (tz p)++[(p.aM.length:Int)])
def ic (p:cr) (i:Nat):List Int:=qR p++(p.aM.take i).flatMap rK
def i9 (p:cr):List Int:=ic p p.aM.length
theorem CX {p:cr}:ic p 0=qR p:=by simp[ic]
theorem Nm (p:cr):(qR p).length=34:=by simp[qR,oe]
theorem Am {b:Batch} (h:Batch.may b=true):(dB b).length≤127:=by
 unfold dB;split
 .simp
 .obtain⟨h1,h2⟩:=vC h;have:=G7 h2 b.reqs.length;omega
theorem Yn {v:ep} (h:Batch.may v.batch=true):(rK v).length≤143:=by have:=Am h;rw[rK,aG,oe];simp only[cL,fN];omega
theorem LZ {p:cr} {i:Nat} (hi:i<p.aM.length):ic p (i+1)=ic p i++rK p.aM[i]:=by rw[ic,wZ _ hi,ic,fH]
theorem Hu {p:cr} (h:∀v∈p.aM,Batch.may v.batch=true) (i:Nat):(ic p i).length≤34+i*143:=by
 have:=xj rK (l:=p.aM.take i) (k:=143) λ v hv=>Yn (h v (jm hv))
 have h2:(p.aM.take i).length*143≤i*143:=gU _ (by rw[cu];omega);rw[ic,aG,Nm];omega
theorem EM {n:Int} (h:0≤n/\n≤2305843009213693952):0≤n/\n<4611686018427387904:=by omega
theorem Kh {p:cr} (m:wK p):∀v∈tz p,0≤v/\v<4611686018427387904:=by intro v hv;have:=m.done;have:=m.view;have:=m.slot;have:=m.time;simp only[tz,cF,iA,iR]at hv;rcases hv with rfl|rfl|rfl|rfl<;>omega
theorem J7 {p:cr} (m:wK p) {v:ep} (hv:v∈p.aM):(∀x∈[v.slot,v.aA],0≤x/\x<4611686018427387904)/\Batch.may v.batch=true:=by obtain⟨_,_,h1,h2,h3⟩:=m.aM v hv;have:=xu h1;have:=xu h2;refine⟨λ x hx=> ?_,h3⟩;simp only[cF,iA,iR]at hx;rcases hx with rfl|rfl<;>omega
theorem WY (p:cr) (m:wK p):ah prog 25 [.f (.agg p.aC)] (λ x o=>x=[.one (.own 1 (i9 p).length (ag (i9 p)) false)]/\o=[]):=by
 refine zh func25 results25 ntmps25 call25 ?_;simp only[f25,Option.getD];have hsrc:=m.src;have hvl:=m.len;have hmay:∀v∈p.aM,Batch.may v.batch=true:=λ v hv=>(m.aM v hv).2.2.2.2
 have w1:IntKind.u8.wrap p.src=p.src:=dj (by omega) (by omega);have w2:IntKind.u8.wrap (p.aM.length:Int)=p.aM.length:=dj (by omega) (by omega);have hpn:=uA (tz p) (by simp) (Kh m);have hcc:ah prog 66 [.f (al 3 [.sl 1 (ag [p.src]), .sl (bp (tz p)).length (ag (bp (tz p))), .sl 1 (ag [(p.aM.length:Int)])])] (λ x o=>x=[.one (.own 1 (qR p).length (ag (qR p)) false)]/\o=[]):=by
  have hc:=uz [[p.src],bp (tz p),[(p.aM.length:Int)]] (by simp) (λ l hl=>by
   simp only[cF,iA,iR]at hl;rcases hl with rfl|rfl|rfl
   .simp
   .rw[oe];simp
   .simp)
  rw[show [[p.src],bp (tz p),[(p.aM.length:Int)]].flatten=qR p from by simp[qR]]at hc;exact hc
 have t1:∀x:Int,dC (sub 0 1 1 [C.d (uD x)])=some [uD x]:=λ _=>rfl
 have t4:∀a b c d:Int,dC (sub 0 4 1 [di a,di b,di c,di d])=some [iD a,iD b,iD c,iD d]:=λ _ _ _ _=>rfl
 refine zL (I t1 (I t4 (I w1 (I w2 @dD)))) (I (hpn) (hcc)) ?_;refine bq (τ:=Nat) (λ i=>⟨(jt (.one (.own ⟨3,1,1⟩ 0 (ic p i).length)::tY (al p.aM.length (eI p.aM)::ai p.aM.length::ai i::mH []))),[(1,⟨2,[]⟩),(11,⟨2,[]⟩),(22,⟨2,[]⟩),(23,⟨2,[]⟩),(28,⟨2,[]⟩),(29,⟨2,[]⟩),(30,⟨2,[]⟩),(3,⟨2,[none,b9 1 1 (ag (ic p i))]⟩),(5,⟨2,[]⟩),(6,⟨2,[]⟩),(41,⟨2,[]⟩),(49,⟨2,[]⟩),(50,⟨2,[]⟩),(52,⟨2,[]⟩),(53,⟨2,[]⟩)]⟩)
  (λ i=>i≤p.aM.length) (λ _=>()) (λ i=>p.aM.length - i) 0
  (Gh.canon [3] [5,6,41,49,50,52,53] [] (zk @CX) rfl (by rw[CX];rfl)) (bc _) ?_
 intro i hi0 hF K hK;refine zw ?_;refine aq (λ hlt=> ?_) (λ hge=> ?_)
 .have hi:i<p.aM.length:=by simpa using hlt
  have hat:=vM hi;have hw:=bz hi (by omega);obtain⟨vn,vm⟩:=J7 m (cb hi);have hb:=Gk p.aM[i].batch vm;have hn:=uA [p.aM[i].slot,p.aM[i].aA] (by simp) vn;have hl0:=Hu hmay i;have hl1:=Am vm;have hsl:=LZ hi;have hcc:ah prog 66 [.f (al 3 [.sl (ic p i).length (ag (ic p i)), .sl (bp [p.aM[i].slot,p.aM[i].aA]).length (ag (bp [p.aM[i].slot,p.aM[i].aA])), .sl (dB p.aM[i].batch).length (ag (dB p.aM[i].batch))])] (λ x o=>x=[.one (.own 1 (ic p (i+1)).length (ag (ic p (i+1))) false)]/\o=[]):=by
   have hc:=uz [ic p i,bp [p.aM[i].slot,p.aM[i].aA],dB p.aM[i].batch] (by simp) (λ l hl=>by
    simp only[cF,iA,iR]at hl;rcases hl with rfl|rfl|rfl
    .omega
    .rw[oe];simp
    .omega)
   rw[show [ic p i,bp [p.aM[i].slot,p.aM[i].aA],dB p.aM[i].batch].flatten=ic p (i+1) from by rw[hsl];simp[rK]]at hc;exact hc
  have t2:∀a b:Int,dC (sub 0 2 1 [di a,di b])=some [iD a,iD b]:=λ _ _=>rfl
  refine zL (I hat (I @dg (I t2 (I @dD bw)))) (I (hb) (I (hn) (hcc))) ?_;exact hK _ (i+1) (Gh.canon [3] [] [] (zk hw) rfl rfl) hi rfl (by omega)
 .have hi:i=p.aM.length:=by
   have:¬(i:Int)<p.aM.length:=by simpa using hge
   omega
  subst hi;refine az trivial ?_;rfl
def HO (p:cf):List Int:=if p.kind=1 then gj p.ba else if p.kind=2 then fE p.aV else if p.kind=3 then bp [p.aA]else if p.kind=4 then bp [p.aA]++i9 p.prom else if p.kind=5 then bp [p.aA,p.slot]++dB p.aJ else if p.kind=6 then bp [p.aA,p.slot]++dB p.aJ else if p.kind=7 then bp [p.aA,p.done]else if p.kind=8 then bp [p.done]else ie p.snap
def lr (p:cf):List Int:=[p.kind]++HO p
theorem z7 {p:cf} (h:gm p=true):qQ p=true/\iI (HN p)=true:=by unfold gm at h;simpa using h
theorem kN {v a:Int} (h:bm v a=true) (ha:0≤a):0≤v/\v<4611686018427387904:=by simp only[bm,bM,dX]at h;omega
theorem HL {a:Int} (h:0≤a/\a<4611686018427387904):∀v∈[a],0≤v/\v<4611686018427387904:=λ v hv=>by simp only[cF,iA,iR]at hv;rw[hv];exact h
theorem HR {a b:Int} (h:0≤a/\a<4611686018427387904) (h2:0≤b/\b<4611686018427387904):∀v∈[a,b],0≤v/\v<4611686018427387904:=λ v hv=>by simp only[cF,iA,iR]at hv;rcases hv with rfl|rfl<;>assumption
theorem abS {s:Sn} (h:gw s=true):(ie s).length≤1200:=by obtain⟨_,_,_,hr⟩:=BQ h;have h1:=Ay hr s.st.aI.length;have h2:=xD hr;unfold ie kn;simp only[aG,cg];omega
theorem XZ {p:cr} (m:wK p):(i9 p).length≤1321:=by have:=Hu (λ v hv=>(m.aM v hv).2.2.2.2) p.aM.length;have:=m.len;unfold i9;omega
theorem CT {p:cf} (h:gm p=true):(HO p).length≤1400:=by
 have ho:=(z7 h).1;obtain⟨kind,aA,slot,done,ba,aV,aJ,prom,snap⟩:=p;rcases kinds kind with rfl|rfl|rfl|rfl|rfl|rfl|rfl|rfl|rfl|⟨k1,k2,k3,k4,k5,k6,k7,k8,k9⟩
 .have:=Dq (show aX.may ba=true from ho);show(gj ba).length≤_;omega
 .have:=B5 (show eB aV=true from ho);show(fE aV).length≤_;omega
 .show(bp [aA]).length≤_;rw[oe];simp
 .have ho:(bm aA 0&&cr.may prom)=true:=ho;rw[bM]at ho;have:=XZ (AG ho.2);show(bp [aA]++i9 prom).length≤_;rw[aG,oe];simp only[bG];omega
 .have ho:(bm aA 0&&bm slot 1&&Batch.may aJ)=true:=ho;rw[bM]at ho;have:=Am ho.2;show(bp [aA,slot]++dB aJ).length≤_;rw[aG,oe];simp only[cL,fN];omega
 .have ho:(bm aA 0&&bm slot 1&&Batch.may aJ)=true:=ho;rw[bM]at ho;have:=Am ho.2;show(bp [aA,slot]++dB aJ).length≤_;rw[aG,oe];simp only[cL,fN];omega
 .show(bp [aA,done]).length≤_;rw[oe];simp
 .show(bp [done]).length≤_;rw[oe];simp
 .have:=abS (show gw snap=true from ho);show(ie snap).length≤_;omega
 .simp only[kU,kt]at k1 k2 k3 k4 k5 k6 k7 k8 k9;unfold qQ at ho;simp only[k1,k2,k3,k4,k5,k6,k7,k8,k9,cE]at ho;cases ho
theorem qj (k:Int) (l:List Int):[RF.one (.own 1 (1+l.length) (uD k::ag l) false),ri 0]=[RF.one (.own 1 ([k]++l).length (ag ([k]++l)) false),ri 0]:=by simp[ag,kT]
theorem G4 (k:Int) (a b:List Int):[RF.one (.own 1 (1+(a.length+b.length)) (uD k::(ag a++ag b)) false),ri 0]=[RF.one (.own 1 ([k]++(a++b)).length (ag ([k]++(a++b))) false),ri 0]:=by simp[ag,kT]
theorem X' (p:cf) (hp:p.ok) (h:gm p=false):ah prog 11 [.f (.agg p.aC)] (λ r o=>r=[.one (.d (.v cY)),ri 1]/\o=[]):=by refine zh func11 results11 ntmps11 call11 ?_;simp only[f11,Option.getD];have hm:=Gi p hp;rw[h]at hm;exact zW trivial (hm)
theorem Kz (p:cf) (hp:p.ok) (h:gm p=true):ah prog 11 [.f (.agg p.aC)] (λ r o=>r=[.one (.own 1 (lr p).length (ag (lr p)) false),ri 0]/\o=[]):=by
 refine zh func11 results11 ntmps11 call11 ?_;simp only[f11,Option.getD];have hm:=Gi p hp;rw[h]at hm;have ho:=(z7 h).1;have hl:=CT h;obtain⟨kind,aA,slot,done,ba,aV,aJ,prom,snap⟩:=p;have t1:∀x:Int,dC (sub 0 1 1 [di x])=some [iD x]:=λ _=>rfl
 have t2:∀x y:Int,dC (sub 0 2 1 [di x,di y])=some [iD x,iD y]:=λ _ _=>rfl
 rcases kinds kind with rfl|rfl|rfl|rfl|rfl|rfl|rfl|rfl|rfl|⟨k1,k2,k3,k4,k5,k6,k7,k8,k9⟩
 .have hc:=Kq ba ho;have w:IntKind.u8.wrap 1=1:=dj (by omega) (by omega);have hle:(1+(gj ba).length≤2^47)=True:=b5 (by have hl:(gj ba).length≤1400:=hl;omega);refine zL (I t1 (I t2 (I w (I hle (I @dD @bE.{0,0}))))) (I (hm) (hc)) ?_;exact qj _ _
 .have hc:=Iu aV ho;have w:IntKind.u8.wrap 2=2:=dj (by omega) (by omega);have hle:(1+(fE aV).length≤2^47)=True:=b5 (by have hl:(fE aV).length≤1400:=hl;omega);refine zL (I t1 (I t2 (I w (I hle (I @dD @bE.{0,0}))))) (I (hm) (hc)) ?_;exact qj _ _
 .have hc:=uA [aA] (by simp) (HL (kN (show bm aA 0=true from ho) (by omega)));have w:IntKind.u8.wrap 3=3:=dj (by omega) (by omega);have hle:(1+(bp [aA]).length≤2^47)=True:=b5 (by have hl:(bp [aA]).length≤1400:=hl;omega);refine zL (I t1 (I t2 (I w (I hle (I @dD @bE.{0,0}))))) (I (hm) (hc)) ?_;exact qj _ _
 .have ho:(bm aA 0&&cr.may prom)=true:=ho;rw[bM]at ho;have hc:=uA [aA] (by simp) (HL (kN ho.1 (by omega)));have hc2:=WY prom (AG ho.2);have w:IntKind.u8.wrap 4=4:=dj (by omega) (by omega);have hle:(1+((bp [aA]).length+(i9 prom).length)≤2^47)=True:=b5 (by have hl:(bp [aA]++i9 prom).length≤1400:=hl;rw[aG]at hl;omega);have hle2:((bp [aA]).length+(i9 prom).length≤2^47)=True:=b5 (by have hl:(bp [aA]++i9 prom).length≤1400:=hl;rw[aG]at hl;omega);have tk:(ag (bp [aA])++ag (i9 prom)).take ((bp [aA]).length+(i9 prom).length)=ag (bp [aA])++ag (i9 prom):=dk (by simp);refine zL (I t1 (I t2 (I w (I hle (I hle2 (I tk (I @dD @bE.{0,0}))))))) (I (hm) (I (hc) (hc2))) ?_;exact G4 _ _ _
 .have ho:(bm aA 0&&bm slot 1&&Batch.may aJ)=true:=ho;rw[bM,bM]at ho;have hc:=uA [aA,slot] (by simp) (HR (kN ho.1.1 (by omega)) (kN ho.1.2 (by omega)));have hc2:=Gk aJ ho.2;have w:IntKind.u8.wrap 5=5:=dj (by omega) (by omega);have hle:(1+((bp [aA,slot]).length+(dB aJ).length)≤2^47)=True:=b5 (by have hl:(bp [aA,slot]++dB aJ).length≤1400:=hl;rw[aG]at hl;omega);have hle2:((bp [aA,slot]).length+(dB aJ).length≤2^47)=True:=b5 (by have hl:(bp [aA,slot]++dB aJ).length≤1400:=hl;rw[aG]at hl;omega);have tk:(ag (bp [aA,slot])++ag (dB aJ)).take ((bp [aA,slot]).length+(dB aJ).length)=ag (bp [aA,slot])++ag (dB aJ):=dk (by simp);refine zL (I t1 (I t2 (I w (I hle (I hle2 (I tk (I @dD @bE.{0,0}))))))) (I (hm) (I (hc) (hc2))) ?_;exact G4 _ _ _
 .have ho:(bm aA 0&&bm slot 1&&Batch.may aJ)=true:=ho;rw[bM,bM]at ho;have hc:=uA [aA,slot] (by simp) (HR (kN ho.1.1 (by omega)) (kN ho.1.2 (by omega)));have hc2:=Gk aJ ho.2;have w:IntKind.u8.wrap 6=6:=dj (by omega) (by omega);have hle:(1+((bp [aA,slot]).length+(dB aJ).length)≤2^47)=True:=b5 (by have hl:(bp [aA,slot]++dB aJ).length≤1400:=hl;rw[aG]at hl;omega);have hle2:((bp [aA,slot]).length+(dB aJ).length≤2^47)=True:=b5 (by have hl:(bp [aA,slot]++dB aJ).length≤1400:=hl;rw[aG]at hl;omega);have tk:(ag (bp [aA,slot])++ag (dB aJ)).take ((bp [aA,slot]).length+(dB aJ).length)=ag (bp [aA,slot])++ag (dB aJ):=dk (by simp);refine zL (I t1 (I t2 (I w (I hle (I hle2 (I tk (I @dD @bE.{0,0}))))))) (I (hm) (I (hc) (hc2))) ?_;exact G4 _ _ _
 .have ho:(bm aA 0&&bm done 0)=true:=ho;rw[bM]at ho;have hc:=uA [aA,done] (by simp) (HR (kN ho.1 (by omega)) (kN ho.2 (by omega)));have w:IntKind.u8.wrap 7=7:=dj (by omega) (by omega);have hle:(1+(bp [aA,done]).length≤2^47)=True:=b5 (by have hl:(bp [aA,done]).length≤1400:=hl;omega);refine zL (I t1 (I t2 (I w (I hle (I @dD @bE.{0,0}))))) (I (hm) (hc)) ?_;exact qj _ _
 .have hc:=uA [done] (by simp) (HL (kN (show bm done 0=true from ho) (by omega)));have w:IntKind.u8.wrap 8=8:=dj (by omega) (by omega);have hle:(1+(bp [done]).length≤2^47)=True:=b5 (by have hl:(bp [done]).length≤1400:=hl;omega);refine zL (I t1 (I t2 (I w (I hle (I @dD @bE.{0,0}))))) (I (hm) (hc)) ?_;exact qj _ _
 .have hc:=Wc snap ho;have w:IntKind.u8.wrap 9=9:=dj (by omega) (by omega);have hle:(1+(ie snap).length≤2^47)=True:=b5 (by have hl:(ie snap).length≤1400:=hl;omega);refine zL (I t1 (I t2 (I w (I hle (I @dD @bE.{0,0}))))) (I (hm) (hc)) ?_;exact qj _ _
 .simp only[kU,kt]at k1 k2 k3 k4 k5 k6 k7 k8 k9;unfold qQ at ho;simp only[k1,k2,k3,k4,k5,k6,k7,k8,k9,cE]at ho;cases ho
theorem Af {bs:List Int} {p:Int} {y:Int×Int} (h:bu bs) (hy:aD bs p= .ok y):0≤y.1/\y.1<4611686018427387904:=by
 obtain⟨_,rfl⟩:=iJ hy;unfold ch;split
 .simp
 .split
  .rename_i h2;exact⟨(zl λ c hc=>h.b _ (oD (jm hc))).1,h2⟩
  .simp
theorem AY {bs:List Int} {p:Int} (h:bu bs) (hp:i64 p) {y:Int×Int} (hy:bI bs p= .ok y):ah prog 138 [.f (de bs.length (ag bs)), .f (ai p)] (λ r o=>r=[ri y.1,ri y.2,ri 0]/\o=[]):=by
 obtain⟨h0,rfl⟩:=iJ hy;have:=rm bs p h hp
 rwa[h0]at this
theorem Ev {bs:List Int} {p:Int} (h:bu bs) (hp:i64 p) {e:Int} (hy:bI bs p= .error e):ah prog 138 [.f (de bs.length (ag bs)), .f (ai p)] (λ r o=>r=[ri (bQ bs p).1,ri (bQ bs p).2.1,ri e]/\o=[])/\(e !=0)=true:=by obtain⟨h0,h2⟩:=iH hy;have:=rm bs p h hp;rw[h0]at this;exact⟨this,by simpa using h2⟩
theorem HY {bs:List Int} {p:Int} (h:bu bs) (hp:i64 p) {y:Int×Int} (hy:aD bs p= .ok y):ah prog 139 [.f (de bs.length (ag bs)), .f (ai p)] (λ r o=>r=[ri y.1,ri y.2,ri 0]/\o=[]):=by
 obtain⟨h0,rfl⟩:=iJ hy;have:=sM bs p h hp
 rwa[h0]at this
theorem HZ {bs:List Int} {p:Int} (h:bu bs) (hp:i64 p) {e:Int} (hy:aD bs p= .error e):ah prog 139 [.f (de bs.length (ag bs)), .f (ai p)] (λ r o=>r=[ri (ch bs p).1,ri (ch bs p).2.1,ri e]/\o=[])/\(e !=0)=true:=by obtain⟨h0,h2⟩:=iH hy;have:=sM bs p h hp;rw[h0]at this;exact⟨this,by simpa using h2⟩
theorem acT {bs:List Int} {p:Int} (h:bu bs) (hp:i64 p) {y:ByteArray×Int} (hy:jl bs p= .ok y):ah prog 175 [.f (de bs.length (ag bs)), .f (ai p), .f (ai 12)] (λ r o=>r=[.one (.d (sD y.1)),ri y.2,ri 0]/\o=[]):=by
 obtain⟨h0,rfl⟩:=iJ hy;have:=Ah bs p 12 h hp
 rwa[h0]at this
theorem ac1 {bs:List Int} {p:Int} (h:bu bs) (hp:i64 p) {e:Int} (hy:jl bs p= .error e):ah prog 175 [.f (de bs.length (ag bs)), .f (ai p), .f (ai 12)] (λ r o=>r=[.one (.d (sD (cP bs p 12).1)),ri (cP bs p 12).2.1,ri e]/\o=[])/\(e !=0)=true:=by obtain⟨h0,h2⟩:=iH hy;have:=Ah bs p 12 h hp;rw[h0]at this;exact⟨this,by simpa using h2⟩
abbrev Cm:=Int×Int×ByteArray
def cy {α:Type} (z:α) (r:Rr α):α×Int×Int:=match r with
 | .ok y=>(y.1,y.2,0)
 | .error e=>(z,0,e)
def kD (bs:List Int) (p:Int):Rr Cm:=match bI bs p with
 | .error e=> .error e
 | .ok k=>match aD bs k.2 with
  | .error e=> .error e
  | .ok n=>match jl bs n.2 with
   | .error e=> .error e
   | .ok s=>if jq k.1 n.1 s.1=true then .ok ((k.1,n.1,s.1),s.2)else .error 4
abbrev R6 (c:Cm):RF:= .agg [.d (iD c.1), .d (iD c.2.1), .d (sD c.2.2)]
abbrev yK:Cm:=(0,0, .empty)
theorem Xq (bs:List Int) (p:Int) (h:bu bs) (hp:i64 p):ah prog 140 [.f (de bs.length (ag bs)), .f (ai p)] (λ r o=>r=[R6 (cy yK (kD bs p)).1,ri (cy yK (kD bs p)).2.1,ri (cy yK (kD bs p)).2.2]/\o=[]):=by
 refine zh func140 results140 ntmps140 call140 ?_;simp only[f140,Option.getD];unfold kD;cases e1:bI bs p with
 |error e=>
  obtain⟨h1,hq⟩:=Ev h hp e1;simp only[cy];exact zW hq (h1)
 |ok k=>
 have h1:=AY h hp e1;have p1:=jT h e1;simp only;cases e2:aD bs k.2 with
 |error e=>
  obtain⟨h2,hq⟩:=HZ h p1 e2;simp only[cy];exact zW hq (I (h1) (h2))
 |ok n=>
 have h2:=HY h p1 e2;have p2:=dU h e2;simp only;cases e3:jl bs n.2 with
 |error e=>
  obtain⟨h3,hq⟩:=ac1 h p2 e3;simp only[cy];exact zW hq (I (h1) (I (h2) (h3)))
 |ok s=>
 have h3:=acT h p2 e3;have hs:s.1.size<2^62:=by have:=Fz e3;have:=h.l;omega
 have h4:=DW k.1 n.1 s.1 hs;simp only;cases hm:jq k.1 n.1 s.1
 .rw[hm]at h4;rw[aa (by simp)];simp only[cy];exact zW trivial (I (h1) (I (h2) (I (h3) (h4))))
 .rw[hm]at h4;rw[aj rfl];simp only[cy];exact zW trivial (I (h1) (I (h2) (I (h3) (h4))))
def fy (bs:List Int) (p:Int):Rr aX:=match bI bs p with
 | .error e=> .error e
 | .ok k=>match aD bs k.2 with
  | .error e=> .error e
  | .ok n=>match kD bs n.2 with
   | .error e=> .error e
   | .ok c=>if aX.may ⟨k.1,n.1,c.1.1,c.1.2.1,c.1.2.2⟩=true then .ok (⟨k.1,n.1,c.1.1,c.1.2.1,c.1.2.2⟩,c.2)else .error 4
abbrev Oq (r:aX):RF:= .agg (r.enc.map RO.d)
abbrev gl:aX:=⟨0,0,0,0, .empty⟩
theorem FQ {bs:List Int} {p:Int} {y:Cm×Int} (h:bu bs) (hy:kD bs p= .ok y):i64 y.2/\jq y.1.1 y.1.2.1 y.1.2.2=true:=by
 unfold kD at hy;cases e1:bI bs p with
 |error x=>rw[e1]at hy;cases hy
 |ok k=>
 rw[e1]at hy;simp only at hy;cases e2:aD bs k.2 with
 |error x=>rw[e2]at hy;cases hy
 |ok n=>
 rw[e2]at hy;simp only at hy;cases e3:jl bs n.2 with
 |error x=>rw[e3]at hy;cases hy
 |ok s=>
 rw[e3]at hy;simp only at hy;split at hy
 .rename_i hm;cases hy;exact⟨FE h e3,hm⟩
 .cases hy
theorem Gx {bs:List Int} {p e:Int} (hy:kD bs p= .error e):(e !=0)=true:=by
 unfold kD at hy;cases e1:bI bs p with
 |error x=>rw[e1]at hy;cases hy;simpa using(iH e1).2
 |ok k=>
 rw[e1]at hy;simp only at hy;cases e2:aD bs k.2 with
 |error x=>rw[e2]at hy;cases hy;simpa using(iH e2).2
 |ok n=>
 rw[e2]at hy;simp only at hy;cases e3:jl bs n.2 with
 |error x=>rw[e3]at hy;cases hy;simpa using(iH e3).2
 |ok s=>
 rw[e3]at hy;simp only at hy;split at hy
 .cases hy
 .cases hy;rfl
theorem KU (bs:List Int) (p:Int) (h:bu bs) (hp:i64 p):ah prog 90 [.f (de bs.length (ag bs)), .f (ai p)] (λ r o=>r=[Oq (cy gl (fy bs p)).1,ri (cy gl (fy bs p)).2.1,ri (cy gl (fy bs p)).2.2]/\o=[]):=by
 refine zh func90 results90 ntmps90 call90 ?_;simp only[f90,Option.getD];unfold fy;cases e1:bI bs p with
 |error e=>
  obtain⟨h1,hq⟩:=Ev h hp e1;simp only[cy];refine zL hq (h1) ?_;rfl
 |ok k=>
 have h1:=AY h hp e1;have p1:=jT h e1;simp only;cases e2:aD bs k.2 with
 |error e=>
  obtain⟨h2,hq⟩:=HZ h p1 e2;simp only[cy];refine zL hq (I (h1) (h2)) ?_;rfl
 |ok n=>
 have h2:=HY h p1 e2;have p2:=dU h e2;simp only;have h3:=Xq bs n.2 h p2;cases e3:kD bs n.2 with
 |error e=>
  rw[e3]at h3;have hq:(e !=0)=true:=Gx e3;simp only[cy]at h3⊢;refine zL hq (I (h1) (I (h2) (h3))) ?_;rfl
 |ok c=>
 rw[e3]at h3;obtain⟨p3,hc⟩:=FQ h e3;have f:=sk hc;have hk:=pZ h e1;have hn:=Af h e2;have h4:=zH ⟨k.1,n.1,c.1.1,c.1.2.1,c.1.2.2⟩ (by unfold aX.ok i64;simp only;omega);simp only[cy]at h3⊢;cases hm:aX.may ⟨k.1,n.1,c.1.1,c.1.2.1,c.1.2.2⟩
 .rw[hm]at h4;rw[aa (by simp)];refine zL trivial (I (h1) (I (h2) (I (h3) (h4)))) ?_;rfl
 .rw[hm]at h4;rw[aj rfl];refine zL trivial (I (h1) (I (h2) (I (h3) (h4)))) ?_;rfl
theorem Ch {bs:List Int} (h:bu bs) {p:Int} {y:aX×Int} (hy:fy bs p= .ok y):i64 y.2/\aX.may y.1=true:=by
 unfold fy at hy;cases e1:bI bs p with
 |error x=>rw[e1]at hy;cases hy
 |ok k=>
 rw[e1]at hy;simp only at hy;cases e2:aD bs k.2 with
 |error x=>rw[e2]at hy;cases hy
 |ok n=>
 rw[e2]at hy;simp only at hy;cases e3:kD bs n.2 with
 |error x=>rw[e3]at hy;cases hy
 |ok s=>
 rw[e3]at hy;simp only at hy;split at hy
 .rename_i hm;cases hy;exact⟨(FQ h e3).1,hm⟩
 .cases hy
theorem Ap {bs:List Int} {p e:Int} (hy:fy bs p= .error e):(e !=0)=true:=by
 unfold fy at hy;cases e1:bI bs p with
 |error x=>rw[e1]at hy;cases hy;simpa using(iH e1).2
 |ok k=>
 rw[e1]at hy;simp only at hy;cases e2:aD bs k.2 with
 |error x=>rw[e2]at hy;cases hy;simpa using(iH e2).2
 |ok n=>
 rw[e2]at hy;simp only at hy;cases e3:kD bs n.2 with
 |error x=>rw[e3]at hy;cases hy;exact Gx e3
 |ok s=>
 rw[e3]at hy;simp only at hy;split at hy
 .cases hy
 .cases hy;rfl
def dr (bs:List Int) (p:Int):Rr Batch:=match bI bs p with
 | .error e=> .error e
 | .ok k=>if k.1>1 then .error 4 else if k.1=1 then .ok (⟨true,0,⟨0,0⟩,0,[]⟩,k.2)else match bL (aD bs) 4 k.2 []with
  | .error e=> .error e
  | .ok l=>match ef bs l.2 3 with
   | .error e=> .error e
   | .ok n=>match bL (fy bs) n.1.toNat n.2 []with
    | .error e=> .error e
    | .ok rs=>if Batch.may ⟨false,l.1.getD 0 0,⟨l.1.getD 1 0,l.1.getD 2 0⟩,l.1.getD 3 0,rs.1⟩=true then .ok (⟨false,l.1.getD 0 0,⟨l.1.getD 1 0,l.1.getD 2 0⟩,l.1.getD 3 0,rs.1⟩,rs.2)else .error 4
abbrev dP:Batch:=⟨false,0,⟨0,0⟩,0,[]⟩
abbrev El (b:Batch):RF:= .agg (b.enc.map RO.d)
theorem Cs {l:List aX} {r:aX}:dw (l++[r])=dw l++r.enc:=by simp[dw]
theorem sx {l:List aX}:(dw l).take (l.length*5)=dw l:=o8 aX.enc 5 (λ _=>rfl) l
theorem acz {l:List Int} (h:l.length=2):∃a b,l=[a,b]:=by
 match l,h with
 |[a,b],_=>exact⟨a,b,rfl⟩
theorem Zq {l:List Int} (h:l.length=3):∃a b c,l=[a,b,c]:=by
 match l,h with
 |[a,b,c],_=>exact⟨a,b,c,rfl⟩
theorem Hi {l:List Int} (h:l.length=4):∃a b c d,l=[a,b,c,d]:=by
 match l,h with
 |[a,b,c,d],_=>exact⟨a,b,c,d,rfl⟩
theorem z9 {Z:List Nat} {r:Rs} {h h':Hd} {a b c d:Nat} {xs ys:List AV}:fk Z r (.agg [.ptr h a, .ptr h b, .ptr h c, .ptr h d]::xs) (.agg [.ptr h' a, .ptr h' b, .ptr h' c, .ptr h' d]::ys)=((tL Z r h=true/\(⟨h.s,h.j,mM Z h.s h.e⟩:Hd)=h')/\fk Z r xs ys):=by
 simp only[fk,ma,jM,mc,nV,qx,uU,reduceCtorEq,false_or,AV.agg.injEq,List.cons.injEq,C.ptr.injEq,jj,bM];apply propext;constructor
 .rintro⟨⟨h1,h2⟩,h3⟩;exact⟨⟨h1.1,h2.1⟩,h3⟩
 .rintro⟨⟨h1,h2⟩,h3⟩;exact⟨⟨⟨h1,h1,h1,h1⟩,h2,h2,h2,h2⟩,h3⟩
theorem Kl (bs:List Int) (p:Int) (h:bu bs) (hp:i64 p):ah prog 142 [.f (de bs.length (ag bs)), .f (ai p)] (λ r o=>r=[El (cy dP (dr bs p)).1,ri (cy dP (dr bs p)).2.1,ri (cy dP (dr bs p)).2.2]/\o=[]):=by
 refine ah.nil ?_;refine zh func142 results142 ntmps142 call142 ?_;simp only[f142,Option.getD];unfold dr;cases e1:bI bs p with
 |error e=>
  obtain⟨h1,hq⟩:=Ev h hp e1;simp only[cy]
  repeat'(first|exact zC|refine zq hq ?_|refine zx (h1) ?_|(apply aq<;>intro hb)|(apply I;exact zI)|(apply I<;>intro hg))
  simp[aT,bf,aY,ak]
 |ok k=>
 have h1:=AY h hp e1;have p1:=jT h e1;simp only;cases g1:decide (k.1>1)
 .rw[aa (by simpa using g1)];cases g2:(k.1==1)
  .rw[aa (by simpa using g2)];refine zL (I g1 g2) (h1) ?_;refine bq (τ:=Nat×Int×List Int) (λ a=>⟨(de bs.length (ag bs)::ai a.2.1::dM (cd 4::js (cd 9::rV (.agg [.ptr ⟨9,0,1⟩ 1, .ptr ⟨9,0,1⟩ 2, .ptr ⟨9,0,1⟩ 3, .ptr ⟨9,0,1⟩ 4]::ai a.1::rZ (b8 []))))),[(4,⟨2,[aW 1 [db false,di 0,di 0,di 0,di 0, .d (.v cY)],none,none,none,none,none,none]⟩),(9,⟨2,[aW 1 [db false,di (a.2.2.getD 0 0),di (a.2.2.getD 1 0),di (a.2.2.getD 2 0),di (a.2.2.getD 3 0), .d (.v cY)],none,none,none,none,none,none]⟩)]⟩)
    (λ a=>a.1≤4/\i64 a.2.1/\a.2.2.length=a.1) (λ a=>bL (aD bs) (4 - a.1) a.2.1 a.2.2) (λ a=>4 - a.1) (0,k.2,[])
    (Gh.canon [4,9] [] [] (zk @z9) rfl rfl) ⟨bc _,p1,rfl⟩ ?_
   intro⟨i,q,l⟩ ⟨hi0,hq,hl⟩ hF K hK;simp only[i7]at hi0 hq hl hF hK⊢;refine zw ?_;refine aq (λ hlt=> ?_) (λ hge=> ?_)
   .have hi:i<4:=by simp at hlt;omega
    have hw:IntKind.i64.wrap ((i:Int)+1)=((i+1:Nat):Int):=bz hi (by omega);have hst:4 - i=(4 - (i+1))+1:=by omega
    rw[hst,bL]at hF;rw[←hF];cases x1:aD bs q with
    |error e=>
     obtain⟨h2,hz⟩:=HZ h hq x1;simp only[cy];rcases(show i=0∨i=1∨i=2∨i=3 by omega)with rfl|rfl|rfl|rfl
     all_goals
      repeat'(first|exact zC|refine zq hz ?_|refine zx (h2) ?_|(apply aq<;>intro hb)|(apply I;exact zI)|(apply I<;>intro hg))
      simp[aT,bf,aY,ak]
    |ok x=>
    have h2:=HY h hq x1;have hs2:bL (aD bs) (4 - (i+1)) x.2 (l++[x.1])=bL (aD bs) (4 - i) q l:=by rw[hst,bL,x1]
    have p2:=dU h x1;rcases(show i=0∨i=1∨i=2∨i=3 by omega)with rfl|rfl|rfl|rfl
    .have hl0:l=[]:=List.length_eq_zero_iff.1 hl;subst hl0;refine zL trivial (h2) ?_;exact hK _ (0+1,x.2,[x.1]) (Gh.canon [4,9] [] [] (zk (I hw @z9)) rfl rfl) ⟨by simp only;omega,p2,rfl⟩ hs2 (by simp only;omega)
    .obtain⟨a,rfl⟩:=List.length_eq_one_iff.1 hl;refine zL trivial (h2) ?_;exact hK _ (1+1,x.2,[a,x.1]) (Gh.canon [4,9] [] [] (zk (I hw @z9)) rfl rfl) ⟨by simp only;omega,p2,rfl⟩ hs2 (by simp only;omega)
    .obtain⟨a,b,rfl⟩:=acz hl;refine zL trivial (h2) ?_;exact hK _ (2+1,x.2,[a,b,x.1]) (Gh.canon [4,9] [] [] (zk (I hw @z9)) rfl rfl) ⟨by simp only;omega,p2,rfl⟩ hs2 (by simp only;omega)
    .obtain⟨a,b,c,rfl⟩:=Zq hl;refine zL trivial (h2) ?_;exact hK _ (3+1,x.2,[a,b,c,x.1]) (Gh.canon [4,9] [] [] (zk (I hw @z9)) rfl rfl) ⟨by simp only;omega,p2,rfl⟩ hs2 (by simp only;omega)
   .have hi:i=4:=by
     have:¬(i:Int)<4:=by simpa using hge
     omega
    subst hi;rw[iq,bL]at hF;have hval:=(xe (ok:=λ v=>0≤v/\v<4611686018427387904) (λ q z hz=>⟨dU h hz,Af h hz⟩) p1 (λ _ hx=>by cases hx) hF.symm).2.2;rw[←hF];obtain⟨v0,v1,v2,v3,rfl⟩:=Hi hl;have q0:=hval v0 (by simp);have q1:=hval v1 (by simp);have q2:=hval v2 (by simp);have q3:=hval v3 (by simp);clear hval hF hK;simp only[A7,List.getD_cons_succ];cases e3:ef bs q 3 with
    |error e=>
     rcases zi e3 with hz|⟨z,hz,hgt,rfl⟩
     .obtain⟨h3,hw⟩:=Ev h hq hz;simp only[cy]
      repeat'(first|exact zC|refine zq hw ?_|refine zx (h3) ?_|(apply aq<;>intro hb)|(apply I;exact zI)|(apply I<;>intro hg))
      simp[aT,bf,aY,ak]
     .have h3:=AY h hq hz;have hgt:decide (z.1>3)=true:=by simpa using hgt
      simp only[cy]
      repeat'(first|exact zC|refine zq hgt ?_|refine zx (h3) ?_|(apply aq<;>intro hb)|(apply I;exact zI)|(apply I<;>intro hg))
      simp[aT,bf,aY,ak]
    |ok n=>
    obtain⟨hz,hle⟩:=zZ e3;obtain⟨p3,n0,n3⟩:=ui h e3;have h3:=AY h hq hz;have hgt:decide (n.1>3)=false:=by simp;omega
    simp only;refine zL hgt (h3) ?_;refine bq (τ:=Nat×Int×List aX) (λ a=>⟨(de bs.length (ag bs)::ai a.2.1::dM (cd 4::js (cd 9::yG (b8 (ai n.1::ai a.1::rY []))))),[(4,⟨2,[aW 1 [db false,di 0,di 0,di 0,di 0, .d (.v cY)],none,none,none,none,none,none]⟩),(9,⟨2,[aW 1 [db false,di v0,di v1,di v2,di v3, .own ⟨9,6,1⟩ 0 a.2.2.length],none,none,none,none,none,b9 1 5 (dw a.2.2)]⟩),(13,⟨2,[]⟩),(92,⟨2,[]⟩),(93,⟨2,[]⟩)]⟩)
     (λ a=>a.1≤n.1.toNat/\i64 a.2.1/\a.2.2.length=a.1/\∀r∈a.2.2,aX.may r=true) (λ a=>bL (fy bs) (n.1.toNat - a.1) a.2.1 a.2.2) (λ a=>n.1.toNat - a.1) (0,n.2,[])
     ((Gh.mI 9 5 5 rfl).trans (Gh.canon [4,9] [13,92,93] [] zK rfl rfl)) ⟨bc _,p3,rfl,λ _ hx=>by cases hx⟩ ?_
    intro⟨i,q2,acc⟩ ⟨hi0,hq2,ha,hmy⟩ hF K hK;simp only[i7]at hi0 hq2 ha hmy hF hK⊢;refine zw ?_;refine aq (λ hlt=> ?_) (λ hge=> ?_)
    .have hi:i<n.1.toNat:=by simp at hlt;omega
     have hw:=bz hi (by omega);have hst:n.1.toNat - i=(n.1.toNat - (i+1))+1:=by omega
     have h4:=KU bs q2 h hq2;cases x1:fy bs q2 with
     |error e=>
      rw[←hF,hst,bL,x1];rw[x1]at h4;simp only[cy]at h4⊢;have hz:=Ap x1
      repeat'(first|exact zC|refine zq hz ?_|refine zx (h4) ?_|(apply aq<;>intro hb)|(apply I;exact zI)|(apply I<;>intro hg))
      simp[aT,bf,aY,ak]
     |ok x=>
     rw[x1]at h4;simp only[cy]at h4;have hs2:bL (fy bs) (n.1.toNat - (i+1)) x.2 (acc++[x.1])=bL (fy bs) (n.1.toNat - i) q2 acc:=by rw[hst,bL,x1]
     have hcl:(acc.length+1≤2^47)=True:=b5 (by omega);obtain⟨px,mx⟩:=Ch h x1;refine zL (I @sx (I @cQ hcl)) (h4) ?_;refine hK _ (i+1,x.2,acc++[x.1]) (Gh.canon [4,9] [] [] (zk (I hw (I @aG.{0} @bG.{0}))) rfl (by simp only[aG,bG];rw[Cs];rfl)) ⟨hi,px,by simp only[aG,bG];omega,λ r hr=> ?_⟩ hs2 (by simp only;omega);rcases dN.1 hr with hr|hr
     .exact hmy r hr
     .simp at hr;subst hr;exact mx
    .have hi:i=n.1.toNat:=by simp at hge;omega
     rw[hi,iq,bL]at hF;rw[←hF];simp only;have hm:=xd ⟨false,v0,⟨v1,v2⟩,v3,acc⟩ ⟨by unfold i64;simp only;omega,by unfold i64;simp only;omega,by unfold i64;simp only;omega,by unfold i64;simp only;omega,by simp only;omega,λ r hr=>(uv (hmy r hr)).2.2.2⟩;clear hK hF;cases hb:Batch.may ⟨false,v0,⟨v1,v2⟩,v3,acc⟩
     .rw[hb]at hm;rw[aa (by simp)];simp only[cy]
      repeat'(first|exact zC|refine zq @sx ?_|refine zx (hm) ?_|(apply aq<;>intro hb)|(apply I;exact zI)|(apply I<;>intro hg))
      simp[aT,bf,aY,ak]
     .rw[hb]at hm;rw[aj rfl];simp only[cy]
      repeat'(first|exact zC|refine zq @sx ?_|refine zx (hm) ?_|(apply aq<;>intro hb)|(apply I;exact zI)|(apply I<;>intro hg))
      simp[aT,bf,aY,ak, -List.length_flatMap,cQ]
  .rw[aj (by simpa using g2)];simp only[cy]
   repeat'(first|exact zC|refine zq (I g1 g2) ?_|refine zx (h1) ?_|(apply aq<;>intro hb)|(apply I;exact zI)|(apply I<;>intro hg))
   simp[aT,bf,aY,ak]
 .rw[aj (by simpa using g1)];simp only[cy]
  repeat'(first|exact zC|refine zq g1 ?_|refine zx (h1) ?_|(apply aq<;>intro hb)|(apply I;exact zI)|(apply I<;>intro hg))
  simp[aT,bf,aY,ak]
abbrev yB:Value:=pk 84 4
theorem oV:ah prog 96 [.f (ai 0)] (λ r o=>r=[]/\o=[]):=by refine zh func96 results96 ntmps96 call96 ?_;simp only[f96,Option.getD];exact bA trivial
theorem xn (e:Int) (h:(e !=0)=true):gF prog 96 [.f (ai e)] yB:=by refine qU func96 ntmps96 call96 ?_;simp only[f96,Option.getD];exact bA (I h @bx)
theorem z0 {α:Type} {f:Int->Rr α} (hf:∀p e,f p= .error e->(e !=0)=true):∀{n:Nat} {p:Int} {acc:List α} {e:Int},bL f n p acc= .error e->(e !=0)=true
 |0,p,acc,e,h=>by cases h
 |n+1,p,acc,e,h=>by
  rw[bL]at h;cases hx:f p with
  |error x=>rw[hx]at h;cases h;exact hf _ _ hx
  |ok x=>rw[hx]at h;exact z0 hf h
theorem LH {bs:List Int} {p e:Int} (hy:dr bs p= .error e):(e !=0)=true:=by
 unfold dr at hy;cases e1:bI bs p with
 |error x=>rw[e1]at hy;cases hy;simpa using(iH e1).2
 |ok k=>
 rw[e1]at hy;simp only at hy;split at hy
 .cases hy;rfl
 split at hy
 .cases hy
 cases e2:bL (aD bs) 4 k.2 []with
 |error x=>rw[e2]at hy;cases hy;exact z0 (λ q z hz=>by simpa using(iH hz).2) e2
 |ok l=>
 rw[e2]at hy;simp only at hy;cases e3:ef bs l.2 3 with
 |error x=>
  rw[e3]at hy;cases hy;rcases zi e3 with hz|⟨_,_,_,rfl⟩
  .simpa using(iH hz).2
  .rfl
 |ok n=>
 rw[e3]at hy;simp only at hy;cases e4:bL (fy bs) n.1.toNat n.2 []with
 |error x=>rw[e4]at hy;cases hy;exact z0 (λ q z hz=>Ap hz) e4
 |ok rs=>
 rw[e4]at hy;simp only at hy;split at hy
 .cases hy
 .cases hy;rfl
theorem GI (bs:List Int) (p:Int) (h:bu bs) (hp:i64 p) {y:Int×Int} (hy:bI bs p= .ok y):
  ah prog 89 [.obj (b4 bs p)] (λ r o=>r=[ri y.1]/\o=[b4 bs y.2]):=by
 obtain⟨h0,rfl⟩:=iJ hy;refine zh func89 results89 ntmps89 call89 ?_;simp only[f89,Option.getD];have h1:=rm bs p h hp;rw[h0]at h1;exact zW trivial (I (h1) (oV))
theorem Gc (bs:List Int) (p:Int) (h:bu bs) (hp:i64 p) {e:Int} (hy:bI bs p= .error e):
  gF prog 89 [.obj (b4 bs p)] yB:=by
 obtain⟨h0,h2⟩:=iH hy;have h2:(e !=0)=true:=by simpa using h2
 refine qU func89 ntmps89 call89 ?_;simp only[f89,Option.getD];have h1:=rm bs p h hp;rw[h0]at h1;refine zL trivial (h1) ?_;refine rl (xn e h2) rfl ?_
 first|refine zs @bx ?_|exact zt @bx
theorem mR (bs:List Int) (p:Int) (h:bu bs) (hp:i64 p) {y:Int×Int} (hy:aD bs p= .ok y):
  ah prog 92 [.obj (b4 bs p)] (λ r o=>r=[ri y.1]/\o=[b4 bs y.2]):=by
 obtain⟨h0,rfl⟩:=iJ hy;refine zh func92 results92 ntmps92 call92 ?_;simp only[f92,Option.getD];have h1:=sM bs p h hp;rw[h0]at h1;exact zW trivial (I (h1) (oV))
theorem mN (bs:List Int) (p:Int) (h:bu bs) (hp:i64 p) {e:Int} (hy:aD bs p= .error e):
  gF prog 92 [.obj (b4 bs p)] yB:=by
 obtain⟨h0,h2⟩:=iH hy;have h2:(e !=0)=true:=by simpa using h2
 refine qU func92 ntmps92 call92 ?_;simp only[f92,Option.getD];have h1:=sM bs p h hp;rw[h0]at h1;refine zL trivial (h1) ?_;refine rl (xn e h2) rfl ?_
 first|refine zs @bx ?_|exact zt @bx
theorem Gw (bs:List Int) (p:Int) (h:bu bs) (hp:i64 p) {y:Batch×Int} (hy:dr bs p= .ok y):
  ah prog 94 [.obj (b4 bs p)] (λ r o=>r=[El y.1]/\o=[b4 bs y.2]):=by
 refine zh func94 results94 ntmps94 call94 ?_;simp only[f94,Option.getD];have h1:=Kl bs p h hp;rw[hy]at h1;simp only[cy]at h1;refine zL trivial (I (h1) (oV)) ?_;rfl
theorem F0 (bs:List Int) (p:Int) (h:bu bs) (hp:i64 p) {e:Int} (hy:dr bs p= .error e):
  gF prog 94 [.obj (b4 bs p)] yB:=by
 have h2:=LH hy;refine qU func94 ntmps94 call94 ?_;simp only[f94,Option.getD];have h1:=Kl bs p h hp;rw[hy]at h1;simp only[cy]at h1;refine zL trivial (h1) ?_;refine rl (xn e h2) rfl ?_
 first|refine zs @bx ?_|exact zt @bx
def lO (bs:List Int) (p:Int):Rr ep:=match aD bs p with
 | .error e=> .error e
 | .ok s=>match aD bs s.2 with
  | .error e=> .error e
  | .ok b=>match dr bs b.2 with
   | .error e=> .error e
   | .ok x=> .ok (⟨s.1,b.1,x.1⟩,x.2)
def nP (bs:List Int) (p:Int):Rr cr:=match bI bs p with
 | .error e=> .error e
 | .ok f=>match aD bs f.2 with
  | .error e=> .error e
  | .ok d=>match aD bs d.2 with
   | .error e=> .error e
   | .ok v=>match aD bs v.2 with
    | .error e=> .error e
    | .ok s=>match aD bs s.2 with
     | .error e=> .error e
     | .ok t=>match bI bs t.2 with
      | .error e=> .error e
      | .ok n=>match bL (lO bs) n.1.toNat n.2 []with
       | .error e=> .error e
       | .ok l=> .ok (⟨f.1,d.1,⟨v.1,s.1⟩,t.1,l.1⟩,l.2)
theorem B4 (b:List ep) (v:ep):eI (b++[v])=eI b++v.enc:=by simp[eI]
theorem uj {l:List ep}:(eI l).take (l.length*8)=eI l:=o8 ep.enc 8 (λ _=>rfl) l
theorem zN {bs:List Int} (h:bu bs) {p:Int} {y:Batch×Int} (hy:dr bs p= .ok y):i64 y.2:=by
 unfold dr at hy;cases e1:bI bs p with
 |error x=>rw[e1]at hy;cases hy
 |ok k=>
 have p1:=jT h e1;rw[e1]at hy;simp only at hy;split at hy
 .cases hy
 split at hy
 .cases hy;exact p1
 cases e2:bL (aD bs) 4 k.2 []with
 |error x=>rw[e2]at hy;cases hy
 |ok l=>
 have p2:=(xe (ok:=λ _=>True) (λ q z hz=>⟨dU h hz,trivial⟩) p1 (λ _ _=>trivial) e2).1;rw[e2]at hy;simp only at hy;cases e3:ef bs l.2 3 with
 |error x=>rw[e3]at hy;cases hy
 |ok n=>
 have p3:=(ui h e3).1;rw[e3]at hy;simp only at hy;cases e4:bL (fy bs) n.1.toNat n.2 []with
 |error x=>rw[e4]at hy;cases hy
 |ok rs=>
 have p4:=(xe (ok:=λ _=>True) (λ q z hz=>⟨(Ch h hz).1,trivial⟩) p3 (λ _ _=>trivial) e4).1;rw[e4]at hy;simp only at hy;split at hy
 .cases hy;exact p4
 .cases hy
theorem IC (bs:List Int) (p:Int) (h:bu bs) (hp:i64 p) (b:Bool) (y:cr×Int) (e:Int) (hy:lj b y e (nP bs p)):
  (b=true->ah prog 93 [.obj (b4 bs p)] (λ r o=>aT r [.agg (y.1.enc.map RO.d)]/\o=[b4 bs y.2]))/\(b=false->gF prog 93 [.obj (b4 bs p)] yB):=by
 refine EV func93 results93 ntmps93 call93 ?_;simp only[f93,Option.getD];unfold nP at hy;cases e1:bI bs p with
 |error x=>
  rw[e1]at hy;obtain⟨rfl,rfl⟩:=ea hy;have hr:=Gc bs _ h hp e1;refine az trivial ?_;refine zp (b4 bs p) (hr) ?_
  first|refine zs (I @bY @bx) ?_|exact zt (I @bY @bx)
 |ok f=>
 have he1:=GI bs _ h hp e1;have p1:=jT h e1;rw[e1]at hy;simp only at hy;refine az trivial ?_;refine zj (he1) ?_;cases e2:aD bs f.2 with
 |error x=>
  rw[e2]at hy;obtain⟨rfl,rfl⟩:=ea hy;have hr:=mN bs _ h p1 e2;refine az trivial ?_;refine zp (b4 bs p) (hr) ?_
  first|refine zs (I @bY @bx) ?_|exact zt (I @bY @bx)
 |ok d=>
 have he2:=mR bs _ h p1 e2;have p2:=dU h e2;rw[e2]at hy;simp only at hy;refine az trivial ?_;refine zj (he2) ?_;cases e3:aD bs d.2 with
 |error x=>
  rw[e3]at hy;obtain⟨rfl,rfl⟩:=ea hy;have hr:=mN bs _ h p2 e3;refine az trivial ?_;refine zp (b4 bs p) (hr) ?_
  first|refine zs (I @bY @bx) ?_|exact zt (I @bY @bx)
 |ok v=>
 have he3:=mR bs _ h p2 e3;have p3:=dU h e3;rw[e3]at hy;simp only at hy;refine az trivial ?_;refine zj (he3) ?_;cases e4:aD bs v.2 with
 |error x=>
  rw[e4]at hy;obtain⟨rfl,rfl⟩:=ea hy;have hr:=mN bs _ h p3 e4;refine az trivial ?_;refine zp (b4 bs p) (hr) ?_
  first|refine zs (I @bY @bx) ?_|exact zt (I @bY @bx)
 |ok s=>
 have he4:=mR bs _ h p3 e4;have p4:=dU h e4;rw[e4]at hy;simp only at hy;refine az trivial ?_;refine zj (he4) ?_;cases e5:aD bs s.2 with
 |error x=>
  rw[e5]at hy;obtain⟨rfl,rfl⟩:=ea hy;have hr:=mN bs _ h p4 e5;refine az trivial ?_;refine zp (b4 bs p) (hr) ?_
  first|refine zs (I @bY @bx) ?_|exact zt (I @bY @bx)
 |ok t=>
 have he5:=mR bs _ h p4 e5;have p5:=dU h e5;rw[e5]at hy;simp only at hy;refine az trivial ?_;refine zj (he5) ?_;cases e6:bI bs t.2 with
 |error x=>
  rw[e6]at hy;obtain⟨rfl,rfl⟩:=ea hy;have hr:=Gc bs _ h p5 e6;refine az trivial ?_;refine zp (b4 bs p) (hr) ?_
  first|refine zs (I @bY @bx) ?_|exact zt (I @bY @bx)
 |ok n=>
 have he6:=GI bs _ h p5 e6;have p6:=jT h e6;rw[e6]at hy;simp only at hy;refine az trivial ?_;refine zj (he6) ?_;have hnv:=pZ h e6;refine az trivial ?_;refine bq (τ:=Nat×Int×List ep×Nat) (λ a=>⟨(.one (.ptr ⟨0,0,0⟩ 0)::dd::cd 2::cd 3::vc (ai n.1::ai a.1::rZ [])),[BH bs a.2.1 a.2.2.2,(2,⟨2,[aW 1 [di 0,di 0,di 0,di 0,di 0, .d (.v cY)],none,none,none,none,none,none]⟩),(3,⟨2,[aW 1 [di f.1,di d.1,di v.1,di s.1,di t.1, .own ⟨3,6,1⟩ 0 a.2.2.1.length],none,none,none,none,none,b9 1 8 (eI a.2.2.1)]⟩),(4,⟨2,[]⟩),(38,⟨2,[]⟩),(39,⟨2,[]⟩)]⟩)
  (λ a=>a.1≤n.1.toNat/\i64 a.2.1/\a.2.2.1.length=a.1) (λ a=>bL (lO bs) (n.1.toNat - a.1) a.2.1 a.2.2.1) (λ a=>n.1.toNat - a.1) (0,n.2,[],7)
  ((Gh.mI 3 5 8 rfl).trans (Gh.canon [0,2,3] [4,38,39] [0] zK rfl rfl)) ⟨bc _,p6,rfl⟩ ?_
 intro⟨i,q,acc,nx⟩ ⟨hi0,hq,ha⟩ hF K hK;simp only[i7]at hi0 hq ha hF hK⊢;rw[←hF]at hy;refine zw ?_;refine aq (λ hlt=> ?_) (λ hge=> ?_)
 .have hi:i<n.1.toNat:=by simp at hlt;omega
  have hw:=bz hi (by omega);have hst:n.1.toNat - i=(n.1.toNat - (i+1))+1:=by omega
  rw[hst,bL,lO]at hy;cases x1:aD bs q with
  |error x=>
   rw[x1]at hy;obtain⟨rfl,rfl⟩:=ea hy;have hr:=mN bs q h hq x1;refine az trivial ?_;refine zp (b4 bs p) (hr) ?_
   first|refine zs (I @bY @bx) ?_|exact zt (I @bY @bx)
  |ok c=>
  rw[x1]at hy;simp only at hy;have hr1:=mR bs q h hq x1;refine az trivial ?_;refine zj (hr1) ?_;cases x2:aD bs c.2 with
  |error x=>
   rw[x2]at hy;obtain⟨rfl,rfl⟩:=ea hy;have hr:=mN bs _ h (dU h x1) x2;refine az trivial ?_;refine zp (b4 bs p) (hr) ?_
   first|refine zs (I @bY @bx) ?_|exact zt (I @bY @bx)
  |ok m=>
  rw[x2]at hy;simp only at hy;have hr2:=mR bs _ h (dU h x1) x2;refine az trivial ?_;refine zj (hr2) ?_;cases x3:dr bs m.2 with
  |error x=>
   rw[x3]at hy;obtain⟨rfl,rfl⟩:=ea hy;have hr:=F0 bs _ h (dU h x2) x3;refine az trivial ?_;refine zp (b4 bs p) (hr) ?_
   first|refine zs (I @bY @bx) ?_|exact zt (I @bY @bx)
  |ok r=>
  rw[x3]at hy;simp only at hy;have hr3:=Gw bs _ h (dU h x2) x3;refine az trivial ?_;refine zj (hr3) ?_;have hcl:(acc.length+1≤2^47)=True:=b5 (by omega);have hF2:bL (lO bs) (n.1.toNat - (i+1)) r.2 (acc++[⟨c.1,m.1,r.1⟩])=bL (lO bs) (n.1.toNat - i) q acc:=by rw[hst,bL,lO,x1];simp only;rw[x2];simp only;rw[x3]
  refine az (I @uj (I @dg hcl)) ?_;refine hK _ (i+1,r.2,acc++[⟨c.1,m.1,r.1⟩],nx+3) (Gh.canon [0,2,3] [] [0] (zk (I hw (I @aG.{0} @bG.{0}))) rfl (by simp only[aG,bG];rw[B4];rfl)) ⟨hi,zN h x3,by simp only[aG,bG];omega⟩ hF2 (by simp only;omega)
 .have hi:i=n.1.toNat:=by simp at hge;omega
  rw[hi,iq,bL]at hy;obtain⟨rfl,rfl⟩:=o9 hy;clear hK hF
  repeat'(first|exact zC|refine zq (I @pa @uj) ?_|(apply aq<;>intro hb)|(apply I;exact zI)|(apply I<;>intro hg))
  simp[aT,bf,aY,ak, -List.length_flatMap,dg]
def Cut {α:Type} (m:Nat) (p:Int) (r r':Rr α):Prop:=∀y,r= .ok y->p≤y.2/\(y.2≤m->r'= .ok y)/\(p≤m->m<y.2->r'= .error 2)
abbrev aP {α β:Type} (r:Rr α) (k:α×Int->Rr β):Rr β:=match r with
 | .error e=> .error e
 | .ok x=>k x
section
variable {bs:List Int} {m:Nat} (hm:m≤bs.length)
include hm
def ady (bs:List Int) (n:Nat) (p:Int) (acc:List dO):Rr (List dO):=kc (gP bs n p acc)
end
end Go.Proofs.YtliimajkpggbhaaGreat
