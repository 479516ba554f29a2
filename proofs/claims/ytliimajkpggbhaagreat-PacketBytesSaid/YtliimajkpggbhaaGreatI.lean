import Derived.Test.YtliimajkpggbhaaGreatK9
import Derived.Test.YtliimajkpggbhaaGreatW
set_option maxHeartbeats 8000000
namespace Go.Proofs.YtliimajkpggbhaaGreat
open Go.Pk Tryz
set_option maxRecDepth 100000
set_option linter.unusedSimpArgs false
set_option linter.unusedVariables false
theorem qf (v a:Int):ah prog 133 [.f (ai v), .f (ai a)] (λ r o=>r=[rb (decide (v≥a)&&decide (v≤2305843009213693952))]/\o=[]):=by refine zh func133 results133 ntmps133 call133 ?_;simp only[f133,Option.getD];exact bA trivial
theorem Cc (c:Int):ah prog 169 [.f (ai c)] (λ r o=>r=[rb (fq c)]/\o=[]):=by refine zh func169 results169 ntmps169 call169 ?_;simp only[f169,Option.getD];refine az trivial ?_;rfl
theorem Gf (l:List Int) (hl:l.length<2^62) (c:Int):ah prog 218 [.f (al l.length (bt l)), .f (ai c)] (λ r o=>r=[ri (AP l c),rb (dc l c)]/\o=[]):=by
 refine zh func218 results218 ntmps218 call218 ?_;simp only[f218,Option.getD];have hh:dc l c=decide (cM (λ x=>c==x) l 0≥0):=(xI _ l).symm;rw[hh];unfold AP;refine az trivial ?_;refine bq (τ:=Nat) (λ i=>⟨(al l.length (bt l)::ai c::js (ai i::qN [])),[]⟩)
  (λ i=>i≤l.length) (λ i=>cM (λ x=>c==x) (l.drop i) i) (λ i=>l.length - i) 0
  (Gh.canon [] [] [] zK rfl rfl) (bc _) ?_
 intro i hi0 hF K hK;rw[cC]at hF;refine zw ?_;refine aq (λ hlt=> ?_) (λ hge=> ?_)
 .have hi:i<l.length:=by simpa using hlt
  have hat:=mm hi;have hw:=bz hi hl;have hq:cM (λ x=>c==x) (l.drop i) i=if(l[i]==c)=true then(i:Int)else cM (λ x=>c==x) (l.drop (i+1)) ((i+1:Nat):Int):=by rw[cB hi,cM,Hv];rfl
  rw[hq]at hF
  repeat'(first|exact zC|refine zq (I hat (I @eu bw)) ?_|(apply aq<;>intro hb)|(apply I;exact zI)|(apply I<;>intro hg))
  .rw[aj hb]at hF;have hF:(i:Int)=cM (λ x=>c==x) l 0:=hF;rw[←hF,aj (by omega)];simp
  .rw[aa (by rw[hb];simp)]at hq;exact hK _ (i+1) (Gh.canon [] [] [] (zk hw) rfl rfl) hi hq.symm (by omega)
 .have hi:i=l.length:=by
   have:¬(i:Int)<l.length:=by simpa using hge
   omega
  rw[hi,eL]at hF;have hF:(-1:Int)=cM (λ x=>c==x) l 0:=hF;rw[←hF];refine az trivial ?_;rfl
theorem IE (l gone:List Int) (hl:l.length<2^30) (hg:gone.length<2^30):ah prog 215 [.f (al l.length (bt l)), .f (al gone.length (bt gone))] (λ r o=>r=[tX (iF l gone)]/\o=[]):=by
 refine ah.nil ?_;refine zh func215 results215 ntmps215 call215 ?_;simp only[f215,Option.getD];refine az trivial ?_;refine bq (τ:=Nat×List Int) (λ t=>⟨(al l.length (bt l)::al gone.length (bt gone)::jt (.one (.own ⟨5,1,1⟩ 0 t.2.length)::ai t.1::mH [])),[(5,⟨2,[none,b9 1 1 (bt t.2)]⟩),(25,⟨2,[]⟩),(26,⟨2,[]⟩)]⟩)
  (λ t=>t.1≤l.length/\t.2.length≤t.1) (λ t=>t.2++iF (l.drop t.1) gone) (λ t=>l.length - t.1) (0,[])
  ((Gh.nil (i:=5) (s:=5) (sz:=1) rfl).trans (Gh.canon [5] [25,26] [] zK rfl rfl)) ⟨bc _,bc _⟩ ?_
 intro⟨i,acc⟩ ⟨hi0,hac⟩ hF K hK;simp only[cC,c5]at hi0 hac hF hK⊢;refine zw ?_;refine aq (λ hlt=> ?_) (λ hge=> ?_)
 .have hi:i<l.length:=by simpa using hlt
  have hat:=mm hi;have hw:=bz hi (by omega);have hin:=Eh gone (by omega) l[i];have hFs:iF (l.drop i) gone=if(!dc gone l[i])=true then l[i]::iF (l.drop (i+1)) gone else iF (l.drop (i+1)) gone:=by unfold iF;rw[cB hi,tf]
  cases hb:(!dc gone l[i])
  .rw[hb,aa (by simp)]at hFs;refine zL (I hat (I hb (I @eu bw))) (hin) ?_;exact hK _ (i+1,acc) (Gh.canon [5] [] [] (zk hw) rfl rfl) ⟨hi,by simp only;omega⟩ (by simp only;rw[hFs]) (by simp only;omega)
  .rw[hb,aj rfl]at hFs;refine zL (I hat (I hb (I @eu bw))) (hin) ?_;exact hK _ (i+1,acc++[l[i]]) (Gh.canon [5] [] [] (zk (I hw (I @aG.{0} @bG.{0}))) rfl (by simp only[aG,bG];rw[Ca];rfl)) ⟨hi,by simp only[aG,bG];omega⟩ (by simp only[fH,wx];rw[hFs]) (by simp only;omega)
 .have hi:i=l.length:=by
   have:¬(i:Int)<l.length:=by simpa using hge
   omega
  rw[hi,eL]at hF;have hF:acc++[]=iF l gone:=hF;rw[←hF,fe];refine az trivial ?_;simp[Ez,ak,tX]
abbrev wO (l:List bg) (now lease:Int):List Int:=(l.filter λ s=>decide (now - s.dp≥lease)).map bg.af
theorem abd (l:List bg) (hl:l.length<2^30) (now lease:Int) (hr:∀s∈l,0≤s.dp/\s.dp≤bj) (hn:0≤now/\now≤bj):ah prog 187 [.f (al l.length (bT l)), .f (ai now), .f (ai lease)] (λ r o=>r=[tX (qH l now lease)]/\o=[]):=by
 refine ah.nil ?_;refine zh func187 results187 ntmps187 call187 ?_;simp only[f187,Option.getD];have hg1:=qf now 0;have hg2:=qf lease 0;rw[show(decide (now≥0)&&decide (now≤2305843009213693952))=true by have:bj=2305843009213693952:=rfl;simp;omega]at hg1;cases hle:(decide (lease≥0)&&decide (lease≤2305843009213693952))
 .rw[hle]at hg2;have hd:qH l now lease=[]:=by unfold qH;rw[aj];have:bj=2305843009213693952:=rfl;simp at hle⊢;omega
  rw[hd];refine zL trivial (I (hg1) (hg2)) ?_;simp[Ez,ak,tX]
 rw[hle]at hg2;have hd:qH l now lease=wO l now lease:=by unfold qH;rw[aa];have:bj=2305843009213693952:=rfl;simp at hle⊢;omega
 rw[hd];refine zL trivial (I (hg1) (hg2)) ?_;refine bq (τ:=Nat×List Int) (λ t=>⟨(al l.length (bT l)::ai now::ai lease::js (.one (.own ⟨7,1,1⟩ 0 t.2.length)::ai t.1::rV [])),[(7,⟨2,[none,b9 1 1 (bt t.2)]⟩),(38,⟨2,[]⟩),(39,⟨2,[]⟩)]⟩)
  (λ t=>t.1≤l.length/\t.2.length≤t.1) (λ t=>t.2++wO (l.drop t.1) now lease) (λ t=>l.length - t.1) (0,[])
  ((Gh.nil (i:=7) (s:=7) (sz:=1) rfl).trans (Gh.canon [7] [38,39] [] zK rfl rfl)) ⟨bc _,bc _⟩ ?_
 intro⟨i,acc⟩ ⟨hi0,hac⟩ hF K hK;simp only[cC,c5]at hi0 hac hF hK⊢;refine zw ?_;refine aq (λ hlt=> ?_) (λ hge=> ?_)
 .have hi:i<l.length:=by simpa using hlt
  have hat:=hU hi;have hw:=bz hi (by omega);have hrb:=hr _ (cb hi);have hH:bj=2305843009213693952:=rfl;have hw2:IntKind.i64.wrap (now - l[i].dp)=now - l[i].dp:=wrap64 (by omega) (by omega);have hFs:wO (l.drop i) now lease=if(decide (now - l[i].dp≥lease))=true then l[i].af::wO (l.drop (i+1)) now lease else wO (l.drop (i+1)) now lease:=by unfold wO;rw[cB hi,tf];split<;>simp
  cases hb:(decide (now - l[i].dp≥lease))
  .rw[hb,aa (by simp)]at hFs;refine az (I hat (I hb (I hw2 (I @ca bw)))) ?_;exact hK _ (i+1,acc) (Gh.canon [7] [] [] (zk hw) rfl rfl) ⟨hi,by simp only;omega⟩ (by simp only;rw[hFs]) (by simp only;omega)
  .rw[hb,aj rfl]at hFs;refine az (I hat (I hb (I hw2 (I @ca bw)))) ?_;exact hK _ (i+1,acc++[l[i].af]) (Gh.canon [7] [] [] (zk (I hw (I @aG.{0} @bG.{0}))) rfl (by simp only[aG,bG];rw[Ca];rfl)) ⟨hi,by simp only[aG,bG];omega⟩ (by simp only[fH,wx];rw[hFs]) (by simp only;omega)
 .have hi:i=l.length:=by
   have:¬(i:Int)<l.length:=by simpa using hge
   omega
  rw[hi,eL]at hF;have hF:acc++[]=wO l now lease:=hF;rw[←hF,fe];refine az trivial ?_;simp[Ez,ak,tX]
theorem aau (l:List Lk) (hl:l.length<2^30) (c:Int):ah prog 219 [.f (al l.length (aU l)), .f (ai c)] (λ r o=>r=[.one (.own 2 (ez l c).length (dV (ez l c)) false)]/\o=[]):=by
 refine ah.nil ?_;refine zh func219 results219 ntmps219 call219 ?_;simp only[f219,Option.getD];refine az trivial ?_;refine bq (τ:=Nat×List dO) (λ t=>⟨(al l.length (aU l)::ai c::jt (.one (.own ⟨5,1,1⟩ 0 t.2.length)::ai t.1::tY [])),[(5,⟨2,[none,b9 1 2 (dV t.2)]⟩),(32,⟨2,[]⟩),(33,⟨2,[]⟩)]⟩)
  (λ t=>t.1≤l.length/\t.2.length≤t.1) (λ t=>t.2++ez (l.drop t.1) c) (λ t=>l.length - t.1) (0,[])
  ((Gh.nil (i:=5) (s:=5) (sz:=2) rfl).trans (Gh.canon [5] [32,33] [] zK rfl rfl)) ⟨bc _,bc _⟩ ?_
 intro⟨i,acc⟩ ⟨hi0,hac⟩ hF K hK;simp only[cC,c5]at hi0 hac hF hK⊢;refine zw ?_;refine aq (λ hlt=> ?_) (λ hge=> ?_)
 .have hi:i<l.length:=by simpa using hlt
  have hat:=f8 hi;have hw:=bz hi (by omega);have hFs:ez (l.drop i) c=if(l[i].bh==c)=true then⟨l[i].name,l[i].token⟩::ez (l.drop (i+1)) c else ez (l.drop (i+1)) c:=by unfold ez;rw[cB hi,tf];split<;>simp
  cases hb:(l[i].bh==c)
  .rw[hb,aa (by simp)]at hFs;refine az (I hat (I hb (I @bK bw))) ?_;exact hK _ (i+1,acc) (Gh.canon [5] [] [] (zk hw) rfl rfl) ⟨hi,by simp only;omega⟩ (by simp only;rw[hFs]) (by simp only;omega)
  .rw[hb,aj rfl]at hFs;refine az (I hat (I hb (I @bK bw))) ?_;exact hK _ (i+1,acc++[⟨l[i].name,l[i].token⟩]) (Gh.canon [5] [] [] (zk (I hw (I @aG.{0} @bG.{0}))) rfl (by simp only[aG,bG];rw[BW];rfl)) ⟨hi,by simp only[aG,bG];omega⟩ (by simp only[fH,wx];rw[hFs]) (by simp only;omega)
 .have hi:i=l.length:=by
   have:¬(i:Int)<l.length:=by simpa using hge
   omega
  rw[hi,eL]at hF;have hF:acc++[]=ez l c:=hF;rw[←hF,fe];refine az trivial ?_;simp[Ez,ak]
theorem W8 {x:Value}:wm (.raw x)= .raw x:=rfl
structure jd where
 k:Lk
 x:D
abbrev jd.enc (m:jd):List D:=[sD m.k.name,iD m.k.bh,iD m.k.token,m.x]
abbrev jB (l:List jd):List D:=l.flatMap jd.enc
def plain (k:Lk):jd:=⟨k, .sl k.line.length (bt k.line)⟩
theorem Iy {l:List Lk}:jB (l.map plain)=aU l:=by
 induction l with
 |nil=>rfl
 |cons k l ih=>rw[b7,jB,fv,aU,fv];exact congrArg (_++·) ih
theorem Lo {l:List jd} {i:Nat} (hi:i<l.length):(jB l).drop (i*4)=l[i].enc++(jB (l.drop (i+1))):=p' _ 4 l i hi λ _=>rfl
theorem vE {l:List jd}:(jB l).length=l.length*4:=mn _ 4 (λ _=>rfl) l
theorem Jl {l:List jd}:(jB l).take (l.length*4)=jB l:=o8 jd.enc 4 (λ _=>rfl) l
theorem Jy {l:List jd} {m:jd}:jB (l++[m])=jB l++m.enc:=by simp[jB]
theorem yZ {l:List Lk} {m:Lk}:aU (l++[m])=aU l++m.enc:=by simp[aU]
theorem C0 (l:List Lk) (hl:l.length<2^30) (hll:∀k∈l,k.line.length<2^30):ah prog 214 [.f (al l.length (aU l))] (λ r o=>r=[.one (.own 4 l.length (aU l) false)]/\o=[]):=by
 refine ah.nil ?_;refine zh func214 results214 ntmps214 call214 ?_;simp only[f214,Option.getD];refine az trivial ?_;refine bq (τ:=Nat) (λ i=>⟨(al l.length (aU l)::dM (.one (.own ⟨3,1,1⟩ 0 i)::ai i::mH [])),[(3,⟨2,[none,b9 1 4 (aU (l.take i))]⟩),(5,⟨2,[]⟩),(16,⟨2,[]⟩),(19,⟨2,[]⟩),(23,⟨2,[]⟩),(24,⟨2,[]⟩)]⟩)
  (λ i=>i≤l.length) (λ _=>()) (λ i=>l.length - i) 0
  ((Gh.nil (i:=3) (s:=3) (sz:=4) rfl).trans (Gh.canon [3] [5,16,19,23,24] [] zK rfl rfl)) (bc _) ?_
 intro i hi0 hF K hK;refine zw ?_;refine aq (λ hlt=> ?_) (λ hge=> ?_)
 .have hi:i<l.length:=by simpa using hlt
  have hat:=f8 hi;have hw:=bz hi (by omega);have hlk:=hll _ (cb hi);have h1:(l[i].line.length*8≤2^47)=True:=b5 (by omega);have htl:(l.take i).length=i:=by rw[cu];omega
  have htk:=gv (l:=l.take i);rw[htl]at htk;have hsn:aU (l.take i)++[sD l[i].name,iD l[i].bh,iD l[i].token, .sl l[i].line.length (bt l[i].line)]=aU (l.take (i+1)):=by rw[←wz hi,yZ]
  refine az (I hat (I @bK (I @eu (I h1 (I htl (I htk (I hsn bw))))))) ?_;exact hK _ (i+1) (Gh.canon [3] [] [] (zk hw) rfl rfl) hi rfl (by omega)
 .have hi:i=l.length:=by
   have:¬(i:Int)<l.length:=by simpa using hge
   omega
  subst hi;refine az @lP.{0} ?_;show ak _ _/\True;simp[ak]
def ka (l:List Lk) (i:Nat) (x:D):List jd:=l.zipIdx.map λ p=>if p.2=i then⟨p.1,x⟩else plain p.1
theorem lD {l:List Lk} {i:Nat} {x:D}:(ka l i x).length=l.length:=by simp[ka]
theorem vK {l:List Lk} {i j:Nat} {x:D} (hj:j<l.length):(ka l i x)[j]'(by rw[lD];exact hj)=if j=i then⟨l[j],x⟩else plain l[j]:=by simp[ka]
theorem acD {l:List Lk} {i:Nat} {x:D}:(ka l i x).map jd.k=l:=by
 refine wv (by simp[lD]) λ j h1 h2=> ?_
 rw[yb,vK h2];split<;>rfl
theorem Yh (l:List Lk) (hl:l.length<2^30) (hll:∀k∈l,k.line.length<2^30) (i0:Nat) (hi0:i0<l.length):
  AS prog 214 [.f (al l.length (aU l))] (λ bs r o=>∃x,(∃a cap,x=Value.slice a l[i0].line.length cap)/\bs=[.val x]/\r=[.one (.own 4 l.length (jB (ka l i0 (.raw x))) false)]/\o=[[.own 1 l[i0].line.length (bt l[i0].line) false]]):=by
 refine Y6 eV mixed (T:=Ty) (n:=26) func214 (c:=f214.body.getD .skip) (q:=1000) (n2:=l[i0].line.length) rfl results214 ntmps214 call214 (R:=λ x=>_) ?_;simp only[f214,Option.getD];refine az trivial ?_
 refine bq (τ:=Nat×Option (Option Addr×Nat)) (λ t=>match t.2 with
  |none=>⟨(al l.length (aU l)::dM (.one (.own ⟨3,1,1⟩ 0 t.1)::ai t.1::mH [])),[(3,⟨2,[none,b9 1 4 (aU (l.take t.1))]⟩),(5,⟨2,[]⟩),(16,⟨2,[]⟩),(19,⟨2,[]⟩),(23,⟨2,[]⟩),(24,⟨2,[]⟩)]⟩
  |some x=>⟨(al l.length (aU l):: .one (.lk ⟨1000,1,0⟩ l[i0].line.length (.slice x.1 l[i0].line.length x.2))::dd:: .one (.own ⟨3,1,1⟩ 0 t.1)::ai t.1::mH []),[(3,⟨2,[none,b9 1 4 (jB ((ka l i0 (.raw (.slice x.1 l[i0].line.length x.2))).take t.1))]⟩),(5,⟨2,[]⟩),(16,⟨2,[]⟩),(19,⟨2,[]⟩),(23,⟨2,[]⟩),(24,⟨2,[]⟩),(1000,⟨1,[none,b9 0 1 (bt l[i0].line)]⟩)]⟩)
  (λ t=>t.1≤l.length/\(t.1≤i0↔t.2=none)) (λ _=>()) (λ t=>l.length - t.1) (0,none)
  ((Gh.nil (i:=3) (s:=3) (sz:=4) rfl).trans (Gh.canon [3] [5,16,19,23,24] [] zK rfl rfl)) ⟨bc _,by simp⟩ ?_
 rintro⟨i,x⟩ ⟨hi1,hx⟩ hF K hK
 cases x with
 |none=>
  simp only at hi1 hx hK⊢;have hx0:i≤i0:=hx.2 trivial;refine zw ?_;refine aq (λ hlt=> ?_) (λ hge=> ?_)
  .have hi:i<l.length:=by simpa using hlt
   have hat:=f8 hi;have hw:=bz hi (by omega);have hlk:=hll _ (cb hi);have h1:(l[i].line.length*8≤2^47)=True:=b5 (by omega);have htl:(l.take i).length=i:=by rw[cu];omega
   have htk:=gv (l:=l.take i);rw[htl]at htk;have hsn:aU (l.take i)++[sD l[i].name,iD l[i].bh,iD l[i].token, .sl l[i].line.length (bt l[i].line)]=aU (l.take (i+1)):=by rw[←wz hi,yZ]
   repeat'(first|exact zC|(with_reducible first|refine gA 7 ?_|refine gz 7 ?_|refine gy 7 ?_)|refine zu (I hat (I @bK (I @eu (I h1 (I htl (I htk (I hsn bw))))))) ?_|(with_reducible first|refine bH _ _ ?_)|(apply aq<;>intro hb)|(apply I;exact zI)|(apply I<;>intro hg))
   by_cases hii:i=i0
   .subst hii;refine gK (vN _ _ (acn eV mixed _ _ (WU (s:=5) (k:=3) (k':=4) (e:=7) (j:=1) (q:=1000) rfl rfl rfl rfl rfl rfl (by decide) rfl rfl) ?_));intro x _;have hsx:aU (l.take i)++[sD l[i].name,iD l[i].bh,iD l[i].token, .raw (.slice x.1 l[i].line.length x.2)]=jB ((ka l i (.raw (.slice x.1 l[i].line.length x.2))).take (i+1)):=by
     rw[←wz (by rw[lD];exact hi),Jy,vK hi,aj rfl];congr 1;rw[←Iy];congr 1;refine wv (by simp[lD]) λ j h1 h2=> ?_
     have hji:j<i:=by simp at h1;omega
     rw[yb,wy,wy,vK (by omega),aa (by omega)]
    refine az (I hat (I @bK (I @eu (I h1 (I htl (I htk (I hsx (I @W8 bw)))))))) ?_;exact hK _ (i+1,some x) (Gh.canon [3,1000] [] [1000] (zk (I hw @ND)) rfl rfl) ⟨hi,by simp⟩ trivial (by simp only;omega)
   .refine gK ?_;refine az (I hat (I @bK (I @eu (I h1 (I htl (I htk (I hsn bw))))))) ?_;exact hK _ (i+1,none) (Gh.canon [3] [] [] (zk hw) rfl rfl) ⟨hi,by simp;omega⟩ trivial (by simp only;omega)
  .exfalso;have:¬(i:Int)<l.length:=by simpa using hge
   omega
 |some x=>
  simp only at hi1 hx hK⊢;have hx0:¬i≤i0:=λ h=>by cases hx.1 h
  refine zw ?_;refine aq (λ hlt=> ?_) (λ hge=> ?_)
  .have hi:i<l.length:=by simpa using hlt
   have hat:=f8 hi;have hw:=bz hi (by omega);have hlk:=hll _ (cb hi);have h1:(l[i].line.length*8≤2^47)=True:=b5 (by omega);have htl:((ka l i0 (.raw (.slice x.1 l[i0].line.length x.2))).take i).length=i:=by rw[cu,lD];omega
   have htk:=Jl (l:=(ka l i0 (.raw (.slice x.1 l[i0].line.length x.2))).take i);rw[htl]at htk;have hsn:jB ((ka l i0 (.raw (.slice x.1 l[i0].line.length x.2))).take i)++[sD l[i].name,iD l[i].bh,iD l[i].token, .sl l[i].line.length (bt l[i].line)]=jB ((ka l i0 (.raw (.slice x.1 l[i0].line.length x.2))).take (i+1)):=by rw[←wz (by rw[lD];exact hi),Jy,vK hi,aa (by omega)];rfl
   refine az (I hat (I @bK (I @eu (I @vE (I h1 (I htl (I htk (I hsn bw)))))))) ?_;exact hK _ (i+1,some x) (Gh.canon [3,1000] [] [1000] (zk (I hw @ND)) rfl rfl) ⟨hi,by simp;omega⟩ trivial (by simp only;omega)
  .have hi:i=l.length:=by
    have:¬(i:Int)<l.length:=by simpa using hge
    omega
   subst hi;refine az trivial ?_;refine⟨1, .slice x.1 l[i0].line.length x.2,rfl,⟨_,_,rfl⟩, ?_,rfl⟩;rw[dk (by rw[lD];exact Nat.le_refl _)]
theorem X8 (l:List jd) (hl:l.length<2^62) (s:ByteArray):ah prog 217 [.f (al l.length (jB l)), .f (kG s)] (λ r o=>r=[ri (cM (gr s) (l.map jd.k) 0)]/\o=[]):=by
 refine zh func217 results217 ntmps217 call217 ?_;simp only[f217,Option.getD];refine az trivial ?_;refine bq (τ:=Nat) (λ i=>⟨(al l.length (jB l)::kG s::jt (ai i::wJ [])),[]⟩)
  (λ i=>i≤l.length) (λ i=>cM (gr s) ((l.drop i).map jd.k) i) (λ i=>l.length - i) 0
  (Gh.canon [] [] [] zK rfl rfl) (bc _) ?_
 intro i hi0 hF K hK;rw[cC]at hF;refine zw ?_;refine aq (λ hlt=> ?_) (λ hge=> ?_)
 .have hi:i<l.length:=by simpa using hlt
  have hat:=Lo hi;have hw:=bz hi hl;have hq:cM (gr s) ((l.drop i).map jd.k) i=if(l[i].k.name.toList==s.toList)=true then(i:Int)else cM (gr s) ((l.drop (i+1)).map jd.k) ((i+1:Nat):Int):=by rw[cB hi,b7,cM];rfl
  rw[hq]at hF
  repeat'(first|exact zC|refine zq (I hat (I @vE bw)) ?_|(apply aq<;>intro hb)|(apply I;exact zI)|(apply I<;>intro hg))
  .rw[aj hb]at hF;have hF:(i:Int)=cM (gr s) (l.map jd.k) 0:=hF;rw[←hF]
  .rw[aa (by rw[hb];simp)]at hq;exact hK _ (i+1) (Gh.canon [] [] [] (zk hw) rfl rfl) hi hq.symm (by omega)
 .have hi:i=l.length:=by
   have:¬(i:Int)<l.length:=by simpa using hge
   omega
  rw[hi,eL]at hF;have hF:(-1:Int)=cM (gr s) (l.map jd.k) 0:=hF;rw[←hF];exact bA trivial
theorem CO {l:List Lk} (hs:SL l) (s:ByteArray):cM (gr s) l 0=match ix l s with|none=> -1|some _=>(bJ l s:Int):=by
 rcases C7 (gr s) l 0 with⟨h1,h2⟩|⟨k,hk,h2,h3,h4⟩
 .have:ix l s=none:=tJ.2 λ x hx=>by rw[h1 x hx];simp
  rw[this];exact h2
 .cases hf:ix l s with
  |none=>exact absurd h3 (tJ.1 hf _ (cb hk))
  |some x=>
   obtain⟨⟨hp,he⟩,hx⟩:=sF hs hf;have hkp:k=bJ l s:=by
    have hne:∀{i j:Nat} (hi:i<l.length) (hj:j<l.length),i<j->gr s l[i]=true->gr s l[j]=true->False:=λ hi hj hij h1 h2=>by have:=nt.1 hs _ _ hi hj hij;simp only[gr,iz]at h1 h2;simp only[jk,h1,h2,xQ]at this;cases this
    rcases Nat.lt_trichotomy k (bJ l s)with h|h|h
    .exact(hne hk hp h h3 (by rw[he];exact hx)).elim
    .exact h
    .exact(hne hp hk h (by rw[he];exact hx) h3).elim
   have h2':cM (gr s) l 0=((0+k:Nat):Int):=h2;rw[h2'];show((0+k:Nat):Int)=(bJ l s:Int);omega
theorem WL {l:List Lk} {name:ByteArray} {c t:Int} {w:Bool} (hf:ix l name=none):cD l name c t w=if decide ((l.length:Int)≥4)=true then([],0,5)else(l.take (bJ l name)++⟨name,c,t+1,[]⟩::l.drop (bJ l name),0,0):=by unfold cD;rw[hf]
theorem KQ {α:Type} {l:List α} {j:Nat} {y:α} (hj:j≤l.length):(l.take j++y::l.drop j).length=l.length+1:=by rw[aG,cu,cL,iM];omega
theorem W9 {α:Type} {l:List α} {j i:Nat} {y:α} (hj:j≤l.length) (hi:i<j):(l.take j++y::l.drop j)[i]'(by rw[KQ hj];omega)=l[i]:=by rw[List.getElem_append_left (by rw[cu];omega),wy]
theorem WM {α:Type} {l:List α} {j:Nat} {y:α} (hj:j≤l.length) (h0:0<j):(l.take j++y::l.drop j).set j (l[j - 1]'(by omega))=l.take (j - 1)++(l[j - 1]'(by omega))::l.drop (j - 1):=by
 rw[wi _ _ (by rw[cu];omega)];rw[show j - (l.take j).length=0 by rw[cu];omega,iO]
 rw[show l.take j=l.take (j - 1)++[l[j - 1]'(by omega)] by rw[wz (by omega),show j - 1+1=j by omega]]
 rw[fH];congr 1;rw[cB (show j - 1<l.length by omega),show j - 1+1=j by omega];rfl
theorem Yk {α:Type} {l:List α} {j:Nat} {y x:α} (hj:j≤l.length):(l.take j++y::l.drop j).set j x=l.take j++x::l.drop j:=by rw[wi _ _ (by rw[cu];omega),show j - (l.take j).length=0 by rw[cu];omega,iO]
abbrev PK:Lk:=⟨.empty,0,0,[]⟩
theorem XB (l:List Lk) (hs:SL l) (hl:l.length<2^30) (hll:∀k∈l,k.line.length<2^30) (name:ByteArray) (c t:Int) (ht:0≤t/\t<2^62) (w:Bool) (hf:ix l name=none):
  ah prog 207 [.f (al l.length (aU l)), .f (kG name), .f (ai c), .f (ai t), .f (ab w)]
  (λ r o=>r=[.one (.own 4 (cD l name c t w).1.length (aU (cD l name c t w).1) false),ri (cD l name c t w).2.1,ri (cD l name c t w).2.2]/\o=[]):=by
 refine ah.nil ?_;refine zh func207 results207 ntmps207 call207 ?_;simp only[f207,Option.getD];have hco:=C0 l hl hll;have hfi:=Gm l (by omega) name;rw[CO hs,hf]at hfi;simp only at hfi;rw[WL hf];have hwt:IntKind.i64.wrap (t+1)=t+1:=wrap64 (by omega) (by omega);have hm1:decide ((-1:Int)<0)=true:=rfl;cases h4:decide ((l.length:Int)≥4)
 .rw[aa (by simp)];have hlt4:l.length<4:=by simp at h4;omega
  have hp:=Hg (p:=λ x:Lk=>jk x.name name) (l:=l);refine zL (I hm1 (I h4 (I @bK @gv))) (I (hco) (hfi)) ?_;refine ab0 (τ:=Unit) (λ _=>⟨(dd::kG name::ai c::ai t::r8 (.one (.own ⟨13,1,1⟩ 0 l.length)::dd::ai (bJ l name:Int)::rY (b8 (b8 [])))),[(20,⟨2,[]⟩),(13,⟨2,[none,b9 1 4 (aU l)]⟩)]⟩) (λ _=>True) (λ _ _=> ?_) (λ Kx hKx=> ?_)
  .have hlz:aU l++[D.v (.string .empty),D.v (.int .i64 0),D.v (.int .i64 0), .sl 0 []]=aU (l.take l.length++PK::l.drop l.length):=by rw[lP,eL,yZ];rfl
   have hw1:IntKind.i64.wrap (((l.length+1:Nat):Int) - 1)=(l.length:Int):=by rw[wrap64 (by omega) (by omega)];omega
   have hbig:((l.length+1)*48≤2^47)=True:=b5 (by omega);refine az (I @bK (I @gv (I hlz (I hw1 hbig)))) ?_;refine bq (τ:=Nat×Lk) (λ q=>⟨(dd::kG name::ai c::ai t::r8 (.one (.own ⟨13,1,1⟩ 0 (l.length+1))::dd::ai (bJ l name:Int)::ai q.1::vd (b8 (b8 [])))),[(20,⟨2,[]⟩),(13,⟨2,[none,b9 1 4 (aU (l.take q.1++q.2::l.drop q.1))]⟩),(46,⟨2,[]⟩)]⟩)
    (λ q=>bJ l name≤q.1/\q.1≤l.length) (λ _=>()) (λ q=>q.1) (l.length,PK) (Gh.canon [13] [] [] zK rfl rfl) ⟨hp,Nat.le_refl _⟩ ?_
   rintro⟨j,y⟩ ⟨hj1,hj2⟩ hF K hK
   simp only at hj1 hj2 hK⊢;have hlen:=KQ (l:=l) (j:=j) (y:=y) hj2;by_cases hjp:bJ l name<j
   .have hd:decide ((j:Int)>(bJ l name:Int))=true:=by simpa using hjp
    have hw:IntKind.i64.wrap ((j:Int) - 1)=((j - 1:Nat):Int):=by rw[wrap64 (by omega) (by omega)];omega
    have hat:=f8 (l:=l.take j++y::l.drop j) (i:=j - 1) (by omega);rw[W9 hj2 (by omega)]at hat;have hset:=LF Lk.enc 4 (λ _=>rfl) (l:=l.take j++y::l.drop j) (i:=j) (by omega) (l[j - 1]'(by omega));rw[WM hj2 (by omega)]at hset;simp only[cO,b7,fY]at hset;refine az (I hd (I hw (I hat (I @lu (I @b7.{0,0} (I @bK (I hlen (I @cO.eq_1 (I hset bw))))))))) ?_;exact hK _ (j - 1,l[j - 1]'(by omega)) (Gh.canon [13] [] [] zK rfl rfl) ⟨by omega,by omega⟩ trivial (by simp only;omega)
   .have hjj:j=bJ l name:=by omega
    have hd:decide ((j:Int)>(bJ l name:Int))=false:=by simp;omega
    have hset:=LF Lk.enc 4 (λ _=>rfl) (l:=l.take j++y::l.drop j) (i:=j) (by omega) ⟨name,c,t+1,[]⟩;rw[Yk hj2]at hset;simp only[cO,b7,fY,fN,qB]at hset;subst hjj;refine az (I hd (I hwt (I @bK (I hlen (I @cO.eq_1 hset))))) ?_;have hp':bJ l name≤l.length:=hp;simp[pL,ak];omega
  .refine bq (τ:=Nat) (λ i=>⟨(dd::kG name::ai c::ai t::r8 (.one (.own ⟨13,1,1⟩ 0 l.length)::dd::ai i::rY (b8 (b8 [])))),[(20,⟨2,[]⟩),(13,⟨2,[none,b9 1 4 (aU l)]⟩)]⟩)
    (λ i=>i≤bJ l name) (λ _=>()) (λ i=>l.length - i) 0 (Gh.canon [13] [] [] zK rfl rfl) (bc _) ?_
   intro i hi0 hF K hK;by_cases hi:i<l.length
   .have hat:=f8 hi;have hd:decide ((i:Int)<(l.length:Int))=true:=by simpa using hi
    have hw:=bz hi (by omega)
    repeat'(first|exact zC|refine zq (I hd (I hat (I @lu (I @b7.{0,0} (I @bK bw))))) ?_|(apply aq<;>intro hb)|(apply I;exact zI)|(apply I<;>intro hg))
    .have hip:i<bJ l name:=Nat.lt_of_not_le λ h=>by have:Go.Op.bytesLess l[i].name.toList name.toList=false:=Ds hi (Hc hs name) h;rw[hb]at this;cases this
     exact hK _ (i+1) (Gh.canon [13] [] [] (zk hw) rfl rfl) hip rfl (by omega)
    .have hip:i=bJ l name:=Nat.le_antisymm hi0 (Nat.le_of_not_lt λ h=>by have:Go.Op.bytesLess l[i].name.toList name.toList=true:=DG hi h;rw[hb]at this;cases this)
     subst hip;exact hKx _ () (Gh.canon [13] [] [] zK rfl rfl) trivial
   .have hd:decide ((i:Int)<(l.length:Int))=false:=by simpa using hi
    have hdr:(aU l).drop (i*4)=[]:=D4 (by rw[bK];omega);refine az (I hd (I hdr (I @lu (I @fY.{0,0} @bK)))) ?_;have hip:i=bJ l name:=by have:bJ l name≤l.length:=hp;omega
    subst hip;exact hKx _ () (Gh.canon [13] [] [] zK rfl rfl) trivial
 .rw[aj rfl];refine zL (I hm1 (I h4 (I @bK @gv))) (I (hco) (hfi)) ?_;simp[pL,ak]
theorem Jp {l:List Lk} {name:ByteArray} {c t:Int} {w:Bool} {k:Lk} (hf:ix l name=some k) (hc:fq c=true):cD l name c t w=if(k.bh==c)=true then([],0,7)else if(!w)=true then([],0,8)else
  if dc k.line c=true then(l,AP k.line c,10)else if decide ((k.line.length:Int)≥3)=true then([],0,5)else(l.set (bJ l name) ⟨k.name,k.bh,k.token,k.line++[c]⟩,k.line.length,10):=by
 unfold cD;rw[hf];simp only;split
 .rfl
 .split
  .rfl
  .split
   .rfl
   .rename_i h;have hj:qt k.line c=if decide ((k.line.length:Int)≥3)=true then([],0,5)else(k.line++[c],(k.line.length:Int),0):=by unfold qt;rw[aa (by rw[hc];simp),aa h]
    rw[hj];cases decide ((k.line.length:Int)≥3)
    .rfl
    .rfl
theorem Xo (l:List Lk) (hs:SL l) (hl:l.length<2^30) (hll:∀k∈l,k.line.length<2^30) (name:ByteArray) (c t:Int) (hc:fq c=true) (w:Bool) (k:Lk) (hf:ix l name=some k)
  (hx:(k.bh==c)=true∨w=false∨dc k.line c=true∨decide ((k.line.length:Int)≥3)=true):
  ah prog 207 [.f (al l.length (aU l)), .f (kG name), .f (ai c), .f (ai t), .f (ab w)]
  (λ r o=>r=[.one (.own 4 (cD l name c t w).1.length (aU (cD l name c t w).1) false),ri (cD l name c t w).2.1,ri (cD l name c t w).2.2]/\o=[]):=by
 refine ah.nil ?_;refine zh func207 results207 ntmps207 call207 ?_;simp only[f207,Option.getD];have hco:=C0 l hl hll;have hfi:=Gm l (by omega) name;rw[CO hs,hf]at hfi;simp only at hfi;have htk:=Jp (t:=t) (w:=w) hf hc;generalize cD l name c t w=R at htk⊢;obtain⟨⟨hi,he⟩,hn⟩:=sF hs hf;have hat:=f8 hi;rw[he]at hat;have hkl:=hll k (he▸cb hi);have hah:=Gf k.line (by omega) c;have hm1:decide ((bJ l name:Int)<0)=false:=by simp
 have hat1:(aU l).drop (bJ l name*4+1)=iD k.bh::iD k.token:: .sl k.line.length (bt k.line)::aU (l.drop (bJ l name+1)):=by rw[←jD,hat];rfl
 have hat3:(aU l).drop (bJ l name*4+3)= .sl k.line.length (bt k.line)::aU (l.drop (bJ l name+1)):=by rw[←jD,hat];rfl
 cases h1:(k.bh==c)
 .cases w
  .refine zL (I hm1 (I h1 (I hat1 (I @lu (I @b7.{0,0} (I @oB.{0} (I @cC.{0} (I @bK (I @gv bw))))))))) (I (hco) (hfi)) ?_;rw[aa (by rw[h1];simp),aj (show(!false)=true from rfl)]at htk;rw[htk];simp[pL,ak]
  .rw[aa (by rw[h1];simp),aa (by simp)]at htk;cases h3:dc k.line c
   .rw[aa (by rw[h3];simp)]at htk;have h4:decide ((k.line.length:Int)≥3)=true:=by rcases hx with h|h|h|h<;>simp_all
    rw[aj h4]at htk;rw[h3]at hah;refine zL (I hm1 (I h1 (I h3 (I h4 (I hat1 (I hat3 (I @lu (I @b7.{0,0} (I @oB.{0} (I @cC.{0} (I @bK (I @gv bw)))))))))))) (I (hco) (I (hfi) (hah))) ?_;rw[htk];simp[pL,ak]
   .rw[aj h3]at htk;rw[h3]at hah;refine zL (I hm1 (I h1 (I h3 (I hat1 (I hat3 (I @lu (I @b7.{0,0} (I @oB.{0} (I @cC.{0} (I @bK (I @gv bw))))))))))) (I (hco) (I (hfi) (hah))) ?_;rw[htk];simp[pL,ak]
 .refine zL (I hm1 (I h1 (I hat1 (I @lu (I @b7.{0,0} (I @oB.{0} (I @cC.{0} (I @bK (I @gv bw))))))))) (I (hco) (hfi)) ?_;rw[aj h1]at htk;rw[htk];simp[pL,ak]
theorem Yq (l:List Lk) (hs:SL l) (hl:l.length<2^30) (hll:∀k∈l,k.line.length<2^30) (name:ByteArray) (c t:Int) (hc:fq c=true) (w:Bool) (k:Lk) (hf:ix l name=some k)
  (h1:(k.bh==c)=false) (hw:w=true) (h3:dc k.line c=false) (h4:decide ((k.line.length:Int)≥3)=false):
  ah prog 207 [.f (al l.length (aU l)), .f (kG name), .f (ai c), .f (ai t), .f (ab w)]
  (λ r o=>r=[.one (.own 4 (cD l name c t w).1.length (aU (cD l name c t w).1) false),ri (cD l name c t w).2.1,ri (cD l name c t w).2.2]/\o=[]):=by
 refine ah.nil ?_;refine zh func207 results207 ntmps207 call207 ?_;simp only[f207,Option.getD];have htk:=Jp (t:=t) (w:=w) hf hc;subst hw;rw[aa (by rw[h1];simp),aa (by simp),aa (by rw[h3];simp),aa (by rw[h4];simp)]at htk;rw[htk];obtain⟨⟨hi,he⟩,hn⟩:=sF hs hf;have hco:=Yh l hl hll (bJ l name) hi;rw[he]at hco;have hkl:=hll k (he▸cb hi);have hah:=Gf k.line (by omega) c;rw[h3]at hah;have hm1:decide ((bJ l name:Int)<0)=false:=by simp
 repeat'(first|exact zC|(with_reducible first|refine gA 1 ?_|refine gz 1 ?_|refine gy 1 ?_)|refine TH ?_|(with_reducible first|refine bH _ _ ?_)|(apply aq<;>intro hb)|(apply I;exact zI)|(apply I<;>intro hg))
 refine gK (vN _ _ (XM eV mixed 1 (q:=5) (v1:=(al l.length (aU l)::kG name::ai c::ai t::ab true::pT (.one (.d (.v (.slice none 0 0)))::ai 0::ai 0::lq (al l.length (aU l)::wB (b8 (b8 [])))))) (r1:=[]) rfl rfl rfl rfl (λ K hK=> ?_) ?_ ?_ rfl hco rfl (by decide) ?_))
 .refine az (I @qA.{0} @uM.{0}) ?_;exact hK
 .exact trivial
 .exact⟨trivial,trivial⟩
 rintro x ⟨a,cap,rfl⟩
 have hfi:=X8 (ka l (bJ l name) (.raw (.slice a k.line.length cap))) (by rw[lD];omega) name;rw[acD,CO hs,hf,lD]at hfi;simp only at hfi;have hil:bJ l name<(ka l (bJ l name) (.raw (.slice a k.line.length cap))).length:=by rw[lD];exact hi
 have hat:=Lo hil;rw[vK hi,aj rfl,he]at hat;have htk:=Jl (l:=ka l (bJ l name) (.raw (.slice a k.line.length cap)));rw[lD]at htk;have hat1:(jB (ka l (bJ l name) (.raw (.slice a k.line.length cap)))).drop (bJ l name*4+1)=iD k.bh::iD k.token:: .raw (.slice a k.line.length cap)::jB ((ka l (bJ l name) (.raw (.slice a k.line.length cap))).drop (bJ l name+1)):=by rw[←jD,hat];rfl
 have hat3:(jB (ka l (bJ l name) (.raw (.slice a k.line.length cap)))).drop (bJ l name*4+3)= .raw (.slice a k.line.length cap)::jB ((ka l (bJ l name) (.raw (.slice a k.line.length cap))).drop (bJ l name+1)):=by rw[←jD,hat];rfl
 repeat'(first|exact zC|(with_reducible first|refine gA 20 ?_|refine gz 20 ?_|refine gy 20 ?_)|refine zu (I hm1 (I h1 (I @oB.{0} (I @cC.{0} (I hat1 (I htk (I @lu (I @b7.{0,0} (I @vE @lD))))))))) ?_|(with_reducible first|refine bH _ _ ?_)|refine zx (hfi) ?_|(apply aq<;>intro hb)|(apply I;exact zI)|(apply I<;>intro hg))
 refine gK (vN _ _ (Ll eV mixed 5 ?_));refine az (I @qA.{0} (I @uM.{0} (I hat3 (I @lu (I @b7.{0,0} (I @vE @lD)))))) ?_;refine⟨_,Gh.view (i:=87) (j:=5) rfl rfl, ?_⟩
 repeat'(first|exact zC|(with_reducible first|refine gA 26 ?_|refine gz 26 ?_|refine gy 26 ?_)|refine zu (I @oB.{0} (I @cC.{0} (I h4 (I hat3 (I @lu (I @b7.{0,0} (I @vE @lD))))))) ?_|(with_reducible first|refine bH _ _ ?_)|refine zx (hah) ?_|(apply aq<;>intro hb)|(apply I;exact zI)|(apply I<;>intro hg))
 refine gK (vN _ _ (Ll eV mixed 7 ?_));refine az (I @qA.{0} (I @uM.{0} (I hat3 (I @lu (I @b7.{0,0} (I @vE @lD)))))) ?_;refine⟨_,Gh.view (i:=114) (j:=5) rfl rfl, ?_⟩;have hie:bt (k.line++[c])=bt k.line++[iD c]:=by simp[bt]
 have hset:=vR jd.enc 4 (λ _=>rfl) hil (k:=3) (by decide) (.sl (k.line.length+1) (bt k.line++[iD c])) (plain ⟨k.name,k.bh,k.token,k.line++[c]⟩)
  (by rw[vK hi,aj rfl,he,plain];simp only[jd.enc,aG,bG,hie];rfl)
 rw[show(ka l (bJ l name) (.raw (.slice a k.line.length cap))).set (bJ l name) (plain ⟨k.name,k.bh,k.token,k.line++[c]⟩)=(l.set (bJ l name) ⟨k.name,k.bh,k.token,k.line++[c]⟩).map plain from by
  refine wv (by simp[lD]) λ j h1 h2=> ?_
  have hj:j<l.length:=by simpa using h2
  rw[uI,yb,uI];split
  .rfl
  .rw[vK hj,aa (by omega)],show List.flatMap jd.enc ((l.set (bJ l name) ⟨k.name,k.bh,k.token,k.line++[c]⟩).map plain)=aU (l.set (bJ l name) ⟨k.name,k.bh,k.token,k.line++[c]⟩) from Iy]at hset
 have hi1:(bt k.line).take (k.line.length*1)=bt k.line:=dk (by rw[eu];omega);have hi2:(bt k.line++[D.v (.int .i64 c)]).take (k.line.length+1)=bt k.line++[D.v (.int .i64 c)]:=dk (by rw[aG,eu];exact Nat.le_refl _);have hbig:((k.line.length+1)*8≤2^47)=True:=b5 (by omega);refine az (I @oB.{0} (I @cC.{0} (I hset (I @eu (I hi1 (I hi2 (I hbig (I @lu (I @b7.{0,0} (I @vE @lD)))))))))) ?_;simp[pL,ak]
theorem Zd (l:List Lk) (hs:SL l) (hl:l.length<2^30) (hll:∀k∈l,k.line.length<2^30) (name:ByteArray) (c t:Int) (ht:0≤t/\t<2^62) (hc:fq c=true) (w:Bool):
  ah prog 207 [.f (al l.length (aU l)), .f (kG name), .f (ai c), .f (ai t), .f (ab w)]
  (λ r o=>r=[.one (.own 4 (cD l name c t w).1.length (aU (cD l name c t w).1) false),ri (cD l name c t w).2.1,ri (cD l name c t w).2.2]/\o=[]):=by
 cases hf:ix l name with
 |none=>exact XB l hs hl hll name c t ht w hf
 |some k=>
  by_cases hx:(k.bh==c)=true∨w=false∨dc k.line c=true∨decide ((k.line.length:Int)≥3)=true
  .exact Xo l hs hl hll name c t hc w k hf hx
  .simp only[kY,Bb,Bool.not_eq_false]at hx;exact Yq l hs hl hll name c t hc w k hf hx.1 hx.2.1 hx.2.2.1 hx.2.2.2
theorem aak {l:List Int} {c:Int}:iF l [c]=l.filter λ x=> !(x==c):=by unfold iF dc;congr 1;funext x;simp[Hv]
theorem U6:∀{l:List Int} {c:Int},l.Nodup->dc l c=true->(sU l c).1=iF l [c]:=λ {l c} hn hc=>by
 rw[aak];unfold sU;rcases C7 (λ x=>c==x) l 0 with⟨h1,_⟩|⟨k,hk,h2,h3,h4⟩
 .exfalso;unfold dc at hc;obtain⟨x,hx,hx2⟩:=wb.1 hc;rw[h1 x hx]at hx2;cases hx2
 .have h2':cM (λ x=>c==x) l 0=((0+k:Nat):Int):=h2;rw[h2',aa (by omega)];simp only[cc,gW];have hck:c=l[k]:=by simpa using h3
  subst hck;clear h2 h2' h3 h4 hc;induction l generalizing k with
  |nil=>simp at hk
  |cons y l ih=>
   have hn':=uS.1 hn;cases k with
   |zero=>
    simp only[List.eraseIdx_cons_zero,List.getElem_cons_zero,tf,wo,dx,lU,cE];refine(List.filter_eq_self.2 λ x hx=> ?_).symm;have:x≠y:=λ e=>hn'.1 (e▸hx)
    simpa using this
   |succ k=>
    have hk':k<l.length:=by simpa using hk
    simp only[List.eraseIdx_cons_succ,Eg,tf];have:y≠l[k]:=λ e=>hn'.1 (e▸cb hk')
    rw[aj (by simpa using this),ih hn'.2 k hk']
theorem Lq (l:List Lk) (hs:SL l) (hl:l.length<2^30) (hll:∀k∈l,k.line.length<2^30/\k.line.Nodup) (name:ByteArray) (c t:Int) (ht:0≤t/\t<2^62):
  ah prog 209 [.f (al l.length (aU l)), .f (kG name), .f (ai c), .f (ai t)]
  (λ r o=>r=[.one (.own 4 (ek l name c t).1.length (aU (ek l name c t).1) false),ri (ek l name c t).2.1,ri (ek l name c t).2.2]/\o=[]):=by
 refine ah.nil ?_;refine zh func209 results209 ntmps209 call209 ?_;simp only[f209,Option.getD];have hco:=C0 l hl (λ k hk=>(hll k hk).1);have hfi:=Gm l (by omega) name;rw[CO hs]at hfi;have hwt:IntKind.i64.wrap (t+1)=t+1:=wrap64 (by omega) (by omega);cases hf:ix l name with
 |none=>
  rw[hf]at hfi;simp only at hfi;have hm1:decide ((-1:Int)<0)=true:=rfl;have hfr:ek l name c t=([],0,6):=by unfold ek;rw[hf]
  rw[hfr];refine zL (I hm1 @gv) (I (hco) (hfi)) ?_;simp[pL,ak]
 |some k=>
  rw[hf]at hfi;simp only at hfi;obtain⟨⟨hi,he⟩,hn⟩:=sF hs hf;have hat:=f8 hi;rw[he]at hat;obtain⟨hkl,hkn⟩:=hll k (he▸cb hi);have hah:=Gf k.line (by omega) c;have hm1:decide ((bJ l name:Int)<0)=false:=by simp
  have hat1:(aU l).drop (bJ l name*4+1)=iD k.bh::iD k.token:: .sl k.line.length (bt k.line)::aU (l.drop (bJ l name+1)):=by rw[←jD,hat];rfl
  have hat3:(aU l).drop (bJ l name*4+3)= .sl k.line.length (bt k.line)::aU (l.drop (bJ l name+1)):=by rw[←jD,hat];rfl
  have hfr:ek l name c t=if(k.bh==c)=true then((np l (bJ l name) k t).1,(np l (bJ l name) k t).2,0)else
    if dc k.line c=true then(l.set (bJ l name) ⟨k.name,k.bh,k.token,(sU k.line c).1⟩,0,0)else([],0,6):=by unfold ek;rw[hf]
  cases h1:(k.bh==c)
  .have h1':(k.bh !=c)=true:=by rw[bne,h1];rfl
   rw[aa (by rw[h1];simp)]at hfr;cases h3:dc k.line c
   .rw[aa (by rw[h3];simp)]at hfr;rw[hfr];rw[h3]at hah;refine zL (I hm1 (I h1' (I hat1 (I hat3 (I @lu (I @b7.{0,0} (I @bK @gv))))))) (I (hco) (I (hfi) (hah))) ?_;simp[pL,ak]
   .rw[aj h3,U6 hkn h3]at hfr;rw[hfr];rw[h3]at hah;have hwo:=IE k.line [c] hkl (by simp);have hset:=vR Lk.enc 4 (λ _=>rfl) hi (k:=3) (by decide) (.sl (iF k.line [c]).length (bt (iF k.line [c]))) ⟨k.name,k.bh,k.token,iF k.line [c]⟩ (by rw[he];rfl);have hwl:(bt (iF k.line [c])).take ((iF k.line [c]).length*1)=bt (iF k.line [c]):=dk (by rw[eu];omega);refine zL (I hm1 (I h1' (I hat1 (I hat3 (I hset (I hwl (I @tX.eq_1 (I @eu (I @lu (I @b7.{0,0} (I @bK @gv))))))))))) (I (hco) (I (hfi) (I (hah) (hwo)))) ?_;simp[pL,ak]
  .have h1':(k.bh !=c)=false:=by rw[bne,h1];rfl
   rw[aj h1]at hfr;rw[hfr];unfold np;cases hk:k.line with
   |nil=>
    rw[hk]at hat1 hat3;simp only[fN,qB]at hat1 hat3;have hE:=X6 Lk.enc 4 (λ _=>rfl) hi;have hE2:((aU l).drop ((bJ l name+1)*4)).take ((l.length - (bJ l name+1))*4)=(aU l).drop ((bJ l name+1)*4):=dk (by rw[iM,bK];omega);have hz:(((0:Nat):Int)==0)=true:=rfl;have hw:IntKind.i64.wrap ((bJ l name:Int)+1)=((bJ l name+1:Nat):Int):=by rw[wrap64 (by omega) (by omega)];omega
    have hq1:((aU l).take (bJ l name*4)).length=bJ l name*4:=by rw[cu,bK];omega
    have hq2:((aU l).drop ((bJ l name+1)*4)).length=(l.length - (bJ l name+1))*4:=by rw[iM,bK];omega
    have hB1:(bJ l name*56≤2^47)=True:=b5 (by omega);have hB2:((bJ l name+(l.length - (bJ l name+1)))*56≤2^47)=True:=b5 (by omega);have hB3:(((bJ l name+1:Nat):Int)≤(l.length:Int))=True:=b5 (by omega);have hB4:((bJ l name:Int)≤(l.length:Int))=True:=b5 (by omega);have hB5:(0≤((bJ l name+1:Nat):Int))=True:=b5 (by omega);have hTT:((aU l).take (bJ l name*4)).take (bJ l name*4)=(aU l).take (bJ l name*4):=dk (by omega);have hTA:(aU l).take (bJ l name*4)++(aU l).drop ((bJ l name+1)*4)=aU (l.eraseIdx (bJ l name)):=hE.symm;have hle:(l.eraseIdx (bJ l name)).length=bJ l name+(l.length - (bJ l name+1)):=by rw[List.length_eraseIdx_of_lt hi];omega
    repeat'(first|(with_reducible first|refine bH _ _ ?_|refine fC ?_|refine fD ?_)|rw[dE]|simp only[hm1,h1',hat1,hat3,hz,hw,hE2,hq1,hq2,hB1,hB2,hB3,hB4,hB5,hTT,hTA,Int.le_refl,←la,b7,bK,gv,zY,Int.reduceEq,Int.reduceBEq,Int.reduceBNe,Nat.reduceSub,Nat.reduceEqDiff,Nat.reduceAdd,Nat.reduceMul,Nat.reduceLeDiff,Nat.reduceLT,Nat.reduceBEq,reduceCtorEq]|((first|((try refine eH ?_);apply eb)|(apply fm;intro _));(solve|exact(hco)|exact(hfi)|(refine ah.le (hco) ?_;exact zM)|(refine ah.le (hfi) ?_;exact zM)|fail);try case hn=>rfl)|refine eA ?_|refine aq (λ hb=> ?_) (λ hb=> ?_)|(refine And.intro ?_ ?_;exact zI)|refine And.intro (λ hg=> ?_) (λ hg=> ?_)|exact zC|fail)
    simp[pL,ak,hle]
   |cons x rest=>
    rw[hk]at hat1 hat3;have hz:(((rest.length+1:Nat):Int)==0)=false:=by simp;omega
    have hrl:rest.length<2^30:=by rw[hk,cL]at hkl;omega
    have hn1:rest.length+1 - 1=rest.length:=rfl;have hT:(bt rest).take rest.length=bt rest:=dk (by rw[eu];exact Nat.le_refl _);have hBr:(rest.length*8≤2^47)=True:=b5 (by omega);have hnx:=uS.1 (hk▸hkn);have hset1:=vR Lk.enc 4 (λ _=>rfl) hi (k:=1) (by decide) (iD x) ⟨k.name,x,k.token,x::rest⟩ (by rw[he,←hk];rfl);obtain⟨l1,hl1⟩:∃l1,l1=l.set (bJ l name) ⟨k.name,x,k.token,x::rest⟩:=⟨_,rfl⟩;have hi1:bJ l name<l1.length:=by rw[hl1];simpa using hi
    have hg1:l1[bJ l name]=⟨k.name,x,k.token,x::rest⟩:=by simp[hl1]
    have hset2:=vR Lk.enc 4 (λ _=>rfl) hi1 (k:=3) (by decide) (.sl rest.length (bt rest)) ⟨k.name,x,k.token,rest⟩ (by rw[hg1];rfl);obtain⟨l2,hl2⟩:∃l2,l2=l1.set (bJ l name) ⟨k.name,x,k.token,rest⟩:=⟨_,rfl⟩;have hi2:bJ l name<l2.length:=by rw[hl2];simpa using hi1
    have hg2:l2[bJ l name]=⟨k.name,x,k.token,rest⟩:=by simp[hl2]
    have hset3:=vR Lk.enc 4 (λ _=>rfl) hi2 (k:=2) (by decide) (iD (t+1)) ⟨k.name,x,t+1,rest⟩ (by rw[hg2];rfl);have hl3:l2.set (bJ l name) ⟨k.name,x,t+1,rest⟩=l.set (bJ l name) ⟨k.name,x,t+1,rest⟩:=by rw[hl2,hl1,List.set_set,List.set_set]
    rw[←hl1]at hset1;rw[←hl2]at hset2;rw[hl3]at hset3;have hat3':=f8 hi1;rw[hg1]at hat3';have hat3':(aU l1).drop (bJ l name*4+3)= .sl (x::rest).length (bt (x::rest))::aU (l1.drop (bJ l name+1)):=by rw[←jD,hat3'];rfl
    have hll1:l1.length=l.length:=by rw[hl1,u6]
    refine zL (I hm1 (I h1' (I hat1 (I hat3 (I hat3' (I hz (I hwt (I hset1 (I hset2 (I hset3 (I @eu (I hn1 (I hT (I hBr (I hll1 (I @lu (I @b7.{0,0} (I @bK @gv)))))))))))))))))) (I (hco) (hfi)) ?_;simp[pL,ak]
theorem acv {l m:List Lk} (h:SL l) (hs:(m.map Lk.name).Sublist (l.map Lk.name)):SL m:=by
 have h1:(l.map Lk.name).Pairwise λ a b=>jk a b=true:=rP.2 h
 exact rP.1 (h1.sublist hs)
theorem aaZ {gone:List Int} {l:List Lk}:(l.map (eZ gone)).map Lk.name=l.map Lk.name:=by rw[rT];rfl
theorem abW {l:List Lk} (hs:SL l) {i:Nat} (hi:i<l.length):ix l l[i].name=some l[i]/\bJ l l[i].name=i:=by
 have hself:∀x:Lk,gr x.name x=true:=λ x=>by simp[gr]
 have hne:∀{a b:Nat} (ha:a<l.length) (hb:b<l.length),a<b->l[a].name.toList=l[b].name.toList->False:=λ ha hb hab h=>by have:=nt.1 hs _ _ ha hb hab;simp only[jk,h,xQ]at this;cases this
 have key:∀{j:Nat} (hj:j<l.length),gr l[i].name l[j]=true->j=i:=λ {j} hj h=>by
  simp only[gr,iz]at h;rcases Nat.lt_trichotomy j i with h1|h1|h1
  .exact(hne hj hi h1 h).elim
  .exact h1
  .exact(hne hi hj h1 h.symm).elim
 cases hf:ix l l[i].name with
 |none=>exact absurd (hself l[i]) (tJ.1 hf _ (cb hi))
 |some x=>
  obtain⟨⟨hp,he⟩,hx⟩:=sF hs hf;have:=key hp (by rw[he];exact hx);refine⟨?_,this⟩;rw[←he];simp only[this]
theorem HS {gone:List Int} {k:Lk} (h:k.line.length<2^30/\k.line.Nodup):(eZ gone k).line.length<2^30/\(eZ gone k).line.Nodup:=
 ⟨yl (tr ..) h.1,h.2.filter _⟩
theorem Zp (l:List Lk) (hs:SL l) (hl:l.length<2^30) (hll:∀k∈l,k.line.length<2^30/\k.line.Nodup) (gone:List Int) (hg:gone.length<2^30) (t:Int) (ht:0≤t/\t≤2^61):
  ah prog 203 [.f (al l.length (aU l)), .f (al gone.length (bt gone)), .f (ai t)]
  (λ r o=>r=[.one (.own 4 (jC l gone t).1.length (aU (jC l gone t).1) false),ri (jC l gone t).2]/\o=[]):=by
 refine zh func203 results203 ntmps203 call203 ?_;simp only[f203,Option.getD];have hco:=C0 l hl (λ k hk=>(hll k hk).1);refine zL (I @bK @gv) (hco) ?_;refine bq (τ:=Nat) (λ i=>⟨(al l.length (aU l)::al gone.length (bt gone)::ai t::pT (.one (.own ⟨8,1,1⟩ 0 l.length)::ai i::wB (b8 []))),[(16,⟨2,[]⟩),(8,⟨2,[none,b9 1 4 (aU (jN l gone i))]⟩),(31,⟨2,[]⟩)]⟩)
  (λ i=>i≤l.length) (λ _=>()) (λ i=>l.length - i) 0
  (Gh.canon [8] [31] [] zK rfl rfl) (bc _) ?_
 intro i hi0 hF K hK;refine zw ?_;refine aq (λ hlt=> ?_) (λ hge=> ?_)
 .have hi:i<l.length:=by simpa using hlt
  obtain⟨hic,hce⟩:=aaR (gone:=gone) hi;have hat:=f8 hic;rw[hce]at hat;have hat2:(aU (jN l gone i)).drop (i*4+3)= .sl l[i].line.length (bt l[i].line)::aU ((jN l gone i).drop (i+1)):=by rw[←jD,hat];rfl
  have hw:=bz hi (by omega);have hwo:=IE l[i].line gone (hll _ (cb hi)).1 hg;have hset:=vR Lk.enc 4 (λ _=>rfl) hic (k:=3) (by decide) (.sl (iF l[i].line gone).length (bt (iF l[i].line gone))) (eZ gone l[i]) (by rw[hce];rfl);rw[XR hi]at hset;have hwl:(bt (iF l[i].line gone)).take ((iF l[i].line gone).length*1)=bt (iF l[i].line gone):=dk (by rw[eu];omega)
  repeat'(first|(with_reducible first|refine bH _ _ ?_|refine fC ?_|refine fD ?_)|rw[dE]|simp only[hat2,hset,hwl,tX,←la,b7,bK,ZG hi0,zY,Int.reduceEq,Int.reduceBEq,Int.reduceBNe,Nat.reduceSub,Nat.reduceEqDiff,Nat.reduceAdd,Nat.reduceMul,Nat.reduceLeDiff,Nat.reduceLT,Nat.reduceBEq,reduceCtorEq]|((first|((try refine eH ?_);apply eb)|(apply fm;intro _));(solve|exact(hwo)|(refine ah.le (hwo) ?_;exact zM)|fail);try case hn=>rfl)|refine eA ?_|refine aq (λ hb=> ?_) (λ hb=> ?_)|(refine And.intro ?_ ?_;exact zI)|refine And.intro (λ hg=> ?_) (λ hg=> ?_)|exact zC|fail)
  exact hK _ (i+1) (Gh.canon [8] [] [] (zk hw) rfl rfl) hi rfl (by omega)
 .have hi:i=l.length:=by
   have:¬(i:Int)<l.length:=by simpa using hge
   omega
  rw[hi,aab];have hdP:jC l gone t=eK gone t (l.map (eZ gone)) 0:=rfl;rw[hdP];obtain⟨W,hW⟩:∃W,W=l.map (eZ gone):=⟨_,rfl⟩;have hWl:W.length=l.length:=by rw[hW,bE]
  have hWn:W.map Lk.name=l.map Lk.name:=by rw[hW];exact aaZ
  have hWg:∀(j:Nat) (hj:j<l.length),W[j]'(by omega)=eZ gone l[j]:=λ j hj=>by simp[hW]
  have hWk:∀k∈W,k.line.length<2^30/\k.line.Nodup:=λ k hk=>by rw[hW]at hk;obtain⟨k0,hk0,rfl⟩:=kx.1 hk;exact HS (hll k0 hk0)
  rw[←hW];clear hdP hW;refine az trivial ?_;refine bq (τ:=List Lk×Nat×Int) (λ q=>⟨(al l.length (aU l)::al gone.length (bt gone)::ai t::pT (.one (.own ⟨8,1,1⟩ 0 (q.1++W.drop q.2.1).length)::dd::ai q.2.2::ai q.2.1::qM (b8 []))),[(16,⟨2,[]⟩),(8,⟨2,[none,b9 1 4 (aU (q.1++W.drop q.2.1))]⟩),(31,⟨2,[]⟩),(12,⟨2,[]⟩),(62,⟨2,[]⟩)]⟩)
   (λ q=>q.2.1≤l.length/\(0≤q.2.2/\q.2.2≤q.2.1)/\(q.1.map Lk.name).Sublist ((l.take q.2.1).map Lk.name)/\∀k∈q.1,k.line.length<2^30/\k.line.Nodup)
   (λ q=>(q.1++(eK gone t (W.drop q.2.1) q.2.2).1,(eK gone t (W.drop q.2.1) q.2.2).2)) (λ q=>l.length - q.2.1) ([],0,0)
   (Gh.canon [8] [12,62] [] (zk (I @cC.{0} (I @c5.{0} hWl))) rfl rfl) ⟨bc _,⟨Int.le_refl _,Int.le_refl _⟩,List.nil_sublist _,by simp⟩ ?_
  rintro⟨L,i,g⟩ ⟨j1,j2,j3,j4⟩ hF K hK
  simp only[cC,c5]at j1 j2 j3 j4 hF hK⊢;refine zw ?_;refine aq (λ hlt=> ?_) (λ hge=> ?_)
  .have hi:i<l.length:=by simpa using hlt
   have hat:=f8 hi;have hat1:(aU l).drop (i*4+1)=iD l[i].bh::iD l[i].token:: .sl l[i].line.length (bt l[i].line)::aU (l.drop (i+1)):=by rw[←jD,hat];rfl
   have hin:=Eh gone (by omega) l[i].bh;have hw:=bz hi (by omega);have hiw:i<W.length:=by omega
   have hgw:=hWg i hi;have hdr:=WK (gone:=gone) (t:=t) (g:=g) hiw;rw[hgw]at hdr;have hdc:W.drop i=eZ gone l[i]::W.drop (i+1):=by rw[cB hiw,hgw]
   have hL:L.length≤i:=by have:=j3.length_le;simp only[bE,cu]at this;omega
   have htk:(l.take (i+1)).map Lk.name=(l.take i).map Lk.name++[l[i].name]:=by rw[←wz hi,fU];rfl
   cases hh:dc gone l[i].bh
   .rw[hh]at hin;rw[show dc gone (eZ gone l[i]).bh=false from hh,aa (by simp)]at hdr;have hMe:L++W.drop i=L++[eZ gone l[i]]++W.drop (i+1):=by rw[hdc];simp
    obtain⟨M,hM⟩:∃M,M=L++W.drop i:=⟨_,rfl⟩;rw[←hM];rw[hMe]at hM;refine zL (I hat (I hat1 (I @bK bw))) (hin) ?_;rw[hM];refine hK _ (L++[eZ gone l[i]],i+1,g) (Gh.canon [8] [] [] (zk hw) rfl rfl) ⟨hi,⟨j2.1,by simp only;omega⟩, ?_, ?_⟩ ?_ (by simp only;omega)
    .simp only[htk,fU,b7,fY];exact j3.append (List.Sublist.refl _)
    .intro k hk;rcases dN.1 hk with hk|hk
     .exact j4 k hk
     .rw[jE.1 hk];exact HS (hll _ (cb hi))
    .simp only;rw[hdr];simp
   .rw[hh]at hin;rw[show dc gone (eZ gone l[i]).bh=true from hh,aj rfl]at hdr
    -- the row,as it stands
    obtain⟨M,hM⟩:∃M,M=L++W.drop i:=⟨_,rfl⟩;have hMl:M.length=L.length+(l.length - i):=by rw[hM,aG,iM,hWl]
    have hMs:SL M:=acv hs (by
     rw[hM,fU,la,hWn,←la];have:=j3.append (List.Sublist.refl ((l.drop i).map Lk.name))
     rwa[show(l.take i).map Lk.name++(l.drop i).map Lk.name=l.map Lk.name from by rw[←fU,lN]]at this)
    have hMk:∀k∈M,k.line.length<2^30/\k.line.Nodup:=λ k hk=>by
     rw[hM]at hk;rcases dN.1 hk with hk|hk
     .exact j4 k hk
     .exact hWk k (oD hk)
    have hMi:L.length<M.length:=by omega
    have hMg:M[L.length]=eZ gone l[i]:=by subst hM;rw[List.getElem_append_right (Nat.le_refl _)];simp only[iq,List.getElem_drop,iy];exact hgw
    obtain⟨hf1,hf2⟩:=abW hMs hMi;rw[hMg]at hf1 hf2;have hf1:ix M l[i].name=some (eZ gone l[i]):=hf1;have hf2:bJ M l[i].name=L.length:=hf2;have hfr:=Lq M hMs (by omega) hMk l[i].name l[i].bh (t+g) (by omega);have hwt:IntKind.i64.wrap (t+g)=t+g:=wrap64 (by omega) (by omega);have hfp:ek M l[i].name l[i].bh (t+g)=((np M L.length (eZ gone l[i]) (t+g)).1,(np M L.length (eZ gone l[i]) (t+g)).2,0):=by unfold ek;rw[hf1,hf2];simp only;rw[aj (show((eZ gone l[i]).bh==l[i].bh)=true from by simp[eZ])]
    rw[hfp]at hfr;rw[←hM];clear hlt;cases hline:(eZ gone l[i]).line with
    |nil=>
     rw[hline]at hdr;simp only at hdr;have hp:np M L.length (eZ gone l[i]) (t+g)=(M.eraseIdx L.length,0):=by unfold np;rw[hline]
     rw[hp]at hfr;have hg0:IntKind.i64.wrap (g+0)=g:=by rw[Int.add_zero];exact wrap64 (by omega) (by omega)
     have hMe:M.eraseIdx L.length=L++W.drop (i+1):=by rw[hM,List.eraseIdx_append_of_length_le (Nat.le_refl _),iq,hdc];rfl
     rw[hMe]at hfr;refine zL (I hat (I hat1 (I hwt (I @bK (I @gv bw))))) (I (hin) (hfr)) ?_;refine hK _ (L,i+1,g) (Gh.canon [8] [] [] (zk (I hw hg0)) rfl rfl) ⟨hi,⟨j2.1,by simp only;omega⟩, ?_,j4⟩ ?_ (by simp only;omega)
     .simp only[htk];exact j3.trans (List.sublist_append_left _ _)
     .simp only;rw[hdr]
    |cons x rest=>
     rw[hline]at hdr;simp only at hdr;have hp:np M L.length (eZ gone l[i]) (t+g)=(M.set L.length ⟨l[i].name,x,t+g+1,rest⟩,1):=by unfold np;rw[hline];rfl
     rw[hp]at hfr;have hg1:IntKind.i64.wrap (g+1)=g+1:=wrap64 (by omega) (by omega);have hMe:M.set L.length ⟨l[i].name,x,t+g+1,rest⟩=L++[⟨l[i].name,x,t+g+1,rest⟩]++W.drop (i+1):=by rw[hM,wi _ _ (Nat.le_refl _),iq,hdc];simp
     rw[hMe]at hfr;refine zL (I hat (I hat1 (I hwt (I @bK (I @gv bw))))) (I (hin) (hfr)) ?_;refine hK _ (L++[⟨l[i].name,x,t+g+1,rest⟩],i+1,g+1) (Gh.canon [8] [] [] (zk (I hw hg1)) rfl rfl) ⟨hi,⟨by simp only;omega,by simp only;omega⟩, ?_, ?_⟩ ?_ (by simp only;omega)
     .simp only[htk,fU,b7,fY];exact j3.append (List.Sublist.refl _)
     .intro k hk;rcases dN.1 hk with hk|hk
      .exact j4 k hk
      .rw[jE.1 hk];have:=HS (gone:=gone) (hll _ (cb hi));rw[hline]at this;exact⟨by have:=this.1;simp only[cL]at this⊢;omega,(uS.1 this.2).2⟩
     .simp only;rw[hdr];simp[eZ]
  .have hi:i=l.length:=by
    have:¬(i:Int)<l.length:=by simpa using hge
    omega
   subst hi;have hd0:W.drop l.length=[]:=D4 (by omega);rw[hd0]at hF⊢;simp only[eK,fe]at hF⊢;have e1:L=(eK gone t W 0).1:=congrArg Prod.fst hF;have e2:g=(eK gone t W 0).2:=congrArg Prod.snd hF;rw[←e1,←e2];exact bA trivial
structure cZ (s:St):Prop where
 time:0≤s.time/\s.time≤bj
 num:0≤s.num/\s.num≤bj
 token:0≤s.token/\s.token≤bj
 ss:SS s.ax
 jS:∀x∈s.ax,rv x=true/\x.num≤s.num
 snd:s.ax.Pairwise λ a b=>a.num≠b.num
 sl:s.ax.length≤5
 ls:SL s.ae
 ju:∀k∈s.ae,ny k=true/\k.token≤s.token/\iQ k.line=true/\dc k.line k.bh=false
 sd:s.ae.Pairwise λ a b=>a.token≠b.token
 ll:s.ae.length≤4
 ms:SM s.aI
 lx:∀m∈s.aI,eB m=true
 mb:∀k∈s.ae,(bC s.ax k.bh).isSome=true/\∀c∈k.line,(bC s.ax c).isSome=true
theorem BS {α:Type} {r:α->α->Prop} (ht:∀a b c,r a b->r b c->r a c):∀{l:List α},(∀j (hj:j<l.length),0<j->r (l[j - 1]'(by omega)) l[j])->l.Pairwise r
 |[],_=>List.Pairwise.nil
 |[x],_=>by simp
 |x::y::l,h=>by
  have h1:r x y:=h 1 (by simp) (by decide);have ih:(y::l).Pairwise r:=BS ht λ j hj h0=>by have:=h (j+1) (by simpa using hj) (by omega);obtain⟨k,rfl⟩:∃k,j=k+1:=⟨j - 1,by omega⟩;simpa using this
  refine oE.2 ⟨λ z hz=> ?_,ih⟩;rcases cF.1 hz with rfl|hz
  .exact h1
  .exact ht _ _ _ h1 ((oE.1 ih).1 z hz)
theorem BU {α:Type} {r:α->α->Prop} {l:List α} (h:l.Pairwise r) (j:Nat) (hj:j<l.length) (h0:0<j):r (l[j - 1]'(by omega)) l[j]:=
 nt.1 h (j - 1) j (by omega) hj (by omega)
theorem xC {α:Type} {l:List α} {i:Nat} {p:α->Bool} (hi:i<l.length):(l.take i).any p=false↔∀j (hj:j<l.length),j<i->p l[j]=false:=by
 rw[wj];constructor
 .intro h j hj hji;have hm:l[j]∈l.take i:=by rw[wq];exact⟨j,by omega,rfl⟩
  simpa using h _ hm
 .intro h x hx;rw[wq]at hx;obtain⟨j,hj,rfl⟩:=hx;simp[h j (by omega) (by omega)]
theorem KH {l:List bg}:nq l=true↔l.length≤5/\(∀x∈l,rv x=true)/\SS l/\l.Pairwise λ a b=>a.num≠b.num:=by
 unfold nq;rw[bM,sm];simp only[cc,ir,gg];constructor
 .rintro⟨h1,h2⟩
  have q:∀j (hj:j<l.length),rv l[j]=true/\(0<j->xW l j<l[j].af)/\(∀k (hk:k<l.length),k<j->l[k].num≠l[j].num):=by
   intro j hj;have:=h2 j hj;unfold nj at this;simp only[bM,ir,iP,oF,gg]at this;obtain⟨a,b,c⟩:=this;refine⟨a,λ h0=> ?_,λ k hk hkj=> ?_⟩
   .rcases b with b|b
    .omega
    .omega
   .have:=(xC hj).1 c k hk hkj;simpa using this
  refine⟨by omega,λ x hx=> ?_, ?_, ?_⟩
  .obtain⟨j,hj,rfl⟩:=oA hx;exact(q j hj).1
  .refine BS (λ a b c h1 h2=>by omega) λ j hj h0=> ?_
   have:=(q j hj).2.1 h0;unfold xW at this;rw[dG (by omega)]at this;simpa using this
  .rw[nt];intro i j hi hj hij;exact(q j hj).2.2 i hi hij
 .rintro⟨h1,h2,h3,h4⟩
  refine⟨by omega,λ j hj=> ?_⟩;unfold nj;simp only[bM,ir,iP,oF,gg];refine⟨h2 _ (cb hj), ?_, ?_⟩
  .by_cases h0:0<j
   .right
    have:=BU h3 j hj h0;unfold xW;rw[dG (by omega)];simpa using this
   .left;omega
  .exact(xC hj).2 λ k hk hkj=>by have:=nt.1 h4 k j hk hj hkj;simpa using this
theorem nC {l:List Int}:iQ l=true↔l.length≤3/\(∀c∈l,fq c=true)/\l.Nodup:=by
 unfold iQ;rw[bM,sm];simp only[cc,dX];constructor
 .rintro⟨h1,h2⟩
  have q:∀j (hj:j<l.length),fq l[j]=true/\(∀k (hk:k<l.length),k<j->l[k]≠l[j]):=by
   intro j hj;have:=h1 j hj;unfold uY at this;simp only[ir,iP,pq]at this;refine⟨this.1,λ k hk hkj=> ?_⟩;have h3:=(xC hj).1 this.2 k hk hkj;have h4:¬l[j]=l[k]:=by simpa using h3
   exact λ h=>h4 h.symm
  refine⟨by omega,λ x hx=> ?_, ?_⟩
  .obtain⟨j,hj,rfl⟩:=oA hx;exact(q j hj).1
  .unfold List.Nodup;rw[nt];intro i j hi hj hij;exact(q j hj).2 i hi hij
 .rintro⟨h1,h2,h3⟩
  refine⟨λ j hj=> ?_,by omega⟩;unfold uY;simp only[ir,iP,pq];refine⟨h2 _ (cb hj), ?_⟩;exact(xC hj).2 λ k hk hkj=>by unfold List.Nodup at h3;have:=nt.1 h3 k j hk hj hkj;simpa using λ h=>this h.symm
theorem Yd {l:List Lk}:kW l=true↔l.length≤4/\(∀k∈l,ny k=true/\iQ k.line=true/\dc k.line k.bh=false)/\SL l/\l.Pairwise λ a b=>a.token≠b.token:=by
 unfold kW;rw[bM,sm];simp only[cc,dX];constructor
 .rintro⟨h1,h2⟩
  have q:∀j (hj:j<l.length),(ny l[j]=true/\iQ l[j].line=true/\dc l[j].line l[j].bh=false)/\(0<j->jk (x8 l j) l[j].name=true)/\(∀k (hk:k<l.length),k<j->l[k].token≠l[j].token):=by
   intro j hj;have:=h1 j hj;unfold nO at this;simp only[bM,ir,iP,oF,gg,pq]at this;obtain⟨⟨a,⟨b1,b2⟩,b3⟩,c⟩:=this;refine⟨⟨a,b1,b2⟩,λ h0=> ?_,λ k hk hkj=> ?_⟩
   .rcases b3 with b|b
    .omega
    .exact b
   .have:=(xC hj).1 c k hk hkj;simpa using this
  refine⟨by omega,λ x hx=> ?_, ?_, ?_⟩
  .obtain⟨j,hj,rfl⟩:=oA hx;exact(q j hj).1
  .refine BS (r:=λ x y:Lk=>jk x.name y.name=true) (λ a b c h1 h2=>Dg h1 h2) λ j hj h0=> ?_
   have:=(q j hj).2.1 h0;unfold x8 at this;rw[dG (by omega)]at this;simpa using this
  .rw[nt];intro i j hi hj hij;exact(q j hj).2.2 i hi hij
 .rintro⟨h1,h2,h3,h4⟩
  refine⟨λ j hj=> ?_,by omega⟩;unfold nO;simp only[bM,ir,iP,oF,gg,pq];obtain⟨a,b,c⟩:=h2 _ (cb hj);refine⟨⟨a,⟨b,c⟩, ?_⟩, ?_⟩
  .by_cases h0:0<j
   .right
    have:=BU h3 j hj h0;unfold x8;rw[dG (by omega)];simpa using this
   .left;omega
  .exact(xC hj).2 λ k hk hkj=>by have:=nt.1 h4 k j hk hj hkj;simpa using this
theorem XQ {l:List bN}:qC l=true↔(∀m∈l,eB m=true)/\SM l:=by
 unfold qC;rw[sm];simp only[cc];constructor
 .intro h1;have q:∀j (hj:j<l.length),eB l[j]=true/\(0<j->yd l j<l[j].af):=by
   intro j hj;have:=h1 j hj;unfold nM at this;simp only[ir,iP,oF,gg,pq]at this;refine⟨this.1,λ h0=> ?_⟩;rcases this.2 with b|b
   .omega
   .omega
  refine⟨λ x hx=> ?_, ?_⟩
  .obtain⟨j,hj,rfl⟩:=oA hx;exact(q j hj).1
  .refine BS (λ a b c h1 h2=>by omega) λ j hj h0=> ?_
   have:=(q j hj).2 h0;unfold yd at this;rw[dG (by omega)]at this;simpa using this
 .rintro⟨h2,h3⟩ j hj
  unfold nM;simp only[ir,iP,oF,gg,pq];refine⟨h2 _ (cb hj), ?_⟩;by_cases h0:0<j
  .right
   have:=BU h3 j hj h0;unfold yd;rw[dG (by omega)];simpa using this
  .left;omega
theorem uk {s:St}:gE s=true↔cZ s:=by
 unfold gE uC within;simp only[bM,dX,KH,Yd,XQ,jh,cF,forall_eq_or_imp];constructor
 .rintro⟨⟨⟨⟨⟨⟨⟨⟨h1,h2⟩,h3⟩,a,b,c,d⟩,e,f,g,h⟩,i,j⟩,k⟩,l⟩,m⟩
  exact⟨h1,h2,h3,c,λ x hx=>⟨b x hx,k x hx⟩,d,a,g,λ k hk=>⟨(f k hk).1,l k hk,(f k hk).2⟩,h,e,j,i,m⟩
 .intro h;exact⟨⟨⟨⟨⟨⟨⟨⟨h.time,h.num⟩,h.token⟩,h.sl,λ x hx=>(h.jS x hx).1,h.ss,h.snd⟩,h.ll,λ k hk=>⟨(h.ju k hk).1,(h.ju k hk).2.2⟩,h.ls,h.sd⟩,h.lx,h.ms⟩,λ x hx=>(h.jS x hx).2⟩,λ k hk=>(h.ju k hk).2.1⟩,h.mb⟩
end Go.Proofs.YtliimajkpggbhaaGreat
