import Derived.Test.YtliimajkpggbhaaGreatTy
import Derived.Test.YtliimajkpggbhaaGreatK9
import Derived.KernelRfl
set_option maxHeartbeats 8000000
namespace Go.Proofs.YtliimajkpggbhaaGreat
open Go.Pk Tryz
set_option maxRecDepth 100000
set_option linter.unusedSimpArgs false
set_option linter.unusedVariables false
theorem ac7:(([25,33,153,151]:List Nat)).all (H7 prog)=true:=by kernel_rfl
theorem eV:cl prog Ty:=acC λ t ht=>jh.1 ac7 t ht
theorem mixed:prog.follows .mixedOrders=true:=by kernel_rfl
theorem zh {i:FuncId} {f:Func} {rvs:List ResultVar} {n:Nat} {args:List Arg} {post:List RF->List (List RO)->Prop} (h1:prog.funcs[i]? =some f) (h2:f.results=rvs.toArray) (h3:f.ntmps=n) (h4:∀(us:Array Value) (w:World),(callFunc i us).run prog w= .ok (.enter i us) w)
  (hk:cH Ty prog (f.body.getD .skip) (eg n args) (ja Ty rvs (bF 0 args) post)) (hb:f.body=some (f.body.getD .skip):=by rfl):ah prog i args post:=vD eV mixed h1 hb h2 h3 h4 hk
theorem qU {i:FuncId} {f:Func} {n:Nat} {args:List Arg} {x:Value} (h1:prog.funcs[i]? =some f) (h3:f.ntmps=n) (h4:∀(us:Array Value) (w:World),(callFunc i us).run prog w= .ok (.enter i us) w)
  (hk:cH Ty prog (f.body.getD .skip) (eg n args) (BE x)) (hb:f.body=some (f.body.getD .skip):=by rfl):gF prog i args x:=JU eV mixed h1 hb h3 h4 hk
theorem EV {i:FuncId} {f:Func} {rvs:List ResultVar} {n:Nat} {args:List Arg} {post:List RF->List (List RO)->Prop} {x:Value} {b:Bool} (h1:prog.funcs[i]? =some f) (h2:f.results=rvs.toArray) (h3:f.ntmps=n) (h4:∀(us:Array Value) (w:World),(callFunc i us).run prog w= .ok (.enter i us) w)
  (hk:cH Ty prog (f.body.getD .skip) (eg n args) (EH (ja Ty rvs (bF 0 args) post) (BE x) b)) (hb:f.body=some (f.body.getD .skip):=by rfl):(b=true->ah prog i args post)/\(b=false->gF prog i args x):=aaq eV mixed h1 hb h2 h3 h4 hk
def sQ (c:UInt8):Bool:= !((decide ((c.toNat:Int)<97)||decide ((c.toNat:Int)>122))&&(decide ((c.toNat:Int)<48)||decide ((c.toNat:Int)>57))&&((c.toNat:Int) !=45))
def fb (s:ByteArray):Bool:=((List.range s.size).all λ j=>sQ (s.data.getD j 0))&&(decide ((s.size:Int)≥1)&&decide ((s.size:Int)≤12))
theorem Ma (k:Int):ah prog 113 [.f (ai k)] (λ r o=>r=[rb (k==3||k==4||k==5)]/\o=[]):=by refine zh func113 results113 ntmps113 call113 ?_;simp only[f113,Option.getD];exact Bn trivial
theorem Dv (s:ByteArray) (hs:s.size<2^62):ah prog 114 [.f (kG s)] (λ r o=>r=[rb (fb s)]/\o=[]):=by
 refine zh func114 results114 ntmps114 call114 ?_;simp only[f114,Option.getD];refine zw ?_;refine Ac Ty prog (τ:=Nat) (λ i=>⟨(kG s::dd::ab false::dM (kG s::ai s.size::ai i::rV [])),[]⟩) (λ i=>i≤s.size/\∀j,j<i->sQ (s.data.getD j 0)=true) (λ i=>s.size - i) 0 ?_ ⟨bc _,λ j hj=>absurd hj (tH j)⟩ ?_
 .refine Gh.fB ?_;simp only[dT,gO,gN,gQ,fV]
 intro i ⟨h1,h2⟩ K hK;refine zw ?_;rw[vw];refine⟨trivial,λ hlt=> ?_,λ hge=> ?_⟩
 .refine zw ?_;have hi:i<s.size:=by simpa using hlt
  refine⟨⟨yg i,by omega⟩,DX (λ a b=>by rw[a,b];rfl), ?_⟩;have hok:sQ (s.data.getD i 0)= !((decide (((s.data.getD i 0).toNat:Int)<97)||decide (((s.data.getD i 0).toNat:Int)>122))&&(decide (((s.data.getD i 0).toNat:Int)<48)||decide (((s.data.getD i 0).toNat:Int)>57))&&(((s.data.getD i 0).toNat:Int) !=45)):=rfl;rw[vw];refine⟨trivial,λ hb=> ?_,λ hb=> ?_⟩
  .rw[hb]at hok;refine zw ?_;have hn:fb s=false:=by unfold fb;rw[show((List.range s.size).all λ j=>sQ (s.data.getD j 0))=false from List.all_eq_false.2 ⟨i,tx.2 hi,by rw[hok];simp⟩,gV]
   rw[hn]
  .rw[hb]at hok;refine zw ?_;refine hK _ (i+1) (Gh.fB ?_) ⟨hi,λ j hj=> ?_⟩ (by omega)
   .have hw:IntKind.i64.wrap ((i:Int)+1)=((i+1:Nat):Int):=by rw[wrap64 (by omega) (by omega)];rfl
    simp only[hw,dT,gO,gN,gQ]
   .rcases iw j i with h|h
    .exact h2 j h
    .rw[show j=i from by omega,hok];rfl
 .refine zw ?_;have hi:i=s.size:=by
   have:¬(i:Int)<s.size:=by simpa using hge
   omega
  have hn:fb s=(decide ((s.size:Int)≥1)&&decide ((s.size:Int)≤12)):=by unfold fb;rw[show((List.range s.size).all λ j=>sQ (s.data.getD j 0))=true from jh.2 λ j hj=>h2 j (by rw[hi];exact tx.1 hj),ec]
  rw[hn]
def jq (k n:Int) (s:ByteArray):Bool:=
 if(decide (k<1)||decide (k>6))=true then false else
 if((k==3||k==4||k==5)&& !fb s|| !(k==3||k==4||k==5)&& !s.toList==(⟨#[]⟩:ByteArray).toList)=true then false else
 if(k==1)=true then n==0 else decide (n≥1)&&decide (n≤2305843009213693952)
theorem DW (k n:Int) (s:ByteArray) (hs:s.size<2^62):ah prog 73 [.f (.agg [di k,di n,dS s])] (λ r o=>r=[rb (jq k n s)]/\o=[]):=by
 refine zh func73 results73 ntmps73 call73 ?_;simp only[f73,Option.getD]
 repeat'(first|exact zC|refine sa ?_|((first|((try refine eH ?_);apply eb)|(apply fm;intro _));(solve|exact(Ma _)|(refine ah.le (Ma _) ?_;exact zM)|fail);try case hn=>rfl)|((first|((try refine eH ?_);apply eb)|(apply fm;intro _));(solve|exact(Dv _ hs)|(refine ah.le (Dv _ hs) ?_;exact zM)|fail);try case hn=>rfl)|(apply aq<;>intro hb)|(apply I;exact zI)|(apply I<;>intro hg))
 .rw[jq,aj (by assumption)]
 .rw[jq,aa (by simp_all),aj (by assumption)]
 .rw[jq,aa (by simp_all),aa (by simp_all),aj (by assumption)]
 .rw[jq,aa (by simp_all),aa (by simp_all),aa (by simp_all)]
def aX.may (r:aX):Bool:=(decide (r.af≥0)&&decide (r.af<8)&&decide (r.seq≥1)&&decide (r.seq≤bj))&&jq r.kind r.br r.name
theorem zH (r:aX) (hr:r.ok):ah prog 34 [.f (.agg (r.enc.map C.d))] (λ x o=>x=[rb (aX.may r)]/\o=[]):=by
 refine zh func34 results34 ntmps34 call34 ?_;simp only[f34,Option.getD]
 repeat'(first|exact zC|refine sa ?_|((first|((try refine eH ?_);apply eb)|(apply fm;intro _));(solve|exact(DW _ _ _ hr.2.2.2.2)|(refine ah.le (DW _ _ _ hr.2.2.2.2) ?_;exact zM)|fail);try case hn=>rfl)|(apply aq<;>intro hb)|(apply I;exact zI)|(apply I<;>intro hg))
 rfl
def cM {α:Type} (p:α->Bool):List α->Int->Int
 |[],_=> -1
 |x::l,i=>if p x=true then i else cM p l (i+1)
theorem xI {α:Type} (p:α->Bool) (l:List α):decide (cM p l 0≥0)=l.any p:=by
 have h:∀(l:List α) (i:Int),0≤i->(0≤cM p l i↔l.any p=true):=by
  intro l;induction l with
  |nil=>intro i _;simp[cM]
  |cons x l ih=>
   intro i hi;simp only[cM];by_cases hx:p x=true
   .simp[hx,hi]
   .rw[aa hx,ih (i+1) (by omega)];simp[hx]
 rw[nK];simpa using h l 0 (Int.le_refl _)
theorem Ez {a b:RO}:aT [.one a] [.one b]=(ak a b/\True):=rfl
theorem bz {i n:Nat} (h:i<n) (hn:n<2^62):IntKind.i64.wrap ((i:Int)+1)=((i+1:Nat):Int):=by rw[wrap64 (by omega) (by omega)];rfl
theorem YW {n:Nat} (h:n<2^63):IntKind.u64.wrap (n:Int)=n:=by unfold IntKind.wrap;simp[IntKind.signed,IntKind.bits];omega
theorem acS:Go.Pk.aZ.x= .one .dead:=rfl
abbrev Og:Int->AV:=λ x=> .one (di x)
abbrev AL:bg->AV:=λ x=> .agg (x.enc.map C.d)
abbrev Hx:Lk->AV:=λ x=> .agg (x.enc.map C.d)
abbrev adC:bN->AV:=λ x=> .agg (x.enc.map C.d)
theorem XE (l:List Int) (hl:l.length<2^62) (p:Int->Bool) (f:Nat) (caps:List C) (hc:gD [] (caps.map AV.one)=some (caps.map λ c=> .f (.one c)))
  (hp:∀x∈l,ah prog f (.f (Og x)::caps.map λ c=> .f (.one c)) (λ r o=>r=[rb (p x)]/\o=[])):
  ah prog 161 [.f (al l.length (bt l)), .f (.one (.fx f caps))] (λ r o=>r=[ri (cM p l 0)]/\o=[]):=by
 refine zh func161 results161 ntmps161 call161 ?_;simp only[f161,Option.getD];refine zw ?_;refine bq (τ:=Nat) (λ i=>⟨(al l.length (bt l):: .one (.fx f caps)::dM (ai 0::dd::al l.length (bt l)::ai l.length::ai i::nz [])),[]⟩) (λ i=>i≤l.length) (λ i=>cM p (l.drop i) i) (λ i=>l.length - i) 0 (Gh.fB ?_) (bc _) ?_
 .simp only[dT,gO,gN,gQ,fV]
 intro i hi0 hF K hK;refine zw ?_;rw[vw];refine⟨trivial,λ hlt=> ?_,λ hge=> ?_⟩
 .have hi:i<l.length:=by simpa using hlt
  rw[cB hi,cM]at hF;have hat:=Mt hi;simp only[dW,c5]at hat;refine vo (I @LM (I hat hc)) ?_;refine⟨⟨yg i,by omega⟩, ?_⟩;refine eb (hp _ (cb hi)) ?_;refine zw ?_;refine aq (λ hb=> ?_) (λ hb=> ?_)
  .rw[aj hb]at hF;refine zw ?_;rw[hF];rfl
  .rw[aa (by simp[hb])]at hF;refine zw ?_;refine hK _ (i+1) (Gh.fB ?_) hi (by simp only[cB hi,cM];rw[aa (by simp[hb])];rfl) (by omega);have hw:IntKind.i64.wrap ((i:Int)+1)=((i+1:Nat):Int):=by rw[wrap64 (by omega) (by omega)];rfl
   simp only[hw,dT,gO,gN,gQ]
 .have hi:i=l.length:=by
   have:¬(i:Int)<l.length:=by simpa using hge
   omega
  rw[hi,eL,cM]at hF;refine zw ?_;rw[hF];rfl
theorem Ww (l:List bg) (hl:l.length<2^62) (p:bg->Bool) (f:Nat) (caps:List C) (hc:gD [] (caps.map AV.one)=some (caps.map λ c=> .f (.one c)))
  (hp:∀x∈l,ah prog f (.f (AL x)::caps.map λ c=> .f (.one c)) (λ r o=>r=[rb (p x)]/\o=[])):
  ah prog 210 [.f (al l.length (bT l)), .f (.one (.fx f caps))] (λ r o=>r=[ri (cM p l 0)]/\o=[]):=by
 refine zh func210 results210 ntmps210 call210 ?_;simp only[f210,Option.getD];refine zw ?_;refine bq (τ:=Nat) (λ i=>⟨(al l.length (bT l):: .one (.fx f caps)::dM (ai 0::dd::al l.length (bT l)::ai l.length::ai i::nz [])),[]⟩) (λ i=>i≤l.length) (λ i=>cM p (l.drop i) i) (λ i=>l.length - i) 0 (Gh.fB ?_) (bc _) ?_
 .simp only[dT,gO,gN,gQ,fV]
 intro i hi0 hF K hK;refine zw ?_;rw[vw];refine⟨trivial,λ hlt=> ?_,λ hge=> ?_⟩
 .have hi:i<l.length:=by simpa using hlt
  rw[cB hi,cM]at hF;have hat:=hU hi;simp only[dW,c5]at hat;refine vo (I @ca (I hat hc)) ?_;refine⟨⟨yg i,by omega⟩, ?_⟩;refine eb (hp _ (cb hi)) ?_;refine zw ?_;refine aq (λ hb=> ?_) (λ hb=> ?_)
  .rw[aj hb]at hF;refine zw ?_;rw[hF];rfl
  .rw[aa (by simp[hb])]at hF;refine zw ?_;refine hK _ (i+1) (Gh.fB ?_) hi (by simp only[cB hi,cM];rw[aa (by simp[hb])];rfl) (by omega);have hw:IntKind.i64.wrap ((i:Int)+1)=((i+1:Nat):Int):=by rw[wrap64 (by omega) (by omega)];rfl
   simp only[hw,dT,gO,gN,gQ]
 .have hi:i=l.length:=by
   have:¬(i:Int)<l.length:=by simpa using hge
   omega
  rw[hi,eL,cM]at hF;refine zw ?_;rw[hF];rfl
theorem Wi (l:List Lk) (hl:l.length<2^62) (p:Lk->Bool) (f:Nat) (caps:List C) (hc:gD [] (caps.map AV.one)=some (caps.map λ c=> .f (.one c)))
  (hp:∀x∈l,ah prog f (.f (Hx x)::caps.map λ c=> .f (.one c)) (λ r o=>r=[rb (p x)]/\o=[])):
  ah prog 196 [.f (al l.length (aU l)), .f (.one (.fx f caps))] (λ r o=>r=[ri (cM p l 0)]/\o=[]):=by
 refine zh func196 results196 ntmps196 call196 ?_;simp only[f196,Option.getD];refine zw ?_;refine bq (τ:=Nat) (λ i=>⟨(al l.length (aU l):: .one (.fx f caps)::dM (ai 0::dd::al l.length (aU l)::ai l.length::ai i::nz [])),[]⟩) (λ i=>i≤l.length) (λ i=>cM p (l.drop i) i) (λ i=>l.length - i) 0 (Gh.fB ?_) (bc _) ?_
 .simp only[dT,gO,gN,gQ,fV]
 intro i hi0 hF K hK;refine zw ?_;rw[vw];refine⟨trivial,λ hlt=> ?_,λ hge=> ?_⟩
 .have hi:i<l.length:=by simpa using hlt
  rw[cB hi,cM]at hF;have hat:=f8 hi;simp only[dW,c5]at hat;refine vo (I @bK (I hat hc)) ?_;refine⟨⟨yg i,by omega⟩, ?_⟩;refine eb (hp _ (cb hi)) ?_;refine zw ?_;refine aq (λ hb=> ?_) (λ hb=> ?_)
  .rw[aj hb]at hF;refine zw ?_;rw[hF];rfl
  .rw[aa (by simp[hb])]at hF;refine zw ?_;refine hK _ (i+1) (Gh.fB ?_) hi (by simp only[cB hi,cM];rw[aa (by simp[hb])];rfl) (by omega);have hw:IntKind.i64.wrap ((i:Int)+1)=((i+1:Nat):Int):=by rw[wrap64 (by omega) (by omega)];rfl
   simp only[hw,dT,gO,gN,gQ]
 .have hi:i=l.length:=by
   have:¬(i:Int)<l.length:=by simpa using hge
   omega
  rw[hi,eL,cM]at hF;refine zw ?_;rw[hF];rfl
theorem U5 (l:List bg) (hl:l.length<2^62) (p:bg->Bool) (f:Nat) (caps:List C) (hc:gD [] (caps.map AV.one)=some (caps.map λ c=> .f (.one c))) (hc2:bW.lendCs [] caps=some caps)
  (hp:∀x∈l,ah prog f (.f (AL x)::caps.map λ c=> .f (.one c)) (λ r o=>r=[rb (p x)]/\o=[])):
  ah prog 192 [.f (al l.length (bT l)), .f (.one (.fx f caps))] (λ r o=>r=[rb (l.any p)]/\o=[]):=by
 refine zh func192 results192 ntmps192 call192 ?_;simp only[f192,Option.getD];refine vo hc2 ?_;refine eb (Ww l hl p f caps hc hp) ?_;refine zw ?_;rw[xI]
theorem U7 (l:List Lk) (hl:l.length<2^62) (p:Lk->Bool) (f:Nat) (caps:List C) (hc:gD [] (caps.map AV.one)=some (caps.map λ c=> .f (.one c))) (hc2:bW.lendCs [] caps=some caps)
  (hp:∀x∈l,ah prog f (.f (Hx x)::caps.map λ c=> .f (.one c)) (λ r o=>r=[rb (p x)]/\o=[])):
  ah prog 166 [.f (al l.length (aU l)), .f (.one (.fx f caps))] (λ r o=>r=[rb (l.any p)]/\o=[]):=by
 refine zh func166 results166 ntmps166 call166 ?_;simp only[f166,Option.getD];refine vo hc2 ?_;refine eb (Wi l hl p f caps hc hp) ?_;refine zw ?_;rw[xI]
theorem Vd (l:List bg) (hl:l.length<2^62) (t:Int) (c:bg->Int) (f:Nat) (m:Nat) (hm:m≤l.length) (h1:∀j (hj:j<l.length),j<m->c l[j]<0) (h2:∀j (hj:j<l.length),m≤j->0≤c l[j])
  (hp:∀x∈l,ah prog f [.f (AL x), .f (ai t)] (λ r o=>r=[ri (c x)]/\o=[])):
  ah prog 211 [.f (al l.length (bT l)), .f (ai t), .f (.one (.fx f []))] (λ r o=>r=[ri m,rb ((l[m]?.map λ x=>c x==0).getD false)]/\o=[]):=by
 refine zh func211 results211 ntmps211 call211 ?_;simp only[f211,Option.getD];refine zw ?_;refine bq (τ:=Nat×Nat) (λ q=>⟨(al l.length (bT l)::ai t:: .one (.fx f [])::pT (ai l.length::ai q.1::ai q.2::Bp [])),[]⟩) (λ q=>q.1≤m/\m≤q.2/\q.2≤l.length) (λ _=>()) (λ q=>q.2 - q.1) (0,l.length) (Gh.fB ?_) ⟨bc _,hm,Nat.le_refl _⟩ ?_
 .simp only[dT,gO,gN,gQ,fV]
 intro⟨lo,hi⟩ ⟨b1,b2,b3⟩ hF K hK;simp only at b1 b2 b3 hF hK⊢;refine zw ?_;refine aq (λ hlt=> ?_) (λ hge=> ?_)
 .have hlt:lo<hi:=by simpa using hlt
  obtain⟨q,hq⟩:∃q:Nat,q=(lo+hi) / 2:=⟨_,rfl⟩;have hw1:IntKind.i64.wrap ((lo:Int)+hi)=((lo+hi:Nat):Int):=by rw[wrap64 (by omega) (by omega)];rfl
  have hw2:IntKind.u64.wrap ((lo+hi:Nat):Int)=((lo+hi:Nat):Int):=YW (by omega);have hw3:IntKind.i64.wrap (((lo+hi:Nat):Int).fdiv (2^(min (Int.toNat 1) IntKind.u64.bits)))=(q:Int):=by rw[show(2:Int)^(min (Int.toNat 1) IntKind.u64.bits)=2 by decide,hq,show(((lo+hi:Nat):Int)).fdiv 2=(((lo+hi) / 2:Nat):Int) by rw[v9 _ (by decide)];rfl];exact wrap64 (by omega) (by omega)
  have hqh:q<hi:=by omega
  have hql:q<l.length:=by omega
  have hat:=hU hql;simp only[dW,c5]at hat;have hcp:=hp _ (cb hql);have hw4:IntKind.i64.wrap ((q:Int)+1)=((q+1:Nat):Int):=by rw[wrap64 (by omega) (by omega)];rfl
  have h10:∀(a b:Option Value),(if(1:Int)<0 then a else b)=b:=λ a b=>aa (by decide)
  clear hlt
  repeat'(first|exact zC|refine za (I h10 (I hw1 (I hw2 (I hw3 (I @ca (I hat @qu)))))) ?_|refine zx (hcp) ?_|(apply aq<;>intro hb)|(apply I;exact zI)|(apply I<;>intro hg))
  .have hqm:q<m:=by
    rcases iw q m with h|h
    .exact h
    .have:=h2 q hql h;have hb':c l[q]<0:=by simpa using hb
     omega
   refine hK _ (q+1,hi) (Gh.fB ?_) ⟨by simp only;omega,b2,b3⟩ trivial (by simp only;omega);simp only[hw4,dT,gO,gN,gQ]
  .have hqm:m≤q:=by
    rcases iw q m with h|h
    .have:=h1 q hql h;have hb':¬c l[q]<0:=by simpa using hb
     omega
    .exact h
   refine hK _ (lo,q) (Gh.fB ?_) ⟨b1,hqm,by simp only;omega⟩ trivial (by simp only;omega);simp only[dT,gO,gN,gQ]
 .have he:lo=m:=by
   have:¬(lo:Int)<hi:=by simpa using hge
   omega
  subst he;by_cases hlt:lo<l.length
  .have hat:=hU hlt;simp only[dW,c5]at hat;have hcp:=hp _ (cb hlt);have hd:decide ((lo:Int)<l.length)=true:=by simpa using hlt
   refine UN (I hd (I @ca (I hat @qu))) (hcp) ?_;rw[dG hlt];rfl
  .have hd:decide ((lo:Int)<l.length)=false:=by simp;omega
   have hn:l[lo]? =none:=uW (by omega);exact Bn (I hd (I @ca (I @qu (I hn (I @acS @Option.map_none.{0,0})))))
theorem JH {α:Type}:∀(xs pre mid post:List α),mid.length=xs.length->cO pre.length xs (pre++(mid++post))=pre++(xs++post)
 |[],pre,mid,post,h=>by have:mid=[]:=nu h;subst this;rfl
 |x::xs,pre,m::mid,post,h=>by have:=JH xs (pre++[x]) mid post (by simpa using h);rw[cO];simp only[aG,cL,fN,cc,fH,dW,c5]at this⊢;rw[←this];congr 1;simp[List.set_append]
 |x::xs,pre,[],post,h=>by simp at h
theorem LF {α:Type} (enc:α->List D) (sz:Nat) (h:∀x,(enc x).length=sz) {l:List α} {i:Nat} (hi:i<l.length) (x:α):
  cO (i*sz) ((enc x).map C.d) ((l.flatMap enc).map C.d)=((l.set i x).flatMap enc).map C.d:=by
 have e1:l=l.take i++(l[i]::l.drop (i+1)):=by rw[List.getElem_cons_drop];simp
 have e2:l.set i x=l.take i++(x::l.drop (i+1)):=by rw[List.set_eq_take_append_cons_drop,aj hi]
 have hl:((l.take i).flatMap enc).length=i*sz:=by rw[mn enc sz h,cu];congr 1;omega
 rw[e2]
 conv=>lhs;rw[e1]
 simp only[v7,fv,fU];have:=JH ((enc x).map C.d) (((l.take i).flatMap enc).map C.d) ((enc l[i]).map C.d) (((l.drop (i+1)).flatMap enc).map C.d) (by simp[h]);rw[bE,hl]at this;exact this
theorem vR {α:Type} (enc:α->List D) (sz:Nat) (h:∀x,(enc x).length=sz) {l:List α} {i k:Nat} (hi:i<l.length) (hk:k<sz) (v:D) (x:α) (hx:enc x=(enc l[i]).set k v):
  ((l.flatMap enc).map C.d).set (i*sz+k) (C.d v)=((l.set i x).flatMap enc).map C.d:=by
 have e1:l=l.take i++(l[i]::l.drop (i+1)):=by rw[List.getElem_cons_drop];simp
 have e2:l.set i x=l.take i++(x::l.drop (i+1)):=by rw[List.set_eq_take_append_cons_drop,aj hi]
 have hl:((l.take i).flatMap enc).length=i*sz:=by rw[mn enc sz h,cu];congr 1;omega
 rw[e2]
 conv=>lhs;rw[e1]
 rw[←List.map_set];simp only[v7,fv];rw[List.set_append,aa (by omega),List.set_append,aj (by rw[h];omega),show i*sz+k - ((l.take i).flatMap enc).length=k by omega,hx]
theorem abG {α:Type} {l:List α} {k:Nat} (hk:k≤l.length) (x:α):(l.take k++x::l.drop k).length=l.length+1:=by rw[aG,cu,cL,iM];omega
theorem X6 {α:Type} (enc:α->List D) (sz:Nat) (h:∀x,(enc x).length=sz) {l:List α} {k:Nat} (hk:k<l.length):
  (l.eraseIdx k).flatMap enc=(l.flatMap enc).take (k*sz)++(l.flatMap enc).drop ((k+1)*sz):=by
 rw[CV enc sz h (by omega),Xh enc sz h hk,List.eraseIdx_eq_take_drop_succ,v7]
theorem C7 {α:Type} (p:α->Bool):∀(l:List α) (i:Nat),(∀x∈l,p x=false)/\cM p l i= -1∨∃k,∃h:k<l.length,cM p l i=((i+k:Nat):Int)/\p l[k]=true/\∀x∈l.take k,p x=false
 |[],i=> .inl ⟨λ x hx=>(iA hx).elim,rfl⟩
 |x::l,i=>by
  rw[cM];by_cases hx:p x=true
  .rw[aj hx];exact .inr ⟨0,by simp,rfl,by simpa using hx,λ y hy=>by simp at hy⟩
  .rw[aa hx];have hx':p x=false:=by simpa using hx
   rcases C7 p l (i+1)with⟨h1,h2⟩|⟨k,hk,h1,h2,h3⟩
   .exact .inl ⟨λ y hy=>(cF.1 hy).elim (λ e=>e▸hx') (λ e=>h1 y e),by simpa using h2⟩
   .refine .inr ⟨k+1,by simpa using hk, ?_,by simpa using h2,λ y hy=> ?_⟩
    .have:((i:Int)+1)=((i+1:Nat):Int):=rfl;rw[this,h1];congr 1;omega
    .rw[qA]at hy;exact(cF.1 hy).elim (λ e=>e▸hx') (λ e=>h3 y e)
theorem XD (l:List Int) (hl:l.length<2^62) (v:Int):ah prog 195 [.f (al l.length (bt l)), .f (ai v)] (λ r o=>r=[ri (cM (λ x=>v==x) l 0)]/\o=[]):=by
 refine zh func195 results195 ntmps195 call195 ?_;simp only[f195,Option.getD];refine zw ?_;refine bq (τ:=Nat) (λ i=>⟨(al l.length (bt l)::ai v::dM (ai 0::dd::al l.length (bt l)::ai l.length::ai i::nz [])),[]⟩) (λ i=>i≤l.length) (λ i=>cM (λ x=>v==x) (l.drop i) i) (λ i=>l.length - i) 0 (Gh.fB ?_) (bc _) ?_
 .simp only[dT,gO,gN,gQ,fV]
 intro i hi0 hF K hK;refine zw ?_;refine aq (λ hlt=> ?_) (λ hge=> ?_)
 .have hi:i<l.length:=by simpa using hlt
  rw[cB hi,cM]at hF;have hat:=mm hi;simp only[dW,c5]at hat;have hw:=bz hi hl;clear hlt
  repeat'(first|exact zC|refine zq (I @eu hat) ?_|(apply aq<;>intro hb)|(apply I;exact zI)|(apply I<;>intro hg))
  .rw[aj hb]at hF;rw[hF];rfl
  .rw[aa (by simp[hb])]at hF;refine hK _ (i+1) (Gh.fB ?_) hi (by simp only[cB hi,cM];rw[aa (by simp[hb])];rfl) (by omega);simp only[hw,dT,gO,gN,gQ]
 .have hi:i=l.length:=by
   have:¬(i:Int)<l.length:=by simpa using hge
   omega
  rw[hi,eL,cM]at hF;refine zw ?_;rw[hF];rfl
theorem Ir (l:List Int) (hl:l.length<2^62) (v:Int):ah prog 165 [.f (al l.length (bt l)), .f (ai v)] (λ r o=>r=[rb (l.any λ x=>v==x)]/\o=[]):=by refine zh func165 results165 ntmps165 call165 ?_;simp only[f165,Option.getD];refine UN trivial (XD l hl v) ?_;rw[xI]
theorem LW (v:Int):ah prog 220 [.f (ai v)] (λ r o=>r=[rb false]/\o=[]):=by refine zh func220 results220 ntmps220 call220 ?_;simp only[f220,Option.getD];exact Bn @bne_self_eq_false.{0}
def qO (a b:Int):Int:=if a<b then -1 else if a>b then 1 else 0
theorem VO (a b:Int):ah prog 213 [.f (ai a), .f (ai b)] (λ r o=>r=[ri (qO a b)]/\o=[]):=by
 refine zh func213 results213 ntmps213 call213 ?_;simp only[f213,Option.getD]
 repeat'(first|exact zC|refine fX ?_|refine zx (LW a) ?_|refine zx (LW b) ?_|(apply aq<;>intro hb)|(apply I;exact zI)|(apply I<;>intro hg))
 all_goals simp only[dX,gg]at*
 .unfold qO;rw[aj (by assumption)]
 .unfold qO;rw[aa (by assumption),aj (by assumption)]
 .unfold qO;rw[aa (by assumption),aa (by assumption)]
theorem U1 (n:Int):ah prog 194 [.f (ai n)] (λ r o=>r=[rb (decide (n≥0)&&decide (n<8))]/\o=[]):=by refine zh func194 results194 ntmps194 call194 ?_;simp only[f194,Option.getD];exact bA trivial
theorem U4 (n:Int):ah prog 162 [.f (ai n)] (λ r o=>r=[rb (decide (n≥0)&&decide (n<8))]/\o=[]):=by refine zh func162 results162 ntmps162 call162 ?_;simp only[f162,Option.getD];exact bA trivial
def fq (n:Int):Bool:=decide (n≥0)&&decide (n<8)
def dc (l:List Int) (v:Int):Bool:=l.any λ x=>v==x
theorem pL {a b c a' b' c':RO}:aT [.one a, .one b, .one c] [.one a', .one b', .one c']=(ak a a'/\ak b b'/\ak c c'/\True):=rfl
def tX (l:List Int):RF:= .one (.own 1 l.length (bt l) false)
def qt (l:List Int) (c:Int):List Int×Int×Int:=
 if(!fq c)=true then([],0,1)else if dc l c=true then([],0,7)else if decide ((l.length:Int)≥3)=true then([],0,5)else(l++[c],l.length,0)
theorem K1 {l:List Int} {i:Nat} (hi:i≤l.length):(bt l).take i=bt (l.take i):=by have:=CV (λ n=>[iD n]) 1 (λ _=>rfl) hi;rwa[qu]at this
def sU (l:List Int) (c:Int):List Int×Bool:=if cM (λ x=>c==x) l 0<0 then(l,false)else(l.eraseIdx (cM (λ x=>c==x) l 0).toNat,true)
def iF (l gone:List Int):List Int:=l.filter λ c=> !dc gone c
section
variable {α:Type} {p:α->Bool}
def nU (p:α->Bool) (l:List α):Nat:=(l.takeWhile p).length
def yC (p:α->Bool) (l:List α):Prop:=l.Pairwise λ x y=>p y=true->p x=true
theorem Hg {l:List α}:nU p l≤l.length:=(List.takeWhile_prefix _).length_le
theorem sq {x:α} {l:List α}:nU p (x::l)=if p x=true then nU p l+1 else 0:=by unfold nU;rw[List.takeWhile_cons];split<;>simp[*]
theorem DG:∀{l:List α} {j:Nat} (hj:j<l.length),j<nU p l->p l[j]=true
 |x::l,0,_,h=>by
  rw[sq]at h;split at h
  .assumption
  .omega
 |x::l,j+1,hj,h=>by
  rw[sq]at h;split at h
  .exact DG (l:=l) (by simpa using hj) (by omega)
  .omega
theorem Ds:∀{l:List α} {j:Nat} (hj:j<l.length),yC p l->nU p l≤j->p l[j]=false
 |x::l,0,_,hm,h=>by
  rw[sq]at h;split at h
  .omega
  .rename_i hx;simpa using hx
 |x::l,j+1,hj,hm,h=>by
  have hm':=oE.1 hm;have hj':j<l.length:=by simpa using hj
  rw[sq]at h;split at h
  .exact Ds (l:=l) hj' hm'.2 (by omega)
  .rename_i hx;have:=hm'.1 l[j] (cb hj');simp only[Eg];cases hc:p l[j]
   .rfl
   .exact absurd (this hc) hx
theorem CI {q:α->Bool}:∀{l:List α},yC p l->(∀x,q x=true->p x=false)->(l.Pairwise λ x y=>q y=true->p x=true)->l.find? q=(l[nU p l]?).filter q
 |[],_,_,_=>rfl
 |x::l,hm,hq,hs=>by
  have hm':=oE.1 hm;have hs':=oE.1 hs;rw[ya,sq];cases hx:p x
  .rw[aa (by simp)];simp only[c9];cases hqx:q x
   .simp only[Option.filter,hqx,lU,cE];rw[tJ];intro y hy hqy;have:=hs'.1 y hy hqy;rw[hx]at this;cases this
   .simp[Option.filter,hqx]
  .rw[aj rfl];have hqx:q x=false:=by
    cases hc:q x
    .rfl
    .have:=hq x hc;rw[hx]at this;cases this
   rw[hqx];simp only[lQ];exact CI hm'.2 hq hs'.2
end
def SS (l:List bg):Prop:=l.Pairwise λ x y=>x.af<y.af
def f6 (l:List bg) (c:Int):Nat:=nU (λ x=>decide (x.af<c)) l
def bC (l:List bg) (c:Int):Option bg:=l.find? λ x=>x.af==c
theorem Hb {l:List bg} (h:SS l) (c:Int):yC (λ x:bg=>decide (x.af<c)) l:=h.imp λ hxy h=>by simp at h⊢;omega
theorem Ga {l:List bg} (h:SS l) (c:Int):bC l c=(l[f6 l c]?).filter λ x=>x.af==c:=
 CI (q:=λ x:bg=>x.af==c) (Hb h c) (λ x hx=>by simp at hx⊢;omega) (h.imp λ hxy h=>by simp at h⊢;omega)
def SM (l:List bN):Prop:=l.Pairwise λ x y=>x.af<y.af
def mJ (l:List bN) (c:Int):Nat:=nU (λ x=>decide (x.af<c)) l
def eM (l:List bN) (c:Int):Option bN:=l.find? λ x=>x.af==c
theorem MZ {l:List bN} (h:SM l) (c:Int):yC (λ x:bN=>decide (x.af<c)) l:=h.imp λ hxy h=>by simp at h⊢;omega
theorem YP {l:List bN} (h:SM l) (c:Int):eM l c=(l[mJ l c]?).filter λ x=>x.af==c:=
 CI (q:=λ x:bN=>x.af==c) (MZ h c) (λ x hx=>by simp at hx⊢;omega) (h.imp λ hxy h=>by simp at h⊢;omega)
abbrev jk (a b:ByteArray):Bool:=Go.Op.bytesLess a.toList b.toList
theorem xQ:∀{a:List UInt8},Go.Op.bytesLess a a=false
 |[]=>rfl
 |a::x=>by rw[Go.Op.bytesLess,xQ (a:=x)];simp
theorem Dg:∀{a b c:List UInt8},Go.Op.bytesLess a b=true->Go.Op.bytesLess b c=true->Go.Op.bytesLess a c=true
 |[],[],_,h,_=>by cases h
 |[],_::_,[],_,h=>by cases h
 |[],_::_,_::_,_,_=>rfl
 |_::_,[],_,h,_=>by cases h
 |_::_,_::_,[],_,h=>by cases h
 |a::x,b::y,c::z,h1,h2=>by
  rw[Go.Op.bytesLess]at*;simp only[pv,bM,dX,iz]at*;rcases h1 with h1|⟨rfl,h1⟩<;>rcases h2 with h2|⟨rfl,h2⟩
  .exact .inl (UInt8.lt_trans h1 h2)
  .exact .inl h1
  .exact .inl h2
  .exact .inr ⟨rfl,Dg h1 h2⟩
theorem YZ {a b:List UInt8} (h:Go.Op.bytesLess a b=true):Go.Op.bytesLess b a=false:=by
 cases hc:Go.Op.bytesLess b a
 .rfl
 .have:=Dg h hc;rw[xQ]at this;cases this
theorem HH:∀{a b:List UInt8},Go.Op.bytesLess a b=false->Go.Op.bytesLess b a=false->a=b
 |[],[],_,_=>rfl
 |[],_::_,h,_=>by cases h
 |_::_,[],_,h=>by cases h
 |a::x,b::y,h1,h2=>by
  rw[Go.Op.bytesLess]at*;simp only[iP,oF,gg,kU]at*;have hab:a=b:=UInt8.le_antisymm (UInt8.not_lt.1 h2.1) (UInt8.not_lt.1 h1.1);subst hab;rcases h1.2 with h|h1'
  .exact absurd rfl h
  rcases h2.2 with h|h2'
  .exact absurd rfl h
  rw[HH h1' h2']
def SL (l:List Lk):Prop:=l.Pairwise λ x y=>jk x.name y.name=true
def bJ (l:List Lk) (s:ByteArray):Nat:=nU (λ x=>jk x.name s) l
def gr (s:ByteArray) (x:Lk):Bool:=x.name.toList==s.toList
def ix (l:List Lk) (s:ByteArray):Option Lk:=l.find? (gr s)
theorem Hc {l:List Lk} (h:SL l) (s:ByteArray):yC (λ x:Lk=>jk x.name s) l:=h.imp λ hxy h=>Dg hxy h
theorem XI {l:List Lk} (h:SL l) (s:ByteArray):ix l s=(l[bJ l s]?).filter (gr s):=
 CI (q:=gr s) (Hc h s) (λ x hx=>by
  simp only[gr,iz]at hx;simp only[jk,hx,xQ]) (h.imp λ hxy h=>by
  simp only[gr,iz]at h;simp only[jk]at hxy⊢;rw[←h];exact hxy)
theorem filter_some {α:Type} {o:Option α} {p:α->Bool} {x:α} (h:o.filter p=some x):o=some x/\p x=true:=by
 cases o with
 |none=>simp at h
 |some y=>
  simp only[Option.filter]at h;split at h
  .rename_i hp;cases h;exact⟨rfl,hp⟩
  .cases h
theorem AE {α:Type} {l:List α} {i:Nat} {x:α} (h:l[i]? =some x):∃hi:i<l.length,l[i]=x:=by obtain⟨hi,h⟩:=cG.1 h;exact⟨hi,h⟩
theorem GN {l:List bg} (h:SS l) {c:Int} {x:bg} (hx:bC l c=some x):(∃hi:f6 l c<l.length,l[f6 l c]=x)/\x.af=c:=by rw[Ga h]at hx;obtain⟨h1,h2⟩:=filter_some hx;exact⟨AE h1,by simpa using h2⟩
theorem sF {l:List Lk} (h:SL l) {s:ByteArray} {x:Lk} (hx:ix l s=some x):(∃hi:bJ l s<l.length,l[bJ l s]=x)/\gr s x=true:=by rw[XI h]at hx;obtain⟨h1,h2⟩:=filter_some hx;exact⟨AE h1,h2⟩
theorem Y' {l:List bN} (h:SM l) {c:Int} {x:bN} (hx:eM l c=some x):(∃hi:mJ l c<l.length,l[mJ l c]=x)/\x.af=c:=by rw[YP h]at hx;obtain⟨h1,h2⟩:=filter_some hx;exact⟨AE h1,by simpa using h2⟩
def eD {α:Type} (q:Nat->α->Bool):Nat->List α->Bool
 |_,[]=>true
 |i,x::r=>if q i x=true then eD q (i+1) r else false
theorem sm {α:Type} {q:Nat->α->Bool}:∀{l:List α} {i:Nat},eD q i l=true↔∀j (hj:j<l.length),q (i+j) l[j]=true
 |[],i=>by simp[eD]
 |x::l,i=>by
  rw[eD];constructor
  .intro h;split at h
   .rename_i hx;intro j hj;cases j with
    |zero=>exact hx
    |succ j=>
     have:=sm.1 h j (by simpa using hj);simp only[Eg];rw[show i+(j+1)=i+1+j by omega];exact this
   .cases h
  .intro h;have h0:=h 0 (by simp);simp only[List.getElem_cons_zero,iy]at h0;rw[aj h0,sm];intro j hj;have:=h (j+1) (by simpa using hj);simp only[Eg]at this;rw[show i+1+j=i+(j+1) by omega];exact this
theorem gJ {α:Type} {q:Nat->α->Bool} {l:List α} {i:Nat} (h:i<l.length):eD q i (l.drop i)=if q i l[i]=true then eD q (i+1) (l.drop (i+1))else false:=by rw[cB h,eD]
theorem q9 {α:Type} {q:Nat->α->Bool} {l:List α} {i:Nat} (h:i=l.length):eD q i (l.drop i)=true:=by rw[h,eL,eD]
def rv (s:bg):Bool:=fq s.af&& !(decide (s.num<1))&& !(decide (s.num>bj))&& !(decide (s.dp<0))&& !(decide (s.dp>bj))
def mQ (l:List bg) (n:Int):Bool:=l.any λ x=>x.num==n
def xW (l:List bg) (i:Nat):Int:=(l[i - 1]?.map bg.af).getD 0
def nj (l:List bg) (i:Nat) (s:bg):Bool:=rv s&& !((decide (i>0)&&decide (xW l i≥s.af))||mQ (l.take i) s.num)
def nq (l:List bg):Bool:= !(decide ((l.length:Int)>5))&&eD (nj l) 0 l
def iN (l:List bg) (c num now:Int):List bg×Int:=
 if(!fq c||decide (num<1)||decide (num>bj)||decide (now<0)||decide (now>bj)||(!(bC l c).isSome&&mQ l num)||((bC l c).isSome&&(((bC l c).map bg.num).getD 0 !=num)&&mQ l num))=true then([],1)else
 if(bC l c).isSome=true then([],7)else if decide ((l.length:Int)≥5)=true then([],5)else(l.take (f6 l c)++⟨c,num,now⟩::l.drop (f6 l c),0)
def jy (l:List bg) (c now:Int):List bg×Int:=
 if(decide (now<0)||decide (now>bj))=true then([],1)else
 match bC l c with
 |none=>([],6)
 |some x=>(l.set (f6 l c) ⟨x.af,x.num,max x.dp now⟩,0)
def qH (l:List bg) (now lease:Int):List Int:=
 if(decide (now<0)||decide (now>bj)||decide (lease<0)||decide (lease>bj))=true then []else(l.filter λ s=>decide (now - s.dp≥lease)).map bg.af
def uY (l:List Int) (i:Nat) (c:Int):Bool:= !(!fq c||dc (l.take i) c)
def iQ (l:List Int):Bool:=eD (uY l) 0 l&&decide ((l.length:Int)≤3)
def x8 (l:List Lk) (i:Nat):ByteArray:=(l[i - 1]?.map Lk.name).getD .empty
def ny (k:Lk):Bool:=fb k.name&& !(decide (k.bh<0))&& !(decide (k.bh≥8))&& !(decide (k.token<1))&& !(decide (k.token>bj))
def nO (l:List Lk) (i:Nat) (k:Lk):Bool:=ny k&& !(!iQ k.line||dc k.line k.bh||(decide (i>0)&& !(jk (x8 l i) k.name)))&& !((l.take i).any λ o=>o.token==k.token)
def kW (l:List Lk):Bool:=eD (nO l) 0 l&&decide ((l.length:Int)≤4)
def AP (l:List Int) (c:Int):Int:=if cM (λ x=>c==x) l 0≥0 then cM (λ x=>c==x) l 0 else 0
def cD (l:List Lk) (name:ByteArray) (c token:Int) (wait:Bool):List Lk×Int×Int:=
 match ix l name with
 |none=>if decide ((l.length:Int)≥4)=true then([],0,5)else(l.take (bJ l name)++⟨name,c,token+1,[]⟩::l.drop (bJ l name),0,0)
 |some k=>if(k.bh==c)=true then([],0,7)else if(!wait)=true then([],0,8)else
  if dc k.line c=true then(l,AP k.line c,10)else
  if(qt k.line c).2.2≠0 then([],0,(qt k.line c).2.2)else(l.set (bJ l name) ⟨k.name,k.bh,k.token,(qt k.line c).1⟩,(qt k.line c).2.1,10)
def np (l:List Lk) (i:Nat) (k:Lk) (token:Int):List Lk×Int:=
 match k.line with
 |[]=>(l.eraseIdx i,0)
 |c::rest=>(l.set i ⟨k.name,c,token+1,rest⟩,1)
def ek (l:List Lk) (name:ByteArray) (c token:Int):List Lk×Int×Int:=
 match ix l name with
 |none=>([],0,6)
 |some k=>if(k.bh==c)=true then((np l (bJ l name) k token).1,(np l (bJ l name) k token).2,0)else
  if dc k.line c=true then(l.set (bJ l name) ⟨k.name,k.bh,k.token,(sU k.line c).1⟩,0,0)else([],0,6)
def eK (gone:List Int) (token:Int):List Lk->Int->List Lk×Int
 |[],g=>([],g)
 |k::r,g=>if dc gone k.bh=true then
   match k.line with
   |[]=>eK gone token r g
   |c::rest=>(⟨k.name,c,token+g+1,rest⟩::(eK gone token r (g+1)).1,(eK gone token r (g+1)).2)
  else(k::(eK gone token r g).1,(eK gone token r g).2)
def eZ (gone:List Int) (k:Lk):Lk:=⟨k.name,k.bh,k.token,iF k.line gone⟩
def jC (l:List Lk) (gone:List Int) (token:Int):List Lk×Int:=eK gone token (l.map (eZ gone)) 0
def ez (l:List Lk) (c:Int):List dO:=(l.filter λ k=>k.bh==c).map λ k=>⟨k.name,k.token⟩
def xT (l:List dO) (i:Nat):ByteArray:=(l[i - 1]?.map dO.name).getD .empty
def i5 (l:List dO) (i:Nat) (g:dO):Bool:= !(!fb g.name||decide (g.token<1)||decide (g.token>bj)||(decide (i>0)&& !(jk (xT l i) g.name)))
def fR (r:eh):Bool:=
 !(decide (r.code<0)||decide (r.code>12)||decide (r.br<0)||decide (r.br>bj)||decide (r.ahead<0)||decide (r.ahead>3))&&
 !(decide ((r.held.length:Int)>4)||((r.br==0)&&decide ((r.held.length:Int)>0)))&&eD (i5 r.held) 0 r.held
def eB (m:bN):Bool:=decide (m.af≥0)&&decide (m.af<8)&&decide (m.seq≥1)&&decide (m.seq≤bj)&&fR m.bd
def yd (l:List bN) (i:Nat):Int:=(l[i - 1]?.map bN.af).getD 0
def nM (l:List bN) (i:Nat) (m:bN):Bool:= !(!eB m||(decide (i>0)&&decide (yd l i≥m.af)))
def qC (l:List bN):Bool:=eD (nM l) 0 l
def kl (l:List bN) (c seq:Int):Int:=
 match eM l c with
 |none=>1
 |some m=>if m.seq<seq then 1 else if m.seq=seq then 0 else -1
def tD (l:List bN) (a:bN):List bN:=
 if(!eB a||(kl l a.af a.seq !=1))=true then l else
 if(eM l a.af).isSome=true then l.set (mJ l a.af) a else l.take (mJ l a.af)++a::l.drop (mJ l a.af)
def within (n:Int):Bool:=decide (n≥0)&&decide (n≤bj)
def uC (s:St):Bool:=s.ae.all λ k=>(k.bh::k.line).all λ c=>(bC s.ax c).isSome
def gE (s:St):Bool:=within s.time&&within s.num&&within s.token&&nq s.ax&&kW s.ae&&qC s.aI&&(s.ax.all λ x=>decide (x.num≤s.num))&&(s.ae.all λ k=>decide (k.token≤s.token))&&uC s
def mP (s:St) (gone:List Int):St:=⟨s.time,s.num,s.token+(jC s.ae gone s.token).2,s.ax.filter λ x=> !dc gone x.af,(jC s.ae gone s.token).1,s.aI⟩
def j9 (s:St) (time:Int):Int:=if(decide (time>s.time)&&decide (time≤bj))=true then time else s.time
def ou (s:St) (time lease:Int):St:=mP {s with time:=j9 s time} (qH s.ax (j9 s time) (max lease 1))
def rpl (code br ahead:Int) (held:List dO):eh:=⟨code,br,ahead,held⟩
def mV (s:St) (c:Int):St×eh:=
 match bC s.ax c with
 |some x=>(s,⟨7,x.num,0,ez s.ae c⟩)
 |none=>if(iN s.ax c (s.num+1) s.time).2≠0 then(s,⟨(iN s.ax c (s.num+1) s.time).2,0,0,[]⟩)else
  ({s with ax:=(iN s.ax c (s.num+1) s.time).1,num:=s.num+1},⟨0,s.num+1,0,ez s.ae c⟩)
def dv (s:St) (r:aX):St×eh:=
 if(r.kind==1)=true then mV s r.af else
 match bC s.ax r.af with
 |none=>(s,⟨9,0,0,[]⟩)
 |some x=>if(x.num !=r.br)=true then(s,⟨9,0,0,[]⟩)else
  let s1:St:={s with ax:=(jy s.ax r.af s.time).1}
  if(r.kind==3||r.kind==4)=true then
   let t:=cD s1.ae r.name r.af s1.token (r.kind==3)
   let s2:St:=if t.2.2=0 then {s1 with ae:=t.1,token:=s1.token+1}else if t.2.2=10 then {s1 with ae:=t.1}else s1
   (s2,⟨t.2.2,x.num,if t.2.2=10 then t.2.1 else 0,ez s2.ae r.af⟩)
  else if(r.kind==5)=true then
   let t:=ek s1.ae r.name r.af s1.token
   let s2:St:=if t.2.2=0 then {s1 with ae:=t.1,token:=s1.token+t.2.1}else s1
   (s2,⟨t.2.2,x.num,0,ez s2.ae r.af⟩)
  else if(r.kind==6)=true then(mP s1 [r.af],⟨0,0,0,[]⟩)
  else(s1,⟨0,x.num,0,ez s1.ae r.af⟩)
def ox (s:St) (r:aX):St×eh×Bool:=
 if(!aX.may r)=true then(s,⟨1,0,0,[]⟩,false)else
 if kl s.aI r.af r.seq= -1 then(s,⟨0,0,0,[]⟩,false)else
 if kl s.aI r.af r.seq=0 then(s,((eM s.aI r.af).map bN.bd).getD ⟨0,0,0,[]⟩,false)else
 ({(dv s r).1 with aI:=tD (dv s r).1.aI ⟨r.af,r.seq,(dv s r).2⟩},(dv s r).2,true)
def adH (a b:St):List Int:=(a.ax.filter λ x=> !((bC b.ax x.af).any λ y=>y.num==x.num)).map bg.af
theorem XJ {a b:Int}:(qO a b==0)=(a==b):=by
 unfold qO;split
 .rw[nK];simp;omega
 .split
  .rw[nK];simp;omega
  .rw[nK];simp;omega
theorem M6 {a b:Int}:qO a b<0↔a<b:=by
 unfold qO;split
 .simp;omega
 .split<;>simp<;>omega
theorem aag {α:Type} {o:Option α} {p:α->Bool}:(o.filter p).isSome=(o.map p).getD false:=by
 cases o with
 |none=>rfl
 |some x=>simp only[Option.filter,im,ku];cases p x<;>rfl
theorem abI (x:bg) (n:Int):ah prog 193 [.f (AL x), .f (.one (.fJ [iD n]))] (λ r o=>r=[rb (x.num==n)]/\o=[]):=by refine zh func193 results193 ntmps193 call193 ?_;simp only[f193,Option.getD];exact bA trivial
theorem VU (l:List bg) (hl:l.length<2^62) (n:Int):ah prog 163 [.f (al l.length (bT l)), .f (ai n)] (λ r o=>r=[rb (mQ l n)]/\o=[]):=by refine zh func163 results163 ntmps163 call163 ?_;simp only[f163,Option.getD];have h:=U5 l hl (λ x=>x.num==n) 193 [.fJ [iD n]] rfl rfl (λ x _=>abI x n);refine zL trivial (h) ?_;rfl
theorem W6 (x:bg) (c:Int):ah prog 212 [.f (AL x), .f (ai c)] (λ r o=>r=[ri (qO x.af c)]/\o=[]):=by refine zh func212 results212 ntmps212 call212 ?_;simp only[f212,Option.getD];exact zW trivial (VO x.af c)
theorem YQ (l:List bg) (hs:SS l) (hl:l.length<2^62) (c:Int):ah prog 197 [.f (al l.length (bT l)), .f (ai c)] (λ r o=>r=[ri (f6 l c),rb (bC l c).isSome]/\o=[]):=by
 refine zh func197 results197 ntmps197 call197 ?_;simp only[f197,Option.getD];have h:=Vd l hl c (λ x=>qO x.af c) 212 (f6 l c) Hg
  (λ j hj h=>by have:=DG hj h;simp at this;exact M6.2 this)
  (λ j hj h=>by have:=Ds hj (Hb hs c) h;simp at this;have h2:= @M6 l[j].af c;omega) (λ x _=>W6 x c)
 have e:((l[f6 l c]?.map λ x=>qO x.af c==0).getD false)=(bC l c).isSome:=by rw[Ga hs,aag];simp only[XJ]
 rw[e]at h;exact zW trivial (h)
theorem wI {a b a' b':RO}:aT [.one a, .one b] [.one a', .one b']=(ak a a'/\ak b b'/\True):=rfl
def pg:bg:=⟨0,0,0⟩
theorem Zo (l:List bg) (hs:SS l) (hl:l.length<2^62) (c:Int):ah prog 168 [.f (al l.length (bT l)), .f (ai c)]
  (λ r o=>r=[.agg [.d (iD ((bC l c).getD pg).af), .d (iD ((bC l c).getD pg).num), .d (iD ((bC l c).getD pg).dp)],rb (bC l c).isSome]/\o=[]):=by
 refine zh func168 results168 ntmps168 call168 ?_;simp only[f168,Option.getD];have h:=YQ l hs hl c;cases hf:bC l c with
 |none=>
  rw[hf]at h;simp only[yc]at h;refine zL trivial (h) ?_;rfl
 |some x=>
  rw[hf]at h;simp only[Be]at h;rw[Ga hs]at hf;have hg:l[f6 l c]? =some x:=by
   cases hq:l[f6 l c]? with
   |none=>rw[hq]at hf;simp at hf
   |some y=>rw[hq]at hf;simp only[Option.filter]at hf;split at hf<;>simp_all
  obtain⟨hi,he⟩:=cG.1 hg;have hat:=hU hi;rw[he]at hat;simp only[dW,c5]at hat;refine zL (I hat @ca) (h) ?_;rfl
theorem U9 (l:List bg) (hl:l.length<2^30):ah prog 120 [.f (al l.length (bT l))] (λ r o=>r=[rb (nq l)]/\o=[]):=by
 refine zh func120 results120 ntmps120 call120 ?_;simp only[f120,Option.getD];cases h5:decide ((l.length:Int)>5)
 .have hs:nq l=eD (nj l) 0 l:=by rw[nq,h5];rfl
  rw[hs];refine az (I h5 @ca) ?_;refine bq (τ:=Nat) (λ i=>⟨(al l.length (bT l)::r9 (al l.length (bT l)::ai l.length::ai i::nz (b8 []))),[(4,⟨2,[]⟩)]⟩)
   (λ i=>i≤l.length) (λ i=>eD (nj l) i (l.drop i)) (λ i=>l.length - i) 0
   (Gh.canon [] [4] [] zK rfl rfl) (bc _) ?_
  intro i hi0 hF K hK;simp only[cC]at hF hK⊢;refine zw ?_;refine aq (λ hlt=> ?_) (λ hge=> ?_)
  .have hi:i<l.length:=by simpa using hlt
   have hat:=hU hi;simp only[dW,c5]at hat;have hw:=bz hi (by omega);rw[gJ hi]at hF;have hcl:=U4 l[i].af;have hnb:=VU (l.take i) (by rw[cu];omega) l[i].num;have hlt2:(l.take i).length=i:=by rw[cu];omega
   have htk:(bT l).take (i*3)=bT (l.take i):=CV bg.enc 3 (λ _=>rfl) (by omega);rw[hlt2]at hnb;cases e0:decide ((i:Int)>0)
   .have hq:nj l i l[i]=(!(!(decide (l[i].af≥0)&&decide (l[i].af<8))||decide (l[i].num<1)||decide (l[i].num>2305843009213693952)||decide (l[i].dp<0)||decide (l[i].dp>2305843009213693952))&& !(mQ (l.take i) l[i].num)):=by
     unfold nj rv fq;have:decide (i>0)=false:=by simpa using e0
     rw[this];simp only[xV,uH,gV,lR]
    have h0:i=0:=by simpa using e0
    have hp:(bT l).drop ((IntKind.i64.wrap ((i:Int) - 1)).toNat*3)=l[i].enc++bT (l.drop (i+1)):=by rw[←hU hi,h0];rfl
    repeat'(first|exact zC|refine zq (I hat (I hp (I htk (I e0 (I @ca bw))))) ?_|refine zx (hcl) ?_|refine zx (hnb) ?_|(apply aq<;>intro hb)|(apply I;exact zI)|(apply I<;>intro hg))
    .rw[hq,hb,aa (by simp)]at hF;rw[←hF]
    .rename_i ha;rw[hq,ha,hb,aa (by simp)]at hF;rw[←hF]
    .rename_i ha;exact hK _ (i+1) (Gh.canon [] [] [] (zk hw) rfl rfl) hi (by rw[gJ hi,hq,ha,hb];rfl) (by omega)
   .have hq:nj l i l[i]=(!(!(decide (l[i].af≥0)&&decide (l[i].af<8))||decide (l[i].num<1)||decide (l[i].num>2305843009213693952)||decide (l[i].dp<0)||decide (l[i].dp>2305843009213693952))&& !(decide ((l[i - 1]'(by omega)).af≥l[i].af)||mQ (l.take i) l[i].num)):=by
     unfold nj rv fq xW;have:decide (i>0)=true:=by simpa using e0
     rw[this,dG (by omega)];simp only[xV,uH,ec,im,ku]
    have h0:0<i:=by simpa using e0
    have hp:=hU (show i - 1<l.length by omega);have hw1:IntKind.i64.wrap ((i:Int) - 1)=((i - 1:Nat):Int):=by rw[wrap64 (by omega) (by omega)];omega
    repeat'(first|exact zC|refine zq (I hat (I hp (I hw1 (I htk (I e0 (I @ca bw)))))) ?_|refine zx (hcl) ?_|refine zx (hnb) ?_|(apply aq<;>intro hb)|(apply I;exact zI)|(apply I<;>intro hg))
    .rw[hq,hb,aa (by simp)]at hF;rw[←hF]
    .rename_i ha;rw[hq,ha,hb,aa (by simp)]at hF;rw[←hF]
    .rename_i ha;exact hK _ (i+1) (Gh.canon [] [] [] (zk hw) rfl rfl) hi (by rw[gJ hi,hq,ha,hb];rfl) (by omega)
  .have hi:i=l.length:=by
    have:¬(i:Int)<l.length:=by simpa using hge
    omega
   rw[q9 hi]at hF;rw[←hF];exact bA trivial
 .have hs:nq l=false:=by rw[nq,h5];rfl
  rw[hs];exact bA (I h5 @ca)
def adK (a b:ByteArray):Int:=Lib.compareBytes a.data.toList b.data.toList
theorem Vo (l:List Int) (hl:l.length<2^30):ah prog 164 [.f (al l.length (bt l))] (λ r o=>r=[rb (iQ l)]/\o=[]):=by
 refine zh func164 results164 ntmps164 call164 ?_;simp only[f164,Option.getD];refine az @eu ?_;refine bq (τ:=Nat) (λ i=>⟨(al l.length (bt l)::js (al l.length (bt l)::ai l.length::ai i::rZ [])),[]⟩)
  (λ i=>i≤l.length) (λ i=>eD (uY l) i (l.drop i)) (λ i=>l.length - i) 0
  (Gh.canon [] [] [] zK rfl rfl) (bc _) ?_
 intro i hi0 hF K hK;rw[cC]at hF;refine zw ?_;refine aq (λ hlt=> ?_) (λ hge=> ?_)
 .have hi:i<l.length:=by simpa using hlt
  have hat:=mm hi;have hw:=bz hi (by omega);rw[gJ hi]at hF;have hcl:=U1 l[i];have hlt2:(l.take i).length=i:=by rw[cu];omega
  have htk:(bt l).take i=bt (l.take i):=K1 (by omega);have hco:=Ir (l.take i) (by omega) l[i];rw[hlt2]at hco;have hq:uY l i l[i]= !(!(decide (l[i]≥0)&&decide (l[i]<8))||(l.take i).any λ x=>l[i]==x):=rfl
  repeat'(first|exact zC|refine zq (I hat (I htk (I @eu bw))) ?_|refine zx (hcl) ?_|refine zx (hco) ?_|(apply aq<;>intro hb)|(apply I;exact zI)|(apply I<;>intro hg))
  .rw[hq,hb,aa (by simp)]at hF;unfold iQ;rw[←hF];rfl
  .exact hK _ (i+1) (Gh.canon [] [] [] (zk hw) rfl rfl) hi (by rw[gJ hi,hq,hb];rfl) (by omega)
 .have hi:i=l.length:=by
   have:¬(i:Int)<l.length:=by simpa using hge
   omega
  rw[q9 hi]at hF;unfold iQ;rw[←hF];exact bA trivial
theorem Wg (k j:Lk):ah prog 167 [.f (Hx k), .f (.one (.fJ j.enc))] (λ r o=>r=[rb (k.token==j.token)]/\o=[]):=by refine zh func167 results167 ntmps167 call167 ?_;simp only[f167,Option.getD];exact bA trivial
theorem Vf (l:List Lk) (hl:l.length<2^30) (hll:∀k∈l,k.line.length<2^30/\k.name.size<2^62):ah prog 121 [.f (al l.length (aU l))] (λ r o=>r=[rb (kW l)]/\o=[]):=by
 refine zh func121 results121 ntmps121 call121 ?_;simp only[f121,Option.getD];refine az @bK ?_;refine bq (τ:=Nat) (λ i=>⟨(al l.length (aU l)::js (al l.length (aU l)::ai l.length::ai i::Br (b8 []))),[(4,⟨2,[]⟩)]⟩)
  (λ i=>i≤l.length) (λ i=>eD (nO l) i (l.drop i)) (λ i=>l.length - i) 0
  (Gh.canon [] [4] [] zK rfl rfl) (bc _) ?_
 intro i hi0 hF K hK;rw[cC]at hF;refine zw ?_;refine aq (λ hlt=> ?_) (λ hge=> ?_)
 .have hi:i<l.length:=by simpa using hlt
  have hat:=f8 hi;obtain⟨hk1,hk2⟩:=hll _ (cb hi);have hw:=bz hi (by omega);rw[gJ hi]at hF;have hnm:=Dv l[i].name hk2;have hlr:=Vo l[i].line hk1;have hlc:=Ir l[i].line (by omega) l[i].bh;have hlt2:(l.take i).length=i:=by rw[cu];omega
  have htk:(aU l).take (i*4)=aU (l.take i):=CV Lk.enc 4 (λ _=>rfl) (by omega);have hco:=U7 (l.take i) (by omega) (λ o=>o.token==l[i].token) 167 [.fJ l[i].enc] rfl rfl (λ x _=>Wg x _);rw[hlt2]at hco;cases e0:decide ((i:Int)>0)
  .have h0:i=0:=by simpa using e0
   have hq:nO l i l[i]=(!(!fb l[i].name||decide (l[i].bh<0)||decide (l[i].bh≥8)||decide (l[i].token<1)||decide (l[i].token>2305843009213693952))&& !(!iQ l[i].line||l[i].line.any λ x=>l[i].bh==x)&& !((l.take i).any λ o=>o.token==l[i].token)):=by
    unfold nO ny dc;have:decide (i>0)=false:=by simpa using e0
    rw[this];simp only[xV,uH,gV,nR]
   have hp:(aU l).drop ((IntKind.i64.wrap ((i:Int) - 1)).toNat*4)=l[i].enc++aU (l.drop (i+1)):=by rw[←f8 hi,h0];rfl
   repeat'(first|exact zC|refine zq (I hat (I hp (I htk (I e0 (I @bK bw))))) ?_|refine zx (hnm) ?_|refine zx (hlr) ?_|refine zx (hlc) ?_|refine zx (hco) ?_|(apply aq<;>intro hb)|(apply I;exact zI)|(apply I<;>intro hg))
   .rw[hq,hb,aa (by simp)]at hF;unfold kW;rw[←hF];rfl
   .rename_i ha;rw[hq,ha,hb,aa (by simp)]at hF;unfold kW;rw[←hF];rfl
   .rename_i ha hc;rw[hq,ha,hc,hb,aa (by simp)]at hF;unfold kW;rw[←hF];rfl
   .rename_i ha hc;exact hK _ (i+1) (Gh.canon [] [] [] (zk hw) rfl rfl) hi (by rw[gJ hi,hq,ha,hc,hb];rfl) (by omega)
  .have h0:0<i:=by simpa using e0
   have hq:nO l i l[i]=(!(!fb l[i].name||decide (l[i].bh<0)||decide (l[i].bh≥8)||decide (l[i].token<1)||decide (l[i].token>2305843009213693952))&& !(!iQ l[i].line||(l[i].line.any λ x=>l[i].bh==x)|| !(jk (l[i - 1]'(by omega)).name l[i].name))&& !((l.take i).any λ o=>o.token==l[i].token)):=by
    unfold nO ny dc x8;have:decide (i>0)=true:=by simpa using e0
    rw[this,dG (by omega)];simp only[xV,uH,ec,im,ku]
   have hp:=f8 (show i - 1<l.length by omega);have hw1:IntKind.i64.wrap ((i:Int) - 1)=((i - 1:Nat):Int):=by rw[wrap64 (by omega) (by omega)];omega
   repeat'(first|exact zC|refine zq (I hat (I hp (I hw1 (I htk (I e0 (I @bK bw)))))) ?_|refine zx (hnm) ?_|refine zx (hlr) ?_|refine zx (hlc) ?_|refine zx (hco) ?_|(apply aq<;>intro hb)|(apply I;exact zI)|(apply I<;>intro hg))
   .rw[hq,hb,aa (by simp)]at hF;unfold kW;rw[←hF];rfl
   .rename_i ha;rw[hq,ha,hb,aa (by simp)]at hF;unfold kW;rw[←hF];rfl
   .rename_i ha hc;rw[hq,ha,hc,hb,aa (by simp)]at hF;unfold kW;rw[←hF];rfl
   .rename_i ha hc;exact hK _ (i+1) (Gh.canon [] [] [] (zk hw) rfl rfl) hi (by rw[gJ hi,hq,ha,hc,hb];rfl) (by omega)
 .have hi:i=l.length:=by
   have:¬(i:Int)<l.length:=by simpa using hge
   omega
  rw[q9 hi]at hF;unfold kW;rw[←hF];exact bA trivial
def jN (l:List Lk) (gone:List Int) (i:Nat):List Lk:=(l.take i).map (eZ gone)++l.drop i
theorem ZG {l:List Lk} {gone:List Int} {i:Nat} (hi:i≤l.length):(jN l gone i).length=l.length:=by unfold jN;rw[aG,bE,cu,iM];omega
theorem aaR {l:List Lk} {gone:List Int} {i:Nat} (hi:i<l.length):∃h:i<(jN l gone i).length,(jN l gone i)[i]=l[i]:=by
 have hl:((l.take i).map (eZ gone)).length=i:=by rw[bE,cu];omega
 have h:(jN l gone i)[i]? =some l[i]:=by unfold jN;rw[dL (by omega),hl,iq,pr,iy,dG hi]
 exact AE h
theorem XR {l:List Lk} {gone:List Int} {i:Nat} (hi:i<l.length):(jN l gone i).set i (eZ gone l[i])=jN l gone (i+1):=by
 have hl:((l.take i).map (eZ gone)).length=i:=by rw[bE,cu];omega
 unfold jN;rw[wi _ _ (by omega),hl,iq,cB hi,iO,List.take_add_one,dG hi];simp only[Option.toList,fU,b7,fY,fH,dW,c5]
theorem aab (l:List Lk) (gone:List Int):jN l gone l.length=l.map (eZ gone):=by unfold jN;rw[lP,eL,fe]
theorem WK {gone:List Int} {t:Int} {L:List Lk} {i:Nat} {g:Int} (hi:i<L.length):eK gone t (L.drop i) g=if dc gone L[i].bh=true then
   match L[i].line with
   |[]=>eK gone t (L.drop (i+1)) g
   |c::rest=>(⟨L[i].name,c,t+g+1,rest⟩::(eK gone t (L.drop (i+1)) (g+1)).1,(eK gone t (L.drop (i+1)) (g+1)).2)
  else(L[i]::(eK gone t (L.drop (i+1)) g).1,(eK gone t (L.drop (i+1)) g).2):=by
 rw[cB hi,eK]
 all_goals (cases L[i].line<;>rfl)
theorem Hv {a b:Int}:(a==b)=(b==a):=by rw[nK,iz,iz];exact eq_comm
theorem Eh (l:List Int) (hl:l.length<2^62) (x:Int):ah prog 171 [.f (al l.length (bt l)), .f (ai x)] (λ r o=>r=[rb (dc l x)]/\o=[]):=by
 refine zh func171 results171 ntmps171 call171 ?_;simp only[f171,Option.getD];refine az trivial ?_;refine bq (τ:=Nat) (λ i=>⟨(al l.length (bt l)::ai x::jt (ai i::nT [])),[]⟩)
  (λ i=>i≤l.length) (λ i=>dc (l.drop i) x) (λ i=>l.length - i) 0
  (Gh.canon [] [] [] zK rfl rfl) (bc _) ?_
 intro i hi0 hF K hK;rw[cC]at hF;refine zw ?_;refine aq (λ hlt=> ?_) (λ hge=> ?_)
 .have hi:i<l.length:=by simpa using hlt
  have hat:=mm hi;have hw:=bz hi hl;have hq:dc (l.drop i) x=(l[i]==x||dc (l.drop (i+1)) x):=by rw[cB hi];unfold dc;rw[pB,Hv]
  rw[hq]at hF
  repeat'(first|exact zC|refine zq (I hat (I @eu bw)) ?_|(apply aq<;>intro hb)|(apply I;exact zI)|(apply I<;>intro hg))
  .rw[hb]at hF;rw[←hF];rfl
  .rw[hb]at hq;exact hK _ (i+1) (Gh.canon [] [] [] (zk hw) rfl rfl) hi (by rw[hq];rfl) (by omega)
 .have hi:i=l.length:=by
   have:¬(i:Int)<l.length:=by simpa using hge
   omega
  rw[hi,eL]at hF;rw[←hF];refine az trivial ?_;rfl
abbrev acq (x:bg):RF:= .agg [.d (iD x.af), .d (iD x.num), .d (iD x.dp)]
theorem sH (l:List bg) (hl:l.length<2^62) (c:Int):ah prog 137 [.f (al l.length (bT l)), .f (ai c)]
  (λ r o=>r=[acq ((bC l c).getD pg),rb (bC l c).isSome]/\o=[]):=by
 refine zh func137 results137 ntmps137 call137 ?_;simp only[f137,Option.getD];refine az trivial ?_;refine bq (τ:=Nat) (λ i=>⟨(al l.length (bT l)::ai c::dM (cd 4::dd::ai i::rZ [])),[(4,⟨2,[aW 1 [di 0,di 0,di 0],none,none,none]⟩)]⟩)
  (λ i=>i≤l.length) (λ i=>bC (l.drop i) c) (λ i=>l.length - i) 0
  (Gh.canon [4] [] [] zK rfl rfl) (bc _) ?_
 intro i hi0 hF K hK;rw[cC]at hF;refine zw ?_;refine aq (λ hlt=> ?_) (λ hge=> ?_)
 .have hi:i<l.length:=by simpa using hlt
  have hat:=hU hi;have hw:=bz hi hl;have hq:bC (l.drop i) c=if(l[i].af==c)=true then some l[i]else bC (l.drop (i+1)) c:=by unfold bC;rw[cB hi,ya];cases l[i].af==c<;>rfl
  rw[hq]at hF
  repeat'(first|exact zC|refine zq (I hat (I @ca bw)) ?_|(apply aq<;>intro hb)|(apply I;exact zI)|(apply I<;>intro hg))
  .rw[aj hb]at hF;rw[←hF];rfl
  .rw[aa (by rw[hb];simp)]at hq;exact hK _ (i+1) (Gh.canon [4] [] [] (zk hw) rfl rfl) hi hq.symm (by omega)
 .have hi:i=l.length:=by
   have:¬(i:Int)<l.length:=by simpa using hge
   omega
  rw[hi,eL]at hF;rw[←hF];refine az trivial ?_;rfl
theorem Gm (l:List Lk) (hl:l.length<2^62) (s:ByteArray):ah prog 217 [.f (al l.length (aU l)), .f (kG s)] (λ r o=>r=[ri (cM (gr s) l 0)]/\o=[]):=by
 refine zh func217 results217 ntmps217 call217 ?_;simp only[f217,Option.getD];refine az trivial ?_;refine bq (τ:=Nat) (λ i=>⟨(al l.length (aU l)::kG s::jt (ai i::wJ [])),[]⟩)
  (λ i=>i≤l.length) (λ i=>cM (gr s) (l.drop i) i) (λ i=>l.length - i) 0
  (Gh.canon [] [] [] zK rfl rfl) (bc _) ?_
 intro i hi0 hF K hK;rw[cC]at hF;refine zw ?_;refine aq (λ hlt=> ?_) (λ hge=> ?_)
 .have hi:i<l.length:=by simpa using hlt
  have hat:=f8 hi;have hw:=bz hi hl;have hq:cM (gr s) (l.drop i) i=if(l[i].name.toList==s.toList)=true then(i:Int)else cM (gr s) (l.drop (i+1)) ((i+1:Nat):Int):=by rw[cB hi,cM];rfl
  rw[hq]at hF
  repeat'(first|exact zC|refine zq (I hat (I @bK bw)) ?_|(apply aq<;>intro hb)|(apply I;exact zI)|(apply I<;>intro hg))
  .rw[aj hb]at hF;have hF:(i:Int)=cM (gr s) l 0:=hF;rw[←hF]
  .rw[aa (by rw[hb];simp)]at hq;exact hK _ (i+1) (Gh.canon [] [] [] (zk hw) rfl rfl) hi hq.symm (by omega)
 .have hi:i=l.length:=by
   have:¬(i:Int)<l.length:=by simpa using hge
   omega
  rw[hi,eL]at hF;have hF:(-1:Int)=cM (gr s) l 0:=hF;rw[←hF];exact bA trivial
end Go.Proofs.YtliimajkpggbhaaGreat
