import Derived.Test.YtliimajkpggbhaaGreatTy
import Derived.Test.YtliimajkpggbhaaGreatK9
import Derived.KernelRfl
namespace Go.Proofs.YtliimajkpggbhaaGreat
open Go.Pk Tryz
set_option maxRecDepth 100000
set_option linter.unusedSimpArgs false
set_option linter.unusedVariables false
theorem zE6:(([25,33,153,151]:List Nat)).all (eqB prog)=true:=by kernel_rfl
theorem zcV:TOK prog Ty:=zA0 fun t ht=>List.all_eq_true.1 zE6 t ht
theorem mixed:prog.follows .mixedOrders=true:=by kernel_rfl
theorem zh {i:FuncId} {f:Func} {rvs:List ResultVar} {n:Nat} {args:List Arg} {post:List RF→List (List RO)→Prop} (h1:prog.funcs[i]? =some f) (h2:f.results=rvs.toArray) (h3:f.ntmps=n) (h4:∀(us:Array Value) (w:World),(callFunc i us).run prog w= .ok (.enter i us) w)
  (hk:awp Ty prog (f.body.getD .skip) (openG n args) (zqB Ty rvs (objPos 0 args) post)) (hb:f.body=some (f.body.getD .skip):=by rfl):CallOK prog i args post:=znJ zcV mixed h1 hb h2 h3 h4 hk
theorem zhy {i:FuncId} {f:Func} {n:Nat} {args:List Arg} {x:Value} (h1:prog.funcs[i]? =some f) (h3:f.ntmps=n) (h4:∀(us:Array Value) (w:World),(callFunc i us).run prog w= .ok (.enter i us) w)
  (hk:awp Ty prog (f.body.getD .skip) (openG n args) (zAY x)) (hb:f.body=some (f.body.getD .skip):=by rfl):zbZ prog i args x:=znK zcV mixed h1 hb h3 h4 hk
theorem zhb {i:FuncId} {f:Func} {rvs:List ResultVar} {n:Nat} {args:List Arg} {post:List RF→List (List RO)→Prop} {x:Value} {b:Bool} (h1:prog.funcs[i]? =some f) (h2:f.results=rvs.toArray) (h3:f.ntmps=n) (h4:∀(us:Array Value) (w:World),(callFunc i us).run prog w= .ok (.enter i us) w)
  (hk:awp Ty prog (f.body.getD .skip) (openG n args) (zBO (zqB Ty rvs (objPos 0 args) post) (zAY x) b)) (hb:f.body=some (f.body.getD .skip):=by rfl):(b=true→CallOK prog i args post)∧(b=false→zbZ prog i args x):=zwk zcV mixed h1 hb h2 h3 h4 hk
def zh2 (c:UInt8):Bool:= !((decide ((c.toNat:Int)<97)||decide ((c.toNat:Int)>122))&&(decide ((c.toNat:Int)<48)||decide ((c.toNat:Int)>57))&&((c.toNat:Int) !=45))
def nameP (s:ByteArray):Bool:=((List.range s.size).all fun j=>zh2 (s.data.getD j 0))&&(decide ((s.size:Int)≥1)&&decide ((s.size:Int)≤12))
theorem zrc (k:Int):CallOK prog 113 [.f (ai k)] (fun r o=>r=[rb (k==3||k==4||k==5)]∧o=[]):=by
 refine zh func113 results113 ntmps113 call113 ?_
 simp only[f113,Option.getD]
 exact zBR trivial
theorem zmY (s:ByteArray) (hs:s.size<2^62):CallOK prog 114 [.f (ast s)] (fun r o=>r=[rb (nameP s)]∧o=[]):=by
 refine zh func114 results114 ntmps114 call114 ?_
 simp only[f114,Option.getD]
 refine zw ?_
 refine zjk Ty prog (τ:=Nat) (fun i=>⟨(ast s::dd::ab false::dq2 (ast s::ai s.size::ai i::zx7 [])),[]⟩) (fun i=>i≤s.size∧∀j,j<i→zh2 (s.data.getD j 0)=true) (fun i=>s.size - i) 0 ?_ ⟨Nat.zero_le _,fun j hj=>absurd hj (Nat.not_lt_zero j)⟩ ?_
 ·refine Gh.fgt ?_
  simp only[ddE,zbw,zbx,zb4,Int.natCast_zero]
 intro i ⟨h1,h2⟩ K hK
 refine zw ?_
 rw[zdC]
 refine⟨trivial,fun hlt=> ?_,fun hge=> ?_⟩
 ·refine zw ?_
  have hi:i<s.size:=by simpa using hlt
  refine⟨⟨Int.natCast_nonneg i,by omega⟩,zqT (fun a b=>by rw[a,b];rfl), ?_⟩
  have hok:zh2 (s.data.getD i 0)= !((decide (((s.data.getD i 0).toNat:Int)<97)||decide (((s.data.getD i 0).toNat:Int)>122))&&(decide (((s.data.getD i 0).toNat:Int)<48)||decide (((s.data.getD i 0).toNat:Int)>57))&&(((s.data.getD i 0).toNat:Int) !=45)):=rfl
  rw[zdC]
  refine⟨trivial,fun hb=> ?_,fun hb=> ?_⟩
  ·rw[hb]at hok
   refine zw ?_
   have hn:nameP s=false:=by
    unfold nameP
    rw[show((List.range s.size).all fun j=>zh2 (s.data.getD j 0))=false from List.all_eq_false.2 ⟨i,List.mem_range.2 hi,by rw[hok];simp⟩,Bool.false_and]
   rw[hn]
  ·rw[hb]at hok
   refine zw ?_
   refine hK _ (i+1) (Gh.fgt ?_) ⟨hi,fun j hj=> ?_⟩ (by omega)
   ·have hw:IntKind.i64.wrap ((i:Int)+1)=((i+1:Nat):Int):=by rw[wrap64 (by omega) (by omega)];rfl
    simp only[hw,ddE,zbw,zbx,zb4]
   ·rcases Nat.lt_or_ge j i with h|h
    ·exact h2 j h
    ·rw[show j=i from by omega,hok];rfl
 ·refine zw ?_
  have hi:i=s.size:=by
   have:¬(i:Int)<s.size:=by simpa using hge
   omega
  have hn:nameP s=(decide ((s.size:Int)≥1)&&decide ((s.size:Int)≤12)):=by
   unfold nameP
   rw[show((List.range s.size).all fun j=>zh2 (s.data.getD j 0))=true from List.all_eq_true.2 fun j hj=>h2 j (by rw[hi];exact List.mem_range.1 hj),Bool.true_and]
  rw[hn]
def zk1 (k n:Int) (s:ByteArray):Bool:=
 if(decide (k<1)||decide (k>6))=true then false else
 if((k==3||k==4||k==5)&& !nameP s|| !(k==3||k==4||k==5)&& !s.toList==(⟨#[]⟩:ByteArray).toList)=true then false else
 if(k==1)=true then n==0 else decide (n≥1)&&decide (n≤2305843009213693952)
theorem zrd (k n:Int) (s:ByteArray) (hs:s.size<2^62):CallOK prog 73 [.f (.agg [di k,di n,dS s])] (fun r o=>r=[rb (zk1 k n s)]∧o=[]):=by
 refine zh func73 results73 ntmps73 call73 ?_
 simp only[f73,Option.getD]
 repeat'(first|exact zC|refine za0 ?_|((first|((try refine zaV ?_);apply zaX)|(apply zba;intro _));(solve|exact(zrc _)|(refine CallOK.le (zrc _) ?_;exact zM)|fail);try case hn=>rfl)|((first|((try refine zaV ?_);apply zaX)|(apply zba;intro _));(solve|exact(zmY _ hs)|(refine CallOK.le (zmY _ hs) ?_;exact zM)|fail);try case hn=>rfl)|(apply zaa<;>intro hb)|(apply I;exact zI)|(apply I<;>intro hg))
 ·rw[zk1,if_pos (by assumption)]
 ·rw[zk1,if_neg (by simp_all),if_pos (by assumption)]
 ·rw[zk1,if_neg (by simp_all),if_neg (by simp_all),if_pos (by assumption)]
 ·rw[zk1,if_neg (by simp_all),if_neg (by simp_all),if_neg (by simp_all)]
def Req.may (r:Req):Bool:=(decide (r.client≥0)&&decide (r.client<8)&&decide (r.seq≥1)&&decide (r.seq≤zbE))&&zk1 r.kind r.session r.name
theorem zgd (r:Req) (hr:r.ok):CallOK prog 34 [.f (.agg (r.enc.map C.d))] (fun x o=>x=[rb (Req.may r)]∧o=[]):=by
 refine zh func34 results34 ntmps34 call34 ?_
 simp only[f34,Option.getD]
 repeat'(first|exact zC|refine za0 ?_|((first|((try refine zaV ?_);apply zaX)|(apply zba;intro _));(solve|exact(zrd _ _ _ hr.2.2.2.2)|(refine CallOK.le (zrd _ _ _ hr.2.2.2.2) ?_;exact zM)|fail);try case hn=>rfl)|(apply zaa<;>intro hb)|(apply I;exact zI)|(apply I<;>intro hg))
 rfl
def zdg {α:Type} (p:α→Bool):List α→Int→Int
 |[],_=> -1
 |x::l,i=>if p x=true then i else zdg p l (i+1)
theorem zgF {α:Type} (p:α→Bool) (l:List α):decide (zdg p l 0≥0)=l.any p:=by
 have h:∀(l:List α) (i:Int),0≤i→(0≤zdg p l i↔l.any p=true):=by
  intro l
  induction l with
  |nil=>intro i _;simp[zdg]
  |cons x l ih=>
   intro i hi
   simp only[zdg]
   by_cases hx:p x=true
   ·simp[hx,hi]
   ·rw[if_neg hx,ih (i+1) (by omega)];simp[hx]
 rw[Bool.eq_iff_iff]
 simpa using h l 0 (Int.le_refl _)
theorem zBQ {a b:RO}:zaN [.one a] [.one b]=(zaA a b∧True):=rfl
theorem zai {i n:Nat} (h:i<n) (hn:n<2^62):IntKind.i64.wrap ((i:Int)+1)=((i+1:Nat):Int):=by rw[wrap64 (by omega) (by omega)];rfl
theorem zxi {n:Nat} (h:n<2^63):IntKind.u64.wrap (n:Int)=n:=by
 unfold IntKind.wrap
 simp[IntKind.signed,IntKind.bits]
 omega
theorem zCa:Go.Pk.bad.x= .one .dead:=rfl
abbrev zBr:Int→AV:=fun x=> .one (di x)
abbrev zoy:Sess→AV:=fun x=> .agg (x.enc.map C.d)
abbrev zuV:Lk→AV:=fun x=> .agg (x.enc.map C.d)
abbrev zCo:Memo→AV:=fun x=> .agg (x.enc.map C.d)
theorem zuW (l:List Int) (hl:l.length<2^62) (p:Int→Bool) (f:Nat) (caps:List C) (hc:lendAs [] (caps.map AV.one)=some (caps.map fun c=> .f (.one c)))
  (hp:∀x∈l,CallOK prog f (.f (zBr x)::caps.map fun c=> .f (.one c)) (fun r o=>r=[rb (p x)]∧o=[])):
  CallOK prog 161 [.f (al l.length (zaF l)), .f (.one (.clos f caps))] (fun r o=>r=[ri (zdg p l 0)]∧o=[]):=by
 refine zh func161 results161 ntmps161 call161 ?_
 simp only[f161,Option.getD]
 refine zw ?_
 refine zaf (τ:=Nat) (fun i=>⟨(al l.length (zaF l):: .one (.clos f caps)::dq2 (ai 0::dd::al l.length (zaF l)::ai l.length::ai i::zpe [])),[]⟩) (fun i=>i≤l.length) (fun i=>zdg p (l.drop i) i) (fun i=>l.length - i) 0 (Gh.fgt ?_) (Nat.zero_le _) ?_
 ·simp only[ddE,zbw,zbx,zb4,Int.natCast_zero]
 intro i hi0 hF K hK
 refine zw ?_
 rw[zdC]
 refine⟨trivial,fun hlt=> ?_,fun hge=> ?_⟩
 ·have hi:i<l.length:=by simpa using hlt
  rw[List.drop_eq_getElem_cons hi,zdg]at hF
  have hat:=ints_at hi
  simp only[List.cons_append,List.nil_append]at hat
  refine zw1 (I @zqp (I hat hc)) ?_
  refine⟨⟨Int.natCast_nonneg i,by omega⟩, ?_⟩
  refine zaX (hp _ (List.getElem_mem hi)) ?_
  refine zw ?_
  refine zaa (fun hb=> ?_) (fun hb=> ?_)
  ·rw[if_pos hb]at hF
   refine zw ?_
   rw[hF];rfl
  ·rw[if_neg (by simp[hb])]at hF
   refine zw ?_
   refine hK _ (i+1) (Gh.fgt ?_) hi (by simp only[List.drop_eq_getElem_cons hi,zdg];rw[if_neg (by simp[hb])];rfl) (by omega)
   have hw:IntKind.i64.wrap ((i:Int)+1)=((i+1:Nat):Int):=by rw[wrap64 (by omega) (by omega)];rfl
   simp only[hw,ddE,zbw,zbx,zb4]
 ·have hi:i=l.length:=by
   have:¬(i:Int)<l.length:=by simpa using hge
   omega
  rw[hi,List.drop_length,zdg]at hF
  refine zw ?_
  rw[hF];rfl
theorem zsh (l:List Sess) (hl:l.length<2^62) (p:Sess→Bool) (f:Nat) (caps:List C) (hc:lendAs [] (caps.map AV.one)=some (caps.map fun c=> .f (.one c)))
  (hp:∀x∈l,CallOK prog f (.f (zoy x)::caps.map fun c=> .f (.one c)) (fun r o=>r=[rb (p x)]∧o=[])):
  CallOK prog 210 [.f (al l.length (za1 l)), .f (.one (.clos f caps))] (fun r o=>r=[ri (zdg p l 0)]∧o=[]):=by
 refine zh func210 results210 ntmps210 call210 ?_
 simp only[f210,Option.getD]
 refine zw ?_
 refine zaf (τ:=Nat) (fun i=>⟨(al l.length (za1 l):: .one (.clos f caps)::dq2 (ai 0::dd::al l.length (za1 l)::ai l.length::ai i::zpe [])),[]⟩) (fun i=>i≤l.length) (fun i=>zdg p (l.drop i) i) (fun i=>l.length - i) 0 (Gh.fgt ?_) (Nat.zero_le _) ?_
 ·simp only[ddE,zbw,zbx,zb4,Int.natCast_zero]
 intro i hi0 hF K hK
 refine zw ?_
 rw[zdC]
 refine⟨trivial,fun hlt=> ?_,fun hge=> ?_⟩
 ·have hi:i<l.length:=by simpa using hlt
  rw[List.drop_eq_getElem_cons hi,zdg]at hF
  have hat:=zco hi
  simp only[List.cons_append,List.nil_append]at hat
  refine zw1 (I @zax (I hat hc)) ?_
  refine⟨⟨Int.natCast_nonneg i,by omega⟩, ?_⟩
  refine zaX (hp _ (List.getElem_mem hi)) ?_
  refine zw ?_
  refine zaa (fun hb=> ?_) (fun hb=> ?_)
  ·rw[if_pos hb]at hF
   refine zw ?_
   rw[hF];rfl
  ·rw[if_neg (by simp[hb])]at hF
   refine zw ?_
   refine hK _ (i+1) (Gh.fgt ?_) hi (by simp only[List.drop_eq_getElem_cons hi,zdg];rw[if_neg (by simp[hb])];rfl) (by omega)
   have hw:IntKind.i64.wrap ((i:Int)+1)=((i+1:Nat):Int):=by rw[wrap64 (by omega) (by omega)];rfl
   simp only[hw,ddE,zbw,zbx,zb4]
 ·have hi:i=l.length:=by
   have:¬(i:Int)<l.length:=by simpa using hge
   omega
  rw[hi,List.drop_length,zdg]at hF
  refine zw ?_
  rw[hF];rfl
theorem zsi (l:List Lk) (hl:l.length<2^62) (p:Lk→Bool) (f:Nat) (caps:List C) (hc:lendAs [] (caps.map AV.one)=some (caps.map fun c=> .f (.one c)))
  (hp:∀x∈l,CallOK prog f (.f (zuV x)::caps.map fun c=> .f (.one c)) (fun r o=>r=[rb (p x)]∧o=[])):
  CallOK prog 196 [.f (al l.length (zaj l)), .f (.one (.clos f caps))] (fun r o=>r=[ri (zdg p l 0)]∧o=[]):=by
 refine zh func196 results196 ntmps196 call196 ?_
 simp only[f196,Option.getD]
 refine zw ?_
 refine zaf (τ:=Nat) (fun i=>⟨(al l.length (zaj l):: .one (.clos f caps)::dq2 (ai 0::dd::al l.length (zaj l)::ai l.length::ai i::zpe [])),[]⟩) (fun i=>i≤l.length) (fun i=>zdg p (l.drop i) i) (fun i=>l.length - i) 0 (Gh.fgt ?_) (Nat.zero_le _) ?_
 ·simp only[ddE,zbw,zbx,zb4,Int.natCast_zero]
 intro i hi0 hF K hK
 refine zw ?_
 rw[zdC]
 refine⟨trivial,fun hlt=> ?_,fun hge=> ?_⟩
 ·have hi:i<l.length:=by simpa using hlt
  rw[List.drop_eq_getElem_cons hi,zdg]at hF
  have hat:=zbn hi
  simp only[List.cons_append,List.nil_append]at hat
  refine zw1 (I @zah (I hat hc)) ?_
  refine⟨⟨Int.natCast_nonneg i,by omega⟩, ?_⟩
  refine zaX (hp _ (List.getElem_mem hi)) ?_
  refine zw ?_
  refine zaa (fun hb=> ?_) (fun hb=> ?_)
  ·rw[if_pos hb]at hF
   refine zw ?_
   rw[hF];rfl
  ·rw[if_neg (by simp[hb])]at hF
   refine zw ?_
   refine hK _ (i+1) (Gh.fgt ?_) hi (by simp only[List.drop_eq_getElem_cons hi,zdg];rw[if_neg (by simp[hb])];rfl) (by omega)
   have hw:IntKind.i64.wrap ((i:Int)+1)=((i+1:Nat):Int):=by rw[wrap64 (by omega) (by omega)];rfl
   simp only[hw,ddE,zbw,zbx,zb4]
 ·have hi:i=l.length:=by
   have:¬(i:Int)<l.length:=by simpa using hge
   omega
  rw[hi,List.drop_length,zdg]at hF
  refine zw ?_
  rw[hF];rfl
theorem zmW (l:List Sess) (hl:l.length<2^62) (p:Sess→Bool) (f:Nat) (caps:List C) (hc:lendAs [] (caps.map AV.one)=some (caps.map fun c=> .f (.one c))) (hc2:lendC.lendCs [] caps=some caps)
  (hp:∀x∈l,CallOK prog f (.f (zoy x)::caps.map fun c=> .f (.one c)) (fun r o=>r=[rb (p x)]∧o=[])):
  CallOK prog 192 [.f (al l.length (za1 l)), .f (.one (.clos f caps))] (fun r o=>r=[rb (l.any p)]∧o=[]):=by
 refine zh func192 results192 ntmps192 call192 ?_
 simp only[f192,Option.getD]
 refine zw1 hc2 ?_
 refine zaX (zsh l hl p f caps hc hp) ?_
 refine zw ?_
 rw[zgF]
theorem zmX (l:List Lk) (hl:l.length<2^62) (p:Lk→Bool) (f:Nat) (caps:List C) (hc:lendAs [] (caps.map AV.one)=some (caps.map fun c=> .f (.one c))) (hc2:lendC.lendCs [] caps=some caps)
  (hp:∀x∈l,CallOK prog f (.f (zuV x)::caps.map fun c=> .f (.one c)) (fun r o=>r=[rb (p x)]∧o=[])):
  CallOK prog 166 [.f (al l.length (zaj l)), .f (.one (.clos f caps))] (fun r o=>r=[rb (l.any p)]∧o=[]):=by
 refine zh func166 results166 ntmps166 call166 ?_
 simp only[f166,Option.getD]
 refine zw1 hc2 ?_
 refine zaX (zsi l hl p f caps hc hp) ?_
 refine zw ?_
 rw[zgF]
set_option maxHeartbeats 1000000 in
theorem zoz (l:List Sess) (hl:l.length<2^62) (t:Int) (c:Sess→Int) (f:Nat) (m:Nat) (hm:m≤l.length) (h1:∀j (hj:j<l.length),j<m→c l[j]<0) (h2:∀j (hj:j<l.length),m≤j→0≤c l[j])
  (hp:∀x∈l,CallOK prog f [.f (zoy x), .f (ai t)] (fun r o=>r=[ri (c x)]∧o=[])):
  CallOK prog 211 [.f (al l.length (za1 l)), .f (ai t), .f (.one (.clos f []))] (fun r o=>r=[ri m,rb ((l[m]?.map fun x=>c x==0).getD false)]∧o=[]):=by
 refine zh func211 results211 ntmps211 call211 ?_
 simp only[f211,Option.getD]
 refine zw ?_
 refine zaf (τ:=Nat×Nat) (fun q=>⟨(al l.length (za1 l)::ai t:: .one (.clos f [])::dq5 (ai l.length::ai q.1::ai q.2::zBK [])),[]⟩) (fun q=>q.1≤m∧m≤q.2∧q.2≤l.length) (fun _=>()) (fun q=>q.2 - q.1) (0,l.length) (Gh.fgt ?_) ⟨Nat.zero_le _,hm,Nat.le_refl _⟩ ?_
 ·simp only[ddE,zbw,zbx,zb4,Int.natCast_zero]
 intro⟨lo,hi⟩ ⟨b1,b2,b3⟩ hF K hK
 simp only at b1 b2 b3 hF hK⊢
 refine zw ?_
 refine zaa (fun hlt=> ?_) (fun hge=> ?_)
 ·have hlt:lo<hi:=by simpa using hlt
  obtain⟨q,hq⟩:∃q:Nat,q=(lo+hi) / 2:=⟨_,rfl⟩
  have hw1:IntKind.i64.wrap ((lo:Int)+hi)=((lo+hi:Nat):Int):=by rw[wrap64 (by omega) (by omega)];rfl
  have hw2:IntKind.u64.wrap ((lo+hi:Nat):Int)=((lo+hi:Nat):Int):=zxi (by omega)
  have hw3:IntKind.i64.wrap (((lo+hi:Nat):Int).fdiv (2^(min (Int.toNat 1) IntKind.u64.bits)))=(q:Int):=by
   rw[show(2:Int)^(min (Int.toNat 1) IntKind.u64.bits)=2 by decide,hq,show(((lo+hi:Nat):Int)).fdiv 2=(((lo+hi) / 2:Nat):Int) by rw[Int.fdiv_eq_ediv_of_nonneg _ (by decide)];rfl]
   exact wrap64 (by omega) (by omega)
  have hqh:q<hi:=by omega
  have hql:q<l.length:=by omega
  have hat:=zco hql
  simp only[List.cons_append,List.nil_append]at hat
  have hcp:=hp _ (List.getElem_mem hql)
  have hw4:IntKind.i64.wrap ((q:Int)+1)=((q+1:Nat):Int):=by rw[wrap64 (by omega) (by omega)];rfl
  have h10:∀(a b:Option Value),(if(1:Int)<0 then a else b)=b:=fun a b=>if_neg (by decide)
  clear hlt
  repeat'(first|exact zC|refine za (I h10 (I hw1 (I hw2 (I hw3 (I @zax (I hat @Nat.mul_one)))))) ?_|refine zx (hcp) ?_|(apply zaa<;>intro hb)|(apply I;exact zI)|(apply I<;>intro hg))
  ·have hqm:q<m:=by
    rcases Nat.lt_or_ge q m with h|h
    ·exact h
    ·have:=h2 q hql h
     have hb':c l[q]<0:=by simpa using hb
     omega
   refine hK _ (q+1,hi) (Gh.fgt ?_) ⟨by simp only;omega,b2,b3⟩ trivial (by simp only;omega)
   simp only[hw4,ddE,zbw,zbx,zb4]
  ·have hqm:m≤q:=by
    rcases Nat.lt_or_ge q m with h|h
    ·have:=h1 q hql h
     have hb':¬c l[q]<0:=by simpa using hb
     omega
    ·exact h
   refine hK _ (lo,q) (Gh.fgt ?_) ⟨b1,hqm,by simp only;omega⟩ trivial (by simp only;omega)
   simp only[ddE,zbw,zbx,zb4]
 ·have he:lo=m:=by
   have:¬(lo:Int)<hi:=by simpa using hge
   omega
  subst he
  by_cases hlt:lo<l.length
  ·have hat:=zco hlt
   simp only[List.cons_append,List.nil_append]at hat
   have hcp:=hp _ (List.getElem_mem hlt)
   have hd:decide ((lo:Int)<l.length)=true:=by simpa using hlt
   refine zLa (I hd (I @zax (I hat @Nat.mul_one))) (hcp) ?_
   rw[List.getElem?_eq_getElem hlt];rfl
  ·have hd:decide ((lo:Int)<l.length)=false:=by simp;omega
   have hn:l[lo]? =none:=List.getElem?_eq_none (by omega)
   exact zBR (I hd (I @zax (I @Nat.mul_one (I hn (I @zCa @Option.map_none.{0,0})))))
theorem zlV {α:Type}:∀(xs pre mid post:List α),mid.length=xs.length→fillAt pre.length xs (pre++(mid++post))=pre++(xs++post)
 |[],pre,mid,post,h=>by
  have:mid=[]:=List.eq_nil_of_length_eq_zero h
  subst this;rfl
 |x::xs,pre,m::mid,post,h=>by
  have:=zlV xs (pre++[x]) mid post (by simpa using h)
  rw[fillAt]
  simp only[List.length_append,List.length_cons,List.length_nil,Nat.zero_add,List.append_assoc,List.cons_append,List.nil_append]at this⊢
  rw[←this]
  congr 1
  simp[List.set_append]
 |x::xs,pre,[],post,h=>by simp at h
theorem zrb {α:Type} (enc:α→List D) (sz:Nat) (h:∀x,(enc x).length=sz) {l:List α} {i:Nat} (hi:i<l.length) (x:α):
  fillAt (i*sz) ((enc x).map C.d) ((l.flatMap enc).map C.d)=((l.set i x).flatMap enc).map C.d:=by
 have e1:l=l.take i++(l[i]::l.drop (i+1)):=by rw[List.getElem_cons_drop];simp
 have e2:l.set i x=l.take i++(x::l.drop (i+1)):=by rw[List.set_eq_take_append_cons_drop,if_pos hi]
 have hl:((l.take i).flatMap enc).length=i*sz:=by rw[zcT enc sz h,List.length_take];congr 1;omega
 rw[e2]
 conv=>lhs;rw[e1]
 simp only[List.flatMap_append,List.flatMap_cons,List.map_append]
 have:=zlV ((enc x).map C.d) (((l.take i).flatMap enc).map C.d) ((enc l[i]).map C.d) (((l.drop (i+1)).flatMap enc).map C.d) (by simp[h])
 rw[List.length_map,hl]at this
 exact this
theorem zhg {α:Type} (enc:α→List D) (sz:Nat) (h:∀x,(enc x).length=sz) {l:List α} {i k:Nat} (hi:i<l.length) (hk:k<sz) (v:D) (x:α) (hx:enc x=(enc l[i]).set k v):
  ((l.flatMap enc).map C.d).set (i*sz+k) (C.d v)=((l.set i x).flatMap enc).map C.d:=by
 have e1:l=l.take i++(l[i]::l.drop (i+1)):=by rw[List.getElem_cons_drop];simp
 have e2:l.set i x=l.take i++(x::l.drop (i+1)):=by rw[List.set_eq_take_append_cons_drop,if_pos hi]
 have hl:((l.take i).flatMap enc).length=i*sz:=by rw[zcT enc sz h,List.length_take];congr 1;omega
 rw[e2]
 conv=>lhs;rw[e1]
 rw[←List.map_set]
 simp only[List.flatMap_append,List.flatMap_cons]
 rw[List.set_append,if_neg (by omega),List.set_append,if_pos (by rw[h];omega),show i*sz+k - ((l.take i).flatMap enc).length=k by omega,hx]
theorem zzZ {α:Type} {l:List α} {k:Nat} (hk:k≤l.length) (x:α):(l.take k++x::l.drop k).length=l.length+1:=by
 rw[List.length_append,List.length_take,List.length_cons,List.length_drop];omega
theorem zuU {α:Type} (enc:α→List D) (sz:Nat) (h:∀x,(enc x).length=sz) {l:List α} {k:Nat} (hk:k<l.length):
  (l.eraseIdx k).flatMap enc=(l.flatMap enc).take (k*sz)++(l.flatMap enc).drop ((k+1)*sz):=by
 rw[zhv enc sz h (by omega),zta enc sz h hk,List.eraseIdx_eq_take_drop_succ,List.flatMap_append]
theorem zjo {α:Type} (p:α→Bool):∀(l:List α) (i:Nat),(∀x∈l,p x=false)∧zdg p l i= -1∨∃k,∃h:k<l.length,zdg p l i=((i+k:Nat):Int)∧p l[k]=true∧∀x∈l.take k,p x=false
 |[],i=> .inl ⟨fun x hx=>(List.not_mem_nil hx).elim,rfl⟩
 |x::l,i=>by
  rw[zdg]
  by_cases hx:p x=true
  ·rw[if_pos hx]
   exact .inr ⟨0,by simp,rfl,by simpa using hx,fun y hy=>by simp at hy⟩
  ·rw[if_neg hx]
   have hx':p x=false:=by simpa using hx
   rcases zjo p l (i+1)with⟨h1,h2⟩|⟨k,hk,h1,h2,h3⟩
   ·exact .inl ⟨fun y hy=>(List.mem_cons.1 hy).elim (fun e=>e▸hx') (fun e=>h1 y e),by simpa using h2⟩
   ·refine .inr ⟨k+1,by simpa using hk, ?_,by simpa using h2,fun y hy=> ?_⟩
    ·have:((i:Int)+1)=((i+1:Nat):Int):=rfl
     rw[this,h1];congr 1;omega
    ·rw[List.take_succ_cons]at hy
     exact(List.mem_cons.1 hy).elim (fun e=>e▸hx') (fun e=>h3 y e)
theorem zuR (l:List Int) (hl:l.length<2^62) (v:Int):CallOK prog 195 [.f (al l.length (zaF l)), .f (ai v)] (fun r o=>r=[ri (zdg (fun x=>v==x) l 0)]∧o=[]):=by
 refine zh func195 results195 ntmps195 call195 ?_
 simp only[f195,Option.getD]
 refine zw ?_
 refine zaf (τ:=Nat) (fun i=>⟨(al l.length (zaF l)::ai v::dq2 (ai 0::dd::al l.length (zaF l)::ai l.length::ai i::zpe [])),[]⟩) (fun i=>i≤l.length) (fun i=>zdg (fun x=>v==x) (l.drop i) i) (fun i=>l.length - i) 0 (Gh.fgt ?_) (Nat.zero_le _) ?_
 ·simp only[ddE,zbw,zbx,zb4,Int.natCast_zero]
 intro i hi0 hF K hK
 refine zw ?_
 refine zaa (fun hlt=> ?_) (fun hge=> ?_)
 ·have hi:i<l.length:=by simpa using hlt
  rw[List.drop_eq_getElem_cons hi,zdg]at hF
  have hat:=zcI hi
  simp only[List.cons_append,List.nil_append]at hat
  have hw:=zai hi hl
  clear hlt
  repeat'(first|exact zC|refine zq (I @zaD hat) ?_|(apply zaa<;>intro hb)|(apply I;exact zI)|(apply I<;>intro hg))
  ·rw[if_pos hb]at hF
   rw[hF];rfl
  ·rw[if_neg (by simp[hb])]at hF
   refine hK _ (i+1) (Gh.fgt ?_) hi (by simp only[List.drop_eq_getElem_cons hi,zdg];rw[if_neg (by simp[hb])];rfl) (by omega)
   simp only[hw,ddE,zbw,zbx,zb4]
 ·have hi:i=l.length:=by
   have:¬(i:Int)<l.length:=by simpa using hge
   omega
  rw[hi,List.drop_length,zdg]at hF
  refine zw ?_
  rw[hF];rfl
theorem ziU (l:List Int) (hl:l.length<2^62) (v:Int):CallOK prog 165 [.f (al l.length (zaF l)), .f (ai v)] (fun r o=>r=[rb (l.any fun x=>v==x)]∧o=[]):=by
 refine zh func165 results165 ntmps165 call165 ?_
 simp only[f165,Option.getD]
 refine zLa trivial (zuR l hl v) ?_
 rw[zgF]
theorem zra (v:Int):CallOK prog 220 [.f (ai v)] (fun r o=>r=[rb false]∧o=[]):=by
 refine zh func220 results220 ntmps220 call220 ?_
 simp only[f220,Option.getD]
 exact zBR @bne_self_eq_false.{0}
def zuS (a b:Int):Int:=if a<b then -1 else if a>b then 1 else 0
theorem zpN (a b:Int):CallOK prog 213 [.f (ai a), .f (ai b)] (fun r o=>r=[ri (zuS a b)]∧o=[]):=by
 refine zh func213 results213 ntmps213 call213 ?_
 simp only[f213,Option.getD]
 repeat'(first|exact zC|refine zq0 ?_|refine zx (zra a) ?_|refine zx (zra b) ?_|(apply zaa<;>intro hb)|(apply I;exact zI)|(apply I<;>intro hg))
 all_goals simp only[decide_eq_true_eq,decide_eq_false_iff_not]at*
 ·unfold zuS;rw[if_pos (by assumption)]
 ·unfold zuS;rw[if_neg (by assumption),if_pos (by assumption)]
 ·unfold zuS;rw[if_neg (by assumption),if_neg (by assumption)]
theorem zmU (n:Int):CallOK prog 194 [.f (ai n)] (fun r o=>r=[rb (decide (n≥0)&&decide (n<8))]∧o=[]):=by
 refine zh func194 results194 ntmps194 call194 ?_
 simp only[f194,Option.getD]
 exact zW0 trivial
theorem zmV (n:Int):CallOK prog 162 [.f (ai n)] (fun r o=>r=[rb (decide (n≥0)&&decide (n<8))]∧o=[]):=by
 refine zh func162 results162 ntmps162 call162 ?_
 simp only[f162,Option.getD]
 exact zW0 trivial
def isClient (n:Int):Bool:=decide (n≥0)&&decide (n<8)
def hasI (l:List Int) (v:Int):Bool:=l.any fun x=>v==x
theorem zsI {a b c a' b' c':RO}:zaN [.one a, .one b, .one c] [.one a', .one b', .one c']=(zaA a a'∧zaA b b'∧zaA c c'∧True):=rfl
def rowI (l:List Int):RF:= .one (.own 1 l.length (zaF l) false)
def zkq (l:List Int) (c:Int):List Int×Int×Int:=
 if(!isClient c)=true then([],0,1)else if hasI l c=true then([],0,7)else if decide ((l.length:Int)≥3)=true then([],0,5)else(l++[c],l.length,0)
theorem zuT {l:List Int} {i:Nat} (hi:i≤l.length):(zaF l).take i=zaF (l.take i):=by have:=zhv (fun n=>[iD n]) 1 (fun _=>rfl) hi;rwa[Nat.mul_one]at this
def zh1 (l:List Int) (c:Int):List Int×Bool:=if zdg (fun x=>c==x) l 0<0 then(l,false)else(l.eraseIdx (zdg (fun x=>c==x) l 0).toNat,true)
def zbi (l gone:List Int):List Int:=l.filter fun c=> !hasI gone c
section
variable {α:Type} {p:α→Bool}
def zq8 (p:α→Bool) (l:List α):Nat:=(l.takeWhile p).length
def zAz (p:α→Bool) (l:List α):Prop:=l.Pairwise fun x y=>p y=true→p x=true
theorem zpK {l:List α}:zq8 p l≤l.length:=(List.takeWhile_prefix _).length_le
theorem zdt {x:α} {l:List α}:zq8 p (x::l)=if p x=true then zq8 p l+1 else 0:=by
 unfold zq8
 rw[List.takeWhile_cons]
 split<;>simp[*]
theorem zmQ:∀{l:List α} {j:Nat} (hj:j<l.length),j<zq8 p l→p l[j]=true
 |x::l,0,_,h=>by
  rw[zdt]at h
  split at h
  ·assumption
  ·omega
 |x::l,j+1,hj,h=>by
  rw[zdt]at h
  split at h
  ·exact zmQ (l:=l) (by simpa using hj) (by omega)
  ·omega
theorem zmR:∀{l:List α} {j:Nat} (hj:j<l.length),zAz p l→zq8 p l≤j→p l[j]=false
 |x::l,0,_,hm,h=>by
  rw[zdt]at h
  split at h
  ·omega
  ·rename_i hx;simpa using hx
 |x::l,j+1,hj,hm,h=>by
  have hm':=List.pairwise_cons.1 hm
  have hj':j<l.length:=by simpa using hj
  rw[zdt]at h
  split at h
  ·exact zmR (l:=l) hj' hm'.2 (by omega)
  ·rename_i hx
   have:=hm'.1 l[j] (List.getElem_mem hj')
   simp only[List.getElem_cons_succ]
   cases hc:p l[j]
   ·rfl
   ·exact absurd (this hc) hx
theorem zh0 {q:α→Bool}:∀{l:List α},zAz p l→(∀x,q x=true→p x=false)→(l.Pairwise fun x y=>q y=true→p x=true)→l.find? q=(l[zq8 p l]?).filter q
 |[],_,_,_=>rfl
 |x::l,hm,hq,hs=>by
  have hm':=List.pairwise_cons.1 hm
  have hs':=List.pairwise_cons.1 hs
  rw[List.find?_cons,zdt]
  cases hx:p x
  ·rw[if_neg (by simp)]
   simp only[List.getElem?_cons_zero]
   cases hqx:q x
   ·simp only[Option.filter,hqx,Bool.false_eq_true,if_false]
    rw[List.find?_eq_none]
    intro y hy hqy
    have:=hs'.1 y hy hqy
    rw[hx]at this;cases this
   ·simp[Option.filter,hqx]
  ·rw[if_pos rfl]
   have hqx:q x=false:=by
    cases hc:q x
    ·rfl
    ·have:=hq x hc;rw[hx]at this;cases this
   rw[hqx]
   simp only[List.getElem?_cons_succ]
   exact zh0 hm'.2 hq hs'.2
end
def SS (l:List Sess):Prop:=l.Pairwise fun x y=>x.client<y.client
def zhe (l:List Sess) (c:Int):Nat:=zq8 (fun x=>decide (x.client<c)) l
def zaH (l:List Sess) (c:Int):Option Sess:=l.find? fun x=>x.client==c
theorem zpL {l:List Sess} (h:SS l) (c:Int):zAz (fun x:Sess=>decide (x.client<c)) l:=h.imp fun hxy h=>by simp at h⊢;omega
theorem zkp {l:List Sess} (h:SS l) (c:Int):zaH l c=(l[zhe l c]?).filter fun x=>x.client==c:=
 zh0 (q:=fun x:Sess=>x.client==c) (zpL h c) (fun x hx=>by simp at hx⊢;omega) (h.imp fun hxy h=>by simp at h⊢;omega)
def SM (l:List Memo):Prop:=l.Pairwise fun x y=>x.client<y.client
def zo3 (l:List Memo) (c:Int):Nat:=zq8 (fun x=>decide (x.client<c)) l
def zct (l:List Memo) (c:Int):Option Memo:=l.find? fun x=>x.client==c
theorem zuO {l:List Memo} (h:SM l) (c:Int):zAz (fun x:Memo=>decide (x.client<c)) l:=h.imp fun hxy h=>by simp at h⊢;omega
theorem zuP {l:List Memo} (h:SM l) (c:Int):zct l c=(l[zo3 l c]?).filter fun x=>x.client==c:=
 zh0 (q:=fun x:Memo=>x.client==c) (zuO h c) (fun x hx=>by simp at hx⊢;omega) (h.imp fun hxy h=>by simp at h⊢;omega)
abbrev zeF (a b:ByteArray):Bool:=Go.Op.bytesLess a.toList b.toList
theorem zq9:∀{a:List UInt8},Go.Op.bytesLess a a=false
 |[]=>rfl
 |a::x=>by rw[Go.Op.bytesLess,zq9 (a:=x)];simp
theorem zmS:∀{a b c:List UInt8},Go.Op.bytesLess a b=true→Go.Op.bytesLess b c=true→Go.Op.bytesLess a c=true
 |[],[],_,h,_=>by cases h
 |[],_::_,[],_,h=>by cases h
 |[],_::_,_::_,_,_=>rfl
 |_::_,[],_,h,_=>by cases h
 |_::_,_::_,[],_,h=>by cases h
 |a::x,b::y,c::z,h1,h2=>by
  rw[Go.Op.bytesLess]at*
  simp only[Bool.or_eq_true,Bool.and_eq_true,decide_eq_true_eq,beq_iff_eq]at*
  rcases h1 with h1|⟨rfl,h1⟩<;>rcases h2 with h2|⟨rfl,h2⟩
  ·exact .inl (UInt8.lt_trans h1 h2)
  ·exact .inl h1
  ·exact .inl h2
  ·exact .inr ⟨rfl,zmS h1 h2⟩
theorem zyK:∀{a b:List UInt8},Go.Op.bytesLess a b=false→Go.Op.bytesLess b a=false→a=b
 |[],[],_,_=>rfl
 |[],_::_,h,_=>by cases h
 |_::_,[],_,h=>by cases h
 |a::x,b::y,h1,h2=>by
  rw[Go.Op.bytesLess]at*
  simp only[Bool.or_eq_false_iff,Bool.and_eq_false_iff,decide_eq_false_iff_not,beq_eq_false_iff_ne]at*
  have hab:a=b:=UInt8.le_antisymm (UInt8.not_lt.1 h2.1) (UInt8.not_lt.1 h1.1)
  subst hab
  rcases h1.2 with h|h1'
  ·exact absurd rfl h
  rcases h2.2 with h|h2'
  ·exact absurd rfl h
  rw[zyK h1' h2']
def SL (l:List Lk):Prop:=l.Pairwise fun x y=>zeF x.name y.name=true
def zbO (l:List Lk) (s:ByteArray):Nat:=zq8 (fun x=>zeF x.name s) l
def isL (s:ByteArray) (x:Lk):Bool:=x.name.toList==s.toList
def zd1 (l:List Lk) (s:ByteArray):Option Lk:=l.find? (isL s)
theorem zpM {l:List Lk} (h:SL l) (s:ByteArray):zAz (fun x:Lk=>zeF x.name s) l:=h.imp fun hxy h=>zmS hxy h
theorem zuQ {l:List Lk} (h:SL l) (s:ByteArray):zd1 l s=(l[zbO l s]?).filter (isL s):=
 zh0 (q:=isL s) (zpM h s) (fun x hx=>by
  simp only[isL,beq_iff_eq]at hx
  simp only[zeF,hx,zq9]) (h.imp fun hxy h=>by
  simp only[isL,beq_iff_eq]at h
  simp only[zeF]at hxy⊢
  rw[←h];exact hxy)
theorem zhf {α:Type} {o:Option α} {p:α→Bool} {x:α} (h:o.filter p=some x):o=some x∧p x=true:=by
 cases o with
 |none=>simp at h
 |some y=>
  simp only[Option.filter]at h
  split at h
  ·rename_i hp;cases h;exact⟨rfl,hp⟩
  ·cases h
theorem zox {α:Type} {l:List α} {i:Nat} {x:α} (h:l[i]? =some x):∃hi:i<l.length,l[i]=x:=by
 obtain⟨hi,h⟩:=List.getElem?_eq_some_iff.1 h
 exact⟨hi,h⟩
theorem zmT {l:List Sess} (h:SS l) {c:Int} {x:Sess} (hx:zaH l c=some x):(∃hi:zhe l c<l.length,l[zhe l c]=x)∧x.client=c:=by
 rw[zkp h]at hx
 obtain⟨h1,h2⟩:=zhf hx
 exact⟨zox h1,by simpa using h2⟩
theorem zeb {l:List Lk} (h:SL l) {s:ByteArray} {x:Lk} (hx:zd1 l s=some x):(∃hi:zbO l s<l.length,l[zbO l s]=x)∧isL s x=true:=by
 rw[zuQ h]at hx
 obtain⟨h1,h2⟩:=zhf hx
 exact⟨zox h1,h2⟩
theorem zxh {l:List Memo} (h:SM l) {c:Int} {x:Memo} (hx:zct l c=some x):(∃hi:zo3 l c<l.length,l[zo3 l c]=x)∧x.client=c:=by
 rw[zuP h]at hx
 obtain⟨h1,h2⟩:=zhf hx
 exact⟨zox h1,by simpa using h2⟩
def zbN {α:Type} (q:Nat→α→Bool):Nat→List α→Bool
 |_,[]=>true
 |i,x::r=>if q i x=true then zbN q (i+1) r else false
theorem zcO {α:Type} {q:Nat→α→Bool}:∀{l:List α} {i:Nat},zbN q i l=true↔∀j (hj:j<l.length),q (i+j) l[j]=true
 |[],i=>by simp[zbN]
 |x::l,i=>by
  rw[zbN]
  constructor
  ·intro h
   split at h
   ·rename_i hx
    intro j hj
    cases j with
    |zero=>exact hx
    |succ j=>
     have:=zcO.1 h j (by simpa using hj)
     simp only[List.getElem_cons_succ]
     rw[show i+(j+1)=i+1+j by omega];exact this
   ·cases h
  ·intro h
   have h0:=h 0 (by simp)
   simp only[List.getElem_cons_zero,Nat.add_zero]at h0
   rw[if_pos h0,zcO]
   intro j hj
   have:=h (j+1) (by simpa using hj)
   simp only[List.getElem_cons_succ]at this
   rw[show i+1+j=i+(j+1) by omega];exact this
theorem za2 {α:Type} {q:Nat→α→Bool} {l:List α} {i:Nat} (h:i<l.length):zbN q i (l.drop i)=if q i l[i]=true then zbN q (i+1) (l.drop (i+1))else false:=by
 rw[List.drop_eq_getElem_cons h,zbN]
theorem zeh {α:Type} {q:Nat→α→Bool} {l:List α} {i:Nat} (h:i=l.length):zbN q i (l.drop i)=true:=by
 rw[h,List.drop_length,zbN]
def ziT (s:Sess):Bool:=isClient s.client&& !(decide (s.num<1))&& !(decide (s.num>zbE))&& !(decide (s.renewed<0))&& !(decide (s.renewed>zbE))
def numbered (l:List Sess) (n:Int):Bool:=l.any fun x=>x.num==n
def zuJ (l:List Sess) (i:Nat):Int:=(l[i - 1]?.map Sess.client).getD 0
def zmO (l:List Sess) (i:Nat) (s:Sess):Bool:=ziT s&& !((decide (i>0)&&decide (zuJ l i≥s.client))||numbered (l.take i) s.num)
def sessB (l:List Sess):Bool:= !(decide ((l.length:Int)>5))&&zbN (zmO l) 0 l
def zea (l:List Sess) (c num now:Int):List Sess×Int:=
 if(!isClient c||decide (num<1)||decide (num>zbE)||decide (now<0)||decide (now>zbE)||(!(zaH l c).isSome&&numbered l num)||((zaH l c).isSome&&(((zaH l c).map Sess.num).getD 0 !=num)&&numbered l num))=true then([],1)else
 if(zaH l c).isSome=true then([],7)else if decide ((l.length:Int)≥5)=true then([],5)else(l.take (zhe l c)++⟨c,num,now⟩::l.drop (zhe l c),0)
def zcX (l:List Sess) (c now:Int):List Sess×Int:=
 if(decide (now<0)||decide (now>zbE))=true then([],1)else
 match zaH l c with
 |none=>([],6)
 |some x=>(l.set (zhe l c) ⟨x.client,x.num,max x.renewed now⟩,0)
def zuK (l:List Sess) (now lease:Int):List Int:=
 if(decide (now<0)||decide (now>zbE)||decide (lease<0)||decide (lease>zbE))=true then []else(l.filter fun s=>decide (now - s.renewed≥lease)).map Sess.client
def zuL (l:List Int) (i:Nat) (c:Int):Bool:= !(!isClient c||hasI (l.take i) c)
def lineB (l:List Int):Bool:=zbN (zuL l) 0 l&&decide ((l.length:Int)≤3)
def zuM (l:List Lk) (i:Nat):ByteArray:=(l[i - 1]?.map Lk.name).getD .empty
def zsf (k:Lk):Bool:=nameP k.name&& !(decide (k.holder<0))&& !(decide (k.holder≥8))&& !(decide (k.token<1))&& !(decide (k.token>zbE))
def zou (l:List Lk) (i:Nat) (k:Lk):Bool:=zsf k&& !(!lineB k.line||hasI k.line k.holder||(decide (i>0)&& !(zeF (zuM l i) k.name)))&& !((l.take i).any fun o=>o.token==k.token)
def lockB (l:List Lk):Bool:=zbN (zou l) 0 l&&decide ((l.length:Int)≤4)
def zov (l:List Int) (c:Int):Int:=if zdg (fun x=>c==x) l 0≥0 then zdg (fun x=>c==x) l 0 else 0
def za6 (l:List Lk) (name:ByteArray) (c token:Int) (wait:Bool):List Lk×Int×Int:=
 match zd1 l name with
 |none=>if decide ((l.length:Int)≥4)=true then([],0,5)else(l.take (zbO l name)++⟨name,c,token+1,[]⟩::l.drop (zbO l name),0,0)
 |some k=>if(k.holder==c)=true then([],0,7)else if(!wait)=true then([],0,8)else
  if hasI k.line c=true then(l,zov k.line c,10)else
  if(zkq k.line c).2.2≠0 then([],0,(zkq k.line c).2.2)else(l.set (zbO l name) ⟨k.name,k.holder,k.token,(zkq k.line c).1⟩,(zkq k.line c).2.1,10)
def zhd (l:List Lk) (i:Nat) (k:Lk) (token:Int):List Lk×Int:=
 match k.line with
 |[]=>(l.eraseIdx i,0)
 |c::rest=>(l.set i ⟨k.name,c,token+1,rest⟩,1)
def zb8 (l:List Lk) (name:ByteArray) (c token:Int):List Lk×Int×Int:=
 match zd1 l name with
 |none=>([],0,6)
 |some k=>if(k.holder==c)=true then((zhd l (zbO l name) k token).1,(zhd l (zbO l name) k token).2,0)else
  if hasI k.line c=true then(l.set (zbO l name) ⟨k.name,k.holder,k.token,(zh1 k.line c).1⟩,0,0)else([],0,6)
def zcs (gone:List Int) (token:Int):List Lk→Int→List Lk×Int
 |[],g=>([],g)
 |k::r,g=>if hasI gone k.holder=true then
   match k.line with
   |[]=>zcs gone token r g
   |c::rest=>(⟨k.name,c,token+g+1,rest⟩::(zcs gone token r (g+1)).1,(zcs gone token r (g+1)).2)
  else(k::(zcs gone token r g).1,(zcs gone token r g).2)
def zaq (gone:List Int) (k:Lk):Lk:=⟨k.name,k.holder,k.token,zbi k.line gone⟩
def zeW (l:List Lk) (gone:List Int) (token:Int):List Lk×Int:=zcs gone token (l.map (zaq gone)) 0
def zck (l:List Lk) (c:Int):List Grant:=(l.filter fun k=>k.holder==c).map fun k=>⟨k.name,k.token⟩
def zsg (l:List Grant) (i:Nat):ByteArray:=(l[i - 1]?.map Grant.name).getD .empty
def zcG (l:List Grant) (i:Nat) (g:Grant):Bool:= !(!nameP g.name||decide (g.token<1)||decide (g.token>zbE)||(decide (i>0)&& !(zeF (zsg l i) g.name)))
def zbR (r:Reply):Bool:=
 !(decide (r.code<0)||decide (r.code>12)||decide (r.session<0)||decide (r.session>zbE)||decide (r.ahead<0)||decide (r.ahead>3))&&
 !(decide ((r.held.length:Int)>4)||((r.session==0)&&decide ((r.held.length:Int)>0)))&&zbN (zcG r.held) 0 r.held
def answerB (m:Memo):Bool:=decide (m.client≥0)&&decide (m.client<8)&&decide (m.seq≥1)&&decide (m.seq≤zbE)&&zbR m.reply
def zuN (l:List Memo) (i:Nat):Int:=(l[i - 1]?.map Memo.client).getD 0
def zow (l:List Memo) (i:Nat) (m:Memo):Bool:= !(!answerB m||(decide (i>0)&&decide (zuN l i≥m.client)))
def memoB (l:List Memo):Bool:=zbN (zow l) 0 l
def zds (l:List Memo) (c seq:Int):Int:=
 match zct l c with
 |none=>1
 |some m=>if m.seq<seq then 1 else if m.seq=seq then 0 else -1
def zmP (l:List Memo) (a:Memo):List Memo:=
 if(!answerB a||(zds l a.client a.seq !=1))=true then l else
 if(zct l a.client).isSome=true then l.set (zo3 l a.client) a else l.take (zo3 l a.client)++a::l.drop (zo3 l a.client)
def within (n:Int):Bool:=decide (n≥0)&&decide (n≤zbE)
def zix (s:St):Bool:=s.locks.all fun k=>(k.holder::k.line).all fun c=>(zaH s.sess c).isSome
def zdf (s:St):Bool:=within s.time&&within s.num&&within s.token&&sessB s.sess&&lockB s.locks&&memoB s.memos&&(s.sess.all fun x=>decide (x.num≤s.num))&&(s.locks.all fun k=>decide (k.token≤s.token))&&zix s
def zbS (s:St) (gone:List Int):St:=⟨s.time,s.num,s.token+(zeW s.locks gone s.token).2,s.sess.filter fun x=> !hasI gone x.client,(zeW s.locks gone s.token).1,s.memos⟩
def zff (s:St) (time:Int):Int:=if(decide (time>s.time)&&decide (time≤zbE))=true then time else s.time
def zcP (s:St) (time lease:Int):St:=zbS {s with time:=zff s time} (zuK s.sess (zff s time) (max lease 1))
def rpl (code session ahead:Int) (held:List Grant):Reply:=⟨code,session,ahead,held⟩
def zdb (s:St) (c:Int):St×Reply:=
 match zaH s.sess c with
 |some x=>(s,⟨7,x.num,0,zck s.locks c⟩)
 |none=>if(zea s.sess c (s.num+1) s.time).2≠0 then(s,⟨(zea s.sess c (s.num+1) s.time).2,0,0,[]⟩)else
  ({s with sess:=(zea s.sess c (s.num+1) s.time).1,num:=s.num+1},⟨0,s.num+1,0,zck s.locks c⟩)
def zbH (s:St) (r:Req):St×Reply:=
 if(r.kind==1)=true then zdb s r.client else
 match zaH s.sess r.client with
 |none=>(s,⟨9,0,0,[]⟩)
 |some x=>if(x.num !=r.session)=true then(s,⟨9,0,0,[]⟩)else
  let s1:St:={s with sess:=(zcX s.sess r.client s.time).1}
  if(r.kind==3||r.kind==4)=true then
   let t:=za6 s1.locks r.name r.client s1.token (r.kind==3)
   let s2:St:=if t.2.2=0 then {s1 with locks:=t.1,token:=s1.token+1}else if t.2.2=10 then {s1 with locks:=t.1}else s1
   (s2,⟨t.2.2,x.num,if t.2.2=10 then t.2.1 else 0,zck s2.locks r.client⟩)
  else if(r.kind==5)=true then
   let t:=zb8 s1.locks r.name r.client s1.token
   let s2:St:=if t.2.2=0 then {s1 with locks:=t.1,token:=s1.token+t.2.1}else s1
   (s2,⟨t.2.2,x.num,0,zck s2.locks r.client⟩)
  else if(r.kind==6)=true then(zbS s1 [r.client],⟨0,0,0,[]⟩)
  else(s1,⟨0,x.num,0,zck s1.locks r.client⟩)
def zfg (s:St) (r:Req):St×Reply×Bool:=
 if(!Req.may r)=true then(s,⟨1,0,0,[]⟩,false)else
 if zds s.memos r.client r.seq= -1 then(s,⟨0,0,0,[]⟩,false)else
 if zds s.memos r.client r.seq=0 then(s,((zct s.memos r.client).map Memo.reply).getD ⟨0,0,0,[]⟩,false)else
 ({(zbH s r).1 with memos:=zmP (zbH s r).1.memos ⟨r.client,r.seq,(zbH s r).2⟩},(zbH s r).2,true)
def zE5 (a b:St):List Int:=(a.sess.filter fun x=> !((zaH b.sess x.client).any fun y=>y.num==x.num)).map Sess.client
theorem zuX {a b:Int}:(zuS a b==0)=(a==b):=by
 unfold zuS
 split
 ·rw[Bool.eq_iff_iff];simp;omega
 ·split
  ·rw[Bool.eq_iff_iff];simp;omega
  ·rw[Bool.eq_iff_iff];simp;omega
theorem zuY {a b:Int}:zuS a b<0↔a<b:=by
 unfold zuS
 split
 ·simp;omega
 ·split<;>simp<;>omega
theorem zxj {α:Type} {o:Option α} {p:α→Bool}:(o.filter p).isSome=(o.map p).getD false:=by
 cases o with
 |none=>rfl
 |some x=>simp only[Option.filter,Option.map_some,Option.getD_some];cases p x<;>rfl
theorem zz0 (x:Sess) (n:Int):CallOK prog 193 [.f (zoy x), .f (.one (.elt [iD n]))] (fun r o=>r=[rb (x.num==n)]∧o=[]):=by
 refine zh func193 results193 ntmps193 call193 ?_
 simp only[f193,Option.getD]
 exact zW0 trivial
theorem zpO (l:List Sess) (hl:l.length<2^62) (n:Int):CallOK prog 163 [.f (al l.length (za1 l)), .f (ai n)] (fun r o=>r=[rb (numbered l n)]∧o=[]):=by
 refine zh func163 results163 ntmps163 call163 ?_
 simp only[f163,Option.getD]
 have h:=zmW l hl (fun x=>x.num==n) 193 [.elt [iD n]] rfl rfl (fun x _=>zz0 x n)
 refine zL trivial (h) ?_
 rfl
theorem zsk (x:Sess) (c:Int):CallOK prog 212 [.f (zoy x), .f (ai c)] (fun r o=>r=[ri (zuS x.client c)]∧o=[]):=by
 refine zh func212 results212 ntmps212 call212 ?_
 simp only[f212,Option.getD]
 exact zW trivial (zpN x.client c)
theorem zuZ (l:List Sess) (hs:SS l) (hl:l.length<2^62) (c:Int):CallOK prog 197 [.f (al l.length (za1 l)), .f (ai c)] (fun r o=>r=[ri (zhe l c),rb (zaH l c).isSome]∧o=[]):=by
 refine zh func197 results197 ntmps197 call197 ?_
 simp only[f197,Option.getD]
 have h:=zoz l hl c (fun x=>zuS x.client c) 212 (zhe l c) zpK
  (fun j hj h=>by have:=zmQ hj h;simp at this;exact zuY.2 this)
  (fun j hj h=>by have:=zmR hj (zpL hs c) h;simp at this;have h2:= @zuY l[j].client c;omega) (fun x _=>zsk x c)
 have e:((l[zhe l c]?.map fun x=>zuS x.client c==0).getD false)=(zaH l c).isSome:=by
  rw[zkp hs,zxj]
  simp only[zuX]
 rw[e]at h
 exact zW trivial (h)
theorem zz1 {a b a' b':RO}:zaN [.one a, .one b] [.one a', .one b']=(zaA a a'∧zaA b b'∧True):=rfl
def zfF:Sess:=⟨0,0,0⟩
theorem zxk (l:List Sess) (hs:SS l) (hl:l.length<2^62) (c:Int):CallOK prog 168 [.f (al l.length (za1 l)), .f (ai c)]
  (fun r o=>r=[.agg [.d (iD ((zaH l c).getD zfF).client), .d (iD ((zaH l c).getD zfF).num), .d (iD ((zaH l c).getD zfF).renewed)],rb (zaH l c).isSome]∧o=[]):=by
 refine zh func168 results168 ntmps168 call168 ?_
 simp only[f168,Option.getD]
 have h:=zuZ l hs hl c
 cases hf:zaH l c with
 |none=>
  rw[hf]at h
  simp only[Option.isSome_none]at h
  refine zL trivial (h) ?_
  rfl
 |some x=>
  rw[hf]at h
  simp only[Option.isSome_some]at h
  rw[zkp hs]at hf
  have hg:l[zhe l c]? =some x:=by
   cases hq:l[zhe l c]? with
   |none=>rw[hq]at hf;simp at hf
   |some y=>rw[hq]at hf;simp only[Option.filter]at hf;split at hf<;>simp_all
  obtain⟨hi,he⟩:=List.getElem?_eq_some_iff.1 hg
  have hat:=zco hi
  rw[he]at hat
  simp only[List.cons_append,List.nil_append]at hat
  refine zL (I hat @zax) (h) ?_
  rfl
theorem zoD (l:List Sess) (hl:l.length<2^30):CallOK prog 120 [.f (al l.length (za1 l))] (fun r o=>r=[rb (sessB l)]∧o=[]):=by
 refine zh func120 results120 ntmps120 call120 ?_
 simp only[f120,Option.getD]
 cases h5:decide ((l.length:Int)>5)
 ·have hs:sessB l=zbN (zmO l) 0 l:=by rw[sessB,h5];rfl
  rw[hs]
  refine zL0 (I h5 @zax) ?_
  refine zaf (τ:=Nat) (fun i=>⟨(al l.length (za1 l)::dq7 (al l.length (za1 l)::ai l.length::ai i::zpe (zec []))),[(4,⟨2,[]⟩)]⟩)
   (fun i=>i≤l.length) (fun i=>zbN (zmO l) i (l.drop i)) (fun i=>l.length - i) 0
   (Gh.canon [] [4] [] zK rfl rfl) (Nat.zero_le _) ?_
  intro i hi0 hF K hK
  simp only[List.drop_zero]at hF hK⊢
  refine zw ?_
  refine zaa (fun hlt=> ?_) (fun hge=> ?_)
  ·have hi:i<l.length:=by simpa using hlt
   have hat:=zco hi
   simp only[List.cons_append,List.nil_append]at hat
   have hw:=zai hi (by omega)
   rw[za2 hi]at hF
   have hcl:=zmV l[i].client
   have hnb:=zpO (l.take i) (by rw[List.length_take];omega) l[i].num
   have hlt2:(l.take i).length=i:=by rw[List.length_take];omega
   have htk:(za1 l).take (i*3)=za1 (l.take i):=zhv Sess.enc 3 (fun _=>rfl) (by omega)
   rw[hlt2]at hnb
   cases e0:decide ((i:Int)>0)
   ·have hq:zmO l i l[i]=(!(!(decide (l[i].client≥0)&&decide (l[i].client<8))||decide (l[i].num<1)||decide (l[i].num>2305843009213693952)||decide (l[i].renewed<0)||decide (l[i].renewed>2305843009213693952))&& !(numbered (l.take i) l[i].num)):=by
     unfold zmO ziT isClient
     have:decide (i>0)=false:=by simpa using e0
     rw[this]
     simp only[Bool.not_or,Bool.not_not,Bool.false_and,Bool.false_or]
    have h0:i=0:=by simpa using e0
    have hp:(za1 l).drop ((IntKind.i64.wrap ((i:Int) - 1)).toNat*3)=l[i].enc++za1 (l.drop (i+1)):=by
     rw[←zco hi,h0];rfl
    repeat'(first|exact zC|refine zq (I hat (I hp (I htk (I e0 (I @zax zca))))) ?_|refine zx (hcl) ?_|refine zx (hnb) ?_|(apply zaa<;>intro hb)|(apply I;exact zI)|(apply I<;>intro hg))
    ·rw[hq,hb,if_neg (by simp)]at hF
     rw[←hF]
    ·rename_i ha
     rw[hq,ha,hb,if_neg (by simp)]at hF
     rw[←hF]
    ·rename_i ha
     exact hK _ (i+1) (Gh.canon [] [] [] (zk hw) rfl rfl) hi (by rw[za2 hi,hq,ha,hb];rfl) (by omega)
   ·have hq:zmO l i l[i]=(!(!(decide (l[i].client≥0)&&decide (l[i].client<8))||decide (l[i].num<1)||decide (l[i].num>2305843009213693952)||decide (l[i].renewed<0)||decide (l[i].renewed>2305843009213693952))&& !(decide ((l[i - 1]'(by omega)).client≥l[i].client)||numbered (l.take i) l[i].num)):=by
     unfold zmO ziT isClient zuJ
     have:decide (i>0)=true:=by simpa using e0
     rw[this,List.getElem?_eq_getElem (by omega)]
     simp only[Bool.not_or,Bool.not_not,Bool.true_and,Option.map_some,Option.getD_some]
    have h0:0<i:=by simpa using e0
    have hp:=zco (show i - 1<l.length by omega)
    have hw1:IntKind.i64.wrap ((i:Int) - 1)=((i - 1:Nat):Int):=by rw[wrap64 (by omega) (by omega)];omega
    repeat'(first|exact zC|refine zq (I hat (I hp (I hw1 (I htk (I e0 (I @zax zca)))))) ?_|refine zx (hcl) ?_|refine zx (hnb) ?_|(apply zaa<;>intro hb)|(apply I;exact zI)|(apply I<;>intro hg))
    ·rw[hq,hb,if_neg (by simp)]at hF
     rw[←hF]
    ·rename_i ha
     rw[hq,ha,hb,if_neg (by simp)]at hF
     rw[←hF]
    ·rename_i ha
     exact hK _ (i+1) (Gh.canon [] [] [] (zk hw) rfl rfl) hi (by rw[za2 hi,hq,ha,hb];rfl) (by omega)
  ·have hi:i=l.length:=by
    have:¬(i:Int)<l.length:=by simpa using hge
    omega
   rw[zeh hi]at hF
   rw[←hF]
   exact zW0 trivial
 ·have hs:sessB l=false:=by rw[sessB,h5];rfl
  rw[hs]
  exact zW0 (I h5 @zax)
def zFb (a b:ByteArray):Int:=Lib.compareBytes a.data.toList b.data.toList
theorem zoB (l:List Int) (hl:l.length<2^30):CallOK prog 164 [.f (al l.length (zaF l))] (fun r o=>r=[rb (lineB l)]∧o=[]):=by
 refine zh func164 results164 ntmps164 call164 ?_
 simp only[f164,Option.getD]
 refine zL0 @zaD ?_
 refine zaf (τ:=Nat) (fun i=>⟨(al l.length (zaF l)::dq4 (al l.length (zaF l)::ai l.length::ai i::zvT [])),[]⟩)
  (fun i=>i≤l.length) (fun i=>zbN (zuL l) i (l.drop i)) (fun i=>l.length - i) 0
  (Gh.canon [] [] [] zK rfl rfl) (Nat.zero_le _) ?_
 intro i hi0 hF K hK
 rw[List.drop_zero]at hF
 refine zw ?_
 refine zaa (fun hlt=> ?_) (fun hge=> ?_)
 ·have hi:i<l.length:=by simpa using hlt
  have hat:=zcI hi
  have hw:=zai hi (by omega)
  rw[za2 hi]at hF
  have hcl:=zmU l[i]
  have hlt2:(l.take i).length=i:=by rw[List.length_take];omega
  have htk:(zaF l).take i=zaF (l.take i):=zuT (by omega)
  have hco:=ziU (l.take i) (by omega) l[i]
  rw[hlt2]at hco
  have hq:zuL l i l[i]= !(!(decide (l[i]≥0)&&decide (l[i]<8))||(l.take i).any fun x=>l[i]==x):=rfl
  repeat'(first|exact zC|refine zq (I hat (I htk (I @zaD zca))) ?_|refine zx (hcl) ?_|refine zx (hco) ?_|(apply zaa<;>intro hb)|(apply I;exact zI)|(apply I<;>intro hg))
  ·rw[hq,hb,if_neg (by simp)]at hF
   unfold lineB
   rw[←hF];rfl
  ·exact hK _ (i+1) (Gh.canon [] [] [] (zk hw) rfl rfl) hi (by rw[za2 hi,hq,hb];rfl) (by omega)
 ·have hi:i=l.length:=by
   have:¬(i:Int)<l.length:=by simpa using hge
   omega
  rw[zeh hi]at hF
  unfold lineB
  rw[←hF]
  exact zW0 trivial
theorem zsj (k j:Lk):CallOK prog 167 [.f (zuV k), .f (.one (.elt j.enc))] (fun r o=>r=[rb (k.token==j.token)]∧o=[]):=by
 refine zh func167 results167 ntmps167 call167 ?_
 simp only[f167,Option.getD]
 exact zW0 trivial
theorem zoC (l:List Lk) (hl:l.length<2^30) (hll:∀k∈l,k.line.length<2^30∧k.name.size<2^62):CallOK prog 121 [.f (al l.length (zaj l))] (fun r o=>r=[rb (lockB l)]∧o=[]):=by
 refine zh func121 results121 ntmps121 call121 ?_
 simp only[f121,Option.getD]
 refine zL0 @zah ?_
 refine zaf (τ:=Nat) (fun i=>⟨(al l.length (zaj l)::dq4 (al l.length (zaj l)::ai l.length::ai i::zBG (zec []))),[(4,⟨2,[]⟩)]⟩)
  (fun i=>i≤l.length) (fun i=>zbN (zou l) i (l.drop i)) (fun i=>l.length - i) 0
  (Gh.canon [] [4] [] zK rfl rfl) (Nat.zero_le _) ?_
 intro i hi0 hF K hK
 rw[List.drop_zero]at hF
 refine zw ?_
 refine zaa (fun hlt=> ?_) (fun hge=> ?_)
 ·have hi:i<l.length:=by simpa using hlt
  have hat:=zbn hi
  obtain⟨hk1,hk2⟩:=hll _ (List.getElem_mem hi)
  have hw:=zai hi (by omega)
  rw[za2 hi]at hF
  have hnm:=zmY l[i].name hk2
  have hlr:=zoB l[i].line hk1
  have hlc:=ziU l[i].line (by omega) l[i].holder
  have hlt2:(l.take i).length=i:=by rw[List.length_take];omega
  have htk:(zaj l).take (i*4)=zaj (l.take i):=zhv Lk.enc 4 (fun _=>rfl) (by omega)
  have hco:=zmX (l.take i) (by omega) (fun o=>o.token==l[i].token) 167 [.elt l[i].enc] rfl rfl (fun x _=>zsj x _)
  rw[hlt2]at hco
  cases e0:decide ((i:Int)>0)
  ·have h0:i=0:=by simpa using e0
   have hq:zou l i l[i]=(!(!nameP l[i].name||decide (l[i].holder<0)||decide (l[i].holder≥8)||decide (l[i].token<1)||decide (l[i].token>2305843009213693952))&& !(!lineB l[i].line||l[i].line.any fun x=>l[i].holder==x)&& !((l.take i).any fun o=>o.token==l[i].token)):=by
    unfold zou zsf hasI
    have:decide (i>0)=false:=by simpa using e0
    rw[this]
    simp only[Bool.not_or,Bool.not_not,Bool.false_and,Bool.or_false]
   have hp:(zaj l).drop ((IntKind.i64.wrap ((i:Int) - 1)).toNat*4)=l[i].enc++zaj (l.drop (i+1)):=by
    rw[←zbn hi,h0];rfl
   repeat'(first|exact zC|refine zq (I hat (I hp (I htk (I e0 (I @zah zca))))) ?_|refine zx (hnm) ?_|refine zx (hlr) ?_|refine zx (hlc) ?_|refine zx (hco) ?_|(apply zaa<;>intro hb)|(apply I;exact zI)|(apply I<;>intro hg))
   ·rw[hq,hb,if_neg (by simp)]at hF
    unfold lockB
    rw[←hF];rfl
   ·rename_i ha
    rw[hq,ha,hb,if_neg (by simp)]at hF
    unfold lockB
    rw[←hF];rfl
   ·rename_i ha hc
    rw[hq,ha,hc,hb,if_neg (by simp)]at hF
    unfold lockB
    rw[←hF];rfl
   ·rename_i ha hc
    exact hK _ (i+1) (Gh.canon [] [] [] (zk hw) rfl rfl) hi (by rw[za2 hi,hq,ha,hc,hb];rfl) (by omega)
  ·have h0:0<i:=by simpa using e0
   have hq:zou l i l[i]=(!(!nameP l[i].name||decide (l[i].holder<0)||decide (l[i].holder≥8)||decide (l[i].token<1)||decide (l[i].token>2305843009213693952))&& !(!lineB l[i].line||(l[i].line.any fun x=>l[i].holder==x)|| !(zeF (l[i - 1]'(by omega)).name l[i].name))&& !((l.take i).any fun o=>o.token==l[i].token)):=by
    unfold zou zsf hasI zuM
    have:decide (i>0)=true:=by simpa using e0
    rw[this,List.getElem?_eq_getElem (by omega)]
    simp only[Bool.not_or,Bool.not_not,Bool.true_and,Option.map_some,Option.getD_some]
   have hp:=zbn (show i - 1<l.length by omega)
   have hw1:IntKind.i64.wrap ((i:Int) - 1)=((i - 1:Nat):Int):=by rw[wrap64 (by omega) (by omega)];omega
   repeat'(first|exact zC|refine zq (I hat (I hp (I hw1 (I htk (I e0 (I @zah zca)))))) ?_|refine zx (hnm) ?_|refine zx (hlr) ?_|refine zx (hlc) ?_|refine zx (hco) ?_|(apply zaa<;>intro hb)|(apply I;exact zI)|(apply I<;>intro hg))
   ·rw[hq,hb,if_neg (by simp)]at hF
    unfold lockB
    rw[←hF];rfl
   ·rename_i ha
    rw[hq,ha,hb,if_neg (by simp)]at hF
    unfold lockB
    rw[←hF];rfl
   ·rename_i ha hc
    rw[hq,ha,hc,hb,if_neg (by simp)]at hF
    unfold lockB
    rw[←hF];rfl
   ·rename_i ha hc
    exact hK _ (i+1) (Gh.canon [] [] [] (zk hw) rfl rfl) hi (by rw[za2 hi,hq,ha,hc,hb];rfl) (by omega)
 ·have hi:i=l.length:=by
   have:¬(i:Int)<l.length:=by simpa using hge
   omega
  rw[zeh hi]at hF
  unfold lockB
  rw[←hF]
  exact zW0 trivial
def curL (l:List Lk) (gone:List Int) (i:Nat):List Lk:=(l.take i).map (zaq gone)++l.drop i
theorem zxl {l:List Lk} {gone:List Int} {i:Nat} (hi:i≤l.length):(curL l gone i).length=l.length:=by
 unfold curL
 rw[List.length_append,List.length_map,List.length_take,List.length_drop];omega
theorem zz2 {l:List Lk} {gone:List Int} {i:Nat} (hi:i<l.length):∃h:i<(curL l gone i).length,(curL l gone i)[i]=l[i]:=by
 have hl:((l.take i).map (zaq gone)).length=i:=by rw[List.length_map,List.length_take];omega
 have h:(curL l gone i)[i]? =some l[i]:=by
  unfold curL
  rw[List.getElem?_append_right (by omega),hl,Nat.sub_self,List.getElem?_drop,Nat.add_zero,List.getElem?_eq_getElem hi]
 exact zox h
theorem zu1 {l:List Lk} {gone:List Int} {i:Nat} (hi:i<l.length):(curL l gone i).set i (zaq gone l[i])=curL l gone (i+1):=by
 have hl:((l.take i).map (zaq gone)).length=i:=by rw[List.length_map,List.length_take];omega
 unfold curL
 rw[List.set_append_right _ _ (by omega),hl,Nat.sub_self,List.drop_eq_getElem_cons hi,List.set_cons_zero,List.take_add_one,List.getElem?_eq_getElem hi]
 simp only[Option.toList,List.map_append,List.map_cons,List.map_nil,List.append_assoc,List.cons_append,List.nil_append]
theorem zxm (l:List Lk) (gone:List Int):curL l gone l.length=l.map (zaq gone):=by
 unfold curL
 rw[List.take_length,List.drop_length,List.append_nil]
theorem zsl {gone:List Int} {t:Int} {L:List Lk} {i:Nat} {g:Int} (hi:i<L.length):zcs gone t (L.drop i) g=if hasI gone L[i].holder=true then
   match L[i].line with
   |[]=>zcs gone t (L.drop (i+1)) g
   |c::rest=>(⟨L[i].name,c,t+g+1,rest⟩::(zcs gone t (L.drop (i+1)) (g+1)).1,(zcs gone t (L.drop (i+1)) (g+1)).2)
  else(L[i]::(zcs gone t (L.drop (i+1)) g).1,(zcs gone t (L.drop (i+1)) g).2):=by
 rw[List.drop_eq_getElem_cons hi,zcs]
 all_goals (cases L[i].line<;>rfl)
theorem zpP {a b:Int}:(a==b)=(b==a):=by rw[Bool.eq_iff_iff,beq_iff_eq,beq_iff_eq];exact eq_comm
theorem zBs (l:List Int) (hl:l.length<2^62) (x:Int):CallOK prog 171 [.f (al l.length (zaF l)), .f (ai x)] (fun r o=>r=[rb (hasI l x)]∧o=[]):=by
 refine zh func171 results171 ntmps171 call171 ?_
 simp only[f171,Option.getD]
 refine zL0 trivial ?_
 refine zaf (τ:=Nat) (fun i=>⟨(al l.length (zaF l)::ai x::dq3 (ai i::zsH [])),[]⟩)
  (fun i=>i≤l.length) (fun i=>hasI (l.drop i) x) (fun i=>l.length - i) 0
  (Gh.canon [] [] [] zK rfl rfl) (Nat.zero_le _) ?_
 intro i hi0 hF K hK
 rw[List.drop_zero]at hF
 refine zw ?_
 refine zaa (fun hlt=> ?_) (fun hge=> ?_)
 ·have hi:i<l.length:=by simpa using hlt
  have hat:=zcI hi
  have hw:=zai hi hl
  have hq:hasI (l.drop i) x=(l[i]==x||hasI (l.drop (i+1)) x):=by rw[List.drop_eq_getElem_cons hi];unfold hasI;rw[List.any_cons,zpP]
  rw[hq]at hF
  repeat'(first|exact zC|refine zq (I hat (I @zaD zca)) ?_|(apply zaa<;>intro hb)|(apply I;exact zI)|(apply I<;>intro hg))
  ·rw[hb]at hF
   rw[←hF];rfl
  ·rw[hb]at hq
   exact hK _ (i+1) (Gh.canon [] [] [] (zk hw) rfl rfl) hi (by rw[hq];rfl) (by omega)
 ·have hi:i=l.length:=by
   have:¬(i:Int)<l.length:=by simpa using hge
   omega
  rw[hi,List.drop_length]at hF
  rw[←hF]
  refine zL0 trivial ?_
  rfl
abbrev zBt (x:Sess):RF:= .agg [.d (iD x.client), .d (iD x.num), .d (iD x.renewed)]
theorem zfu (l:List Sess) (hl:l.length<2^62) (c:Int):CallOK prog 137 [.f (al l.length (za1 l)), .f (ai c)]
  (fun r o=>r=[zBt ((zaH l c).getD zfF),rb (zaH l c).isSome]∧o=[]):=by
 refine zh func137 results137 ntmps137 call137 ?_
 simp only[f137,Option.getD]
 refine zL0 trivial ?_
 refine zaf (τ:=Nat) (fun i=>⟨(al l.length (za1 l)::ai c::dq2 (ptq 4::dd::ai i::zvT [])),[(4,⟨2,[obq 1 [di 0,di 0,di 0],none,none,none]⟩)]⟩)
  (fun i=>i≤l.length) (fun i=>zaH (l.drop i) c) (fun i=>l.length - i) 0
  (Gh.canon [4] [] [] zK rfl rfl) (Nat.zero_le _) ?_
 intro i hi0 hF K hK
 rw[List.drop_zero]at hF
 refine zw ?_
 refine zaa (fun hlt=> ?_) (fun hge=> ?_)
 ·have hi:i<l.length:=by simpa using hlt
  have hat:=zco hi
  have hw:=zai hi hl
  have hq:zaH (l.drop i) c=if(l[i].client==c)=true then some l[i]else zaH (l.drop (i+1)) c:=by
   unfold zaH
   rw[List.drop_eq_getElem_cons hi,List.find?_cons]
   cases l[i].client==c<;>rfl
  rw[hq]at hF
  repeat'(first|exact zC|refine zq (I hat (I @zax zca)) ?_|(apply zaa<;>intro hb)|(apply I;exact zI)|(apply I<;>intro hg))
  ·rw[if_pos hb]at hF
   rw[←hF];rfl
  ·rw[if_neg (by rw[hb];simp)]at hq
   exact hK _ (i+1) (Gh.canon [4] [] [] (zk hw) rfl rfl) hi hq.symm (by omega)
 ·have hi:i=l.length:=by
   have:¬(i:Int)<l.length:=by simpa using hge
   omega
  rw[hi,List.drop_length]at hF
  rw[←hF]
  refine zL0 trivial ?_
  rfl
theorem zkr (l:List Lk) (hl:l.length<2^62) (s:ByteArray):CallOK prog 217 [.f (al l.length (zaj l)), .f (ast s)] (fun r o=>r=[ri (zdg (isL s) l 0)]∧o=[]):=by
 refine zh func217 results217 ntmps217 call217 ?_
 simp only[f217,Option.getD]
 refine zL0 trivial ?_
 refine zaf (τ:=Nat) (fun i=>⟨(al l.length (zaj l)::ast s::dq3 (ai i::zy0 [])),[]⟩)
  (fun i=>i≤l.length) (fun i=>zdg (isL s) (l.drop i) i) (fun i=>l.length - i) 0
  (Gh.canon [] [] [] zK rfl rfl) (Nat.zero_le _) ?_
 intro i hi0 hF K hK
 rw[List.drop_zero]at hF
 refine zw ?_
 refine zaa (fun hlt=> ?_) (fun hge=> ?_)
 ·have hi:i<l.length:=by simpa using hlt
  have hat:=zbn hi
  have hw:=zai hi hl
  have hq:zdg (isL s) (l.drop i) i=if(l[i].name.toList==s.toList)=true then(i:Int)else zdg (isL s) (l.drop (i+1)) ((i+1:Nat):Int):=by
   rw[List.drop_eq_getElem_cons hi,zdg];rfl
  rw[hq]at hF
  repeat'(first|exact zC|refine zq (I hat (I @zah zca)) ?_|(apply zaa<;>intro hb)|(apply I;exact zI)|(apply I<;>intro hg))
  ·rw[if_pos hb]at hF
   have hF:(i:Int)=zdg (isL s) l 0:=hF
   rw[←hF]
  ·rw[if_neg (by rw[hb];simp)]at hq
   exact hK _ (i+1) (Gh.canon [] [] [] (zk hw) rfl rfl) hi hq.symm (by omega)
 ·have hi:i=l.length:=by
   have:¬(i:Int)<l.length:=by simpa using hge
   omega
  rw[hi,List.drop_length]at hF
  have hF:(-1:Int)=zdg (isL s) l 0:=hF
  rw[←hF]
  exact zW0 trivial
end Go.Proofs.YtliimajkpggbhaaGreat
