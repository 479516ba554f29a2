import Derived.Test.YtliimajkpggbhaaGreatTy
import Derived.Test.YtliimajkpggbhaaGreatK9
import Derived.KernelRfl
namespace Go.Proofs.YtliimajkpggbhaaGreat
open Go.Pk Tryz
set_option maxRecDepth 100000
set_option linter.unusedSimpArgs false
set_option linter.unusedVariables false
theorem zAZ:(([25,33,153,151]:List Nat)).all (eqB prog)=true:=by kernel_rfl
theorem zco:TOK prog Ty:=zwh fun t ht=>List.all_eq_true.1 zAZ t ht
theorem mixed:prog.follows .mixedOrders=true:=by kernel_rfl
theorem zh {i:FuncId} {f:Func} {rvs:List ResultVar} {n:Nat} {args:List Arg} {post:List RF→List (List RO)→Prop} (h1:prog.funcs[i]? =some f) (h2:f.results=rvs.toArray) (h3:f.ntmps=n) (h4:∀(us:Array Value) (w:World),(callFunc i us).run prog w= .ok (.enter i us) w)
  (hk:awp Ty prog (f.body.getD .skip) (openG n args) (zow Ty rvs (objPos 0 args) post)) (hb:f.body=some (f.body.getD .skip):=by rfl):CallOK prog i args post:=zdx zco mixed h1 hb h2 h3 h4 hk
theorem zhy {i:FuncId} {f:Func} {n:Nat} {args:List Arg} {x:Value} (h1:prog.funcs[i]? =some f) (h3:f.ntmps=n) (h4:∀(us:Array Value) (w:World),(callFunc i us).run prog w= .ok (.enter i us) w)
  (hk:awp Ty prog (f.body.getD .skip) (openG n args) (zwe x)) (hb:f.body=some (f.body.getD .skip):=by rfl):zbE prog i args x:=zlr zco mixed h1 hb h3 h4 hk
theorem zhb {i:FuncId} {f:Func} {rvs:List ResultVar} {n:Nat} {args:List Arg} {post:List RF→List (List RO)→Prop} {x:Value} {b:Bool} (h1:prog.funcs[i]? =some f) (h2:f.results=rvs.toArray) (h3:f.ntmps=n) (h4:∀(us:Array Value) (w:World),(callFunc i us).run prog w= .ok (.enter i us) w)
  (hk:awp Ty prog (f.body.getD .skip) (openG n args) (zxi (zow Ty rvs (objPos 0 args) post) (zwe x) b)) (hb:f.body=some (f.body.getD .skip):=by rfl):(b=true→CallOK prog i args post)∧(b=false→zbE prog i args x):=zrU zco mixed h1 hb h2 h3 h4 hk
def zgi (c:UInt8):Bool:= !((decide ((c.toNat:Int)<97)||decide ((c.toNat:Int)>122))&&(decide ((c.toNat:Int)<48)||decide ((c.toNat:Int)>57))&&((c.toNat:Int) !=45))
def nameP (s:ByteArray):Bool:=((List.range s.size).all fun j=>zgi (s.data.getD j 0))&&(decide ((s.size:Int)≥1)&&decide ((s.size:Int)≤12))
theorem znX (k:Int):CallOK prog 113 [.f (ai k)] (fun r o=>r=[rb (k==3||k==4||k==5)]∧o=[]):=by
 refine zh func113 results113 ntmps113 call113 ?_
 simp only[f113,Option.getD]
 exact zwI trivial
theorem zkx (s:ByteArray) (hs:s.size<2^62):CallOK prog 114 [.f (ast s)] (fun r o=>r=[rb (nameP s)]∧o=[]):=by
 refine zh func114 results114 ntmps114 call114 ?_
 simp only[f114,Option.getD]
 refine zw ?_
 refine zhz Ty prog (τ:=Nat) (fun i=>⟨(ast s::dd::ab false::dq2 (ast s::ai s.size::ai i::zrQ [])),[]⟩) (fun i=>i≤s.size∧∀j,j<i→zgi (s.data.getD j 0)=true) (fun i=>s.size - i) 0 ?_ ⟨Nat.zero_le _,fun j hj=>absurd hj (Nat.not_lt_zero j)⟩ ?_
 ·refine Gh.fgt ?_
  simp only[ddE,zaQ,zaR,za8,Int.natCast_zero]
 intro i ⟨h1,h2⟩ K hK
 refine zw ?_
 rw[zcY]
 refine⟨trivial,fun hlt=> ?_,fun hge=> ?_⟩
 ·refine zw ?_
  have hi:i<s.size:=by simpa using hlt
  refine⟨⟨Int.natCast_nonneg i,by omega⟩,zqC (fun a b=>by rw[a,b];rfl), ?_⟩
  have hok:zgi (s.data.getD i 0)= !((decide (((s.data.getD i 0).toNat:Int)<97)||decide (((s.data.getD i 0).toNat:Int)>122))&&(decide (((s.data.getD i 0).toNat:Int)<48)||decide (((s.data.getD i 0).toNat:Int)>57))&&(((s.data.getD i 0).toNat:Int) !=45)):=rfl
  rw[zcY]
  refine⟨trivial,fun hb=> ?_,fun hb=> ?_⟩
  ·rw[hb]at hok
   refine zw ?_
   have hn:nameP s=false:=by
    unfold nameP
    rw[show((List.range s.size).all fun j=>zgi (s.data.getD j 0))=false from List.all_eq_false.2 ⟨i,List.mem_range.2 hi,by rw[hok];simp⟩,Bool.false_and]
   rw[hn]
  ·rw[hb]at hok
   refine zw ?_
   refine hK _ (i+1) (Gh.fgt ?_) ⟨hi,fun j hj=> ?_⟩ (by omega)
   ·have hw:IntKind.i64.wrap ((i:Int)+1)=((i+1:Nat):Int):=by rw[wrap64 (by omega) (by omega)];rfl
    simp only[hw,ddE,zaQ,zaR,za8]
   ·rcases Nat.lt_or_ge j i with h|h
    ·exact h2 j h
    ·rw[show j=i from by omega,hok];rfl
 ·refine zw ?_
  have hi:i=s.size:=by
   have:¬(i:Int)<s.size:=by simpa using hge
   omega
  have hn:nameP s=(decide ((s.size:Int)≥1)&&decide ((s.size:Int)≤12)):=by
   unfold nameP
   rw[show((List.range s.size).all fun j=>zgi (s.data.getD j 0))=true from List.all_eq_true.2 fun j hj=>h2 j (by rw[hi];exact List.mem_range.1 hj),Bool.true_and]
  rw[hn]
def zlY (k n:Int) (s:ByteArray):Bool:=
 if(decide (k<1)||decide (k>6))=true then false else
 if((k==3||k==4||k==5)&& !nameP s|| !(k==3||k==4||k==5)&& !s.toList==(⟨#[]⟩:ByteArray).toList)=true then false else
 if(k==1)=true then n==0 else decide (n≥1)&&decide (n≤2305843009213693952)
theorem znY (k n:Int) (s:ByteArray) (hs:s.size<2^62):CallOK prog 73 [.f (.agg [di k,di n,dS s])] (fun r o=>r=[rb (zlY k n s)]∧o=[]):=by
 refine zh func73 results73 ntmps73 call73 ?_
 simp only[f73,Option.getD]
 repeat'(first|exact zC|refine za0 ?_|((first|((try refine zaB ?_);apply zaC)|(apply zaE;intro _));(solve|exact(znX _)|(refine CallOK.le (znX _) ?_;exact zM)|fail);try case hn=>rfl)|((first|((try refine zaB ?_);apply zaC)|(apply zaE;intro _));(solve|exact(zkx _ hs)|(refine CallOK.le (zkx _ hs) ?_;exact zM)|fail);try case hn=>rfl)|(apply zab<;>intro hb)|(apply I;exact zI)|(apply I<;>intro hg))
 ·rw[zlY,if_pos (by assumption)]
 ·rw[zlY,if_neg (by simp_all),if_pos (by assumption)]
 ·rw[zlY,if_neg (by simp_all),if_neg (by simp_all),if_pos (by assumption)]
 ·rw[zlY,if_neg (by simp_all),if_neg (by simp_all),if_neg (by simp_all)]
def Req.may (r:Req):Bool:=(decide (r.client≥0)&&decide (r.client<8)&&decide (r.seq≥1)&&decide (r.seq≤zcT))&&zlY r.kind r.session r.name
theorem ze2 (r:Req) (hr:r.ok):CallOK prog 34 [.f (.agg (r.enc.map C.d))] (fun x o=>x=[rb (Req.may r)]∧o=[]):=by
 refine zh func34 results34 ntmps34 call34 ?_
 simp only[f34,Option.getD]
 repeat'(first|exact zC|refine za0 ?_|((first|((try refine zaB ?_);apply zaC)|(apply zaE;intro _));(solve|exact(znY _ _ _ hr.2.2.2.2)|(refine CallOK.le (znY _ _ _ hr.2.2.2.2) ?_;exact zM)|fail);try case hn=>rfl)|(apply zab<;>intro hb)|(apply I;exact zI)|(apply I<;>intro hg))
 rfl
def zfe {α:Type} (p:α→Bool):List α→Int→Int
 |[],_=> -1
 |x::l,i=>if p x=true then i else zfe p l (i+1)
theorem zfX {α:Type} (p:α→Bool) (l:List α):decide (zfe p l 0≥0)=l.any p:=by
 have h:∀(l:List α) (i:Int),0≤i→(0≤zfe p l i↔l.any p=true):=by
  intro l
  induction l with
  |nil=>intro i _;simp[zfe]
  |cons x l ih=>
   intro i hi
   simp only[zfe]
   by_cases hx:p x=true
   ·simp[hx,hi]
   ·rw[if_neg hx,ih (i+1) (by omega)];simp[hx]
 rw[Bool.eq_iff_iff]
 simpa using h l 0 (Int.le_refl _)
theorem zai {i n:Nat} (h:i<n) (hn:n<2^62):IntKind.i64.wrap ((i:Int)+1)=((i+1:Nat):Int):=by rw[wrap64 (by omega) (by omega)];rfl
theorem zrO {n:Nat} (h:n<2^63):IntKind.u64.wrap (n:Int)=n:=by
 unfold IntKind.wrap
 simp[IntKind.signed,IntKind.bits]
 omega
theorem zxz:Go.Pk.bad.x= .one .dead:=rfl
abbrev zv1:Int→AV:=fun x=> .one (di x)
abbrev zk8:Sess→AV:=fun x=> .agg (x.enc.map C.d)
abbrev zpw:Lk→AV:=fun x=> .agg (x.enc.map C.d)
abbrev zx7:Memo→AV:=fun x=> .agg (x.enc.map C.d)
theorem zpx (l:List Int) (hl:l.length<2^62) (p:Int→Bool) (f:Nat) (caps:List C) (hc:lendAs [] (caps.map AV.one)=some (caps.map fun c=> .f (.one c)))
  (hp:∀x∈l,CallOK prog f (.f (zv1 x)::caps.map fun c=> .f (.one c)) (fun r o=>r=[rb (p x)]∧o=[])):
  CallOK prog 161 [.f (al l.length (za5 l)), .f (.one (.clos f caps))] (fun r o=>r=[ri (zfe p l 0)]∧o=[]):=by
 refine zh func161 results161 ntmps161 call161 ?_
 simp only[f161,Option.getD]
 refine zw ?_
 refine zaf (τ:=Nat) (fun i=>⟨(al l.length (za5 l):: .one (.clos f caps)::dq2 (ai 0::dd::al l.length (za5 l)::ai l.length::ai i::zmC [])),[]⟩) (fun i=>i≤l.length) (fun i=>zfe p (l.drop i) i) (fun i=>l.length - i) 0 (Gh.fgt ?_) (Nat.zero_le _) ?_
 ·simp only[ddE,zaQ,zaR,za8,Int.natCast_zero]
 intro i hi0 hF K hK
 refine zw ?_
 rw[zcY]
 refine⟨trivial,fun hlt=> ?_,fun hge=> ?_⟩
 ·have hi:i<l.length:=by simpa using hlt
  rw[List.drop_eq_getElem_cons hi,zfe]at hF
  have hat:=ints_at hi
  simp only[List.cons_append,List.nil_append]at hat
  refine zw1 (I @zns (I hat hc)) ?_
  refine⟨⟨Int.natCast_nonneg i,by omega⟩, ?_⟩
  refine zaC (hp _ (List.getElem_mem hi)) ?_
  refine zw ?_
  refine zab (fun hb=> ?_) (fun hb=> ?_)
  ·rw[if_pos hb]at hF
   refine zw ?_
   rw[hF];rfl
  ·rw[if_neg (by simp[hb])]at hF
   refine zw ?_
   refine hK _ (i+1) (Gh.fgt ?_) hi (by simp only[List.drop_eq_getElem_cons hi,zfe];rw[if_neg (by simp[hb])];rfl) (by omega)
   have hw:IntKind.i64.wrap ((i:Int)+1)=((i+1:Nat):Int):=by rw[wrap64 (by omega) (by omega)];rfl
   simp only[hw,ddE,zaQ,zaR,za8]
 ·have hi:i=l.length:=by
   have:¬(i:Int)<l.length:=by simpa using hge
   omega
  rw[hi,List.drop_length,zfe]at hF
  refine zw ?_
  rw[hF];rfl
theorem zoi (l:List Sess) (hl:l.length<2^62) (p:Sess→Bool) (f:Nat) (caps:List C) (hc:lendAs [] (caps.map AV.one)=some (caps.map fun c=> .f (.one c)))
  (hp:∀x∈l,CallOK prog f (.f (zk8 x)::caps.map fun c=> .f (.one c)) (fun r o=>r=[rb (p x)]∧o=[])):
  CallOK prog 210 [.f (al l.length (zaV l)), .f (.one (.clos f caps))] (fun r o=>r=[ri (zfe p l 0)]∧o=[]):=by
 refine zh func210 results210 ntmps210 call210 ?_
 simp only[f210,Option.getD]
 refine zw ?_
 refine zaf (τ:=Nat) (fun i=>⟨(al l.length (zaV l):: .one (.clos f caps)::dq2 (ai 0::dd::al l.length (zaV l)::ai l.length::ai i::zmC [])),[]⟩) (fun i=>i≤l.length) (fun i=>zfe p (l.drop i) i) (fun i=>l.length - i) 0 (Gh.fgt ?_) (Nat.zero_le _) ?_
 ·simp only[ddE,zaQ,zaR,za8,Int.natCast_zero]
 intro i hi0 hF K hK
 refine zw ?_
 rw[zcY]
 refine⟨trivial,fun hlt=> ?_,fun hge=> ?_⟩
 ·have hi:i<l.length:=by simpa using hlt
  rw[List.drop_eq_getElem_cons hi,zfe]at hF
  have hat:=zbH hi
  simp only[List.cons_append,List.nil_append]at hat
  refine zw1 (I @zat (I hat hc)) ?_
  refine⟨⟨Int.natCast_nonneg i,by omega⟩, ?_⟩
  refine zaC (hp _ (List.getElem_mem hi)) ?_
  refine zw ?_
  refine zab (fun hb=> ?_) (fun hb=> ?_)
  ·rw[if_pos hb]at hF
   refine zw ?_
   rw[hF];rfl
  ·rw[if_neg (by simp[hb])]at hF
   refine zw ?_
   refine hK _ (i+1) (Gh.fgt ?_) hi (by simp only[List.drop_eq_getElem_cons hi,zfe];rw[if_neg (by simp[hb])];rfl) (by omega)
   have hw:IntKind.i64.wrap ((i:Int)+1)=((i+1:Nat):Int):=by rw[wrap64 (by omega) (by omega)];rfl
   simp only[hw,ddE,zaQ,zaR,za8]
 ·have hi:i=l.length:=by
   have:¬(i:Int)<l.length:=by simpa using hge
   omega
  rw[hi,List.drop_length,zfe]at hF
  refine zw ?_
  rw[hF];rfl
theorem zoj (l:List Lk) (hl:l.length<2^62) (p:Lk→Bool) (f:Nat) (caps:List C) (hc:lendAs [] (caps.map AV.one)=some (caps.map fun c=> .f (.one c)))
  (hp:∀x∈l,CallOK prog f (.f (zpw x)::caps.map fun c=> .f (.one c)) (fun r o=>r=[rb (p x)]∧o=[])):
  CallOK prog 196 [.f (al l.length (zay l)), .f (.one (.clos f caps))] (fun r o=>r=[ri (zfe p l 0)]∧o=[]):=by
 refine zh func196 results196 ntmps196 call196 ?_
 simp only[f196,Option.getD]
 refine zw ?_
 refine zaf (τ:=Nat) (fun i=>⟨(al l.length (zay l):: .one (.clos f caps)::dq2 (ai 0::dd::al l.length (zay l)::ai l.length::ai i::zmC [])),[]⟩) (fun i=>i≤l.length) (fun i=>zfe p (l.drop i) i) (fun i=>l.length - i) 0 (Gh.fgt ?_) (Nat.zero_le _) ?_
 ·simp only[ddE,zaQ,zaR,za8,Int.natCast_zero]
 intro i hi0 hF K hK
 refine zw ?_
 rw[zcY]
 refine⟨trivial,fun hlt=> ?_,fun hge=> ?_⟩
 ·have hi:i<l.length:=by simpa using hlt
  rw[List.drop_eq_getElem_cons hi,zfe]at hF
  have hat:=zbo hi
  simp only[List.cons_append,List.nil_append]at hat
  refine zw1 (I @zan (I hat hc)) ?_
  refine⟨⟨Int.natCast_nonneg i,by omega⟩, ?_⟩
  refine zaC (hp _ (List.getElem_mem hi)) ?_
  refine zw ?_
  refine zab (fun hb=> ?_) (fun hb=> ?_)
  ·rw[if_pos hb]at hF
   refine zw ?_
   rw[hF];rfl
  ·rw[if_neg (by simp[hb])]at hF
   refine zw ?_
   refine hK _ (i+1) (Gh.fgt ?_) hi (by simp only[List.drop_eq_getElem_cons hi,zfe];rw[if_neg (by simp[hb])];rfl) (by omega)
   have hw:IntKind.i64.wrap ((i:Int)+1)=((i+1:Nat):Int):=by rw[wrap64 (by omega) (by omega)];rfl
   simp only[hw,ddE,zaQ,zaR,za8]
 ·have hi:i=l.length:=by
   have:¬(i:Int)<l.length:=by simpa using hge
   omega
  rw[hi,List.drop_length,zfe]at hF
  refine zw ?_
  rw[hF];rfl
theorem zj0 (l:List Sess) (hl:l.length<2^62) (p:Sess→Bool) (f:Nat) (caps:List C) (hc:lendAs [] (caps.map AV.one)=some (caps.map fun c=> .f (.one c))) (hc2:lendC.lendCs [] caps=some caps)
  (hp:∀x∈l,CallOK prog f (.f (zk8 x)::caps.map fun c=> .f (.one c)) (fun r o=>r=[rb (p x)]∧o=[])):
  CallOK prog 192 [.f (al l.length (zaV l)), .f (.one (.clos f caps))] (fun r o=>r=[rb (l.any p)]∧o=[]):=by
 refine zh func192 results192 ntmps192 call192 ?_
 simp only[f192,Option.getD]
 refine zw1 hc2 ?_
 refine zaC (zoi l hl p f caps hc hp) ?_
 refine zw ?_
 rw[zfX]
theorem zj1 (l:List Lk) (hl:l.length<2^62) (p:Lk→Bool) (f:Nat) (caps:List C) (hc:lendAs [] (caps.map AV.one)=some (caps.map fun c=> .f (.one c))) (hc2:lendC.lendCs [] caps=some caps)
  (hp:∀x∈l,CallOK prog f (.f (zpw x)::caps.map fun c=> .f (.one c)) (fun r o=>r=[rb (p x)]∧o=[])):
  CallOK prog 166 [.f (al l.length (zay l)), .f (.one (.clos f caps))] (fun r o=>r=[rb (l.any p)]∧o=[]):=by
 refine zh func166 results166 ntmps166 call166 ?_
 simp only[f166,Option.getD]
 refine zw1 hc2 ?_
 refine zaC (zoj l hl p f caps hc hp) ?_
 refine zw ?_
 rw[zfX]
set_option maxHeartbeats 1000000 in
theorem zk9 (l:List Sess) (hl:l.length<2^62) (t:Int) (c:Sess→Int) (f:Nat) (m:Nat) (hm:m≤l.length) (h1:∀j (hj:j<l.length),j<m→c l[j]<0) (h2:∀j (hj:j<l.length),m≤j→0≤c l[j])
  (hp:∀x∈l,CallOK prog f [.f (zk8 x), .f (ai t)] (fun r o=>r=[ri (c x)]∧o=[])):
  CallOK prog 211 [.f (al l.length (zaV l)), .f (ai t), .f (.one (.clos f []))] (fun r o=>r=[ri m,rb ((l[m]?.map fun x=>c x==0).getD false)]∧o=[]):=by
 refine zh func211 results211 ntmps211 call211 ?_
 simp only[f211,Option.getD]
 refine zw ?_
 refine zaf (τ:=Nat×Nat) (fun q=>⟨(al l.length (zaV l)::ai t:: .one (.clos f [])::dq5 (ai l.length::ai q.1::ai q.2::zxe [])),[]⟩) (fun q=>q.1≤m∧m≤q.2∧q.2≤l.length) (fun _=>()) (fun q=>q.2 - q.1) (0,l.length) (Gh.fgt ?_) ⟨Nat.zero_le _,hm,Nat.le_refl _⟩ ?_
 ·simp only[ddE,zaQ,zaR,za8,Int.natCast_zero]
 intro⟨lo,hi⟩ ⟨b1,b2,b3⟩ hF K hK
 simp only at b1 b2 b3 hF hK⊢
 refine zw ?_
 refine zab (fun hlt=> ?_) (fun hge=> ?_)
 ·have hlt:lo<hi:=by simpa using hlt
  obtain⟨q,hq⟩:∃q:Nat,q=(lo+hi) / 2:=⟨_,rfl⟩
  have hw1:IntKind.i64.wrap ((lo:Int)+hi)=((lo+hi:Nat):Int):=by rw[wrap64 (by omega) (by omega)];rfl
  have hw2:IntKind.u64.wrap ((lo+hi:Nat):Int)=((lo+hi:Nat):Int):=zrO (by omega)
  have hw3:IntKind.i64.wrap (((lo+hi:Nat):Int).fdiv (2^(min (Int.toNat 1) IntKind.u64.bits)))=(q:Int):=by
   rw[show(2:Int)^(min (Int.toNat 1) IntKind.u64.bits)=2 by decide,hq,show(((lo+hi:Nat):Int)).fdiv 2=(((lo+hi) / 2:Nat):Int) by rw[Int.fdiv_eq_ediv_of_nonneg _ (by decide)];rfl]
   exact wrap64 (by omega) (by omega)
  have hqh:q<hi:=by omega
  have hql:q<l.length:=by omega
  have hat:=zbH hql
  simp only[List.cons_append,List.nil_append]at hat
  have hcp:=hp _ (List.getElem_mem hql)
  have hw4:IntKind.i64.wrap ((q:Int)+1)=((q+1:Nat):Int):=by rw[wrap64 (by omega) (by omega)];rfl
  have h10:∀(a b:Option Value),(if(1:Int)<0 then a else b)=b:=fun a b=>if_neg (by decide)
  clear hlt
  repeat'(first|exact zC|refine za (I h10 (I hw1 (I hw2 (I hw3 (I @zat (I hat @Nat.mul_one)))))) ?_|refine zx (hcp) ?_|(apply zab<;>intro hb)|(apply I;exact zI)|(apply I<;>intro hg))
  ·have hqm:q<m:=by
    rcases Nat.lt_or_ge q m with h|h
    ·exact h
    ·have:=h2 q hql h
     have hb':c l[q]<0:=by simpa using hb
     omega
   refine hK _ (q+1,hi) (Gh.fgt ?_) ⟨by simp only;omega,b2,b3⟩ trivial (by simp only;omega)
   simp only[hw4,ddE,zaQ,zaR,za8]
  ·have hqm:m≤q:=by
    rcases Nat.lt_or_ge q m with h|h
    ·have:=h1 q hql h
     have hb':¬c l[q]<0:=by simpa using hb
     omega
    ·exact h
   refine hK _ (lo,q) (Gh.fgt ?_) ⟨b1,hqm,by simp only;omega⟩ trivial (by simp only;omega)
   simp only[ddE,zaQ,zaR,za8]
 ·have he:lo=m:=by
   have:¬(lo:Int)<hi:=by simpa using hge
   omega
  subst he
  by_cases hlt:lo<l.length
  ·have hat:=zbH hlt
   simp only[List.cons_append,List.nil_append]at hat
   have hcp:=hp _ (List.getElem_mem hlt)
   have hd:decide ((lo:Int)<l.length)=true:=by simpa using hlt
   refine zLa (I hd (I @zat (I hat @Nat.mul_one))) (hcp) ?_
   rw[List.getElem?_eq_getElem hlt];rfl
  ·have hd:decide ((lo:Int)<l.length)=false:=by simp;omega
   have hn:l[lo]? =none:=List.getElem?_eq_none (by omega)
   exact zwI (I hd (I @zat (I @Nat.mul_one (I hn (I @zxz @Option.map_none.{0,0})))))
theorem zpu (l:List Int) (hl:l.length<2^62) (v:Int):CallOK prog 195 [.f (al l.length (za5 l)), .f (ai v)] (fun r o=>r=[ri (zfe (fun x=>v==x) l 0)]∧o=[]):=by
 refine zh func195 results195 ntmps195 call195 ?_
 simp only[f195,Option.getD]
 refine zw ?_
 refine zaf (τ:=Nat) (fun i=>⟨(al l.length (za5 l)::ai v::dq2 (ai 0::dd::al l.length (za5 l)::ai l.length::ai i::zmC [])),[]⟩) (fun i=>i≤l.length) (fun i=>zfe (fun x=>v==x) (l.drop i) i) (fun i=>l.length - i) 0 (Gh.fgt ?_) (Nat.zero_le _) ?_
 ·simp only[ddE,zaQ,zaR,za8,Int.natCast_zero]
 intro i hi0 hF K hK
 refine zw ?_
 refine zab (fun hlt=> ?_) (fun hge=> ?_)
 ·have hi:i<l.length:=by simpa using hlt
  rw[List.drop_eq_getElem_cons hi,zfe]at hF
  have hat:=zce hi
  simp only[List.cons_append,List.nil_append]at hat
  have hw:=zai hi hl
  clear hlt
  repeat'(first|exact zC|refine zq (I @zaW hat) ?_|(apply zab<;>intro hb)|(apply I;exact zI)|(apply I<;>intro hg))
  ·rw[if_pos hb]at hF
   rw[hF];rfl
  ·rw[if_neg (by simp[hb])]at hF
   refine hK _ (i+1) (Gh.fgt ?_) hi (by simp only[List.drop_eq_getElem_cons hi,zfe];rw[if_neg (by simp[hb])];rfl) (by omega)
   simp only[hw,ddE,zaQ,zaR,za8]
 ·have hi:i=l.length:=by
   have:¬(i:Int)<l.length:=by simpa using hge
   omega
  rw[hi,List.drop_length,zfe]at hF
  refine zw ?_
  rw[hF];rfl
theorem zg5 (l:List Int) (hl:l.length<2^62) (v:Int):CallOK prog 165 [.f (al l.length (za5 l)), .f (ai v)] (fun r o=>r=[rb (l.any fun x=>v==x)]∧o=[]):=by
 refine zh func165 results165 ntmps165 call165 ?_
 simp only[f165,Option.getD]
 refine zLa trivial (zpu l hl v) ?_
 rw[zfX]
theorem znh (v:Int):CallOK prog 220 [.f (ai v)] (fun r o=>r=[rb false]∧o=[]):=by
 refine zh func220 results220 ntmps220 call220 ?_
 simp only[f220,Option.getD]
 exact zwI @bne_self_eq_false.{0}
def zpv (a b:Int):Int:=if a<b then -1 else if a>b then 1 else 0
theorem zmw (a b:Int):CallOK prog 213 [.f (ai a), .f (ai b)] (fun r o=>r=[ri (zpv a b)]∧o=[]):=by
 refine zh func213 results213 ntmps213 call213 ?_
 simp only[f213,Option.getD]
 repeat'(first|exact zC|refine zq0 ?_|refine zx (znh a) ?_|refine zx (znh b) ?_|(apply zab<;>intro hb)|(apply I;exact zI)|(apply I<;>intro hg))
 all_goals simp only[decide_eq_true_eq,decide_eq_false_iff_not]at*
 ·unfold zpv;rw[if_pos (by assumption)]
 ·unfold zpv;rw[if_neg (by assumption),if_pos (by assumption)]
 ·unfold zpv;rw[if_neg (by assumption),if_neg (by assumption)]
theorem zjY (n:Int):CallOK prog 194 [.f (ai n)] (fun r o=>r=[rb (decide (n≥0)&&decide (n<8))]∧o=[]):=by
 refine zh func194 results194 ntmps194 call194 ?_
 simp only[f194,Option.getD]
 exact zW0 trivial
theorem zjZ (n:Int):CallOK prog 162 [.f (ai n)] (fun r o=>r=[rb (decide (n≥0)&&decide (n<8))]∧o=[]):=by
 refine zh func162 results162 ntmps162 call162 ?_
 simp only[f162,Option.getD]
 exact zW0 trivial
def isClient (n:Int):Bool:=decide (n≥0)&&decide (n<8)
def hasI (l:List Int) (v:Int):Bool:=l.any fun x=>v==x
def zBj (l:List Int):RF:= .one (.own 1 l.length (za5 l) false)
def zrM (l:List Int) (c:Int):List Int×Int×Int:=
 if(!isClient c)=true then([],0,1)else if hasI l c=true then([],0,7)else if decide ((l.length:Int)≥3)=true then([],0,5)else(l++[c],l.length,0)
theorem zk7 {l:List Int} {i:Nat} (hi:i≤l.length):(za5 l).take i=za5 (l.take i):=by have:=zhU (fun n=>[iD n]) 1 (fun _=>rfl) hi;rwa[Nat.mul_one]at this
def zv0 (l:List Int) (c:Int):List Int×Bool:=if zfe (fun x=>c==x) l 0<0 then(l,false)else(l.eraseIdx (zfe (fun x=>c==x) l 0).toNat,true)
def zrN (l gone:List Int):List Int:=l.filter fun c=> !hasI gone c
section
variable {α:Type} {p:α→Bool}
def zru (p:α→Bool) (l:List α):Nat:=(l.takeWhile p).length
def zxx (p:α→Bool) (l:List α):Prop:=l.Pairwise fun x y=>p y=true→p x=true
theorem zun {l:List α}:zru p l≤l.length:=(List.takeWhile_prefix _).length_le
theorem zeF {x:α} {l:List α}:zru p (x::l)=if p x=true then zru p l+1 else 0:=by
 unfold zru
 rw[List.takeWhile_cons]
 split<;>simp[*]
theorem zpp:∀{l:List α} {j:Nat} (hj:j<l.length),j<zru p l→p l[j]=true
 |x::l,0,_,h=>by
  rw[zeF]at h
  split at h
  ·assumption
  ·omega
 |x::l,j+1,hj,h=>by
  rw[zeF]at h
  split at h
  ·exact zpp (l:=l) (by simpa using hj) (by omega)
  ·omega
theorem zpq:∀{l:List α} {j:Nat} (hj:j<l.length),zxx p l→zru p l≤j→p l[j]=false
 |x::l,0,_,hm,h=>by
  rw[zeF]at h
  split at h
  ·omega
  ·rename_i hx;simpa using hx
 |x::l,j+1,hj,hm,h=>by
  have hm':=List.pairwise_cons.1 hm
  have hj':j<l.length:=by simpa using hj
  rw[zeF]at h
  split at h
  ·exact zpq (l:=l) hj' hm'.2 (by omega)
  ·rename_i hx
   have:=hm'.1 l[j] (List.getElem_mem hj')
   simp only[List.getElem_cons_succ]
   cases hc:p l[j]
   ·rfl
   ·exact absurd (this hc) hx
theorem zk5 {q:α→Bool}:∀{l:List α},zxx p l→(∀x,q x=true→p x=false)→(l.Pairwise fun x y=>q y=true→p x=true)→l.find? q=(l[zru p l]?).filter q
 |[],_,_,_=>rfl
 |x::l,hm,hq,hs=>by
  have hm':=List.pairwise_cons.1 hm
  have hs':=List.pairwise_cons.1 hs
  rw[List.find?_cons,zeF]
  cases hx:p x
  ·rw[if_neg (by simp)]
   simp only[List.getElem?_cons_zero]
   cases hqx:q x
   ·simp only[Option.filter,hqx,Bool.false_eq_true,if_false]
    rw[List.find?_eq_none]
    intro y hy hqy
    have:=hs'.1 y hy hqy
    rw[hx]at this;cases this
   ·simp[Option.filter,hqx]
  ·rw[if_pos rfl]
   have hqx:q x=false:=by
    cases hc:q x
    ·rfl
    ·have:=hq x hc;rw[hx]at this;cases this
   rw[hqx]
   simp only[List.getElem?_cons_succ]
   exact zk5 hm'.2 hq hs'.2
end
def SS (l:List Sess):Prop:=l.Pairwise fun x y=>x.client<y.client
def zrK (l:List Sess) (c:Int):Nat:=zru (fun x=>decide (x.client<c)) l
def zbL (l:List Sess) (c:Int):Option Sess:=l.find? fun x=>x.client==c
theorem zpr {l:List Sess} (h:SS l) (c:Int):zxx (fun x:Sess=>decide (x.client<c)) l:=h.imp fun hxy h=>by simp at h⊢;omega
theorem zk6 {l:List Sess} (h:SS l) (c:Int):zbL l c=(l[zrK l c]?).filter fun x=>x.client==c:=
 zk5 (q:=fun x:Sess=>x.client==c) (zpr h c) (fun x hx=>by simp at hx⊢;omega) (h.imp fun hxy h=>by simp at h⊢;omega)
def SM (l:List Memo):Prop:=l.Pairwise fun x y=>x.client<y.client
def zxy (l:List Memo) (c:Int):Nat:=zru (fun x=>decide (x.client<c)) l
def zps (l:List Memo) (c:Int):Option Memo:=l.find? fun x=>x.client==c
abbrev zjW (a b:ByteArray):Bool:=Go.Op.bytesLess a.toList b.toList
theorem zpt:∀{a:List UInt8},Go.Op.bytesLess a a=false
 |[]=>rfl
 |a::x=>by rw[Go.Op.bytesLess,zpt (a:=x)];simp
theorem zjX:∀{a b c:List UInt8},Go.Op.bytesLess a b=true→Go.Op.bytesLess b c=true→Go.Op.bytesLess a c=true
 |[],[],_,h,_=>by cases h
 |[],_::_,[],_,h=>by cases h
 |[],_::_,_::_,_,_=>rfl
 |_::_,[],_,h,_=>by cases h
 |_::_,_::_,[],_,h=>by cases h
 |a::x,b::y,c::z,h1,h2=>by
  rw[Go.Op.bytesLess]at*
  simp only[Bool.or_eq_true,Bool.and_eq_true,decide_eq_true_eq,beq_iff_eq]at*
  rcases h1 with h1|⟨rfl,h1⟩<;>rcases h2 with h2|⟨rfl,h2⟩
  ·exact .inl (UInt8.lt_trans h1 h2)
  ·exact .inl h1
  ·exact .inl h2
  ·exact .inr ⟨rfl,zjX h1 h2⟩
theorem zrL {a b:List UInt8} (h:Go.Op.bytesLess a b=true):Go.Op.bytesLess b a=false:=by
 cases hc:Go.Op.bytesLess b a
 ·rfl
 ·have:=zjX h hc
  rw[zpt]at this;cases this
theorem ztl:∀{a b:List UInt8},Go.Op.bytesLess a b=false→Go.Op.bytesLess b a=false→a=b
 |[],[],_,_=>rfl
 |[],_::_,h,_=>by cases h
 |_::_,[],_,h=>by cases h
 |a::x,b::y,h1,h2=>by
  rw[Go.Op.bytesLess]at*
  simp only[Bool.or_eq_false_iff,Bool.and_eq_false_iff,decide_eq_false_iff_not,beq_eq_false_iff_ne]at*
  have hab:a=b:=UInt8.le_antisymm (UInt8.not_lt.1 h2.1) (UInt8.not_lt.1 h1.1)
  subst hab
  rcases h1.2 with h|h1'
  ·exact absurd rfl h
  rcases h2.2 with h|h2'
  ·exact absurd rfl h
  rw[ztl h1' h2']
def SL (l:List Lk):Prop:=l.Pairwise fun x y=>zjW x.name y.name=true
def zvC (l:List Lk) (s:ByteArray):Nat:=zru (fun x=>zjW x.name s) l
def isL (s:ByteArray) (x:Lk):Bool:=x.name.toList==s.toList
def zvZ (l:List Lk) (s:ByteArray):Option Lk:=l.find? (isL s)
def zbb {α:Type} (q:Nat→α→Bool):Nat→List α→Bool
 |_,[]=>true
 |i,x::r=>if q i x=true then zbb q (i+1) r else false
theorem zcV {α:Type} {q:Nat→α→Bool}:∀{l:List α} {i:Nat},zbb q i l=true↔∀j (hj:j<l.length),q (i+j) l[j]=true
 |[],i=>by simp[zbb]
 |x::l,i=>by
  rw[zbb]
  constructor
  ·intro h
   split at h
   ·rename_i hx
    intro j hj
    cases j with
    |zero=>exact hx
    |succ j=>
     have:=zcV.1 h j (by simpa using hj)
     simp only[List.getElem_cons_succ]
     rw[show i+(j+1)=i+1+j by omega];exact this
   ·cases h
  ·intro h
   have h0:=h 0 (by simp)
   simp only[List.getElem_cons_zero,Nat.add_zero]at h0
   rw[if_pos h0,zcV]
   intro j hj
   have:=h (j+1) (by simpa using hj)
   simp only[List.getElem_cons_succ]at this
   rw[show i+1+j=i+(j+1) by omega];exact this
theorem zau {α:Type} {q:Nat→α→Bool} {l:List α} {i:Nat} (h:i<l.length):zbb q i (l.drop i)=if q i l[i]=true then zbb q (i+1) (l.drop (i+1))else false:=by
 rw[List.drop_eq_getElem_cons h,zbb]
theorem zb6 {α:Type} {q:Nat→α→Bool} {l:List α} {i:Nat} (h:i=l.length):zbb q i (l.drop i)=true:=by
 rw[h,List.drop_length,zbb]
def zfA (s:Sess):Bool:=isClient s.client&& !(decide (s.num<1))&& !(decide (s.num>zcT))&& !(decide (s.renewed<0))&& !(decide (s.renewed>zcT))
def numbered (l:List Sess) (n:Int):Bool:=l.any fun x=>x.num==n
def zoe (l:List Sess) (i:Nat):Int:=(l[i - 1]?.map Sess.client).getD 0
def zfK (l:List Sess) (i:Nat) (s:Sess):Bool:=zfA s&& !((decide (i>0)&&decide (zoe l i≥s.client))||numbered (l.take i) s.num)
def sessB (l:List Sess):Bool:= !(decide ((l.length:Int)>5))&&zbb (zfK l) 0 l
def zuk (l:List Sess) (c num now:Int):List Sess×Int:=
 if(!isClient c||decide (num<1)||decide (num>zcT)||decide (now<0)||decide (now>zcT)||(!(zbL l c).isSome&&numbered l num)||((zbL l c).isSome&&(((zbL l c).map Sess.num).getD 0 !=num)&&numbered l num))=true then([],1)else
 if(zbL l c).isSome=true then([],7)else if decide ((l.length:Int)≥5)=true then([],5)else(l.take (zrK l c)++⟨c,num,now⟩::l.drop (zrK l c),0)
def zvT (l:List Sess) (c now:Int):List Sess×Int:=
 if(decide (now<0)||decide (now>zcT))=true then([],1)else
 match zbL l c with
 |none=>([],6)
 |some x=>(l.set (zrK l c) ⟨x.client,x.num,max x.renewed now⟩,0)
def zAU (l:List Sess) (now lease:Int):List Int:=
 if(decide (now<0)||decide (now>zcT)||decide (lease<0)||decide (lease>zcT))=true then []else(l.filter fun s=>decide (now - s.renewed≥lease)).map Sess.client
def zk3 (l:List Int) (i:Nat) (c:Int):Bool:= !(!isClient c||hasI (l.take i) c)
def lineB (l:List Int):Bool:=zbb (zk3 l) 0 l&&decide ((l.length:Int)≤3)
def zof (l:List Lk) (i:Nat):ByteArray:=(l[i - 1]?.map Lk.name).getD .empty
def zrt (k:Lk):Bool:=nameP k.name&& !(decide (k.holder<0))&& !(decide (k.holder≥8))&& !(decide (k.token<1))&& !(decide (k.token>zcT))
def zfV (l:List Lk) (i:Nat) (k:Lk):Bool:=zrt k&& !(!lineB k.line||hasI k.line k.holder||(decide (i>0)&& !(zjW (zof l i) k.name)))&& !((l.take i).any fun o=>o.token==k.token)
def lockB (l:List Lk):Bool:=zbb (zfV l) 0 l&&decide ((l.length:Int)≤4)
def zvU (l:List Int) (c:Int):Int:=if zfe (fun x=>c==x) l 0≥0 then zfe (fun x=>c==x) l 0 else 0
def zxu (l:List Lk) (name:ByteArray) (c token:Int) (wait:Bool):List Lk×Int×Int:=
 match zvZ l name with
 |none=>if decide ((l.length:Int)≥4)=true then([],0,5)else(l.take (zvC l name)++⟨name,c,token+1,[]⟩::l.drop (zvC l name),0,0)
 |some k=>if(k.holder==c)=true then([],0,7)else if(!wait)=true then([],0,8)else
  if hasI k.line c=true then(l,zvU k.line c,10)else
  if(zrM k.line c).2.2≠0 then([],0,(zrM k.line c).2.2)else(l.set (zvC l name) ⟨k.name,k.holder,k.token,(zrM k.line c).1⟩,(zrM k.line c).2.1,10)
def zvV (l:List Lk) (i:Nat) (k:Lk) (token:Int):List Lk×Int:=
 match k.line with
 |[]=>(l.eraseIdx i,0)
 |c::rest=>(l.set i ⟨k.name,c,token+1,rest⟩,1)
def zxv (l:List Lk) (name:ByteArray) (c token:Int):List Lk×Int×Int:=
 match zvZ l name with
 |none=>([],0,6)
 |some k=>if(k.holder==c)=true then((zvV l (zvC l name) k token).1,(zvV l (zvC l name) k token).2,0)else
  if hasI k.line c=true then(l.set (zvC l name) ⟨k.name,k.holder,k.token,(zv0 k.line c).1⟩,0,0)else([],0,6)
def zog (gone:List Int) (token:Int):List Lk→Int→List Lk×Int
 |[],g=>([],g)
 |k::r,g=>if hasI gone k.holder=true then
   match k.line with
   |[]=>zog gone token r g
   |c::rest=>(⟨k.name,c,token+g+1,rest⟩::(zog gone token r (g+1)).1,(zog gone token r (g+1)).2)
  else(k::(zog gone token r g).1,(zog gone token r g).2)
def zhS (gone:List Int) (k:Lk):Lk:=⟨k.name,k.holder,k.token,zrN k.line gone⟩
def zvW (l:List Lk) (gone:List Int) (token:Int):List Lk×Int:=zog gone token (l.map (zhS gone)) 0
def zpn (l:List Lk) (c:Int):List Grant:=(l.filter fun k=>k.holder==c).map fun k=>⟨k.name,k.token⟩
def zul (l:List Grant) (i:Nat):ByteArray:=(l[i - 1]?.map Grant.name).getD .empty
def zcS (l:List Grant) (i:Nat) (g:Grant):Bool:= !(!nameP g.name||decide (g.token<1)||decide (g.token>zcT)||(decide (i>0)&& !(zjW (zul l i) g.name)))
def zb2 (r:Reply):Bool:=
 !(decide (r.code<0)||decide (r.code>12)||decide (r.session<0)||decide (r.session>zcT)||decide (r.ahead<0)||decide (r.ahead>3))&&
 !(decide ((r.held.length:Int)>4)||((r.session==0)&&decide ((r.held.length:Int)>0)))&&zbb (zcS r.held) 0 r.held
def answerB (m:Memo):Bool:=decide (m.client≥0)&&decide (m.client<8)&&decide (m.seq≥1)&&decide (m.seq≤zcT)&&zb2 m.reply
def zoh (l:List Memo) (i:Nat):Int:=(l[i - 1]?.map Memo.client).getD 0
def zfW (l:List Memo) (i:Nat) (m:Memo):Bool:= !(!answerB m||(decide (i>0)&&decide (zoh l i≥m.client)))
def memoB (l:List Memo):Bool:=zbb (zfW l) 0 l
def zpo (l:List Memo) (c seq:Int):Int:=
 match zps l c with
 |none=>1
 |some m=>if m.seq<seq then 1 else if m.seq=seq then 0 else -1
def zxw (l:List Memo) (a:Memo):List Memo:=
 if(!answerB a||(zpo l a.client a.seq !=1))=true then l else
 if(zps l a.client).isSome=true then l.set (zxy l a.client) a else l.take (zxy l a.client)++a::l.drop (zxy l a.client)
def within (n:Int):Bool:=decide (n≥0)&&decide (n≤zcT)
def zeE (s:St):Bool:=s.locks.all fun k=>(k.holder::k.line).all fun c=>(zbL s.sess c).isSome
def zbV (s:St):Bool:=within s.time&&within s.num&&within s.token&&sessB s.sess&&lockB s.locks&&memoB s.memos&&(s.sess.all fun x=>decide (x.num≤s.num))&&(s.locks.all fun k=>decide (k.token≤s.token))&&zeE s
def zk4 (s:St) (gone:List Int):St:=⟨s.time,s.num,s.token+(zvW s.locks gone s.token).2,s.sess.filter fun x=> !hasI gone x.client,(zvW s.locks gone s.token).1,s.memos⟩
def zvX (s:St) (time:Int):Int:=if(decide (time>s.time)&&decide (time≤zcT))=true then time else s.time
def zng (s:St) (time lease:Int):St:=zk4 {s with time:=zvX s time} (zAU s.sess (zvX s time) (max lease 1))
def rpl (code session ahead:Int) (held:List Grant):Reply:=⟨code,session,ahead,held⟩
def zum (s:St) (c:Int):St×Reply:=
 match zbL s.sess c with
 |some x=>(s,⟨7,x.num,0,zpn s.locks c⟩)
 |none=>if(zuk s.sess c (s.num+1) s.time).2≠0 then(s,⟨(zuk s.sess c (s.num+1) s.time).2,0,0,[]⟩)else
  ({s with sess:=(zuk s.sess c (s.num+1) s.time).1,num:=s.num+1},⟨0,s.num+1,0,zpn s.locks c⟩)
def zrJ (s:St) (r:Req):St×Reply:=
 if(r.kind==1)=true then zum s r.client else
 match zbL s.sess r.client with
 |none=>(s,⟨9,0,0,[]⟩)
 |some x=>if(x.num !=r.session)=true then(s,⟨9,0,0,[]⟩)else
  let s1:St:={s with sess:=(zvT s.sess r.client s.time).1}
  if(r.kind==3||r.kind==4)=true then
   let t:=zxu s1.locks r.name r.client s1.token (r.kind==3)
   let s2:St:=if t.2.2=0 then {s1 with locks:=t.1,token:=s1.token+1}else if t.2.2=10 then {s1 with locks:=t.1}else s1
   (s2,⟨t.2.2,x.num,if t.2.2=10 then t.2.1 else 0,zpn s2.locks r.client⟩)
  else if(r.kind==5)=true then
   let t:=zxv s1.locks r.name r.client s1.token
   let s2:St:=if t.2.2=0 then {s1 with locks:=t.1,token:=s1.token+t.2.1}else s1
   (s2,⟨t.2.2,x.num,0,zpn s2.locks r.client⟩)
  else if(r.kind==6)=true then(zk4 s1 [r.client],⟨0,0,0,[]⟩)
  else(s1,⟨0,x.num,0,zpn s1.locks r.client⟩)
def zvY (s:St) (r:Req):St×Reply×Bool:=
 if(!Req.may r)=true then(s,⟨1,0,0,[]⟩,false)else
 if zpo s.memos r.client r.seq= -1 then(s,⟨0,0,0,[]⟩,false)else
 if zpo s.memos r.client r.seq=0 then(s,((zps s.memos r.client).map Memo.reply).getD ⟨0,0,0,[]⟩,false)else
 ({(zrJ s r).1 with memos:=zxw (zrJ s r).1.memos ⟨r.client,r.seq,(zrJ s r).2⟩},(zrJ s r).2,true)
def zAV (a b:St):List Int:=(a.sess.filter fun x=> !((zbL b.sess x.client).any fun y=>y.num==x.num)).map Sess.client
theorem zqF {a b:Int}:(zpv a b==0)=(a==b):=by
 unfold zpv
 split
 ·rw[Bool.eq_iff_iff];simp;omega
 ·split
  ·rw[Bool.eq_iff_iff];simp;omega
  ·rw[Bool.eq_iff_iff];simp;omega
theorem zqG {a b:Int}:zpv a b<0↔a<b:=by
 unfold zpv
 split
 ·simp;omega
 ·split<;>simp<;>omega
theorem zsH {α:Type} {o:Option α} {p:α→Bool}:(o.filter p).isSome=(o.map p).getD false:=by
 cases o with
 |none=>rfl
 |some x=>simp only[Option.filter,Option.map_some,Option.getD_some];cases p x<;>rfl
theorem zu6 (x:Sess) (n:Int):CallOK prog 193 [.f (zk8 x), .f (.one (.elt [iD n]))] (fun r o=>r=[rb (x.num==n)]∧o=[]):=by
 refine zh func193 results193 ntmps193 call193 ?_
 simp only[f193,Option.getD]
 exact zW0 trivial
theorem zmU (l:List Sess) (hl:l.length<2^62) (n:Int):CallOK prog 163 [.f (al l.length (zaV l)), .f (ai n)] (fun r o=>r=[rb (numbered l n)]∧o=[]):=by
 refine zh func163 results163 ntmps163 call163 ?_
 simp only[f163,Option.getD]
 have h:=zj0 l hl (fun x=>x.num==n) 193 [.elt [iD n]] rfl rfl (fun x _=>zu6 x n)
 refine zL trivial (h) ?_
 rfl
theorem zoL (x:Sess) (c:Int):CallOK prog 212 [.f (zk8 x), .f (ai c)] (fun r o=>r=[ri (zpv x.client c)]∧o=[]):=by
 refine zh func212 results212 ntmps212 call212 ?_
 simp only[f212,Option.getD]
 exact zW trivial (zmw x.client c)
theorem zqH (l:List Sess) (hs:SS l) (hl:l.length<2^62) (c:Int):CallOK prog 197 [.f (al l.length (zaV l)), .f (ai c)] (fun r o=>r=[ri (zrK l c),rb (zbL l c).isSome]∧o=[]):=by
 refine zh func197 results197 ntmps197 call197 ?_
 simp only[f197,Option.getD]
 have h:=zk9 l hl c (fun x=>zpv x.client c) 212 (zrK l c) zun
  (fun j hj h=>by have:=zpp hj h;simp at this;exact zqG.2 this)
  (fun j hj h=>by have:=zpq hj (zpr hs c) h;simp at this;have h2:= @zqG l[j].client c;omega) (fun x _=>zoL x c)
 have e:((l[zrK l c]?.map fun x=>zpv x.client c==0).getD false)=(zbL l c).isSome:=by
  rw[zk6 hs,zsH]
  simp only[zqF]
 rw[e]at h
 exact zW trivial (h)
def zl2:Sess:=⟨0,0,0⟩
theorem zsI (l:List Sess) (hs:SS l) (hl:l.length<2^62) (c:Int):CallOK prog 168 [.f (al l.length (zaV l)), .f (ai c)]
  (fun r o=>r=[.agg [.d (iD ((zbL l c).getD zl2).client), .d (iD ((zbL l c).getD zl2).num), .d (iD ((zbL l c).getD zl2).renewed)],rb (zbL l c).isSome]∧o=[]):=by
 refine zh func168 results168 ntmps168 call168 ?_
 simp only[f168,Option.getD]
 have h:=zqH l hs hl c
 cases hf:zbL l c with
 |none=>
  rw[hf]at h
  simp only[Option.isSome_none]at h
  refine zL trivial (h) ?_
  rfl
 |some x=>
  rw[hf]at h
  simp only[Option.isSome_some]at h
  rw[zk6 hs]at hf
  have hg:l[zrK l c]? =some x:=by
   cases hq:l[zrK l c]? with
   |none=>rw[hq]at hf;simp at hf
   |some y=>rw[hq]at hf;simp only[Option.filter]at hf;split at hf<;>simp_all
  obtain⟨hi,he⟩:=List.getElem?_eq_some_iff.1 hg
  have hat:=zbH hi
  rw[he]at hat
  simp only[List.cons_append,List.nil_append]at hat
  refine zL (I hat @zat) (h) ?_
  rfl
theorem zl3 (l:List Sess) (hl:l.length<2^30):CallOK prog 120 [.f (al l.length (zaV l))] (fun r o=>r=[rb (sessB l)]∧o=[]):=by
 refine zh func120 results120 ntmps120 call120 ?_
 simp only[f120,Option.getD]
 cases h5:decide ((l.length:Int)>5)
 ·have hs:sessB l=zbb (zfK l) 0 l:=by rw[sessB,h5];rfl
  rw[hs]
  refine zL0 (I h5 @zat) ?_
  refine zaf (τ:=Nat) (fun i=>⟨(al l.length (zaV l)::dq7 (al l.length (zaV l)::ai l.length::ai i::zmC (zdO []))),[(4,⟨2,[]⟩)]⟩)
   (fun i=>i≤l.length) (fun i=>zbb (zfK l) i (l.drop i)) (fun i=>l.length - i) 0
   (Gh.canon [] [4] [] zK rfl rfl) (Nat.zero_le _) ?_
  intro i hi0 hF K hK
  simp only[List.drop_zero]at hF hK⊢
  refine zw ?_
  refine zab (fun hlt=> ?_) (fun hge=> ?_)
  ·have hi:i<l.length:=by simpa using hlt
   have hat:=zbH hi
   simp only[List.cons_append,List.nil_append]at hat
   have hw:=zai hi (by omega)
   rw[zau hi]at hF
   have hcl:=zjZ l[i].client
   have hnb:=zmU (l.take i) (by rw[List.length_take];omega) l[i].num
   have hlt2:(l.take i).length=i:=by rw[List.length_take];omega
   have htk:(zaV l).take (i*3)=zaV (l.take i):=zhU Sess.enc 3 (fun _=>rfl) (by omega)
   rw[hlt2]at hnb
   cases e0:decide ((i:Int)>0)
   ·have hq:zfK l i l[i]=(!(!(decide (l[i].client≥0)&&decide (l[i].client<8))||decide (l[i].num<1)||decide (l[i].num>2305843009213693952)||decide (l[i].renewed<0)||decide (l[i].renewed>2305843009213693952))&& !(numbered (l.take i) l[i].num)):=by
     unfold zfK zfA isClient
     have:decide (i>0)=false:=by simpa using e0
     rw[this]
     simp only[Bool.not_or,Bool.not_not,Bool.false_and,Bool.false_or]
    have h0:i=0:=by simpa using e0
    have hp:(zaV l).drop ((IntKind.i64.wrap ((i:Int) - 1)).toNat*3)=l[i].enc++zaV (l.drop (i+1)):=by
     rw[←zbH hi,h0];rfl
    repeat'(first|exact zC|refine zq (I hat (I hp (I htk (I e0 (I @zat zca))))) ?_|refine zx (hcl) ?_|refine zx (hnb) ?_|(apply zab<;>intro hb)|(apply I;exact zI)|(apply I<;>intro hg))
    ·rw[hq,hb,if_neg (by simp)]at hF
     rw[←hF]
    ·rename_i ha
     rw[hq,ha,hb,if_neg (by simp)]at hF
     rw[←hF]
    ·rename_i ha
     exact hK _ (i+1) (Gh.canon [] [] [] (zk hw) rfl rfl) hi (by rw[zau hi,hq,ha,hb];rfl) (by omega)
   ·have hq:zfK l i l[i]=(!(!(decide (l[i].client≥0)&&decide (l[i].client<8))||decide (l[i].num<1)||decide (l[i].num>2305843009213693952)||decide (l[i].renewed<0)||decide (l[i].renewed>2305843009213693952))&& !(decide ((l[i - 1]'(by omega)).client≥l[i].client)||numbered (l.take i) l[i].num)):=by
     unfold zfK zfA isClient zoe
     have:decide (i>0)=true:=by simpa using e0
     rw[this,List.getElem?_eq_getElem (by omega)]
     simp only[Bool.not_or,Bool.not_not,Bool.true_and,Option.map_some,Option.getD_some]
    have h0:0<i:=by simpa using e0
    have hp:=zbH (show i - 1<l.length by omega)
    have hw1:IntKind.i64.wrap ((i:Int) - 1)=((i - 1:Nat):Int):=by rw[wrap64 (by omega) (by omega)];omega
    repeat'(first|exact zC|refine zq (I hat (I hp (I hw1 (I htk (I e0 (I @zat zca)))))) ?_|refine zx (hcl) ?_|refine zx (hnb) ?_|(apply zab<;>intro hb)|(apply I;exact zI)|(apply I<;>intro hg))
    ·rw[hq,hb,if_neg (by simp)]at hF
     rw[←hF]
    ·rename_i ha
     rw[hq,ha,hb,if_neg (by simp)]at hF
     rw[←hF]
    ·rename_i ha
     exact hK _ (i+1) (Gh.canon [] [] [] (zk hw) rfl rfl) hi (by rw[zau hi,hq,ha,hb];rfl) (by omega)
  ·have hi:i=l.length:=by
    have:¬(i:Int)<l.length:=by simpa using hge
    omega
   rw[zb6 hi]at hF
   rw[←hF]
   exact zW0 trivial
 ·have hs:sessB l=false:=by rw[sessB,h5];rfl
  rw[hs]
  exact zW0 (I h5 @zat)
def zBo (a b:ByteArray):Int:=Lib.compareBytes a.data.toList b.data.toList
theorem zl0 (l:List Int) (hl:l.length<2^30):CallOK prog 164 [.f (al l.length (za5 l))] (fun r o=>r=[rb (lineB l)]∧o=[]):=by
 refine zh func164 results164 ntmps164 call164 ?_
 simp only[f164,Option.getD]
 refine zL0 @zaW ?_
 refine zaf (τ:=Nat) (fun i=>⟨(al l.length (za5 l)::dq4 (al l.length (za5 l)::ai l.length::ai i::zrw [])),[]⟩)
  (fun i=>i≤l.length) (fun i=>zbb (zk3 l) i (l.drop i)) (fun i=>l.length - i) 0
  (Gh.canon [] [] [] zK rfl rfl) (Nat.zero_le _) ?_
 intro i hi0 hF K hK
 rw[List.drop_zero]at hF
 refine zw ?_
 refine zab (fun hlt=> ?_) (fun hge=> ?_)
 ·have hi:i<l.length:=by simpa using hlt
  have hat:=zce hi
  have hw:=zai hi (by omega)
  rw[zau hi]at hF
  have hcl:=zjY l[i]
  have hlt2:(l.take i).length=i:=by rw[List.length_take];omega
  have htk:(za5 l).take i=za5 (l.take i):=zk7 (by omega)
  have hco:=zg5 (l.take i) (by omega) l[i]
  rw[hlt2]at hco
  have hq:zk3 l i l[i]= !(!(decide (l[i]≥0)&&decide (l[i]<8))||(l.take i).any fun x=>l[i]==x):=rfl
  repeat'(first|exact zC|refine zq (I hat (I htk (I @zaW zca))) ?_|refine zx (hcl) ?_|refine zx (hco) ?_|(apply zab<;>intro hb)|(apply I;exact zI)|(apply I<;>intro hg))
  ·rw[hq,hb,if_neg (by simp)]at hF
   unfold lineB
   rw[←hF];rfl
  ·exact hK _ (i+1) (Gh.canon [] [] [] (zk hw) rfl rfl) hi (by rw[zau hi,hq,hb];rfl) (by omega)
 ·have hi:i=l.length:=by
   have:¬(i:Int)<l.length:=by simpa using hge
   omega
  rw[zb6 hi]at hF
  unfold lineB
  rw[←hF]
  exact zW0 trivial
theorem zoK (k j:Lk):CallOK prog 167 [.f (zpw k), .f (.one (.elt j.enc))] (fun r o=>r=[rb (k.token==j.token)]∧o=[]):=by
 refine zh func167 results167 ntmps167 call167 ?_
 simp only[f167,Option.getD]
 exact zW0 trivial
theorem zl1 (l:List Lk) (hl:l.length<2^30) (hll:∀k∈l,k.line.length<2^30∧k.name.size<2^62):CallOK prog 121 [.f (al l.length (zay l))] (fun r o=>r=[rb (lockB l)]∧o=[]):=by
 refine zh func121 results121 ntmps121 call121 ?_
 simp only[f121,Option.getD]
 refine zL0 @zan ?_
 refine zaf (τ:=Nat) (fun i=>⟨(al l.length (zay l)::dq4 (al l.length (zay l)::ai l.length::ai i::zv9 (zdO []))),[(4,⟨2,[]⟩)]⟩)
  (fun i=>i≤l.length) (fun i=>zbb (zfV l) i (l.drop i)) (fun i=>l.length - i) 0
  (Gh.canon [] [4] [] zK rfl rfl) (Nat.zero_le _) ?_
 intro i hi0 hF K hK
 rw[List.drop_zero]at hF
 refine zw ?_
 refine zab (fun hlt=> ?_) (fun hge=> ?_)
 ·have hi:i<l.length:=by simpa using hlt
  have hat:=zbo hi
  obtain⟨hk1,hk2⟩:=hll _ (List.getElem_mem hi)
  have hw:=zai hi (by omega)
  rw[zau hi]at hF
  have hnm:=zkx l[i].name hk2
  have hlr:=zl0 l[i].line hk1
  have hlc:=zg5 l[i].line (by omega) l[i].holder
  have hlt2:(l.take i).length=i:=by rw[List.length_take];omega
  have htk:(zay l).take (i*4)=zay (l.take i):=zhU Lk.enc 4 (fun _=>rfl) (by omega)
  have hco:=zj1 (l.take i) (by omega) (fun o=>o.token==l[i].token) 167 [.elt l[i].enc] rfl rfl (fun x _=>zoK x _)
  rw[hlt2]at hco
  cases e0:decide ((i:Int)>0)
  ·have h0:i=0:=by simpa using e0
   have hq:zfV l i l[i]=(!(!nameP l[i].name||decide (l[i].holder<0)||decide (l[i].holder≥8)||decide (l[i].token<1)||decide (l[i].token>2305843009213693952))&& !(!lineB l[i].line||l[i].line.any fun x=>l[i].holder==x)&& !((l.take i).any fun o=>o.token==l[i].token)):=by
    unfold zfV zrt hasI
    have:decide (i>0)=false:=by simpa using e0
    rw[this]
    simp only[Bool.not_or,Bool.not_not,Bool.false_and,Bool.or_false]
   have hp:(zay l).drop ((IntKind.i64.wrap ((i:Int) - 1)).toNat*4)=l[i].enc++zay (l.drop (i+1)):=by
    rw[←zbo hi,h0];rfl
   repeat'(first|exact zC|refine zq (I hat (I hp (I htk (I e0 (I @zan zca))))) ?_|refine zx (hnm) ?_|refine zx (hlr) ?_|refine zx (hlc) ?_|refine zx (hco) ?_|(apply zab<;>intro hb)|(apply I;exact zI)|(apply I<;>intro hg))
   ·rw[hq,hb,if_neg (by simp)]at hF
    unfold lockB
    rw[←hF];rfl
   ·rename_i ha
    rw[hq,ha,hb,if_neg (by simp)]at hF
    unfold lockB
    rw[←hF];rfl
   ·rename_i ha hc
    rw[hq,ha,hc,hb,if_neg (by simp)]at hF
    unfold lockB
    rw[←hF];rfl
   ·rename_i ha hc
    exact hK _ (i+1) (Gh.canon [] [] [] (zk hw) rfl rfl) hi (by rw[zau hi,hq,ha,hc,hb];rfl) (by omega)
  ·have h0:0<i:=by simpa using e0
   have hq:zfV l i l[i]=(!(!nameP l[i].name||decide (l[i].holder<0)||decide (l[i].holder≥8)||decide (l[i].token<1)||decide (l[i].token>2305843009213693952))&& !(!lineB l[i].line||(l[i].line.any fun x=>l[i].holder==x)|| !(zjW (l[i - 1]'(by omega)).name l[i].name))&& !((l.take i).any fun o=>o.token==l[i].token)):=by
    unfold zfV zrt hasI zof
    have:decide (i>0)=true:=by simpa using e0
    rw[this,List.getElem?_eq_getElem (by omega)]
    simp only[Bool.not_or,Bool.not_not,Bool.true_and,Option.map_some,Option.getD_some]
   have hp:=zbo (show i - 1<l.length by omega)
   have hw1:IntKind.i64.wrap ((i:Int) - 1)=((i - 1:Nat):Int):=by rw[wrap64 (by omega) (by omega)];omega
   repeat'(first|exact zC|refine zq (I hat (I hp (I hw1 (I htk (I e0 (I @zan zca)))))) ?_|refine zx (hnm) ?_|refine zx (hlr) ?_|refine zx (hlc) ?_|refine zx (hco) ?_|(apply zab<;>intro hb)|(apply I;exact zI)|(apply I<;>intro hg))
   ·rw[hq,hb,if_neg (by simp)]at hF
    unfold lockB
    rw[←hF];rfl
   ·rename_i ha
    rw[hq,ha,hb,if_neg (by simp)]at hF
    unfold lockB
    rw[←hF];rfl
   ·rename_i ha hc
    rw[hq,ha,hc,hb,if_neg (by simp)]at hF
    unfold lockB
    rw[←hF];rfl
   ·rename_i ha hc
    exact hK _ (i+1) (Gh.canon [] [] [] (zk hw) rfl rfl) hi (by rw[zau hi,hq,ha,hc,hb];rfl) (by omega)
 ·have hi:i=l.length:=by
   have:¬(i:Int)<l.length:=by simpa using hge
   omega
  rw[zb6 hi]at hF
  unfold lockB
  rw[←hF]
  exact zW0 trivial
def curL (l:List Lk) (gone:List Int) (i:Nat):List Lk:=(l.take i).map (zhS gone)++l.drop i
theorem zu7 {a b:Int}:(a==b)=(b==a):=by rw[Bool.eq_iff_iff,beq_iff_eq,beq_iff_eq];exact eq_comm
theorem zwK (l:List Int) (hl:l.length<2^62) (x:Int):CallOK prog 171 [.f (al l.length (za5 l)), .f (ai x)] (fun r o=>r=[rb (hasI l x)]∧o=[]):=by
 refine zh func171 results171 ntmps171 call171 ?_
 simp only[f171,Option.getD]
 refine zL0 trivial ?_
 refine zaf (τ:=Nat) (fun i=>⟨(al l.length (za5 l)::ai x::dq3 (ai i::zom [])),[]⟩)
  (fun i=>i≤l.length) (fun i=>hasI (l.drop i) x) (fun i=>l.length - i) 0
  (Gh.canon [] [] [] zK rfl rfl) (Nat.zero_le _) ?_
 intro i hi0 hF K hK
 rw[List.drop_zero]at hF
 refine zw ?_
 refine zab (fun hlt=> ?_) (fun hge=> ?_)
 ·have hi:i<l.length:=by simpa using hlt
  have hat:=zce hi
  have hw:=zai hi hl
  have hq:hasI (l.drop i) x=(l[i]==x||hasI (l.drop (i+1)) x):=by rw[List.drop_eq_getElem_cons hi];unfold hasI;rw[List.any_cons,zu7]
  rw[hq]at hF
  repeat'(first|exact zC|refine zq (I hat (I @zaW zca)) ?_|(apply zab<;>intro hb)|(apply I;exact zI)|(apply I<;>intro hg))
  ·rw[hb]at hF
   rw[←hF];rfl
  ·rw[hb]at hq
   exact hK _ (i+1) (Gh.canon [] [] [] (zk hw) rfl rfl) hi (by rw[hq];rfl) (by omega)
 ·have hi:i=l.length:=by
   have:¬(i:Int)<l.length:=by simpa using hge
   omega
  rw[hi,List.drop_length]at hF
  rw[←hF]
  refine zL0 trivial ?_
  rfl
abbrev zwL (x:Sess):RF:= .agg [.d (iD x.client), .d (iD x.num), .d (iD x.renewed)]
theorem znZ (l:List Sess) (hl:l.length<2^62) (c:Int):CallOK prog 137 [.f (al l.length (zaV l)), .f (ai c)]
  (fun r o=>r=[zwL ((zbL l c).getD zl2),rb (zbL l c).isSome]∧o=[]):=by
 refine zh func137 results137 ntmps137 call137 ?_
 simp only[f137,Option.getD]
 refine zL0 trivial ?_
 refine zaf (τ:=Nat) (fun i=>⟨(al l.length (zaV l)::ai c::dq2 (ptq 4::dd::ai i::zrw [])),[(4,⟨2,[obq 1 [di 0,di 0,di 0],none,none,none]⟩)]⟩)
  (fun i=>i≤l.length) (fun i=>zbL (l.drop i) c) (fun i=>l.length - i) 0
  (Gh.canon [4] [] [] zK rfl rfl) (Nat.zero_le _) ?_
 intro i hi0 hF K hK
 rw[List.drop_zero]at hF
 refine zw ?_
 refine zab (fun hlt=> ?_) (fun hge=> ?_)
 ·have hi:i<l.length:=by simpa using hlt
  have hat:=zbH hi
  have hw:=zai hi hl
  have hq:zbL (l.drop i) c=if(l[i].client==c)=true then some l[i]else zbL (l.drop (i+1)) c:=by
   unfold zbL
   rw[List.drop_eq_getElem_cons hi,List.find?_cons]
   cases l[i].client==c<;>rfl
  rw[hq]at hF
  repeat'(first|exact zC|refine zq (I hat (I @zat zca)) ?_|(apply zab<;>intro hb)|(apply I;exact zI)|(apply I<;>intro hg))
  ·rw[if_pos hb]at hF
   rw[←hF];rfl
  ·rw[if_neg (by rw[hb];simp)]at hq
   exact hK _ (i+1) (Gh.canon [4] [] [] (zk hw) rfl rfl) hi hq.symm (by omega)
 ·have hi:i=l.length:=by
   have:¬(i:Int)<l.length:=by simpa using hge
   omega
  rw[hi,List.drop_length]at hF
  rw[←hF]
  refine zL0 trivial ?_
  rfl
theorem zgP (v a:Int):CallOK prog 133 [.f (ai v), .f (ai a)] (fun r o=>r=[rb (decide (v≥a)&&decide (v≤2305843009213693952))]∧o=[]):=by
 refine zh func133 results133 ntmps133 call133 ?_
 simp only[f133,Option.getD]
 exact zW0 trivial
theorem zgQ (c:Int):CallOK prog 169 [.f (ai c)] (fun r o=>r=[rb (isClient c)]∧o=[]):=by
 refine zh func169 results169 ntmps169 call169 ?_
 simp only[f169,Option.getD]
 refine zL0 trivial ?_
 rfl
abbrev zBr (l:List Sess) (now lease:Int):List Int:=(l.filter fun s=>decide (now - s.renewed≥lease)).map Sess.client
structure LkD where
 k:Lk
 x:D
abbrev LkD.enc (m:LkD):List D:=[sD m.k.name,iD m.k.holder,iD m.k.token,m.x]
abbrev zA1 (l:List LkD):List D:=l.flatMap LkD.enc
def plain (k:Lk):LkD:=⟨k, .sl k.line.length (za5 k.line)⟩
theorem zoM {l:List Lk} {m:Lk}:zay (l++[m])=zay l++m.enc:=by simp[zay]
def zBt (l:List Lk) (i:Nat) (x:D):List LkD:=l.zipIdx.map fun p=>if p.2=i then⟨p.1,x⟩else plain p.1
abbrev zBs:Lk:=⟨.empty,0,0,[]⟩
end Go.Proofs.YtliimajkpggbhaaGreat
