import Derived.Test.YtliimajkpggbhaaGreatTy
import Derived.Test.YtliimajkpggbhaaGreatK9
import Derived.KernelRfl
namespace Go.Proofs.YtliimajkpggbhaaGreat
open Go.Pk
set_option maxRecDepth 100000
set_option linter.unusedSimpArgs false
set_option linter.unusedVariables false
theorem zyO:(([25,33,153,151]:List Nat)).all (eqB Tryz.prog)=true:=by kernel_rfl
theorem zcp:TOK Tryz.prog Ty:=ztY fun t ht=>List.all_eq_true.1 zyO t ht
theorem mixed:Tryz.prog.follows .mixedOrders=true:=by kernel_rfl
theorem zh {i:FuncId} {f:Func} {rvs:List ResultVar} {n:Nat} {args:List Arg} {post:List RF→List (List RO)→Prop} (h1:Tryz.prog.funcs[i]? =some f) (h2:f.results=rvs.toArray) (h3:f.ntmps=n) (h4:∀(us:Array Value) (w:World),(callFunc i us).run Tryz.prog w= .ok (.enter i us) w)
  (hk:awp Ty Tryz.prog (f.body.getD .skip) (openG n args) (zm2 Ty rvs (objPos 0 args) post)) (hb:f.body=some (f.body.getD .skip):=by rfl):CallOK Tryz.prog i args post:=zjY zcp mixed h1 hb h2 h3 h4 hk
theorem zhy {i:FuncId} {f:Func} {n:Nat} {args:List Arg} {x:Value} (h1:Tryz.prog.funcs[i]? =some f) (h3:f.ntmps=n) (h4:∀(us:Array Value) (w:World),(callFunc i us).run Tryz.prog w= .ok (.enter i us) w)
  (hk:awp Ty Tryz.prog (f.body.getD .skip) (openG n args) (ztV x)) (hb:f.body=some (f.body.getD .skip):=by rfl):zbj Tryz.prog i args x:=zjZ zcp mixed h1 hb h3 h4 hk
theorem zhb {i:FuncId} {f:Func} {rvs:List ResultVar} {n:Nat} {args:List Arg} {post:List RF→List (List RO)→Prop} {x:Value} {b:Bool} (h1:Tryz.prog.funcs[i]? =some f) (h2:f.results=rvs.toArray) (h3:f.ntmps=n) (h4:∀(us:Array Value) (w:World),(callFunc i us).run Tryz.prog w= .ok (.enter i us) w)
  (hk:awp Ty Tryz.prog (f.body.getD .skip) (openG n args) (zve (zm2 Ty rvs (objPos 0 args) post) (ztV x) b)) (hb:f.body=some (f.body.getD .skip):=by rfl):(b=true→CallOK Tryz.prog i args post)∧(b=false→zbj Tryz.prog i args x):=zqa zcp mixed h1 hb h2 h3 h4 hk
def zkG (c:UInt8):Bool:= !((decide ((c.toNat:Int)<97)||decide ((c.toNat:Int)>122))&&(decide ((c.toNat:Int)<48)||decide ((c.toNat:Int)>57))&&((c.toNat:Int) !=45))
def nameP (s:ByteArray):Bool:=((List.range s.size).all fun j=>zkG (s.data.getD j 0))&&(decide ((s.size:Int)≥1)&&decide ((s.size:Int)≤12))
theorem zmB (k:Int):CallOK Tryz.prog 113 [.f (ai k)] (fun r o=>r=[rb (k==3||k==4||k==5)]∧o=[]):=by
 refine zh Tryz.func113 Tryz.results113 Tryz.ntmps113 Tryz.call113 ?_
 simp only[Tryz.f113,Option.getD]
 repeat'(first|exact zC|refine za0 ?_|(apply zaa<;>intro hb)|(apply I;exact zI)|(apply I<;>intro hg))
theorem zjq (s:ByteArray) (hs:s.size<2^62):CallOK Tryz.prog 114 [.f (ast s)] (fun r o=>r=[rb (nameP s)]∧o=[]):=by
 refine zh Tryz.func114 Tryz.results114 Tryz.ntmps114 Tryz.call114 ?_
 simp only[Tryz.f114,Option.getD]
 refine zw ?_
 refine zjg Ty Tryz.prog (τ:=Nat) (fun i=>⟨(ast s::dd::ab false::dq2 (ast s::ai s.size::ai i::zsn [])),[]⟩) (fun i=>i≤s.size∧∀j,j<i→zkG (s.data.getD j 0)=true) (fun i=>s.size - i) 0 ?_ ⟨Nat.zero_le _,fun j hj=>absurd hj (Nat.not_lt_zero j)⟩ ?_
 ·refine Gh.fgt ?_
  simp only[ddE,za2,za3,zbC,Int.natCast_zero]
 intro i ⟨h1,h2⟩ K hK
 refine zw ?_
 rw[zcn]
 refine⟨trivial,fun hlt=> ?_,fun hge=> ?_⟩
 ·refine zw ?_
  have hi:i<s.size:=by simpa using hlt
  refine⟨⟨Int.natCast_nonneg i,by omega⟩,zsa (fun a b=>by rw[a,b];rfl), ?_⟩
  have hok:zkG (s.data.getD i 0)= !((decide (((s.data.getD i 0).toNat:Int)<97)||decide (((s.data.getD i 0).toNat:Int)>122))&&(decide (((s.data.getD i 0).toNat:Int)<48)||decide (((s.data.getD i 0).toNat:Int)>57))&&(((s.data.getD i 0).toNat:Int) !=45)):=rfl
  rw[zcn]
  refine⟨trivial,fun hb=> ?_,fun hb=> ?_⟩
  ·rw[hb]at hok
   refine zw ?_
   have hn:nameP s=false:=by
    unfold nameP
    rw[show((List.range s.size).all fun j=>zkG (s.data.getD j 0))=false from List.all_eq_false.2 ⟨i,List.mem_range.2 hi,by rw[hok];simp⟩,Bool.false_and]
   rw[hn]
  ·rw[hb]at hok
   refine zw ?_
   refine hK _ (i+1) (Gh.fgt ?_) ⟨hi,fun j hj=> ?_⟩ (by omega)
   ·have hw:IntKind.i64.wrap ((i:Int)+1)=((i+1:Nat):Int):=by rw[wrap64 (by omega) (by omega)];rfl
    simp only[hw,ddE,za2,za3,zbC]
   ·rcases Nat.lt_or_ge j i with h|h
    ·exact h2 j h
    ·rw[show j=i from by omega,hok];rfl
 ·refine zw ?_
  have hi:i=s.size:=by
   have:¬(i:Int)<s.size:=by simpa using hge
   omega
  have hn:nameP s=(decide ((s.size:Int)≥1)&&decide ((s.size:Int)≤12)):=by
   unfold nameP
   rw[show((List.range s.size).all fun j=>zkG (s.data.getD j 0))=true from List.all_eq_true.2 fun j hj=>h2 j (by rw[hi];exact List.mem_range.1 hj),Bool.true_and]
  rw[hn]
def znk (k n:Int) (s:ByteArray):Bool:=
 if(decide (k<1)||decide (k>6))=true then false else
 if((k==3||k==4||k==5)&& !nameP s|| !(k==3||k==4||k==5)&& !s.toList==(⟨#[]⟩:ByteArray).toList)=true then false else
 if(k==1)=true then n==0 else decide (n≥1)&&decide (n≤2305843009213693952)
theorem zmC (k n:Int) (s:ByteArray) (hs:s.size<2^62):CallOK Tryz.prog 73 [.f (.agg [di k,di n,dS s])] (fun r o=>r=[rb (znk k n s)]∧o=[]):=by
 refine zh Tryz.func73 Tryz.results73 Tryz.ntmps73 Tryz.call73 ?_
 simp only[Tryz.f73,Option.getD]
 repeat'(first|exact zC|refine za0 ?_|((first|((try refine zbi ?_);apply za4)|(apply zbM;intro _));(solve|exact(zmB _)|(refine CallOK.le (zmB _) ?_;exact zM)|fail);try case hn=>rfl)|((first|((try refine zbi ?_);apply za4)|(apply zbM;intro _));(solve|exact(zjq _ hs)|(refine CallOK.le (zjq _ hs) ?_;exact zM)|fail);try case hn=>rfl)|(apply zaa<;>intro hb)|(apply I;exact zI)|(apply I<;>intro hg))
 ·rw[znk,if_pos (by assumption)]
 ·rw[znk,if_neg (by simp_all),if_pos (by assumption)]
 ·rw[znk,if_neg (by simp_all),if_neg (by simp_all),if_pos (by assumption)]
 ·rw[znk,if_neg (by simp_all),if_neg (by simp_all),if_neg (by simp_all)]
def Req.may (r:Req):Bool:=(decide (r.client≥0)&&decide (r.client<8)&&decide (r.seq≥1)&&decide (r.seq≤zdU))&&znk r.kind r.session r.name
theorem zel (r:Req) (hr:r.ok):CallOK Tryz.prog 34 [.f (.agg (r.enc.map C.d))] (fun x o=>x=[rb (Req.may r)]∧o=[]):=by
 refine zh Tryz.func34 Tryz.results34 Tryz.ntmps34 Tryz.call34 ?_
 simp only[Tryz.f34,Option.getD]
 repeat'(first|exact zC|refine za0 ?_|((first|((try refine zbi ?_);apply za4)|(apply zbM;intro _));(solve|exact(zmC _ _ _ hr.2.2.2.2)|(refine CallOK.le (zmC _ _ _ hr.2.2.2.2) ?_;exact zM)|fail);try case hn=>rfl)|(apply zaa<;>intro hb)|(apply I;exact zI)|(apply I<;>intro hg))
 rfl
def zeN {α:Type} (p:α→Bool):List α→Int→Int
 |[],_=> -1
 |x::l,i=>if p x=true then i else zeN p l (i+1)
theorem zfB {α:Type} (p:α→Bool) (l:List α):decide (zeN p l 0≥0)=l.any p:=by
 have h:∀(l:List α) (i:Int),0≤i→(0≤zeN p l i↔l.any p=true):=by
  intro l
  induction l with
  |nil=>intro i _;simp[zeN]
  |cons x l ih=>
   intro i hi
   simp only[zeN]
   by_cases hx:p x=true
   ·simp[hx,hi]
   ·rw[if_neg hx,ih (i+1) (by omega)];simp[hx]
 rw[Bool.eq_iff_iff]
 simpa using h l 0 (Int.le_refl _)
theorem zan {i n:Nat} (h:i<n) (hn:n<2^62):IntKind.i64.wrap ((i:Int)+1)=((i+1:Nat):Int):=by rw[wrap64 (by omega) (by omega)];rfl
theorem zq4 {n:Nat} (h:n<2^63):IntKind.u64.wrap (n:Int)=n:=by
 unfold IntKind.wrap
 simp[IntKind.signed,IntKind.bits]
 omega
theorem zvI:Go.Pk.bad.x= .one .dead:=rfl
abbrev zuH:Int→AV:=fun x=> .one (di x)
abbrev zkE:Sess→AV:=fun x=> .agg (x.enc.map C.d)
abbrev zpi:Lk→AV:=fun x=> .agg (x.enc.map C.d)
abbrev zvY:Memo→AV:=fun x=> .agg (x.enc.map C.d)
theorem zpj (l:List Int) (hl:l.length<2^62) (p:Int→Bool) (f:Nat) (caps:List C) (hc:lendAs [] (caps.map AV.one)=some (caps.map fun c=> .f (.one c)))
  (hp:∀x∈l,CallOK Tryz.prog f (.f (zuH x)::caps.map fun c=> .f (.one c)) (fun r o=>r=[rb (p x)]∧o=[])):
  CallOK Tryz.prog 161 [.f (al l.length (za1 l)), .f (.one (.clos f caps))] (fun r o=>r=[ri (zeN p l 0)]∧o=[]):=by
 refine zh Tryz.func161 Tryz.results161 Tryz.ntmps161 Tryz.call161 ?_
 simp only[Tryz.f161,Option.getD]
 refine zw ?_
 refine zai (τ:=Nat) (fun i=>⟨(al l.length (za1 l):: .one (.clos f caps)::dq2 (ai 0::dd::al l.length (za1 l)::ai l.length::ai i::zlf [])),[]⟩) (fun i=>i≤l.length) (fun i=>zeN p (l.drop i) i) (fun i=>l.length - i) 0 (Gh.fgt ?_) (Nat.zero_le _) ?_
 ·simp only[ddE,za2,za3,zbC,Int.natCast_zero]
 intro i hi0 hF K hK
 refine zw ?_
 rw[zcn]
 refine⟨trivial,fun hlt=> ?_,fun hge=> ?_⟩
 ·have hi:i<l.length:=by simpa using hlt
  rw[List.drop_eq_getElem_cons hi,zeN]at hF
  have hat:=ints_at hi
  simp only[List.cons_append,List.nil_append]at hat
  refine zw1 (I @zl3 (I hat hc)) ?_
  refine⟨⟨Int.natCast_nonneg i,by omega⟩, ?_⟩
  refine za4 (hp _ (List.getElem_mem hi)) ?_
  refine zw ?_
  refine zaa (fun hb=> ?_) (fun hb=> ?_)
  ·rw[if_pos hb]at hF
   refine zw ?_
   rw[hF];rfl
  ·rw[if_neg (by simp[hb])]at hF
   refine zw ?_
   refine hK _ (i+1) (Gh.fgt ?_) hi (by simp only[List.drop_eq_getElem_cons hi,zeN];rw[if_neg (by simp[hb])];rfl) (by omega)
   have hw:IntKind.i64.wrap ((i:Int)+1)=((i+1:Nat):Int):=by rw[wrap64 (by omega) (by omega)];rfl
   simp only[hw,ddE,za2,za3,zbC]
 ·have hi:i=l.length:=by
   have:¬(i:Int)<l.length:=by simpa using hge
   omega
  rw[hi,List.drop_length,zeN]at hF
  refine zw ?_
  rw[hF];rfl
theorem zni (l:List Sess) (hl:l.length<2^62) (p:Sess→Bool) (f:Nat) (caps:List C) (hc:lendAs [] (caps.map AV.one)=some (caps.map fun c=> .f (.one c)))
  (hp:∀x∈l,CallOK Tryz.prog f (.f (zkE x)::caps.map fun c=> .f (.one c)) (fun r o=>r=[rb (p x)]∧o=[])):
  CallOK Tryz.prog 210 [.f (al l.length (za9 l)), .f (.one (.clos f caps))] (fun r o=>r=[ri (zeN p l 0)]∧o=[]):=by
 refine zh Tryz.func210 Tryz.results210 Tryz.ntmps210 Tryz.call210 ?_
 simp only[Tryz.f210,Option.getD]
 refine zw ?_
 refine zai (τ:=Nat) (fun i=>⟨(al l.length (za9 l):: .one (.clos f caps)::dq2 (ai 0::dd::al l.length (za9 l)::ai l.length::ai i::zlf [])),[]⟩) (fun i=>i≤l.length) (fun i=>zeN p (l.drop i) i) (fun i=>l.length - i) 0 (Gh.fgt ?_) (Nat.zero_le _) ?_
 ·simp only[ddE,za2,za3,zbC,Int.natCast_zero]
 intro i hi0 hF K hK
 refine zw ?_
 rw[zcn]
 refine⟨trivial,fun hlt=> ?_,fun hge=> ?_⟩
 ·have hi:i<l.length:=by simpa using hlt
  rw[List.drop_eq_getElem_cons hi,zeN]at hF
  have hat:=zcj hi
  simp only[List.cons_append,List.nil_append]at hat
  refine zw1 (I @zaA (I hat hc)) ?_
  refine⟨⟨Int.natCast_nonneg i,by omega⟩, ?_⟩
  refine za4 (hp _ (List.getElem_mem hi)) ?_
  refine zw ?_
  refine zaa (fun hb=> ?_) (fun hb=> ?_)
  ·rw[if_pos hb]at hF
   refine zw ?_
   rw[hF];rfl
  ·rw[if_neg (by simp[hb])]at hF
   refine zw ?_
   refine hK _ (i+1) (Gh.fgt ?_) hi (by simp only[List.drop_eq_getElem_cons hi,zeN];rw[if_neg (by simp[hb])];rfl) (by omega)
   have hw:IntKind.i64.wrap ((i:Int)+1)=((i+1:Nat):Int):=by rw[wrap64 (by omega) (by omega)];rfl
   simp only[hw,ddE,za2,za3,zbC]
 ·have hi:i=l.length:=by
   have:¬(i:Int)<l.length:=by simpa using hge
   omega
  rw[hi,List.drop_length,zeN]at hF
  refine zw ?_
  rw[hF];rfl
theorem znj (l:List Lk) (hl:l.length<2^62) (p:Lk→Bool) (f:Nat) (caps:List C) (hc:lendAs [] (caps.map AV.one)=some (caps.map fun c=> .f (.one c)))
  (hp:∀x∈l,CallOK Tryz.prog f (.f (zpi x)::caps.map fun c=> .f (.one c)) (fun r o=>r=[rb (p x)]∧o=[])):
  CallOK Tryz.prog 196 [.f (al l.length (zax l)), .f (.one (.clos f caps))] (fun r o=>r=[ri (zeN p l 0)]∧o=[]):=by
 refine zh Tryz.func196 Tryz.results196 Tryz.ntmps196 Tryz.call196 ?_
 simp only[Tryz.f196,Option.getD]
 refine zw ?_
 refine zai (τ:=Nat) (fun i=>⟨(al l.length (zax l):: .one (.clos f caps)::dq2 (ai 0::dd::al l.length (zax l)::ai l.length::ai i::zlf [])),[]⟩) (fun i=>i≤l.length) (fun i=>zeN p (l.drop i) i) (fun i=>l.length - i) 0 (Gh.fgt ?_) (Nat.zero_le _) ?_
 ·simp only[ddE,za2,za3,zbC,Int.natCast_zero]
 intro i hi0 hF K hK
 refine zw ?_
 rw[zcn]
 refine⟨trivial,fun hlt=> ?_,fun hge=> ?_⟩
 ·have hi:i<l.length:=by simpa using hlt
  rw[List.drop_eq_getElem_cons hi,zeN]at hF
  have hat:=zb8 hi
  simp only[List.cons_append,List.nil_append]at hat
  refine zw1 (I @zaz (I hat hc)) ?_
  refine⟨⟨Int.natCast_nonneg i,by omega⟩, ?_⟩
  refine za4 (hp _ (List.getElem_mem hi)) ?_
  refine zw ?_
  refine zaa (fun hb=> ?_) (fun hb=> ?_)
  ·rw[if_pos hb]at hF
   refine zw ?_
   rw[hF];rfl
  ·rw[if_neg (by simp[hb])]at hF
   refine zw ?_
   refine hK _ (i+1) (Gh.fgt ?_) hi (by simp only[List.drop_eq_getElem_cons hi,zeN];rw[if_neg (by simp[hb])];rfl) (by omega)
   have hw:IntKind.i64.wrap ((i:Int)+1)=((i+1:Nat):Int):=by rw[wrap64 (by omega) (by omega)];rfl
   simp only[hw,ddE,za2,za3,zbC]
 ·have hi:i=l.length:=by
   have:¬(i:Int)<l.length:=by simpa using hge
   omega
  rw[hi,List.drop_length,zeN]at hF
  refine zw ?_
  rw[hF];rfl
theorem zjn (l:List Sess) (hl:l.length<2^62) (p:Sess→Bool) (f:Nat) (caps:List C) (hc:lendAs [] (caps.map AV.one)=some (caps.map fun c=> .f (.one c))) (hc2:lendC.lendCs [] caps=some caps)
  (hp:∀x∈l,CallOK Tryz.prog f (.f (zkE x)::caps.map fun c=> .f (.one c)) (fun r o=>r=[rb (p x)]∧o=[])):
  CallOK Tryz.prog 192 [.f (al l.length (za9 l)), .f (.one (.clos f caps))] (fun r o=>r=[rb (l.any p)]∧o=[]):=by
 refine zh Tryz.func192 Tryz.results192 Tryz.ntmps192 Tryz.call192 ?_
 simp only[Tryz.f192,Option.getD]
 refine zw1 hc2 ?_
 refine za4 (zni l hl p f caps hc hp) ?_
 refine zw ?_
 rw[zfB]
theorem zjo (l:List Lk) (hl:l.length<2^62) (p:Lk→Bool) (f:Nat) (caps:List C) (hc:lendAs [] (caps.map AV.one)=some (caps.map fun c=> .f (.one c))) (hc2:lendC.lendCs [] caps=some caps)
  (hp:∀x∈l,CallOK Tryz.prog f (.f (zpi x)::caps.map fun c=> .f (.one c)) (fun r o=>r=[rb (p x)]∧o=[])):
  CallOK Tryz.prog 166 [.f (al l.length (zax l)), .f (.one (.clos f caps))] (fun r o=>r=[rb (l.any p)]∧o=[]):=by
 refine zh Tryz.func166 Tryz.results166 Tryz.ntmps166 Tryz.call166 ?_
 simp only[Tryz.f166,Option.getD]
 refine zw1 hc2 ?_
 refine za4 (znj l hl p f caps hc hp) ?_
 refine zw ?_
 rw[zfB]
set_option maxHeartbeats 1000000 in
theorem zkF (l:List Sess) (hl:l.length<2^62) (t:Int) (c:Sess→Int) (f:Nat) (m:Nat) (hm:m≤l.length) (h1:∀j (hj:j<l.length),j<m→c l[j]<0) (h2:∀j (hj:j<l.length),m≤j→0≤c l[j])
  (hp:∀x∈l,CallOK Tryz.prog f [.f (zkE x), .f (ai t)] (fun r o=>r=[ri (c x)]∧o=[])):
  CallOK Tryz.prog 211 [.f (al l.length (za9 l)), .f (ai t), .f (.one (.clos f []))] (fun r o=>r=[ri m,rb ((l[m]?.map fun x=>c x==0).getD false)]∧o=[]):=by
 refine zh Tryz.func211 Tryz.results211 Tryz.ntmps211 Tryz.call211 ?_
 simp only[Tryz.f211,Option.getD]
 refine zw ?_
 refine zai (τ:=Nat×Nat) (fun q=>⟨(al l.length (za9 l)::ai t:: .one (.clos f [])::dq5 (ai l.length::ai q.1::ai q.2::zva [])),[]⟩) (fun q=>q.1≤m∧m≤q.2∧q.2≤l.length) (fun _=>()) (fun q=>q.2 - q.1) (0,l.length) (Gh.fgt ?_) ⟨Nat.zero_le _,hm,Nat.le_refl _⟩ ?_
 ·simp only[ddE,za2,za3,zbC,Int.natCast_zero]
 intro⟨lo,hi⟩ ⟨b1,b2,b3⟩ hF K hK
 simp only at b1 b2 b3 hF hK⊢
 refine zw ?_
 refine zaa (fun hlt=> ?_) (fun hge=> ?_)
 ·have hlt:lo<hi:=by simpa using hlt
  obtain⟨q,hq⟩:∃q:Nat,q=(lo+hi) / 2:=⟨_,rfl⟩
  have hw1:IntKind.i64.wrap ((lo:Int)+hi)=((lo+hi:Nat):Int):=by rw[wrap64 (by omega) (by omega)];rfl
  have hw2:IntKind.u64.wrap ((lo+hi:Nat):Int)=((lo+hi:Nat):Int):=zq4 (by omega)
  have hw3:IntKind.i64.wrap (((lo+hi:Nat):Int).fdiv (2^(min (Int.toNat 1) IntKind.u64.bits)))=(q:Int):=by
   rw[show(2:Int)^(min (Int.toNat 1) IntKind.u64.bits)=2 by decide,hq,show(((lo+hi:Nat):Int)).fdiv 2=(((lo+hi) / 2:Nat):Int) by rw[Int.fdiv_eq_ediv_of_nonneg _ (by decide)];rfl]
   exact wrap64 (by omega) (by omega)
  have hqh:q<hi:=by omega
  have hql:q<l.length:=by omega
  have hat:=zcj hql
  simp only[List.cons_append,List.nil_append]at hat
  have hcp:=hp _ (List.getElem_mem hql)
  have hw4:IntKind.i64.wrap ((q:Int)+1)=((q+1:Nat):Int):=by rw[wrap64 (by omega) (by omega)];rfl
  have h10:∀(a b:Option Value),(if(1:Int)<0 then a else b)=b:=fun a b=>if_neg (by decide)
  clear hlt
  repeat'(first|exact zC|refine za (I h10 (I hw1 (I hw2 (I hw3 (I @zaA (I hat @Nat.mul_one)))))) ?_|refine zx (hcp) ?_|(apply zaa<;>intro hb)|(apply I;exact zI)|(apply I<;>intro hg))
  ·have hqm:q<m:=by
    rcases Nat.lt_or_ge q m with h|h
    ·exact h
    ·have:=h2 q hql h
     have hb':c l[q]<0:=by simpa using hb
     omega
   refine hK _ (q+1,hi) (Gh.fgt ?_) ⟨by simp only;omega,b2,b3⟩ trivial (by simp only;omega)
   simp only[hw4,ddE,za2,za3,zbC]
  ·have hqm:m≤q:=by
    rcases Nat.lt_or_ge q m with h|h
    ·have:=h1 q hql h
     have hb':¬c l[q]<0:=by simpa using hb
     omega
    ·exact h
   refine hK _ (lo,q) (Gh.fgt ?_) ⟨b1,hqm,by simp only;omega⟩ trivial (by simp only;omega)
   simp only[ddE,za2,za3,zbC]
 ·have he:lo=m:=by
   have:¬(lo:Int)<hi:=by simpa using hge
   omega
  subst he
  by_cases hlt:lo<l.length
  ·have hat:=zcj hlt
   simp only[List.cons_append,List.nil_append]at hat
   have hcp:=hp _ (List.getElem_mem hlt)
   have hd:decide ((lo:Int)<l.length)=true:=by simpa using hlt
   repeat'(first|exact zC|refine za (I hd (I @zaA (I hat @Nat.mul_one))) ?_|refine zx (hcp) ?_|(apply zaa<;>intro hb)|(apply I;exact zI)|(apply I<;>intro hg))
   rw[List.getElem?_eq_getElem hlt];rfl
  ·have hd:decide ((lo:Int)<l.length)=false:=by simp;omega
   have hn:l[lo]? =none:=List.getElem?_eq_none (by omega)
   repeat'(first|exact zC|refine za (I hd (I @zaA (I @Nat.mul_one (I hn (I @zvI @Option.map_none.{0,0}))))) ?_|(apply zaa<;>intro hb)|(apply I;exact zI)|(apply I<;>intro hg))
theorem zpf (l:List Int) (hl:l.length<2^62) (v:Int):CallOK Tryz.prog 195 [.f (al l.length (za1 l)), .f (ai v)] (fun r o=>r=[ri (zeN (fun x=>v==x) l 0)]∧o=[]):=by
 refine zh Tryz.func195 Tryz.results195 Tryz.ntmps195 Tryz.call195 ?_
 simp only[Tryz.f195,Option.getD]
 refine zw ?_
 refine zai (τ:=Nat) (fun i=>⟨(al l.length (za1 l)::ai v::dq2 (ai 0::dd::al l.length (za1 l)::ai l.length::ai i::zlf [])),[]⟩) (fun i=>i≤l.length) (fun i=>zeN (fun x=>v==x) (l.drop i) i) (fun i=>l.length - i) 0 (Gh.fgt ?_) (Nat.zero_le _) ?_
 ·simp only[ddE,za2,za3,zbC,Int.natCast_zero]
 intro i hi0 hF K hK
 refine zw ?_
 refine zaa (fun hlt=> ?_) (fun hge=> ?_)
 ·have hi:i<l.length:=by simpa using hlt
  rw[List.drop_eq_getElem_cons hi,zeN]at hF
  have hat:=zcP hi
  simp only[List.cons_append,List.nil_append]at hat
  have hw:=zan hi hl
  clear hlt
  repeat'(first|exact zC|refine zq (I @zbf hat) ?_|(apply zaa<;>intro hb)|(apply I;exact zI)|(apply I<;>intro hg))
  ·rw[if_pos hb]at hF
   rw[hF];rfl
  ·rw[if_neg (by simp[hb])]at hF
   refine hK _ (i+1) (Gh.fgt ?_) hi (by simp only[List.drop_eq_getElem_cons hi,zeN];rw[if_neg (by simp[hb])];rfl) (by omega)
   simp only[hw,ddE,za2,za3,zbC]
 ·have hi:i=l.length:=by
   have:¬(i:Int)<l.length:=by simpa using hge
   omega
  rw[hi,List.drop_length,zeN]at hF
  refine zw ?_
  rw[hF];rfl
theorem zgj (l:List Int) (hl:l.length<2^62) (v:Int):CallOK Tryz.prog 165 [.f (al l.length (za1 l)), .f (ai v)] (fun r o=>r=[rb (l.any fun x=>v==x)]∧o=[]):=by
 refine zh Tryz.func165 Tryz.results165 Tryz.ntmps165 Tryz.call165 ?_
 simp only[Tryz.f165,Option.getD]
 repeat'(first|exact zC|refine za0 ?_|refine zx (zpf l hl v) ?_|(apply zaa<;>intro hb)|(apply I;exact zI)|(apply I<;>intro hg))
 rw[zfB]
theorem zmA (v:Int):CallOK Tryz.prog 220 [.f (ai v)] (fun r o=>r=[rb false]∧o=[]):=by
 refine zh Tryz.func220 Tryz.results220 Tryz.ntmps220 Tryz.call220 ?_
 simp only[Tryz.f220,Option.getD]
 repeat'(first|exact zC|refine za @bne_self_eq_false.{0} ?_|(apply zaa<;>intro hb)|(apply I;exact zI)|(apply I<;>intro hg))
def zpg (a b:Int):Int:=if a<b then -1 else if a>b then 1 else 0
theorem zlB (a b:Int):CallOK Tryz.prog 213 [.f (ai a), .f (ai b)] (fun r o=>r=[ri (zpg a b)]∧o=[]):=by
 refine zh Tryz.func213 Tryz.results213 Tryz.ntmps213 Tryz.call213 ?_
 simp only[Tryz.f213,Option.getD]
 repeat'(first|exact zC|refine zq0 ?_|refine zx (zmA a) ?_|refine zx (zmA b) ?_|(apply zaa<;>intro hb)|(apply I;exact zI)|(apply I<;>intro hg))
 all_goals simp only[decide_eq_true_eq,decide_eq_false_iff_not]at*
 ·unfold zpg;rw[if_pos (by assumption)]
 ·unfold zpg;rw[if_neg (by assumption),if_pos (by assumption)]
 ·unfold zpg;rw[if_neg (by assumption),if_neg (by assumption)]
theorem zjl (n:Int):CallOK Tryz.prog 194 [.f (ai n)] (fun r o=>r=[rb (decide (n≥0)&&decide (n<8))]∧o=[]):=by
 refine zh Tryz.func194 Tryz.results194 Tryz.ntmps194 Tryz.call194 ?_
 simp only[Tryz.f194,Option.getD]
 repeat'(first|exact zC|refine zq0 ?_|(apply zaa<;>intro hb)|(apply I;exact zI)|(apply I<;>intro hg))
theorem zjm (n:Int):CallOK Tryz.prog 162 [.f (ai n)] (fun r o=>r=[rb (decide (n≥0)&&decide (n<8))]∧o=[]):=by
 refine zh Tryz.func162 Tryz.results162 Tryz.ntmps162 Tryz.call162 ?_
 simp only[Tryz.f162,Option.getD]
 repeat'(first|exact zC|refine zq0 ?_|(apply zaa<;>intro hb)|(apply I;exact zI)|(apply I<;>intro hg))
def isClient (n:Int):Bool:=decide (n≥0)&&decide (n<8)
def hasI (l:List Int) (v:Int):Bool:=l.any fun x=>v==x
def zy5 (l:List Int):RF:= .one (.own 1 l.length (za1 l) false)
def zq2 (l:List Int) (c:Int):List Int×Int×Int:=
 if(!isClient c)=true then([],0,1)else if hasI l c=true then([],0,7)else if decide ((l.length:Int)≥3)=true then([],0,5)else(l++[c],l.length,0)
theorem zph {l:List Int} {i:Nat} (hi:i≤l.length):(za1 l).take i=za1 (l.take i):=by have:=zgM (fun n=>[iD n]) 1 (fun _=>rfl) hi;rwa[Nat.mul_one]at this
def zuG (l:List Int) (c:Int):List Int×Bool:=if zeN (fun x=>c==x) l 0<0 then(l,false)else(l.eraseIdx (zeN (fun x=>c==x) l 0).toNat,true)
def zq3 (l gone:List Int):List Int:=l.filter fun c=> !hasI gone c
section
variable {α:Type} {p:α→Bool}
def zp3 (p:α→Bool) (l:List α):Nat:=(l.takeWhile p).length
def zvG (p:α→Bool) (l:List α):Prop:=l.Pairwise fun x y=>p y=true→p x=true
theorem zs9 {l:List α}:zp3 p l≤l.length:=(List.takeWhile_prefix _).length_le
theorem zek {x:α} {l:List α}:zp3 p (x::l)=if p x=true then zp3 p l+1 else 0:=by
 unfold zp3
 rw[List.takeWhile_cons]
 split<;>simp[*]
theorem zpb:∀{l:List α} {j:Nat} (hj:j<l.length),j<zp3 p l→p l[j]=true
 |x::l,0,_,h=>by
  rw[zek]at h
  split at h
  ·assumption
  ·omega
 |x::l,j+1,hj,h=>by
  rw[zek]at h
  split at h
  ·exact zpb (l:=l) (by simpa using hj) (by omega)
  ·omega
theorem zpc:∀{l:List α} {j:Nat} (hj:j<l.length),zvG p l→zp3 p l≤j→p l[j]=false
 |x::l,0,_,hm,h=>by
  rw[zek]at h
  split at h
  ·omega
  ·rename_i hx;simpa using hx
 |x::l,j+1,hj,hm,h=>by
  have hm':=List.pairwise_cons.1 hm
  have hj':j<l.length:=by simpa using hj
  rw[zek]at h
  split at h
  ·exact zpc (l:=l) hj' hm'.2 (by omega)
  ·rename_i hx
   have:=hm'.1 l[j] (List.getElem_mem hj')
   simp only[List.getElem_cons_succ]
   cases hc:p l[j]
   ·rfl
   ·exact absurd (this hc) hx
theorem zkB {q:α→Bool}:∀{l:List α},zvG p l→(∀x,q x=true→p x=false)→(l.Pairwise fun x y=>q y=true→p x=true)→l.find? q=(l[zp3 p l]?).filter q
 |[],_,_,_=>rfl
 |x::l,hm,hq,hs=>by
  have hm':=List.pairwise_cons.1 hm
  have hs':=List.pairwise_cons.1 hs
  rw[List.find?_cons,zek]
  cases hx:p x
  ·rw[if_neg (by simp)]
   simp only[List.getElem?_cons_zero]
   cases hqx:q x
   ·simp only[Option.filter,hqx,Bool.false_eq_true,if_false]
    rw[List.find?_eq_none]
    intro y hy hqy
    have:=hs'.1 y hy hqy
    rw[hx]at this;cases this
   ·simp[Option.filter,hqx]
  ·rw[if_pos rfl]
   have hqx:q x=false:=by
    cases hc:q x
    ·rfl
    ·have:=hq x hc;rw[hx]at this;cases this
   rw[hqx]
   simp only[List.getElem?_cons_succ]
   exact zkB hm'.2 hq hs'.2
end
def SS (l:List Sess):Prop:=l.Pairwise fun x y=>x.client<y.client
def zq1 (l:List Sess) (c:Int):Nat:=zp3 (fun x=>decide (x.client<c)) l
def zcB (l:List Sess) (c:Int):Option Sess:=l.find? fun x=>x.client==c
theorem zpd {l:List Sess} (h:SS l) (c:Int):zvG (fun x:Sess=>decide (x.client<c)) l:=h.imp fun hxy h=>by simp at h⊢;omega
theorem zkC {l:List Sess} (h:SS l) (c:Int):zcB l c=(l[zq1 l c]?).filter fun x=>x.client==c:=
 zkB (q:=fun x:Sess=>x.client==c) (zpd h c) (fun x hx=>by simp at hx⊢;omega) (h.imp fun hxy h=>by simp at h⊢;omega)
def SM (l:List Memo):Prop:=l.Pairwise fun x y=>x.client<y.client
def zvH (l:List Memo) (c:Int):Nat:=zp3 (fun x=>decide (x.client<c)) l
def zpe (l:List Memo) (c:Int):Option Memo:=l.find? fun x=>x.client==c
abbrev zkD (a b:ByteArray):Bool:=Go.Op.bytesLess a.toList b.toList
theorem zmz:∀{a b c:List UInt8},Go.Op.bytesLess a b=true→Go.Op.bytesLess b c=true→Go.Op.bytesLess a c=true
 |[],[],_,h,_=>by cases h
 |[],_::_,[],_,h=>by cases h
 |[],_::_,_::_,_,_=>rfl
 |_::_,[],_,h,_=>by cases h
 |_::_,_::_,[],_,h=>by cases h
 |a::x,b::y,c::z,h1,h2=>by
  rw[Go.Op.bytesLess]at*
  simp only[Bool.or_eq_true,Bool.and_eq_true,decide_eq_true_eq,beq_iff_eq]at*
  rcases h1 with h1|⟨rfl,h1⟩<;>rcases h2 with h2|⟨rfl,h2⟩
  ·exact .inl (UInt8.lt_trans h1 h2)
  ·exact .inl h1
  ·exact .inl h2
  ·exact .inr ⟨rfl,zmz h1 h2⟩
def SL (l:List Lk):Prop:=l.Pairwise fun x y=>zkD x.name y.name=true
def ztC (l:List Lk) (s:ByteArray):Nat:=zp3 (fun x=>zkD x.name s) l
def isL (s:ByteArray) (x:Lk):Bool:=x.name.toList==s.toList
def zuF (l:List Lk) (s:ByteArray):Option Lk:=l.find? (isL s)
def zbK {α:Type} (q:Nat→α→Bool):Nat→List α→Bool
 |_,[]=>true
 |i,x::r=>if q i x=true then zbK q (i+1) r else false
theorem zco {α:Type} {q:Nat→α→Bool}:∀{l:List α} {i:Nat},zbK q i l=true↔∀j (hj:j<l.length),q (i+j) l[j]=true
 |[],i=>by simp[zbK]
 |x::l,i=>by
  rw[zbK]
  constructor
  ·intro h
   split at h
   ·rename_i hx
    intro j hj
    cases j with
    |zero=>exact hx
    |succ j=>
     have:=zco.1 h j (by simpa using hj)
     simp only[List.getElem_cons_succ]
     rw[show i+(j+1)=i+1+j by omega];exact this
   ·cases h
  ·intro h
   have h0:=h 0 (by simp)
   simp only[List.getElem_cons_zero,Nat.add_zero]at h0
   rw[if_pos h0,zco]
   intro j hj
   have:=h (j+1) (by simpa using hj)
   simp only[List.getElem_cons_succ]at this
   rw[show i+1+j=i+(j+1) by omega];exact this
theorem zaL {α:Type} {q:Nat→α→Bool} {l:List α} {i:Nat} (h:i<l.length):zbK q i (l.drop i)=if q i l[i]=true then zbK q (i+1) (l.drop (i+1))else false:=by
 rw[List.drop_eq_getElem_cons h,zbK]
theorem zdD {α:Type} {q:Nat→α→Bool} {l:List α} {i:Nat} (h:i=l.length):zbK q i (l.drop i)=true:=by
 rw[h,List.drop_length,zbK]
def zgi (s:Sess):Bool:=isClient s.client&& !(decide (s.num<1))&& !(decide (s.num>zdU))&& !(decide (s.renewed<0))&& !(decide (s.renewed>zdU))
def numbered (l:List Sess) (n:Int):Bool:=l.any fun x=>x.num==n
def zo5 (l:List Sess) (i:Nat):Int:=(l[i - 1]?.map Sess.client).getD 0
def zjk (l:List Sess) (i:Nat) (s:Sess):Bool:=zgi s&& !((decide (i>0)&&decide (zo5 l i≥s.client))||numbered (l.take i) s.num)
def sessB (l:List Sess):Bool:= !(decide ((l.length:Int)>5))&&zbK (zjk l) 0 l
def zs7 (l:List Sess) (c num now:Int):List Sess×Int:=
 if(!isClient c||decide (num<1)||decide (num>zdU)||decide (now<0)||decide (now>zdU)||(!(zcB l c).isSome&&numbered l num)||((zcB l c).isSome&&(((zcB l c).map Sess.num).getD 0 !=num)&&numbered l num))=true then([],1)else
 if(zcB l c).isSome=true then([],7)else if decide ((l.length:Int)≥5)=true then([],5)else(l.take (zq1 l c)++⟨c,num,now⟩::l.drop (zq1 l c),0)
def zuy (l:List Sess) (c now:Int):List Sess×Int:=
 if(decide (now<0)||decide (now>zdU))=true then([],1)else
 match zcB l c with
 |none=>([],6)
 |some x=>(l.set (zq1 l c) ⟨x.client,x.num,max x.renewed now⟩,0)
def zyM (l:List Sess) (now lease:Int):List Int:=
 if(decide (now<0)||decide (now>zdU)||decide (lease<0)||decide (lease>zdU))=true then []else(l.filter fun s=>decide (now - s.renewed≥lease)).map Sess.client
def zo6 (l:List Int) (i:Nat) (c:Int):Bool:= !(!isClient c||hasI (l.take i) c)
def lineB (l:List Int):Bool:=zbK (zo6 l) 0 l&&decide ((l.length:Int)≤3)
def zo7 (l:List Lk) (i:Nat):ByteArray:=(l[i - 1]?.map Lk.name).getD .empty
def zse (k:Lk):Bool:=nameP k.name&& !(decide (k.holder<0))&& !(decide (k.holder≥8))&& !(decide (k.token<1))&& !(decide (k.token>zdU))
def zky (l:List Lk) (i:Nat) (k:Lk):Bool:=zse k&& !(!lineB k.line||hasI k.line k.holder||(decide (i>0)&& !(zkD (zo7 l i) k.name)))&& !((l.take i).any fun o=>o.token==k.token)
def lockB (l:List Lk):Bool:=zbK (zky l) 0 l&&decide ((l.length:Int)≤4)
def zuz (l:List Int) (c:Int):Int:=if zeN (fun x=>c==x) l 0≥0 then zeN (fun x=>c==x) l 0 else 0
def zvD (l:List Lk) (name:ByteArray) (c token:Int) (wait:Bool):List Lk×Int×Int:=
 match zuF l name with
 |none=>if decide ((l.length:Int)≥4)=true then([],0,5)else(l.take (ztC l name)++⟨name,c,token+1,[]⟩::l.drop (ztC l name),0,0)
 |some k=>if(k.holder==c)=true then([],0,7)else if(!wait)=true then([],0,8)else
  if hasI k.line c=true then(l,zuz k.line c,10)else
  if(zq2 k.line c).2.2≠0 then([],0,(zq2 k.line c).2.2)else(l.set (ztC l name) ⟨k.name,k.holder,k.token,(zq2 k.line c).1⟩,(zq2 k.line c).2.1,10)
def zuA (l:List Lk) (i:Nat) (k:Lk) (token:Int):List Lk×Int:=
 match k.line with
 |[]=>(l.eraseIdx i,0)
 |c::rest=>(l.set i ⟨k.name,c,token+1,rest⟩,1)
def zvE (l:List Lk) (name:ByteArray) (c token:Int):List Lk×Int×Int:=
 match zuF l name with
 |none=>([],0,6)
 |some k=>if(k.holder==c)=true then((zuA l (ztC l name) k token).1,(zuA l (ztC l name) k token).2,0)else
  if hasI k.line c=true then(l.set (ztC l name) ⟨k.name,k.holder,k.token,(zuG k.line c).1⟩,0,0)else([],0,6)
def znh (gone:List Int) (token:Int):List Lk→Int→List Lk×Int
 |[],g=>([],g)
 |k::r,g=>if hasI gone k.holder=true then
   match k.line with
   |[]=>znh gone token r g
   |c::rest=>(⟨k.name,c,token+g+1,rest⟩::(znh gone token r (g+1)).1,(znh gone token r (g+1)).2)
  else(k::(znh gone token r g).1,(znh gone token r g).2)
def zhi (gone:List Int) (k:Lk):Lk:=⟨k.name,k.holder,k.token,zq3 k.line gone⟩
def zuB (l:List Lk) (gone:List Int) (token:Int):List Lk×Int:=znh gone token (l.map (zhi gone)) 0
def zo8 (l:List Lk) (c:Int):List Grant:=(l.filter fun k=>k.holder==c).map fun k=>⟨k.name,k.token⟩
def zuC (l:List Grant) (i:Nat):ByteArray:=(l[i - 1]?.map Grant.name).getD .empty
def ze0 (l:List Grant) (i:Nat) (g:Grant):Bool:= !(!nameP g.name||decide (g.token<1)||decide (g.token>zdU)||(decide (i>0)&& !(zkD (zuC l i) g.name)))
def zcf (r:Reply):Bool:=
 !(decide (r.code<0)||decide (r.code>12)||decide (r.session<0)||decide (r.session>zdU)||decide (r.ahead<0)||decide (r.ahead>3))&&
 !(decide ((r.held.length:Int)>4)||((r.session==0)&&decide ((r.held.length:Int)>0)))&&zbK (ze0 r.held) 0 r.held
def answerB (m:Memo):Bool:=decide (m.client≥0)&&decide (m.client<8)&&decide (m.seq≥1)&&decide (m.seq≤zdU)&&zcf m.reply
def zo9 (l:List Memo) (i:Nat):Int:=(l[i - 1]?.map Memo.client).getD 0
def zkz (l:List Memo) (i:Nat) (m:Memo):Bool:= !(!answerB m||(decide (i>0)&&decide (zo9 l i≥m.client)))
def memoB (l:List Memo):Bool:=zbK (zkz l) 0 l
def zpa (l:List Memo) (c seq:Int):Int:=
 match zpe l c with
 |none=>1
 |some m=>if m.seq<seq then 1 else if m.seq=seq then 0 else -1
def zvF (l:List Memo) (a:Memo):List Memo:=
 if(!answerB a||(zpa l a.client a.seq !=1))=true then l else
 if(zpe l a.client).isSome=true then l.set (zvH l a.client) a else l.take (zvH l a.client)++a::l.drop (zvH l a.client)
def within (n:Int):Bool:=decide (n≥0)&&decide (n≤zdU)
def zf1 (s:St):Bool:=s.locks.all fun k=>(k.holder::k.line).all fun c=>(zcB s.sess c).isSome
def zcg (s:St):Bool:=within s.time&&within s.num&&within s.token&&sessB s.sess&&lockB s.locks&&memoB s.memos&&(s.sess.all fun x=>decide (x.num≤s.num))&&(s.locks.all fun k=>decide (k.token≤s.token))&&zf1 s
def zkA (s:St) (gone:List Int):St:=⟨s.time,s.num,s.token+(zuB s.locks gone s.token).2,s.sess.filter fun x=> !hasI gone x.client,(zuB s.locks gone s.token).1,s.memos⟩
def zuD (s:St) (time:Int):Int:=if(decide (time>s.time)&&decide (time≤zdU))=true then time else s.time
def zmy (s:St) (time lease:Int):St:=zkA {s with time:=zuD s time} (zyM s.sess (zuD s time) (max lease 1))
def rpl (code session ahead:Int) (held:List Grant):Reply:=⟨code,session,ahead,held⟩
def zs8 (s:St) (c:Int):St×Reply:=
 match zcB s.sess c with
 |some x=>(s,⟨7,x.num,0,zo8 s.locks c⟩)
 |none=>if(zs7 s.sess c (s.num+1) s.time).2≠0 then(s,⟨(zs7 s.sess c (s.num+1) s.time).2,0,0,[]⟩)else
  ({s with sess:=(zs7 s.sess c (s.num+1) s.time).1,num:=s.num+1},⟨0,s.num+1,0,zo8 s.locks c⟩)
def zqZ (s:St) (r:Req):St×Reply:=
 if(r.kind==1)=true then zs8 s r.client else
 match zcB s.sess r.client with
 |none=>(s,⟨9,0,0,[]⟩)
 |some x=>if(x.num !=r.session)=true then(s,⟨9,0,0,[]⟩)else
  let s1:St:={s with sess:=(zuy s.sess r.client s.time).1}
  if(r.kind==3||r.kind==4)=true then
   let t:=zvD s1.locks r.name r.client s1.token (r.kind==3)
   let s2:St:=if t.2.2=0 then {s1 with locks:=t.1,token:=s1.token+1}else if t.2.2=10 then {s1 with locks:=t.1}else s1
   (s2,⟨t.2.2,x.num,if t.2.2=10 then t.2.1 else 0,zo8 s2.locks r.client⟩)
  else if(r.kind==5)=true then
   let t:=zvE s1.locks r.name r.client s1.token
   let s2:St:=if t.2.2=0 then {s1 with locks:=t.1,token:=s1.token+t.2.1}else s1
   (s2,⟨t.2.2,x.num,0,zo8 s2.locks r.client⟩)
  else if(r.kind==6)=true then(zkA s1 [r.client],⟨0,0,0,[]⟩)
  else(s1,⟨0,x.num,0,zo8 s1.locks r.client⟩)
def zuE (s:St) (r:Req):St×Reply×Bool:=
 if(!Req.may r)=true then(s,⟨1,0,0,[]⟩,false)else
 if zpa s.memos r.client r.seq= -1 then(s,⟨0,0,0,[]⟩,false)else
 if zpa s.memos r.client r.seq=0 then(s,((zpe s.memos r.client).map Memo.reply).getD ⟨0,0,0,[]⟩,false)else
 ({(zqZ s r).1 with memos:=zvF (zqZ s r).1.memos ⟨r.client,r.seq,(zqZ s r).2⟩},(zqZ s r).2,true)
def zyN (a b:St):List Int:=(a.sess.filter fun x=> !((zcB b.sess x.client).any fun y=>y.num==x.num)).map Sess.client
theorem zpk {a b:Int}:(zpg a b==0)=(a==b):=by
 unfold zpg
 split
 ·rw[Bool.eq_iff_iff];simp;omega
 ·split
  ·rw[Bool.eq_iff_iff];simp;omega
  ·rw[Bool.eq_iff_iff];simp;omega
theorem zpl {a b:Int}:zpg a b<0↔a<b:=by
 unfold zpg
 split
 ·simp;omega
 ·split<;>simp<;>omega
theorem zq5 {α:Type} {o:Option α} {p:α→Bool}:(o.filter p).isSome=(o.map p).getD false:=by
 cases o with
 |none=>rfl
 |some x=>simp only[Option.filter,Option.map_some,Option.getD_some];cases p x<;>rfl
theorem zta (x:Sess) (n:Int):CallOK Tryz.prog 193 [.f (zkE x), .f (.one (.elt [iD n]))] (fun r o=>r=[rb (x.num==n)]∧o=[]):=by
 refine zh Tryz.func193 Tryz.results193 Tryz.ntmps193 Tryz.call193 ?_
 simp only[Tryz.f193,Option.getD]
 repeat'(first|exact zC|refine zq0 ?_|(apply zaa<;>intro hb)|(apply I;exact zI)|(apply I<;>intro hg))
theorem zlC (l:List Sess) (hl:l.length<2^62) (n:Int):CallOK Tryz.prog 163 [.f (al l.length (za9 l)), .f (ai n)] (fun r o=>r=[rb (numbered l n)]∧o=[]):=by
 refine zh Tryz.func163 Tryz.results163 Tryz.ntmps163 Tryz.call163 ?_
 simp only[Tryz.f163,Option.getD]
 have h:=zjn l hl (fun x=>x.num==n) 193 [.elt [iD n]] rfl rfl (fun x _=>zta x n)
 repeat'(first|exact zC|refine zq0 ?_|refine zx (h) ?_|(apply zaa<;>intro hb)|(apply I;exact zI)|(apply I<;>intro hg))
 rfl
theorem znm (x:Sess) (c:Int):CallOK Tryz.prog 212 [.f (zkE x), .f (ai c)] (fun r o=>r=[ri (zpg x.client c)]∧o=[]):=by
 refine zh Tryz.func212 Tryz.results212 Tryz.ntmps212 Tryz.call212 ?_
 simp only[Tryz.f212,Option.getD]
 repeat'(first|exact zC|refine zq0 ?_|refine zx (zlB x.client c) ?_|(apply zaa<;>intro hb)|(apply I;exact zI)|(apply I<;>intro hg))
theorem zpm (l:List Sess) (hs:SS l) (hl:l.length<2^62) (c:Int):CallOK Tryz.prog 197 [.f (al l.length (za9 l)), .f (ai c)] (fun r o=>r=[ri (zq1 l c),rb (zcB l c).isSome]∧o=[]):=by
 refine zh Tryz.func197 Tryz.results197 Tryz.ntmps197 Tryz.call197 ?_
 simp only[Tryz.f197,Option.getD]
 have h:=zkF l hl c (fun x=>zpg x.client c) 212 (zq1 l c) zs9
  (fun j hj h=>by have:=zpb hj h;simp at this;exact zpl.2 this)
  (fun j hj h=>by have:=zpc hj (zpd hs c) h;simp at this;have h2:= @zpl l[j].client c;omega) (fun x _=>znm x c)
 have e:((l[zq1 l c]?.map fun x=>zpg x.client c==0).getD false)=(zcB l c).isSome:=by
  rw[zkC hs,zq5]
  simp only[zpk]
 rw[e]at h
 repeat'(first|exact zC|refine zq0 ?_|refine zx (h) ?_|(apply zaa<;>intro hb)|(apply I;exact zI)|(apply I<;>intro hg))
def zmD:Sess:=⟨0,0,0⟩
theorem zq6 (l:List Sess) (hs:SS l) (hl:l.length<2^62) (c:Int):CallOK Tryz.prog 168 [.f (al l.length (za9 l)), .f (ai c)]
  (fun r o=>r=[.agg [.d (iD ((zcB l c).getD zmD).client), .d (iD ((zcB l c).getD zmD).num), .d (iD ((zcB l c).getD zmD).renewed)],rb (zcB l c).isSome]∧o=[]):=by
 refine zh Tryz.func168 Tryz.results168 Tryz.ntmps168 Tryz.call168 ?_
 simp only[Tryz.f168,Option.getD]
 have h:=zpm l hs hl c
 cases hf:zcB l c with
 |none=>
  rw[hf]at h
  simp only[Option.isSome_none]at h
  repeat'(first|exact zC|refine zq0 ?_|refine zx (h) ?_|(apply zaa<;>intro hb)|(apply I;exact zI)|(apply I<;>intro hg))
  rfl
 |some x=>
  rw[hf]at h
  simp only[Option.isSome_some]at h
  rw[zkC hs]at hf
  have hg:l[zq1 l c]? =some x:=by
   cases hq:l[zq1 l c]? with
   |none=>rw[hq]at hf;simp at hf
   |some y=>rw[hq]at hf;simp only[Option.filter]at hf;split at hf<;>simp_all
  obtain⟨hi,he⟩:=List.getElem?_eq_some_iff.1 hg
  have hat:=zcj hi
  rw[he]at hat
  simp only[List.cons_append,List.nil_append]at hat
  repeat'(first|exact zC|refine zq (I hat @zaA) ?_|refine zx (h) ?_|(apply zaa<;>intro hb)|(apply I;exact zI)|(apply I<;>intro hg))
  rfl
theorem zkK (l:List Sess) (hl:l.length<2^30):CallOK Tryz.prog 120 [.f (al l.length (za9 l))] (fun r o=>r=[rb (sessB l)]∧o=[]):=by
 refine zh Tryz.func120 Tryz.results120 Tryz.ntmps120 Tryz.call120 ?_
 simp only[Tryz.f120,Option.getD]
 cases h5:decide ((l.length:Int)>5)
 ·have hs:sessB l=zbK (zjk l) 0 l:=by rw[sessB,h5];rfl
  rw[hs]
  repeat'(first|exact zC|refine zq (I h5 @zaA) ?_|(apply zaa<;>intro hb)|(apply I;exact zI)|(apply I<;>intro hg))
  refine zai (τ:=Nat) (fun i=>⟨(al l.length (za9 l)::dq7 (al l.length (za9 l)::ai l.length::ai i::zlf (zgv []))),[(4,⟨2,[]⟩)]⟩)
   (fun i=>i≤l.length) (fun i=>zbK (zjk l) i (l.drop i)) (fun i=>l.length - i) 0
   (Gh.canon [] [4] [] zK rfl rfl) (Nat.zero_le _) ?_
  intro i hi0 hF K hK
  simp only[List.drop_zero]at hF hK⊢
  refine zw ?_
  refine zaa (fun hlt=> ?_) (fun hge=> ?_)
  ·have hi:i<l.length:=by simpa using hlt
   have hat:=zcj hi
   simp only[List.cons_append,List.nil_append]at hat
   have hw:=zan hi (by omega)
   rw[zaL hi]at hF
   have hcl:=zjm l[i].client
   have hnb:=zlC (l.take i) (by rw[List.length_take];omega) l[i].num
   have hlt2:(l.take i).length=i:=by rw[List.length_take];omega
   have htk:(za9 l).take (i*3)=za9 (l.take i):=zgM Sess.enc 3 (fun _=>rfl) (by omega)
   rw[hlt2]at hnb
   cases e0:decide ((i:Int)>0)
   ·have hq:zjk l i l[i]=(!(!(decide (l[i].client≥0)&&decide (l[i].client<8))||decide (l[i].num<1)||decide (l[i].num>2305843009213693952)||decide (l[i].renewed<0)||decide (l[i].renewed>2305843009213693952))&& !(numbered (l.take i) l[i].num)):=by
     unfold zjk zgi isClient
     have:decide (i>0)=false:=by simpa using e0
     rw[this]
     simp only[Bool.not_or,Bool.not_not,Bool.false_and,Bool.false_or]
    have h0:i=0:=by simpa using e0
    have hp:(za9 l).drop ((IntKind.i64.wrap ((i:Int) - 1)).toNat*3)=l[i].enc++za9 (l.drop (i+1)):=by
     rw[←zcj hi,h0];rfl
    repeat'(first|exact zC|refine zq (I hat (I hp (I htk (I e0 (I @zaA zca))))) ?_|refine zx (hcl) ?_|refine zx (hnb) ?_|(apply zaa<;>intro hb)|(apply I;exact zI)|(apply I<;>intro hg))
    ·rw[hq,hb,if_neg (by simp)]at hF
     rw[←hF]
    ·rename_i ha
     rw[hq,ha,hb,if_neg (by simp)]at hF
     rw[←hF]
    ·rename_i ha
     exact hK _ (i+1) (Gh.canon [] [] [] (zk hw) rfl rfl) hi (by rw[zaL hi,hq,ha,hb];rfl) (by omega)
   ·have hq:zjk l i l[i]=(!(!(decide (l[i].client≥0)&&decide (l[i].client<8))||decide (l[i].num<1)||decide (l[i].num>2305843009213693952)||decide (l[i].renewed<0)||decide (l[i].renewed>2305843009213693952))&& !(decide ((l[i - 1]'(by omega)).client≥l[i].client)||numbered (l.take i) l[i].num)):=by
     unfold zjk zgi isClient zo5
     have:decide (i>0)=true:=by simpa using e0
     rw[this,List.getElem?_eq_getElem (by omega)]
     simp only[Bool.not_or,Bool.not_not,Bool.true_and,Option.map_some,Option.getD_some]
    have h0:0<i:=by simpa using e0
    have hp:=zcj (show i - 1<l.length by omega)
    have hw1:IntKind.i64.wrap ((i:Int) - 1)=((i - 1:Nat):Int):=by rw[wrap64 (by omega) (by omega)];omega
    repeat'(first|exact zC|refine zq (I hat (I hp (I hw1 (I htk (I e0 (I @zaA zca)))))) ?_|refine zx (hcl) ?_|refine zx (hnb) ?_|(apply zaa<;>intro hb)|(apply I;exact zI)|(apply I<;>intro hg))
    ·rw[hq,hb,if_neg (by simp)]at hF
     rw[←hF]
    ·rename_i ha
     rw[hq,ha,hb,if_neg (by simp)]at hF
     rw[←hF]
    ·rename_i ha
     exact hK _ (i+1) (Gh.canon [] [] [] (zk hw) rfl rfl) hi (by rw[zaL hi,hq,ha,hb];rfl) (by omega)
  ·have hi:i=l.length:=by
    have:¬(i:Int)<l.length:=by simpa using hge
    omega
   rw[zdD hi]at hF
   rw[←hF]
   repeat'(first|exact zC|refine zq0 ?_|(apply zaa<;>intro hb)|(apply I;exact zI)|(apply I<;>intro hg))
 ·have hs:sessB l=false:=by rw[sessB,h5];rfl
  rw[hs]
  repeat'(first|exact zC|refine zq (I h5 @zaA) ?_|(apply zaa<;>intro hb)|(apply I;exact zI)|(apply I<;>intro hg))
def zy6 (a b:ByteArray):Int:=Lib.compareBytes a.data.toList b.data.toList
theorem zkI (l:List Int) (hl:l.length<2^30):CallOK Tryz.prog 164 [.f (al l.length (za1 l))] (fun r o=>r=[rb (lineB l)]∧o=[]):=by
 refine zh Tryz.func164 Tryz.results164 Tryz.ntmps164 Tryz.call164 ?_
 simp only[Tryz.f164,Option.getD]
 repeat'(first|exact zC|refine zq @zbf ?_|(apply zaa<;>intro hb)|(apply I;exact zI)|(apply I<;>intro hg))
 refine zai (τ:=Nat) (fun i=>⟨(al l.length (za1 l)::dq4 (al l.length (za1 l)::ai l.length::ai i::zsm [])),[]⟩)
  (fun i=>i≤l.length) (fun i=>zbK (zo6 l) i (l.drop i)) (fun i=>l.length - i) 0
  (Gh.canon [] [] [] zK rfl rfl) (Nat.zero_le _) ?_
 intro i hi0 hF K hK
 rw[List.drop_zero]at hF
 refine zw ?_
 refine zaa (fun hlt=> ?_) (fun hge=> ?_)
 ·have hi:i<l.length:=by simpa using hlt
  have hat:=zcP hi
  have hw:=zan hi (by omega)
  rw[zaL hi]at hF
  have hcl:=zjl l[i]
  have hlt2:(l.take i).length=i:=by rw[List.length_take];omega
  have htk:(za1 l).take i=za1 (l.take i):=zph (by omega)
  have hco:=zgj (l.take i) (by omega) l[i]
  rw[hlt2]at hco
  have hq:zo6 l i l[i]= !(!(decide (l[i]≥0)&&decide (l[i]<8))||(l.take i).any fun x=>l[i]==x):=rfl
  repeat'(first|exact zC|refine zq (I hat (I htk (I @zbf zca))) ?_|refine zx (hcl) ?_|refine zx (hco) ?_|(apply zaa<;>intro hb)|(apply I;exact zI)|(apply I<;>intro hg))
  ·rw[hq,hb,if_neg (by simp)]at hF
   unfold lineB
   rw[←hF];rfl
  ·exact hK _ (i+1) (Gh.canon [] [] [] (zk hw) rfl rfl) hi (by rw[zaL hi,hq,hb];rfl) (by omega)
 ·have hi:i=l.length:=by
   have:¬(i:Int)<l.length:=by simpa using hge
   omega
  rw[zdD hi]at hF
  unfold lineB
  rw[←hF]
  repeat'(first|exact zC|refine zq0 ?_|(apply zaa<;>intro hb)|(apply I;exact zI)|(apply I<;>intro hg))
theorem znl (k j:Lk):CallOK Tryz.prog 167 [.f (zpi k), .f (.one (.elt j.enc))] (fun r o=>r=[rb (k.token==j.token)]∧o=[]):=by
 refine zh Tryz.func167 Tryz.results167 Tryz.ntmps167 Tryz.call167 ?_
 simp only[Tryz.f167,Option.getD]
 repeat'(first|exact zC|refine zq0 ?_|(apply zaa<;>intro hb)|(apply I;exact zI)|(apply I<;>intro hg))
theorem zkJ (l:List Lk) (hl:l.length<2^30) (hll:∀k∈l,k.line.length<2^30∧k.name.size<2^62):CallOK Tryz.prog 121 [.f (al l.length (zax l))] (fun r o=>r=[rb (lockB l)]∧o=[]):=by
 refine zh Tryz.func121 Tryz.results121 Tryz.ntmps121 Tryz.call121 ?_
 simp only[Tryz.f121,Option.getD]
 repeat'(first|exact zC|refine zq @zaz ?_|(apply zaa<;>intro hb)|(apply I;exact zI)|(apply I<;>intro hg))
 refine zai (τ:=Nat) (fun i=>⟨(al l.length (zax l)::dq4 (al l.length (zax l)::ai l.length::ai i::zu5 (zgv []))),[(4,⟨2,[]⟩)]⟩)
  (fun i=>i≤l.length) (fun i=>zbK (zky l) i (l.drop i)) (fun i=>l.length - i) 0
  (Gh.canon [] [4] [] zK rfl rfl) (Nat.zero_le _) ?_
 intro i hi0 hF K hK
 rw[List.drop_zero]at hF
 refine zw ?_
 refine zaa (fun hlt=> ?_) (fun hge=> ?_)
 ·have hi:i<l.length:=by simpa using hlt
  have hat:=zb8 hi
  obtain⟨hk1,hk2⟩:=hll _ (List.getElem_mem hi)
  have hw:=zan hi (by omega)
  rw[zaL hi]at hF
  have hnm:=zjq l[i].name hk2
  have hlr:=zkI l[i].line hk1
  have hlc:=zgj l[i].line (by omega) l[i].holder
  have hlt2:(l.take i).length=i:=by rw[List.length_take];omega
  have htk:(zax l).take (i*4)=zax (l.take i):=zgM Lk.enc 4 (fun _=>rfl) (by omega)
  have hco:=zjo (l.take i) (by omega) (fun o=>o.token==l[i].token) 167 [.elt l[i].enc] rfl rfl (fun x _=>znl x _)
  rw[hlt2]at hco
  cases e0:decide ((i:Int)>0)
  ·have h0:i=0:=by simpa using e0
   have hq:zky l i l[i]=(!(!nameP l[i].name||decide (l[i].holder<0)||decide (l[i].holder≥8)||decide (l[i].token<1)||decide (l[i].token>2305843009213693952))&& !(!lineB l[i].line||l[i].line.any fun x=>l[i].holder==x)&& !((l.take i).any fun o=>o.token==l[i].token)):=by
    unfold zky zse hasI
    have:decide (i>0)=false:=by simpa using e0
    rw[this]
    simp only[Bool.not_or,Bool.not_not,Bool.false_and,Bool.or_false]
   have hp:(zax l).drop ((IntKind.i64.wrap ((i:Int) - 1)).toNat*4)=l[i].enc++zax (l.drop (i+1)):=by
    rw[←zb8 hi,h0];rfl
   repeat'(first|exact zC|refine zq (I hat (I hp (I htk (I e0 (I @zaz zca))))) ?_|refine zx (hnm) ?_|refine zx (hlr) ?_|refine zx (hlc) ?_|refine zx (hco) ?_|(apply zaa<;>intro hb)|(apply I;exact zI)|(apply I<;>intro hg))
   ·rw[hq,hb,if_neg (by simp)]at hF
    unfold lockB
    rw[←hF];rfl
   ·rename_i ha
    rw[hq,ha,hb,if_neg (by simp)]at hF
    unfold lockB
    rw[←hF];rfl
   ·rename_i ha hc
    rw[hq,ha,hc,hb,if_neg (by simp)]at hF
    unfold lockB
    rw[←hF];rfl
   ·rename_i ha hc
    exact hK _ (i+1) (Gh.canon [] [] [] (zk hw) rfl rfl) hi (by rw[zaL hi,hq,ha,hc,hb];rfl) (by omega)
  ·have h0:0<i:=by simpa using e0
   have hq:zky l i l[i]=(!(!nameP l[i].name||decide (l[i].holder<0)||decide (l[i].holder≥8)||decide (l[i].token<1)||decide (l[i].token>2305843009213693952))&& !(!lineB l[i].line||(l[i].line.any fun x=>l[i].holder==x)|| !(zkD (l[i - 1]'(by omega)).name l[i].name))&& !((l.take i).any fun o=>o.token==l[i].token)):=by
    unfold zky zse hasI zo7
    have:decide (i>0)=true:=by simpa using e0
    rw[this,List.getElem?_eq_getElem (by omega)]
    simp only[Bool.not_or,Bool.not_not,Bool.true_and,Option.map_some,Option.getD_some]
   have hp:=zb8 (show i - 1<l.length by omega)
   have hw1:IntKind.i64.wrap ((i:Int) - 1)=((i - 1:Nat):Int):=by rw[wrap64 (by omega) (by omega)];omega
   repeat'(first|exact zC|refine zq (I hat (I hp (I hw1 (I htk (I e0 (I @zaz zca)))))) ?_|refine zx (hnm) ?_|refine zx (hlr) ?_|refine zx (hlc) ?_|refine zx (hco) ?_|(apply zaa<;>intro hb)|(apply I;exact zI)|(apply I<;>intro hg))
   ·rw[hq,hb,if_neg (by simp)]at hF
    unfold lockB
    rw[←hF];rfl
   ·rename_i ha
    rw[hq,ha,hb,if_neg (by simp)]at hF
    unfold lockB
    rw[←hF];rfl
   ·rename_i ha hc
    rw[hq,ha,hc,hb,if_neg (by simp)]at hF
    unfold lockB
    rw[←hF];rfl
   ·rename_i ha hc
    exact hK _ (i+1) (Gh.canon [] [] [] (zk hw) rfl rfl) hi (by rw[zaL hi,hq,ha,hc,hb];rfl) (by omega)
 ·have hi:i=l.length:=by
   have:¬(i:Int)<l.length:=by simpa using hge
   omega
  rw[zdD hi]at hF
  unfold lockB
  rw[←hF]
  repeat'(first|exact zC|refine zq0 ?_|(apply zaa<;>intro hb)|(apply I;exact zI)|(apply I<;>intro hg))
def curL (l:List Lk) (gone:List Int) (i:Nat):List Lk:=(l.take i).map (zhi gone)++l.drop i
abbrev zys (x:Sess):RF:= .agg [.d (iD x.client), .d (iD x.num), .d (iD x.renewed)]
abbrev zy9 (l:List Sess) (now lease:Int):List Int:=(l.filter fun s=>decide (now - s.renewed≥lease)).map Sess.client
structure LkD where
 k:Lk
 x:D
abbrev LkD.enc (m:LkD):List D:=[sD m.k.name,iD m.k.holder,iD m.k.token,m.x]
abbrev zyR (l:List LkD):List D:=l.flatMap LkD.enc
def plain (k:Lk):LkD:=⟨k, .sl k.line.length (za1 k.line)⟩
theorem znn {l:List Lk} {m:Lk}:zax (l++[m])=zax l++m.enc:=by simp[zax]
def zzb (l:List Lk) (i:Nat) (x:D):List LkD:=l.zipIdx.map fun p=>if p.2=i then⟨p.1,x⟩else plain p.1
abbrev zza:Lk:=⟨.empty,0,0,[]⟩
structure RightS (s:St):Prop where
 time:0≤s.time∧s.time≤zdU
 num:0≤s.num∧s.num≤zdU
 token:0≤s.token∧s.token≤zdU
 ss:SS s.sess
 sok:∀x∈s.sess,zgi x=true∧x.num≤s.num
 snd:s.sess.Pairwise fun a b=>a.num≠b.num
 sl:s.sess.length≤5
 ls:SL s.locks
 lok:∀k∈s.locks,zse k=true∧k.token≤s.token∧lineB k.line=true∧hasI k.line k.holder=false
 lnd:s.locks.Pairwise fun a b=>a.token≠b.token
 ll:s.locks.length≤4
 ms:SM s.memos
 mok:∀m∈s.memos,answerB m=true
 seat:∀k∈s.locks,(zcB s.sess k.holder).isSome=true∧∀c∈k.line,(zcB s.sess c).isSome=true
theorem zdj {α:Type} {r:α→α→Prop} (ht:∀a b c,r a b→r b c→r a c):∀{l:List α},(∀j (hj:j<l.length),0<j→r (l[j - 1]'(by omega)) l[j])→l.Pairwise r
 |[],_=>List.Pairwise.nil
 |[x],_=>by simp
 |x::y::l,h=>by
  have h1:r x y:=h 1 (by simp) (by decide)
  have ih:(y::l).Pairwise r:=zdj ht fun j hj h0=>by
   have:=h (j+1) (by simpa using hj) (by omega)
   obtain⟨k,rfl⟩:∃k,j=k+1:=⟨j - 1,by omega⟩
   simpa using this
  refine List.pairwise_cons.2 ⟨fun z hz=> ?_,ih⟩
  rcases List.mem_cons.1 hz with rfl|hz
  ·exact h1
  ·exact ht _ _ _ h1 ((List.pairwise_cons.1 ih).1 z hz)
theorem zej {α:Type} {r:α→α→Prop} {l:List α} (h:l.Pairwise r) (j:Nat) (hj:j<l.length) (h0:0<j):r (l[j - 1]'(by omega)) l[j]:=
 List.pairwise_iff_getElem.1 h (j - 1) j (by omega) hj (by omega)
theorem zeL {α:Type} {l:List α} {i:Nat} {p:α→Bool} (hi:i<l.length):(l.take i).any p=false↔∀j (hj:j<l.length),j<i→p l[j]=false:=by
 rw[List.any_eq_false]
 constructor
 ·intro h j hj hji
  have hm:l[j]∈l.take i:=by
   rw[List.mem_take_iff_getElem]
   exact⟨j,by omega,rfl⟩
  simpa using h _ hm
 ·intro h x hx
  rw[List.mem_take_iff_getElem]at hx
  obtain⟨j,hj,rfl⟩:=hx
  simp[h j (by omega) (by omega)]
theorem zkw {l:List Sess}:sessB l=true↔l.length≤5∧(∀x∈l,zgi x=true)∧SS l∧l.Pairwise fun a b=>a.num≠b.num:=by
 unfold sessB
 rw[Bool.and_eq_true,zco]
 simp only[Nat.zero_add,Bool.not_eq_true',decide_eq_false_iff_not]
 constructor
 ·rintro⟨h1,h2⟩
  have q:∀j (hj:j<l.length),zgi l[j]=true∧(0<j→zo5 l j<l[j].client)∧(∀k (hk:k<l.length),k<j→l[k].num≠l[j].num):=by
   intro j hj
   have:=h2 j hj
   unfold zjk at this
   simp only[Bool.and_eq_true,Bool.not_eq_true',Bool.or_eq_false_iff,Bool.and_eq_false_iff,decide_eq_false_iff_not]at this
   obtain⟨a,b,c⟩:=this
   refine⟨a,fun h0=> ?_,fun k hk hkj=> ?_⟩
   ·rcases b with b|b
    ·omega
    ·omega
   ·have:=(zeL hj).1 c k hk hkj
    simpa using this
  refine⟨by omega,fun x hx=> ?_, ?_, ?_⟩
  ·obtain⟨j,hj,rfl⟩:=List.getElem_of_mem hx
   exact(q j hj).1
  ·refine zdj (fun a b c h1 h2=>by omega) fun j hj h0=> ?_
   have:=(q j hj).2.1 h0
   unfold zo5 at this
   rw[List.getElem?_eq_getElem (by omega)]at this
   simpa using this
  ·rw[List.pairwise_iff_getElem]
   intro i j hi hj hij
   exact(q j hj).2.2 i hi hij
 ·rintro⟨h1,h2,h3,h4⟩
  refine⟨by omega,fun j hj=> ?_⟩
  unfold zjk
  simp only[Bool.and_eq_true,Bool.not_eq_true',Bool.or_eq_false_iff,Bool.and_eq_false_iff,decide_eq_false_iff_not]
  refine⟨h2 _ (List.getElem_mem hj), ?_, ?_⟩
  ·by_cases h0:0<j
   ·right
    have:=zej h3 j hj h0
    unfold zo5
    rw[List.getElem?_eq_getElem (by omega)]
    simpa using this
   ·left;omega
  ·exact(zeL hj).2 fun k hk hkj=>by
    have:=List.pairwise_iff_getElem.1 h4 k j hk hj hkj
    simpa using this
theorem zkx {l:List Int}:lineB l=true↔l.length≤3∧(∀c∈l,isClient c=true)∧l.Nodup:=by
 unfold lineB
 rw[Bool.and_eq_true,zco]
 simp only[Nat.zero_add,decide_eq_true_eq]
 constructor
 ·rintro⟨h1,h2⟩
  have q:∀j (hj:j<l.length),isClient l[j]=true∧(∀k (hk:k<l.length),k<j→l[k]≠l[j]):=by
   intro j hj
   have:=h1 j hj
   unfold zo6 at this
   simp only[Bool.not_eq_true',Bool.or_eq_false_iff,Bool.not_eq_false']at this
   refine⟨this.1,fun k hk hkj=> ?_⟩
   have h3:=(zeL hj).1 this.2 k hk hkj
   have h4:¬l[j]=l[k]:=by simpa using h3
   exact fun h=>h4 h.symm
  refine⟨by omega,fun x hx=> ?_, ?_⟩
  ·obtain⟨j,hj,rfl⟩:=List.getElem_of_mem hx
   exact(q j hj).1
  ·unfold List.Nodup
   rw[List.pairwise_iff_getElem]
   intro i j hi hj hij
   exact(q j hj).2 i hi hij
 ·rintro⟨h1,h2,h3⟩
  refine⟨fun j hj=> ?_,by omega⟩
  unfold zo6
  simp only[Bool.not_eq_true',Bool.or_eq_false_iff,Bool.not_eq_false']
  refine⟨h2 _ (List.getElem_mem hj), ?_⟩
  exact(zeL hj).2 fun k hk hkj=>by
   unfold List.Nodup at h3
   have:=List.pairwise_iff_getElem.1 h3 k j hk hj hkj
   simpa using fun h=>this h.symm
theorem zo3 {l:List Lk}:lockB l=true↔l.length≤4∧(∀k∈l,zse k=true∧lineB k.line=true∧hasI k.line k.holder=false)∧SL l∧l.Pairwise fun a b=>a.token≠b.token:=by
 unfold lockB
 rw[Bool.and_eq_true,zco]
 simp only[Nat.zero_add,decide_eq_true_eq]
 constructor
 ·rintro⟨h1,h2⟩
  have q:∀j (hj:j<l.length),(zse l[j]=true∧lineB l[j].line=true∧hasI l[j].line l[j].holder=false)∧(0<j→zkD (zo7 l j) l[j].name=true)∧(∀k (hk:k<l.length),k<j→l[k].token≠l[j].token):=by
   intro j hj
   have:=h1 j hj
   unfold zky at this
   simp only[Bool.and_eq_true,Bool.not_eq_true',Bool.or_eq_false_iff,Bool.and_eq_false_iff,decide_eq_false_iff_not,Bool.not_eq_false']at this
   obtain⟨⟨a,⟨b1,b2⟩,b3⟩,c⟩:=this
   refine⟨⟨a,b1,b2⟩,fun h0=> ?_,fun k hk hkj=> ?_⟩
   ·rcases b3 with b|b
    ·omega
    ·exact b
   ·have:=(zeL hj).1 c k hk hkj
    simpa using this
  refine⟨by omega,fun x hx=> ?_, ?_, ?_⟩
  ·obtain⟨j,hj,rfl⟩:=List.getElem_of_mem hx
   exact(q j hj).1
  ·refine zdj (r:=fun x y:Lk=>zkD x.name y.name=true) (fun a b c h1 h2=>zmz h1 h2) fun j hj h0=> ?_
   have:=(q j hj).2.1 h0
   unfold zo7 at this
   rw[List.getElem?_eq_getElem (by omega)]at this
   simpa using this
  ·rw[List.pairwise_iff_getElem]
   intro i j hi hj hij
   exact(q j hj).2.2 i hi hij
 ·rintro⟨h1,h2,h3,h4⟩
  refine⟨fun j hj=> ?_,by omega⟩
  unfold zky
  simp only[Bool.and_eq_true,Bool.not_eq_true',Bool.or_eq_false_iff,Bool.and_eq_false_iff,decide_eq_false_iff_not,Bool.not_eq_false']
  obtain⟨a,b,c⟩:=h2 _ (List.getElem_mem hj)
  refine⟨⟨a,⟨b,c⟩, ?_⟩, ?_⟩
  ·by_cases h0:0<j
   ·right
    have:=zej h3 j hj h0
    unfold zo7
    rw[List.getElem?_eq_getElem (by omega)]
    simpa using this
   ·left;omega
  ·exact(zeL hj).2 fun k hk hkj=>by
    have:=List.pairwise_iff_getElem.1 h4 k j hk hj hkj
    simpa using this
theorem zo4 {l:List Memo}:memoB l=true↔(∀m∈l,answerB m=true)∧SM l:=by
 unfold memoB
 rw[zco]
 simp only[Nat.zero_add]
 constructor
 ·intro h1
  have q:∀j (hj:j<l.length),answerB l[j]=true∧(0<j→zo9 l j<l[j].client):=by
   intro j hj
   have:=h1 j hj
   unfold zkz at this
   simp only[Bool.not_eq_true',Bool.or_eq_false_iff,Bool.and_eq_false_iff,decide_eq_false_iff_not,Bool.not_eq_false']at this
   refine⟨this.1,fun h0=> ?_⟩
   rcases this.2 with b|b
   ·omega
   ·omega
  refine⟨fun x hx=> ?_, ?_⟩
  ·obtain⟨j,hj,rfl⟩:=List.getElem_of_mem hx
   exact(q j hj).1
  ·refine zdj (fun a b c h1 h2=>by omega) fun j hj h0=> ?_
   have:=(q j hj).2 h0
   unfold zo9 at this
   rw[List.getElem?_eq_getElem (by omega)]at this
   simpa using this
 ·rintro⟨h2,h3⟩ j hj
  unfold zkz
  simp only[Bool.not_eq_true',Bool.or_eq_false_iff,Bool.and_eq_false_iff,decide_eq_false_iff_not,Bool.not_eq_false']
  refine⟨h2 _ (List.getElem_mem hj), ?_⟩
  by_cases h0:0<j
  ·right
   have:=zej h3 j hj h0
   unfold zo9
   rw[List.getElem?_eq_getElem (by omega)]
   simpa using this
  ·left;omega
theorem zeM {s:St}:zcg s=true↔RightS s:=by
 unfold zcg zf1 within
 simp only[Bool.and_eq_true,decide_eq_true_eq,zkw,zo3,zo4,List.all_eq_true,List.mem_cons,forall_eq_or_imp]
 constructor
 ·rintro⟨⟨⟨⟨⟨⟨⟨⟨h1,h2⟩,h3⟩,a,b,c,d⟩,e,f,g,h⟩,i,j⟩,k⟩,l⟩,m⟩
  exact⟨h1,h2,h3,c,fun x hx=>⟨b x hx,k x hx⟩,d,a,g,fun k hk=>⟨(f k hk).1,l k hk,(f k hk).2⟩,h,e,j,i,m⟩
 ·intro h
  exact⟨⟨⟨⟨⟨⟨⟨⟨h.time,h.num⟩,h.token⟩,h.sl,fun x hx=>(h.sok x hx).1,h.ss,h.snd⟩,h.ll,fun k hk=>⟨(h.lok k hk).1,(h.lok k hk).2.2⟩,h.ls,h.lnd⟩,h.mok,h.ms⟩,fun x hx=>(h.sok x hx).2⟩,fun k hk=>(h.lok k hk).2.1⟩,h.seat⟩
theorem zsd {l:List Memo}:SM l↔(l.map Memo.client).Pairwise (·<·):=by unfold SM;rw[List.pairwise_map]
theorem zmx {k:Lk}:zse k=true↔nameP k.name=true∧(0≤k.holder∧k.holder<8)∧1≤k.token∧k.token≤zdU:=by
 unfold zse
 simp only[Bool.and_eq_true,Bool.not_eq_true',decide_eq_false_iff_not]
 constructor
 ·rintro⟨⟨⟨⟨a,b⟩,c⟩,d⟩,e⟩;exact⟨a,⟨by omega,by omega⟩,by omega,by omega⟩
 ·rintro⟨a,⟨b,c⟩,d,e⟩;exact⟨⟨⟨⟨a,by omega⟩,by omega⟩,by omega⟩,by omega⟩
end Go.Proofs.YtliimajkpggbhaaGreat
