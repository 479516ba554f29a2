import Derived.Test.YtliimajkpggbhaaGreatTy
import Derived.Test.YtliimajkpggbhaaGreatK9
import Derived.KernelRfl
namespace Go.Proofs.YtliimajkpggbhaaGreat
open Go.Pk
set_option maxRecDepth 100000
set_option linter.unusedSimpArgs false
set_option linter.unusedVariables false
theorem zC7:(([25,33,153,151]:List Nat)).all (eqB Tryz.prog)=true:=by kernel_rfl
theorem zcI:TOK Tryz.prog Ty:=zy1 fun t ht=>List.all_eq_true.1 zC7 t ht
theorem mixed:Tryz.prog.follows .mixedOrders=true:=by kernel_rfl
theorem zh {i:FuncId} {f:Func} {rvs:List ResultVar} {n:Nat} {args:List Arg} {post:List RF→List (List RO)→Prop} (h1:Tryz.prog.funcs[i]? =some f) (h2:f.results=rvs.toArray) (h3:f.ntmps=n) (h4:∀(us:Array Value) (w:World),(callFunc i us).run Tryz.prog w= .ok (.enter i us) w)
  (hk:awp Ty Tryz.prog (f.body.getD .skip) (openG n args) (zpe Ty rvs (objPos 0 args) post)) (hb:f.body=some (f.body.getD .skip):=by rfl):CallOK Tryz.prog i args post:=zms zcI mixed h1 hb h2 h3 h4 hk
theorem zhy {i:FuncId} {f:Func} {n:Nat} {args:List Arg} {x:Value} (h1:Tryz.prog.funcs[i]? =some f) (h3:f.ntmps=n) (h4:∀(us:Array Value) (w:World),(callFunc i us).run Tryz.prog w= .ok (.enter i us) w)
  (hk:awp Ty Tryz.prog (f.body.getD .skip) (openG n args) (zyZ x)) (hb:f.body=some (f.body.getD .skip):=by rfl):zbL Tryz.prog i args x:=zmt zcI mixed h1 hb h3 h4 hk
theorem zhb {i:FuncId} {f:Func} {rvs:List ResultVar} {n:Nat} {args:List Arg} {post:List RF→List (List RO)→Prop} {x:Value} {b:Bool} (h1:Tryz.prog.funcs[i]? =some f) (h2:f.results=rvs.toArray) (h3:f.ntmps=n) (h4:∀(us:Array Value) (w:World),(callFunc i us).run Tryz.prog w= .ok (.enter i us) w)
  (hk:awp Ty Tryz.prog (f.body.getD .skip) (openG n args) (zzN (zpe Ty rvs (objPos 0 args) post) (zyZ x) b)) (hb:f.body=some (f.body.getD .skip):=by rfl):(b=true→CallOK Tryz.prog i args post)∧(b=false→zbL Tryz.prog i args x):=zuz zcI mixed h1 hb h2 h3 h4 hk
def zhl (c:UInt8):Bool:= !((decide ((c.toNat:Int)<97)||decide ((c.toNat:Int)>122))&&(decide ((c.toNat:Int)<48)||decide ((c.toNat:Int)>57))&&((c.toNat:Int) !=45))
def nameP (s:ByteArray):Bool:=((List.range s.size).all fun j=>zhl (s.data.getD j 0))&&(decide ((s.size:Int)≥1)&&decide ((s.size:Int)≤12))
theorem zpO (k:Int):CallOK Tryz.prog 113 [.f (ai k)] (fun r o=>r=[rb (k==3||k==4||k==5)]∧o=[]):=by
 refine zh Tryz.func113 Tryz.results113 Tryz.ntmps113 Tryz.call113 ?_
 simp only[Tryz.f113,Option.getD]
 repeat'(first|exact zC|refine za0 ?_|(apply zaa<;>intro hb)|(apply I;exact zI)|(apply I<;>intro hg))
theorem zlL (s:ByteArray) (hs:s.size<2^62):CallOK Tryz.prog 114 [.f (ast s)] (fun r o=>r=[rb (nameP s)]∧o=[]):=by
 refine zh Tryz.func114 Tryz.results114 Tryz.ntmps114 Tryz.call114 ?_
 simp only[Tryz.f114,Option.getD]
 refine zw ?_
 refine zit Ty Tryz.prog (τ:=Nat) (fun i=>⟨(ast s::dd::ab false::dq2 (ast s::ai s.size::ai i::zwa [])),[]⟩) (fun i=>i≤s.size∧∀j,j<i→zhl (s.data.getD j 0)=true) (fun i=>s.size - i) 0 ?_ ⟨Nat.zero_le _,fun j hj=>absurd hj (Nat.not_lt_zero j)⟩ ?_
 ·refine Gh.fgt ?_
  simp only[ddE,zbi,zbj,zbP,Int.natCast_zero]
 intro i ⟨h1,h2⟩ K hK
 refine zw ?_
 rw[zdl]
 refine⟨trivial,fun hlt=> ?_,fun hge=> ?_⟩
 ·refine zw ?_
  have hi:i<s.size:=by simpa using hlt
  refine⟨⟨Int.natCast_nonneg i,by omega⟩,zpw (fun a b=>by rw[a,b];rfl), ?_⟩
  have hok:zhl (s.data.getD i 0)= !((decide (((s.data.getD i 0).toNat:Int)<97)||decide (((s.data.getD i 0).toNat:Int)>122))&&(decide (((s.data.getD i 0).toNat:Int)<48)||decide (((s.data.getD i 0).toNat:Int)>57))&&(((s.data.getD i 0).toNat:Int) !=45)):=rfl
  rw[zdl]
  refine⟨trivial,fun hb=> ?_,fun hb=> ?_⟩
  ·rw[hb]at hok
   refine zw ?_
   have hn:nameP s=false:=by
    unfold nameP
    rw[show((List.range s.size).all fun j=>zhl (s.data.getD j 0))=false from List.all_eq_false.2 ⟨i,List.mem_range.2 hi,by rw[hok];simp⟩,Bool.false_and]
   rw[hn]
  ·rw[hb]at hok
   refine zw ?_
   refine hK _ (i+1) (Gh.fgt ?_) ⟨hi,fun j hj=> ?_⟩ (by omega)
   ·have hw:IntKind.i64.wrap ((i:Int)+1)=((i+1:Nat):Int):=by rw[wrap64 (by omega) (by omega)];rfl
    simp only[hw,ddE,zbi,zbj,zbP]
   ·rcases Nat.lt_or_ge j i with h|h
    ·exact h2 j h
    ·rw[show j=i from by omega,hok];rfl
 ·refine zw ?_
  have hi:i=s.size:=by
   have:¬(i:Int)<s.size:=by simpa using hge
   omega
  have hn:nameP s=(decide ((s.size:Int)≥1)&&decide ((s.size:Int)≤12)):=by
   unfold nameP
   rw[show((List.range s.size).all fun j=>zhl (s.data.getD j 0))=true from List.all_eq_true.2 fun j hj=>h2 j (by rw[hi];exact List.mem_range.1 hj),Bool.true_and]
  rw[hn]
def zlM (k n:Int) (s:ByteArray):Bool:=
 if(decide (k<1)||decide (k>6))=true then false else
 if((k==3||k==4||k==5)&& !nameP s|| !(k==3||k==4||k==5)&& !s.toList==(⟨#[]⟩:ByteArray).toList)=true then false else
 if(k==1)=true then n==0 else decide (n≥1)&&decide (n≤2305843009213693952)
theorem zpP (k n:Int) (s:ByteArray) (hs:s.size<2^62):CallOK Tryz.prog 73 [.f (.agg [di k,di n,dS s])] (fun r o=>r=[rb (zlM k n s)]∧o=[]):=by
 refine zh Tryz.func73 Tryz.results73 Tryz.ntmps73 Tryz.call73 ?_
 simp only[Tryz.f73,Option.getD]
 repeat'(first|exact zC|refine za0 ?_|((first|((try refine zaM ?_);apply zaO)|(apply zaZ;intro _));(solve|exact(zpO _)|(refine CallOK.le (zpO _) ?_;exact zM)|fail);try case hn=>rfl)|((first|((try refine zaM ?_);apply zaO)|(apply zaZ;intro _));(solve|exact(zlL _ hs)|(refine CallOK.le (zlL _ hs) ?_;exact zM)|fail);try case hn=>rfl)|(apply zaa<;>intro hb)|(apply I;exact zI)|(apply I<;>intro hg))
 ·rw[zlM,if_pos (by assumption)]
 ·rw[zlM,if_neg (by simp_all),if_pos (by assumption)]
 ·rw[zlM,if_neg (by simp_all),if_neg (by simp_all),if_pos (by assumption)]
 ·rw[zlM,if_neg (by simp_all),if_neg (by simp_all),if_neg (by simp_all)]
def Req.may (r:Req):Bool:=(decide (r.client≥0)&&decide (r.client<8)&&decide (r.seq≥1)&&decide (r.seq≤zbs))&&zlM r.kind r.session r.name
theorem zfD (r:Req) (hr:r.ok):CallOK Tryz.prog 34 [.f (.agg (r.enc.map C.d))] (fun x o=>x=[rb (Req.may r)]∧o=[]):=by
 refine zh Tryz.func34 Tryz.results34 Tryz.ntmps34 Tryz.call34 ?_
 simp only[Tryz.f34,Option.getD]
 repeat'(first|exact zC|refine za0 ?_|((first|((try refine zaM ?_);apply zaO)|(apply zaZ;intro _));(solve|exact(zpP _ _ _ hr.2.2.2.2)|(refine CallOK.le (zpP _ _ _ hr.2.2.2.2) ?_;exact zM)|fail);try case hn=>rfl)|(apply zaa<;>intro hb)|(apply I;exact zI)|(apply I<;>intro hg))
 rfl
def zcY {α:Type} (p:α→Bool):List α→Int→Int
 |[],_=> -1
 |x::l,i=>if p x=true then i else zcY p l (i+1)
theorem zf4 {α:Type} (p:α→Bool) (l:List α):decide (zcY p l 0≥0)=l.any p:=by
 have h:∀(l:List α) (i:Int),0≤i→(0≤zcY p l i↔l.any p=true):=by
  intro l
  induction l with
  |nil=>intro i _;simp[zcY]
  |cons x l ih=>
   intro i hi
   simp only[zcY]
   by_cases hx:p x=true
   ·simp[hx,hi]
   ·rw[if_neg hx,ih (i+1) (by omega)];simp[hx]
 rw[Bool.eq_iff_iff]
 simpa using h l 0 (Int.le_refl _)
theorem zzP {a b:RO}:zaG [.one a] [.one b]=(zaw a b∧True):=rfl
theorem zai {i n:Nat} (h:i<n) (hn:n<2^62):IntKind.i64.wrap ((i:Int)+1)=((i+1:Nat):Int):=by rw[wrap64 (by omega) (by omega)];rfl
theorem zvz {n:Nat} (h:n<2^63):IntKind.u64.wrap (n:Int)=n:=by
 unfold IntKind.wrap
 simp[IntKind.signed,IntKind.bits]
 omega
theorem zz9:Go.Pk.bad.x= .one .dead:=rfl
abbrev zzs:Int→AV:=fun x=> .one (di x)
abbrev zng:Sess→AV:=fun x=> .agg (x.enc.map C.d)
abbrev ztm:Lk→AV:=fun x=> .agg (x.enc.map C.d)
abbrev zAm:Memo→AV:=fun x=> .agg (x.enc.map C.d)
theorem ztn (l:List Int) (hl:l.length<2^62) (p:Int→Bool) (f:Nat) (caps:List C) (hc:lendAs [] (caps.map AV.one)=some (caps.map fun c=> .f (.one c)))
  (hp:∀x∈l,CallOK Tryz.prog f (.f (zzs x)::caps.map fun c=> .f (.one c)) (fun r o=>r=[rb (p x)]∧o=[])):
  CallOK Tryz.prog 161 [.f (al l.length (zaB l)), .f (.one (.clos f caps))] (fun r o=>r=[ri (zcY p l 0)]∧o=[]):=by
 refine zh Tryz.func161 Tryz.results161 Tryz.ntmps161 Tryz.call161 ?_
 simp only[Tryz.f161,Option.getD]
 refine zw ?_
 refine zaf (τ:=Nat) (fun i=>⟨(al l.length (zaB l):: .one (.clos f caps)::dq2 (ai 0::dd::al l.length (zaB l)::ai l.length::ai i::znW [])),[]⟩) (fun i=>i≤l.length) (fun i=>zcY p (l.drop i) i) (fun i=>l.length - i) 0 (Gh.fgt ?_) (Nat.zero_le _) ?_
 ·simp only[ddE,zbi,zbj,zbP,Int.natCast_zero]
 intro i hi0 hF K hK
 refine zw ?_
 rw[zdl]
 refine⟨trivial,fun hlt=> ?_,fun hge=> ?_⟩
 ·have hi:i<l.length:=by simpa using hlt
  rw[List.drop_eq_getElem_cons hi,zcY]at hF
  have hat:=ints_at hi
  simp only[List.cons_append,List.nil_append]at hat
  refine zw1 (I @zo2 (I hat hc)) ?_
  refine⟨⟨Int.natCast_nonneg i,by omega⟩, ?_⟩
  refine zaO (hp _ (List.getElem_mem hi)) ?_
  refine zw ?_
  refine zaa (fun hb=> ?_) (fun hb=> ?_)
  ·rw[if_pos hb]at hF
   refine zw ?_
   rw[hF];rfl
  ·rw[if_neg (by simp[hb])]at hF
   refine zw ?_
   refine hK _ (i+1) (Gh.fgt ?_) hi (by simp only[List.drop_eq_getElem_cons hi,zcY];rw[if_neg (by simp[hb])];rfl) (by omega)
   have hw:IntKind.i64.wrap ((i:Int)+1)=((i+1:Nat):Int):=by rw[wrap64 (by omega) (by omega)];rfl
   simp only[hw,ddE,zbi,zbj,zbP]
 ·have hi:i=l.length:=by
   have:¬(i:Int)<l.length:=by simpa using hge
   omega
  rw[hi,List.drop_length,zcY]at hF
  refine zw ?_
  rw[hF];rfl
theorem zqP (l:List Sess) (hl:l.length<2^62) (p:Sess→Bool) (f:Nat) (caps:List C) (hc:lendAs [] (caps.map AV.one)=some (caps.map fun c=> .f (.one c)))
  (hp:∀x∈l,CallOK Tryz.prog f (.f (zng x)::caps.map fun c=> .f (.one c)) (fun r o=>r=[rb (p x)]∧o=[])):
  CallOK Tryz.prog 210 [.f (al l.length (zaQ l)), .f (.one (.clos f caps))] (fun r o=>r=[ri (zcY p l 0)]∧o=[]):=by
 refine zh Tryz.func210 Tryz.results210 Tryz.ntmps210 Tryz.call210 ?_
 simp only[Tryz.f210,Option.getD]
 refine zw ?_
 refine zaf (τ:=Nat) (fun i=>⟨(al l.length (zaQ l):: .one (.clos f caps)::dq2 (ai 0::dd::al l.length (zaQ l)::ai l.length::ai i::znW [])),[]⟩) (fun i=>i≤l.length) (fun i=>zcY p (l.drop i) i) (fun i=>l.length - i) 0 (Gh.fgt ?_) (Nat.zero_le _) ?_
 ·simp only[ddE,zbi,zbj,zbP,Int.natCast_zero]
 intro i hi0 hF K hK
 refine zw ?_
 rw[zdl]
 refine⟨trivial,fun hlt=> ?_,fun hge=> ?_⟩
 ·have hi:i<l.length:=by simpa using hlt
  rw[List.drop_eq_getElem_cons hi,zcY]at hF
  have hat:=zcb hi
  simp only[List.cons_append,List.nil_append]at hat
  refine zw1 (I @zat (I hat hc)) ?_
  refine⟨⟨Int.natCast_nonneg i,by omega⟩, ?_⟩
  refine zaO (hp _ (List.getElem_mem hi)) ?_
  refine zw ?_
  refine zaa (fun hb=> ?_) (fun hb=> ?_)
  ·rw[if_pos hb]at hF
   refine zw ?_
   rw[hF];rfl
  ·rw[if_neg (by simp[hb])]at hF
   refine zw ?_
   refine hK _ (i+1) (Gh.fgt ?_) hi (by simp only[List.drop_eq_getElem_cons hi,zcY];rw[if_neg (by simp[hb])];rfl) (by omega)
   have hw:IntKind.i64.wrap ((i:Int)+1)=((i+1:Nat):Int):=by rw[wrap64 (by omega) (by omega)];rfl
   simp only[hw,ddE,zbi,zbj,zbP]
 ·have hi:i=l.length:=by
   have:¬(i:Int)<l.length:=by simpa using hge
   omega
  rw[hi,List.drop_length,zcY]at hF
  refine zw ?_
  rw[hF];rfl
theorem zqQ (l:List Lk) (hl:l.length<2^62) (p:Lk→Bool) (f:Nat) (caps:List C) (hc:lendAs [] (caps.map AV.one)=some (caps.map fun c=> .f (.one c)))
  (hp:∀x∈l,CallOK Tryz.prog f (.f (ztm x)::caps.map fun c=> .f (.one c)) (fun r o=>r=[rb (p x)]∧o=[])):
  CallOK Tryz.prog 196 [.f (al l.length (zaj l)), .f (.one (.clos f caps))] (fun r o=>r=[ri (zcY p l 0)]∧o=[]):=by
 refine zh Tryz.func196 Tryz.results196 Tryz.ntmps196 Tryz.call196 ?_
 simp only[Tryz.f196,Option.getD]
 refine zw ?_
 refine zaf (τ:=Nat) (fun i=>⟨(al l.length (zaj l):: .one (.clos f caps)::dq2 (ai 0::dd::al l.length (zaj l)::ai l.length::ai i::znW [])),[]⟩) (fun i=>i≤l.length) (fun i=>zcY p (l.drop i) i) (fun i=>l.length - i) 0 (Gh.fgt ?_) (Nat.zero_le _) ?_
 ·simp only[ddE,zbi,zbj,zbP,Int.natCast_zero]
 intro i hi0 hF K hK
 refine zw ?_
 rw[zdl]
 refine⟨trivial,fun hlt=> ?_,fun hge=> ?_⟩
 ·have hi:i<l.length:=by simpa using hlt
  rw[List.drop_eq_getElem_cons hi,zcY]at hF
  have hat:=za9 hi
  simp only[List.cons_append,List.nil_append]at hat
  refine zw1 (I @zah (I hat hc)) ?_
  refine⟨⟨Int.natCast_nonneg i,by omega⟩, ?_⟩
  refine zaO (hp _ (List.getElem_mem hi)) ?_
  refine zw ?_
  refine zaa (fun hb=> ?_) (fun hb=> ?_)
  ·rw[if_pos hb]at hF
   refine zw ?_
   rw[hF];rfl
  ·rw[if_neg (by simp[hb])]at hF
   refine zw ?_
   refine hK _ (i+1) (Gh.fgt ?_) hi (by simp only[List.drop_eq_getElem_cons hi,zcY];rw[if_neg (by simp[hb])];rfl) (by omega)
   have hw:IntKind.i64.wrap ((i:Int)+1)=((i+1:Nat):Int):=by rw[wrap64 (by omega) (by omega)];rfl
   simp only[hw,ddE,zbi,zbj,zbP]
 ·have hi:i=l.length:=by
   have:¬(i:Int)<l.length:=by simpa using hge
   omega
  rw[hi,List.drop_length,zcY]at hF
  refine zw ?_
  rw[hF];rfl
theorem zlJ (l:List Sess) (hl:l.length<2^62) (p:Sess→Bool) (f:Nat) (caps:List C) (hc:lendAs [] (caps.map AV.one)=some (caps.map fun c=> .f (.one c))) (hc2:lendC.lendCs [] caps=some caps)
  (hp:∀x∈l,CallOK Tryz.prog f (.f (zng x)::caps.map fun c=> .f (.one c)) (fun r o=>r=[rb (p x)]∧o=[])):
  CallOK Tryz.prog 192 [.f (al l.length (zaQ l)), .f (.one (.clos f caps))] (fun r o=>r=[rb (l.any p)]∧o=[]):=by
 refine zh Tryz.func192 Tryz.results192 Tryz.ntmps192 Tryz.call192 ?_
 simp only[Tryz.f192,Option.getD]
 refine zw1 hc2 ?_
 refine zaO (zqP l hl p f caps hc hp) ?_
 refine zw ?_
 rw[zf4]
theorem zlK (l:List Lk) (hl:l.length<2^62) (p:Lk→Bool) (f:Nat) (caps:List C) (hc:lendAs [] (caps.map AV.one)=some (caps.map fun c=> .f (.one c))) (hc2:lendC.lendCs [] caps=some caps)
  (hp:∀x∈l,CallOK Tryz.prog f (.f (ztm x)::caps.map fun c=> .f (.one c)) (fun r o=>r=[rb (p x)]∧o=[])):
  CallOK Tryz.prog 166 [.f (al l.length (zaj l)), .f (.one (.clos f caps))] (fun r o=>r=[rb (l.any p)]∧o=[]):=by
 refine zh Tryz.func166 Tryz.results166 Tryz.ntmps166 Tryz.call166 ?_
 simp only[Tryz.f166,Option.getD]
 refine zw1 hc2 ?_
 refine zaO (zqQ l hl p f caps hc hp) ?_
 refine zw ?_
 rw[zf4]
set_option maxHeartbeats 1000000 in
theorem znh (l:List Sess) (hl:l.length<2^62) (t:Int) (c:Sess→Int) (f:Nat) (m:Nat) (hm:m≤l.length) (h1:∀j (hj:j<l.length),j<m→c l[j]<0) (h2:∀j (hj:j<l.length),m≤j→0≤c l[j])
  (hp:∀x∈l,CallOK Tryz.prog f [.f (zng x), .f (ai t)] (fun r o=>r=[ri (c x)]∧o=[])):
  CallOK Tryz.prog 211 [.f (al l.length (zaQ l)), .f (ai t), .f (.one (.clos f []))] (fun r o=>r=[ri m,rb ((l[m]?.map fun x=>c x==0).getD false)]∧o=[]):=by
 refine zh Tryz.func211 Tryz.results211 Tryz.ntmps211 Tryz.call211 ?_
 simp only[Tryz.f211,Option.getD]
 refine zw ?_
 refine zaf (τ:=Nat×Nat) (fun q=>⟨(al l.length (zaQ l)::ai t:: .one (.clos f [])::dq5 (ai l.length::ai q.1::ai q.2::zzJ [])),[]⟩) (fun q=>q.1≤m∧m≤q.2∧q.2≤l.length) (fun _=>()) (fun q=>q.2 - q.1) (0,l.length) (Gh.fgt ?_) ⟨Nat.zero_le _,hm,Nat.le_refl _⟩ ?_
 ·simp only[ddE,zbi,zbj,zbP,Int.natCast_zero]
 intro⟨lo,hi⟩ ⟨b1,b2,b3⟩ hF K hK
 simp only at b1 b2 b3 hF hK⊢
 refine zw ?_
 refine zaa (fun hlt=> ?_) (fun hge=> ?_)
 ·have hlt:lo<hi:=by simpa using hlt
  obtain⟨q,hq⟩:∃q:Nat,q=(lo+hi) / 2:=⟨_,rfl⟩
  have hw1:IntKind.i64.wrap ((lo:Int)+hi)=((lo+hi:Nat):Int):=by rw[wrap64 (by omega) (by omega)];rfl
  have hw2:IntKind.u64.wrap ((lo+hi:Nat):Int)=((lo+hi:Nat):Int):=zvz (by omega)
  have hw3:IntKind.i64.wrap (((lo+hi:Nat):Int).fdiv (2^(min (Int.toNat 1) IntKind.u64.bits)))=(q:Int):=by
   rw[show(2:Int)^(min (Int.toNat 1) IntKind.u64.bits)=2 by decide,hq,show(((lo+hi:Nat):Int)).fdiv 2=(((lo+hi) / 2:Nat):Int) by rw[Int.fdiv_eq_ediv_of_nonneg _ (by decide)];rfl]
   exact wrap64 (by omega) (by omega)
  have hqh:q<hi:=by omega
  have hql:q<l.length:=by omega
  have hat:=zcb hql
  simp only[List.cons_append,List.nil_append]at hat
  have hcp:=hp _ (List.getElem_mem hql)
  have hw4:IntKind.i64.wrap ((q:Int)+1)=((q+1:Nat):Int):=by rw[wrap64 (by omega) (by omega)];rfl
  have h10:∀(a b:Option Value),(if(1:Int)<0 then a else b)=b:=fun a b=>if_neg (by decide)
  clear hlt
  repeat'(first|exact zC|refine za (I h10 (I hw1 (I hw2 (I hw3 (I @zat (I hat @Nat.mul_one)))))) ?_|refine zx (hcp) ?_|(apply zaa<;>intro hb)|(apply I;exact zI)|(apply I<;>intro hg))
  ·have hqm:q<m:=by
    rcases Nat.lt_or_ge q m with h|h
    ·exact h
    ·have:=h2 q hql h
     have hb':c l[q]<0:=by simpa using hb
     omega
   refine hK _ (q+1,hi) (Gh.fgt ?_) ⟨by simp only;omega,b2,b3⟩ trivial (by simp only;omega)
   simp only[hw4,ddE,zbi,zbj,zbP]
  ·have hqm:m≤q:=by
    rcases Nat.lt_or_ge q m with h|h
    ·have:=h1 q hql h
     have hb':¬c l[q]<0:=by simpa using hb
     omega
    ·exact h
   refine hK _ (lo,q) (Gh.fgt ?_) ⟨b1,hqm,by simp only;omega⟩ trivial (by simp only;omega)
   simp only[ddE,zbi,zbj,zbP]
 ·have he:lo=m:=by
   have:¬(lo:Int)<hi:=by simpa using hge
   omega
  subst he
  by_cases hlt:lo<l.length
  ·have hat:=zcb hlt
   simp only[List.cons_append,List.nil_append]at hat
   have hcp:=hp _ (List.getElem_mem hlt)
   have hd:decide ((lo:Int)<l.length)=true:=by simpa using hlt
   repeat'(first|exact zC|refine za (I hd (I @zat (I hat @Nat.mul_one))) ?_|refine zx (hcp) ?_|(apply zaa<;>intro hb)|(apply I;exact zI)|(apply I<;>intro hg))
   rw[List.getElem?_eq_getElem hlt];rfl
  ·have hd:decide ((lo:Int)<l.length)=false:=by simp;omega
   have hn:l[lo]? =none:=List.getElem?_eq_none (by omega)
   repeat'(first|exact zC|refine za (I hd (I @zat (I @Nat.mul_one (I hn (I @zz9 @Option.map_none.{0,0}))))) ?_|(apply zaa<;>intro hb)|(apply I;exact zI)|(apply I<;>intro hg))
theorem zkL {α:Type}:∀(xs pre mid post:List α),mid.length=xs.length→fillAt pre.length xs (pre++(mid++post))=pre++(xs++post)
 |[],pre,mid,post,h=>by
  have:mid=[]:=List.eq_nil_of_length_eq_zero h
  subst this;rfl
 |x::xs,pre,m::mid,post,h=>by
  have:=zkL xs (pre++[x]) mid post (by simpa using h)
  rw[fillAt]
  simp only[List.length_append,List.length_cons,List.length_nil,Nat.zero_add,List.append_assoc,List.cons_append,List.nil_append]at this⊢
  rw[←this]
  congr 1
  simp[List.set_append]
 |x::xs,pre,[],post,h=>by simp at h
theorem zpN {α:Type} (enc:α→List D) (sz:Nat) (h:∀x,(enc x).length=sz) {l:List α} {i:Nat} (hi:i<l.length) (x:α):
  fillAt (i*sz) ((enc x).map C.d) ((l.flatMap enc).map C.d)=((l.set i x).flatMap enc).map C.d:=by
 have e1:l=l.take i++(l[i]::l.drop (i+1)):=by rw[List.getElem_cons_drop];simp
 have e2:l.set i x=l.take i++(x::l.drop (i+1)):=by rw[List.set_eq_take_append_cons_drop,if_pos hi]
 have hl:((l.take i).flatMap enc).length=i*sz:=by rw[zcC enc sz h,List.length_take];congr 1;omega
 rw[e2]
 conv=>lhs;rw[e1]
 simp only[List.flatMap_append,List.flatMap_cons,List.map_append]
 have:=zkL ((enc x).map C.d) (((l.take i).flatMap enc).map C.d) ((enc l[i]).map C.d) (((l.drop (i+1)).flatMap enc).map C.d) (by simp[h])
 rw[List.length_map,hl]at this
 exact this
theorem zgz {α:Type} (enc:α→List D) (sz:Nat) (h:∀x,(enc x).length=sz) {l:List α} {i k:Nat} (hi:i<l.length) (hk:k<sz) (v:D) (x:α) (hx:enc x=(enc l[i]).set k v):
  ((l.flatMap enc).map C.d).set (i*sz+k) (C.d v)=((l.set i x).flatMap enc).map C.d:=by
 have e1:l=l.take i++(l[i]::l.drop (i+1)):=by rw[List.getElem_cons_drop];simp
 have e2:l.set i x=l.take i++(x::l.drop (i+1)):=by rw[List.set_eq_take_append_cons_drop,if_pos hi]
 have hl:((l.take i).flatMap enc).length=i*sz:=by rw[zcC enc sz h,List.length_take];congr 1;omega
 rw[e2]
 conv=>lhs;rw[e1]
 rw[←List.map_set]
 simp only[List.flatMap_append,List.flatMap_cons]
 rw[List.set_append,if_neg (by omega),List.set_append,if_pos (by rw[h];omega),show i*sz+k - ((l.take i).flatMap enc).length=k by omega,hx]
theorem zxZ {α:Type} {l:List α} {k:Nat} (hk:k≤l.length) (x:α):(l.take k++x::l.drop k).length=l.length+1:=by
 rw[List.length_append,List.length_take,List.length_cons,List.length_drop];omega
theorem ztl {α:Type} (enc:α→List D) (sz:Nat) (h:∀x,(enc x).length=sz) {l:List α} {k:Nat} (hk:k<l.length):
  (l.eraseIdx k).flatMap enc=(l.flatMap enc).take (k*sz)++(l.flatMap enc).drop ((k+1)*sz):=by
 rw[zgP enc sz h (by omega),zrC enc sz h hk,List.eraseIdx_eq_take_drop_succ,List.flatMap_append]
theorem zix {α:Type} (p:α→Bool):∀(l:List α) (i:Nat),(∀x∈l,p x=false)∧zcY p l i= -1∨∃k,∃h:k<l.length,zcY p l i=((i+k:Nat):Int)∧p l[k]=true∧∀x∈l.take k,p x=false
 |[],i=> .inl ⟨fun x hx=>(List.not_mem_nil hx).elim,rfl⟩
 |x::l,i=>by
  rw[zcY]
  by_cases hx:p x=true
  ·rw[if_pos hx]
   exact .inr ⟨0,by simp,rfl,by simpa using hx,fun y hy=>by simp at hy⟩
  ·rw[if_neg hx]
   have hx':p x=false:=by simpa using hx
   rcases zix p l (i+1)with⟨h1,h2⟩|⟨k,hk,h1,h2,h3⟩
   ·exact .inl ⟨fun y hy=>(List.mem_cons.1 hy).elim (fun e=>e▸hx') (fun e=>h1 y e),by simpa using h2⟩
   ·refine .inr ⟨k+1,by simpa using hk, ?_,by simpa using h2,fun y hy=> ?_⟩
    ·have:((i:Int)+1)=((i+1:Nat):Int):=rfl
     rw[this,h1];congr 1;omega
    ·rw[List.take_succ_cons]at hy
     exact(List.mem_cons.1 hy).elim (fun e=>e▸hx') (fun e=>h3 y e)
theorem zti (l:List Int) (hl:l.length<2^62) (v:Int):CallOK Tryz.prog 195 [.f (al l.length (zaB l)), .f (ai v)] (fun r o=>r=[ri (zcY (fun x=>v==x) l 0)]∧o=[]):=by
 refine zh Tryz.func195 Tryz.results195 Tryz.ntmps195 Tryz.call195 ?_
 simp only[Tryz.f195,Option.getD]
 refine zw ?_
 refine zaf (τ:=Nat) (fun i=>⟨(al l.length (zaB l)::ai v::dq2 (ai 0::dd::al l.length (zaB l)::ai l.length::ai i::znW [])),[]⟩) (fun i=>i≤l.length) (fun i=>zcY (fun x=>v==x) (l.drop i) i) (fun i=>l.length - i) 0 (Gh.fgt ?_) (Nat.zero_le _) ?_
 ·simp only[ddE,zbi,zbj,zbP,Int.natCast_zero]
 intro i hi0 hF K hK
 refine zw ?_
 refine zaa (fun hlt=> ?_) (fun hge=> ?_)
 ·have hi:i<l.length:=by simpa using hlt
  rw[List.drop_eq_getElem_cons hi,zcY]at hF
  have hat:=zcu hi
  simp only[List.cons_append,List.nil_append]at hat
  have hw:=zai hi hl
  clear hlt
  repeat'(first|exact zC|refine zq (I @zaA hat) ?_|(apply zaa<;>intro hb)|(apply I;exact zI)|(apply I<;>intro hg))
  ·rw[if_pos hb]at hF
   rw[hF];rfl
  ·rw[if_neg (by simp[hb])]at hF
   refine hK _ (i+1) (Gh.fgt ?_) hi (by simp only[List.drop_eq_getElem_cons hi,zcY];rw[if_neg (by simp[hb])];rfl) (by omega)
   simp only[hw,ddE,zbi,zbj,zbP]
 ·have hi:i=l.length:=by
   have:¬(i:Int)<l.length:=by simpa using hge
   omega
  rw[hi,List.drop_length,zcY]at hF
  refine zw ?_
  rw[hF];rfl
theorem zh8 (l:List Int) (hl:l.length<2^62) (v:Int):CallOK Tryz.prog 165 [.f (al l.length (zaB l)), .f (ai v)] (fun r o=>r=[rb (l.any fun x=>v==x)]∧o=[]):=by
 refine zh Tryz.func165 Tryz.results165 Tryz.ntmps165 Tryz.call165 ?_
 simp only[Tryz.f165,Option.getD]
 repeat'(first|exact zC|refine za0 ?_|refine zx (zti l hl v) ?_|(apply zaa<;>intro hb)|(apply I;exact zI)|(apply I<;>intro hg))
 rw[zf4]
theorem zpM (v:Int):CallOK Tryz.prog 220 [.f (ai v)] (fun r o=>r=[rb false]∧o=[]):=by
 refine zh Tryz.func220 Tryz.results220 Tryz.ntmps220 Tryz.call220 ?_
 simp only[Tryz.f220,Option.getD]
 repeat'(first|exact zC|refine za @bne_self_eq_false.{0} ?_|(apply zaa<;>intro hb)|(apply I;exact zI)|(apply I<;>intro hg))
def ztj (a b:Int):Int:=if a<b then -1 else if a>b then 1 else 0
theorem zov (a b:Int):CallOK Tryz.prog 213 [.f (ai a), .f (ai b)] (fun r o=>r=[ri (ztj a b)]∧o=[]):=by
 refine zh Tryz.func213 Tryz.results213 Tryz.ntmps213 Tryz.call213 ?_
 simp only[Tryz.f213,Option.getD]
 repeat'(first|exact zC|refine zq0 ?_|refine zx (zpM a) ?_|refine zx (zpM b) ?_|(apply zaa<;>intro hb)|(apply I;exact zI)|(apply I<;>intro hg))
 all_goals simp only[decide_eq_true_eq,decide_eq_false_iff_not]at*
 ·unfold ztj;rw[if_pos (by assumption)]
 ·unfold ztj;rw[if_neg (by assumption),if_pos (by assumption)]
 ·unfold ztj;rw[if_neg (by assumption),if_neg (by assumption)]
theorem zlH (n:Int):CallOK Tryz.prog 194 [.f (ai n)] (fun r o=>r=[rb (decide (n≥0)&&decide (n<8))]∧o=[]):=by
 refine zh Tryz.func194 Tryz.results194 Tryz.ntmps194 Tryz.call194 ?_
 simp only[Tryz.f194,Option.getD]
 repeat'(first|exact zC|refine zq0 ?_|(apply zaa<;>intro hb)|(apply I;exact zI)|(apply I<;>intro hg))
theorem zlI (n:Int):CallOK Tryz.prog 162 [.f (ai n)] (fun r o=>r=[rb (decide (n≥0)&&decide (n<8))]∧o=[]):=by
 refine zh Tryz.func162 Tryz.results162 Tryz.ntmps162 Tryz.call162 ?_
 simp only[Tryz.f162,Option.getD]
 repeat'(first|exact zC|refine zq0 ?_|(apply zaa<;>intro hb)|(apply I;exact zI)|(apply I<;>intro hg))
def isClient (n:Int):Bool:=decide (n≥0)&&decide (n<8)
def hasI (l:List Int) (v:Int):Bool:=l.any fun x=>v==x
theorem zrg {a b c a' b' c':RO}:zaG [.one a, .one b, .one c] [.one a', .one b', .one c']=(zaw a a'∧zaw b b'∧zaw c c'∧True):=rfl
def rowI (l:List Int):RF:= .one (.own 1 l.length (zaB l) false)
def zjw (l:List Int) (c:Int):List Int×Int×Int:=
 if(!isClient c)=true then([],0,1)else if hasI l c=true then([],0,7)else if decide ((l.length:Int)≥3)=true then([],0,5)else(l++[c],l.length,0)
theorem ztk {l:List Int} {i:Nat} (hi:i≤l.length):(zaB l).take i=zaB (l.take i):=by have:=zgP (fun n=>[iD n]) 1 (fun _=>rfl) hi;rwa[Nat.mul_one]at this
def zhk (l:List Int) (c:Int):List Int×Bool:=if zcY (fun x=>c==x) l 0<0 then(l,false)else(l.eraseIdx (zcY (fun x=>c==x) l 0).toNat,true)
def za6 (l gone:List Int):List Int:=l.filter fun c=> !hasI gone c
section
variable {α:Type} {p:α→Bool}
def zpK (p:α→Bool) (l:List α):Nat:=(l.takeWhile p).length
def zyA (p:α→Bool) (l:List α):Prop:=l.Pairwise fun x y=>p y=true→p x=true
theorem zos {l:List α}:zpK p l≤l.length:=(List.takeWhile_prefix _).length_le
theorem zdd {x:α} {l:List α}:zpK p (x::l)=if p x=true then zpK p l+1 else 0:=by
 unfold zpK
 rw[List.takeWhile_cons]
 split<;>simp[*]
theorem zlD:∀{l:List α} {j:Nat} (hj:j<l.length),j<zpK p l→p l[j]=true
 |x::l,0,_,h=>by
  rw[zdd]at h
  split at h
  ·assumption
  ·omega
 |x::l,j+1,hj,h=>by
  rw[zdd]at h
  split at h
  ·exact zlD (l:=l) (by simpa using hj) (by omega)
  ·omega
theorem zlE:∀{l:List α} {j:Nat} (hj:j<l.length),zyA p l→zpK p l≤j→p l[j]=false
 |x::l,0,_,hm,h=>by
  rw[zdd]at h
  split at h
  ·omega
  ·rename_i hx;simpa using hx
 |x::l,j+1,hj,hm,h=>by
  have hm':=List.pairwise_cons.1 hm
  have hj':j<l.length:=by simpa using hj
  rw[zdd]at h
  split at h
  ·exact zlE (l:=l) hj' hm'.2 (by omega)
  ·rename_i hx
   have:=hm'.1 l[j] (List.getElem_mem hj')
   simp only[List.getElem_cons_succ]
   cases hc:p l[j]
   ·rfl
   ·exact absurd (this hc) hx
theorem zhj {q:α→Bool}:∀{l:List α},zyA p l→(∀x,q x=true→p x=false)→(l.Pairwise fun x y=>q y=true→p x=true)→l.find? q=(l[zpK p l]?).filter q
 |[],_,_,_=>rfl
 |x::l,hm,hq,hs=>by
  have hm':=List.pairwise_cons.1 hm
  have hs':=List.pairwise_cons.1 hs
  rw[List.find?_cons,zdd]
  cases hx:p x
  ·rw[if_neg (by simp)]
   simp only[List.getElem?_cons_zero]
   cases hqx:q x
   ·simp only[Option.filter,hqx,Bool.false_eq_true,if_false]
    rw[List.find?_eq_none]
    intro y hy hqy
    have:=hs'.1 y hy hqy
    rw[hx]at this;cases this
   ·simp[Option.filter,hqx]
  ·rw[if_pos rfl]
   have hqx:q x=false:=by
    cases hc:q x
    ·rfl
    ·have:=hq x hc;rw[hx]at this;cases this
   rw[hqx]
   simp only[List.getElem?_cons_succ]
   exact zhj hm'.2 hq hs'.2
end
def SS (l:List Sess):Prop:=l.Pairwise fun x y=>x.client<y.client
def zgx (l:List Sess) (c:Int):Nat:=zpK (fun x=>decide (x.client<c)) l
def zaC (l:List Sess) (c:Int):Option Sess:=l.find? fun x=>x.client==c
theorem zot {l:List Sess} (h:SS l) (c:Int):zyA (fun x:Sess=>decide (x.client<c)) l:=h.imp fun hxy h=>by simp at h⊢;omega
theorem zjv {l:List Sess} (h:SS l) (c:Int):zaC l c=(l[zgx l c]?).filter fun x=>x.client==c:=
 zhj (q:=fun x:Sess=>x.client==c) (zot h c) (fun x hx=>by simp at hx⊢;omega) (h.imp fun hxy h=>by simp at h⊢;omega)
def SM (l:List Memo):Prop:=l.Pairwise fun x y=>x.client<y.client
def znM (l:List Memo) (c:Int):Nat:=zpK (fun x=>decide (x.client<c)) l
def zce (l:List Memo) (c:Int):Option Memo:=l.find? fun x=>x.client==c
theorem ztf {l:List Memo} (h:SM l) (c:Int):zyA (fun x:Memo=>decide (x.client<c)) l:=h.imp fun hxy h=>by simp at h⊢;omega
theorem ztg {l:List Memo} (h:SM l) (c:Int):zce l c=(l[znM l c]?).filter fun x=>x.client==c:=
 zhj (q:=fun x:Memo=>x.client==c) (ztf h c) (fun x hx=>by simp at hx⊢;omega) (h.imp fun hxy h=>by simp at h⊢;omega)
abbrev zed (a b:ByteArray):Bool:=Go.Op.bytesLess a.toList b.toList
theorem zpL:∀{a:List UInt8},Go.Op.bytesLess a a=false
 |[]=>rfl
 |a::x=>by rw[Go.Op.bytesLess,zpL (a:=x)];simp
theorem zlF:∀{a b c:List UInt8},Go.Op.bytesLess a b=true→Go.Op.bytesLess b c=true→Go.Op.bytesLess a c=true
 |[],[],_,h,_=>by cases h
 |[],_::_,[],_,h=>by cases h
 |[],_::_,_::_,_,_=>rfl
 |_::_,[],_,h,_=>by cases h
 |_::_,_::_,[],_,h=>by cases h
 |a::x,b::y,c::z,h1,h2=>by
  rw[Go.Op.bytesLess]at*
  simp only[Bool.or_eq_true,Bool.and_eq_true,decide_eq_true_eq,beq_iff_eq]at*
  rcases h1 with h1|⟨rfl,h1⟩<;>rcases h2 with h2|⟨rfl,h2⟩
  ·exact .inl (UInt8.lt_trans h1 h2)
  ·exact .inl h1
  ·exact .inl h2
  ·exact .inr ⟨rfl,zlF h1 h2⟩
theorem zwN:∀{a b:List UInt8},Go.Op.bytesLess a b=false→Go.Op.bytesLess b a=false→a=b
 |[],[],_,_=>rfl
 |[],_::_,h,_=>by cases h
 |_::_,[],_,h=>by cases h
 |a::x,b::y,h1,h2=>by
  rw[Go.Op.bytesLess]at*
  simp only[Bool.or_eq_false_iff,Bool.and_eq_false_iff,decide_eq_false_iff_not,beq_eq_false_iff_ne]at*
  have hab:a=b:=UInt8.le_antisymm (UInt8.not_lt.1 h2.1) (UInt8.not_lt.1 h1.1)
  subst hab
  rcases h1.2 with h|h1'
  ·exact absurd rfl h
  rcases h2.2 with h|h2'
  ·exact absurd rfl h
  rw[zwN h1' h2']
def SL (l:List Lk):Prop:=l.Pairwise fun x y=>zed x.name y.name=true
def zbB (l:List Lk) (s:ByteArray):Nat:=zpK (fun x=>zed x.name s) l
def isL (s:ByteArray) (x:Lk):Bool:=x.name.toList==s.toList
def zdG (l:List Lk) (s:ByteArray):Option Lk:=l.find? (isL s)
theorem zou {l:List Lk} (h:SL l) (s:ByteArray):zyA (fun x:Lk=>zed x.name s) l:=h.imp fun hxy h=>zlF hxy h
theorem zth {l:List Lk} (h:SL l) (s:ByteArray):zdG l s=(l[zbB l s]?).filter (isL s):=
 zhj (q:=isL s) (zou h s) (fun x hx=>by
  simp only[isL,beq_iff_eq]at hx
  simp only[zed,hx,zpL]) (h.imp fun hxy h=>by
  simp only[isL,beq_iff_eq]at h
  simp only[zed]at hxy⊢
  rw[←h];exact hxy)
theorem zgy {α:Type} {o:Option α} {p:α→Bool} {x:α} (h:o.filter p=some x):o=some x∧p x=true:=by
 cases o with
 |none=>simp at h
 |some y=>
  simp only[Option.filter]at h
  split at h
  ·rename_i hp;cases h;exact⟨rfl,hp⟩
  ·cases h
theorem znf {α:Type} {l:List α} {i:Nat} {x:α} (h:l[i]? =some x):∃hi:i<l.length,l[i]=x:=by
 obtain⟨hi,h⟩:=List.getElem?_eq_some_iff.1 h
 exact⟨hi,h⟩
theorem zlG {l:List Sess} (h:SS l) {c:Int} {x:Sess} (hx:zaC l c=some x):(∃hi:zgx l c<l.length,l[zgx l c]=x)∧x.client=c:=by
 rw[zjv h]at hx
 obtain⟨h1,h2⟩:=zgy hx
 exact⟨znf h1,by simpa using h2⟩
theorem zdO {l:List Lk} (h:SL l) {s:ByteArray} {x:Lk} (hx:zdG l s=some x):(∃hi:zbB l s<l.length,l[zbB l s]=x)∧isL s x=true:=by
 rw[zth h]at hx
 obtain⟨h1,h2⟩:=zgy hx
 exact⟨znf h1,h2⟩
theorem zvy {l:List Memo} (h:SM l) {c:Int} {x:Memo} (hx:zce l c=some x):(∃hi:znM l c<l.length,l[znM l c]=x)∧x.client=c:=by
 rw[ztg h]at hx
 obtain⟨h1,h2⟩:=zgy hx
 exact⟨znf h1,by simpa using h2⟩
def zbA {α:Type} (q:Nat→α→Bool):Nat→List α→Bool
 |_,[]=>true
 |i,x::r=>if q i x=true then zbA q (i+1) r else false
theorem zcy {α:Type} {q:Nat→α→Bool}:∀{l:List α} {i:Nat},zbA q i l=true↔∀j (hj:j<l.length),q (i+j) l[j]=true
 |[],i=>by simp[zbA]
 |x::l,i=>by
  rw[zbA]
  constructor
  ·intro h
   split at h
   ·rename_i hx
    intro j hj
    cases j with
    |zero=>exact hx
    |succ j=>
     have:=zcy.1 h j (by simpa using hj)
     simp only[List.getElem_cons_succ]
     rw[show i+(j+1)=i+1+j by omega];exact this
   ·cases h
  ·intro h
   have h0:=h 0 (by simp)
   simp only[List.getElem_cons_zero,Nat.add_zero]at h0
   rw[if_pos h0,zcy]
   intro j hj
   have:=h (j+1) (by simpa using hj)
   simp only[List.getElem_cons_succ]at this
   rw[show i+1+j=i+(j+1) by omega];exact this
theorem zaT {α:Type} {q:Nat→α→Bool} {l:List α} {i:Nat} (h:i<l.length):zbA q i (l.drop i)=if q i l[i]=true then zbA q (i+1) (l.drop (i+1))else false:=by
 rw[List.drop_eq_getElem_cons h,zbA]
theorem zdW {α:Type} {q:Nat→α→Bool} {l:List α} {i:Nat} (h:i=l.length):zbA q i (l.drop i)=true:=by
 rw[h,List.drop_length,zbA]
def zh7 (s:Sess):Bool:=isClient s.client&& !(decide (s.num<1))&& !(decide (s.num>zbs))&& !(decide (s.renewed<0))&& !(decide (s.renewed>zbs))
def numbered (l:List Sess) (n:Int):Bool:=l.any fun x=>x.num==n
def zta (l:List Sess) (i:Nat):Int:=(l[i - 1]?.map Sess.client).getD 0
def zlB (l:List Sess) (i:Nat) (s:Sess):Bool:=zh7 s&& !((decide (i>0)&&decide (zta l i≥s.client))||numbered (l.take i) s.num)
def sessB (l:List Sess):Bool:= !(decide ((l.length:Int)>5))&&zbA (zlB l) 0 l
def zdN (l:List Sess) (c num now:Int):List Sess×Int:=
 if(!isClient c||decide (num<1)||decide (num>zbs)||decide (now<0)||decide (now>zbs)||(!(zaC l c).isSome&&numbered l num)||((zaC l c).isSome&&(((zaC l c).map Sess.num).getD 0 !=num)&&numbered l num))=true then([],1)else
 if(zaC l c).isSome=true then([],7)else if decide ((l.length:Int)≥5)=true then([],5)else(l.take (zgx l c)++⟨c,num,now⟩::l.drop (zgx l c),0)
def zcH (l:List Sess) (c now:Int):List Sess×Int:=
 if(decide (now<0)||decide (now>zbs))=true then([],1)else
 match zaC l c with
 |none=>([],6)
 |some x=>(l.set (zgx l c) ⟨x.client,x.num,max x.renewed now⟩,0)
def ztb (l:List Sess) (now lease:Int):List Int:=
 if(decide (now<0)||decide (now>zbs)||decide (lease<0)||decide (lease>zbs))=true then []else(l.filter fun s=>decide (now - s.renewed≥lease)).map Sess.client
def ztc (l:List Int) (i:Nat) (c:Int):Bool:= !(!isClient c||hasI (l.take i) c)
def lineB (l:List Int):Bool:=zbA (ztc l) 0 l&&decide ((l.length:Int)≤3)
def ztd (l:List Lk) (i:Nat):ByteArray:=(l[i - 1]?.map Lk.name).getD .empty
def zqN (k:Lk):Bool:=nameP k.name&& !(decide (k.holder<0))&& !(decide (k.holder≥8))&& !(decide (k.token<1))&& !(decide (k.token>zbs))
def znc (l:List Lk) (i:Nat) (k:Lk):Bool:=zqN k&& !(!lineB k.line||hasI k.line k.holder||(decide (i>0)&& !(zed (ztd l i) k.name)))&& !((l.take i).any fun o=>o.token==k.token)
def lockB (l:List Lk):Bool:=zbA (znc l) 0 l&&decide ((l.length:Int)≤4)
def znd (l:List Int) (c:Int):Int:=if zcY (fun x=>c==x) l 0≥0 then zcY (fun x=>c==x) l 0 else 0
def zaX (l:List Lk) (name:ByteArray) (c token:Int) (wait:Bool):List Lk×Int×Int:=
 match zdG l name with
 |none=>if decide ((l.length:Int)≥4)=true then([],0,5)else(l.take (zbB l name)++⟨name,c,token+1,[]⟩::l.drop (zbB l name),0,0)
 |some k=>if(k.holder==c)=true then([],0,7)else if(!wait)=true then([],0,8)else
  if hasI k.line c=true then(l,znd k.line c,10)else
  if(zjw k.line c).2.2≠0 then([],0,(zjw k.line c).2.2)else(l.set (zbB l name) ⟨k.name,k.holder,k.token,(zjw k.line c).1⟩,(zjw k.line c).2.1,10)
def zgw (l:List Lk) (i:Nat) (k:Lk) (token:Int):List Lk×Int:=
 match k.line with
 |[]=>(l.eraseIdx i,0)
 |c::rest=>(l.set i ⟨k.name,c,token+1,rest⟩,1)
def zbV (l:List Lk) (name:ByteArray) (c token:Int):List Lk×Int×Int:=
 match zdG l name with
 |none=>([],0,6)
 |some k=>if(k.holder==c)=true then((zgw l (zbB l name) k token).1,(zgw l (zbB l name) k token).2,0)else
  if hasI k.line c=true then(l.set (zbB l name) ⟨k.name,k.holder,k.token,(zhk k.line c).1⟩,0,0)else([],0,6)
def zcd (gone:List Int) (token:Int):List Lk→Int→List Lk×Int
 |[],g=>([],g)
 |k::r,g=>if hasI gone k.holder=true then
   match k.line with
   |[]=>zcd gone token r g
   |c::rest=>(⟨k.name,c,token+g+1,rest⟩::(zcd gone token r (g+1)).1,(zcd gone token r (g+1)).2)
  else(k::(zcd gone token r g).1,(zcd gone token r g).2)
def zam (gone:List Int) (k:Lk):Lk:=⟨k.name,k.holder,k.token,za6 k.line gone⟩
def zen (l:List Lk) (gone:List Int) (token:Int):List Lk×Int:=zcd gone token (l.map (zam gone)) 0
def zb5 (l:List Lk) (c:Int):List Grant:=(l.filter fun k=>k.holder==c).map fun k=>⟨k.name,k.token⟩
def zqO (l:List Grant) (i:Nat):ByteArray:=(l[i - 1]?.map Grant.name).getD .empty
def zcs (l:List Grant) (i:Nat) (g:Grant):Bool:= !(!nameP g.name||decide (g.token<1)||decide (g.token>zbs)||(decide (i>0)&& !(zed (zqO l i) g.name)))
def zbU (r:Reply):Bool:=
 !(decide (r.code<0)||decide (r.code>12)||decide (r.session<0)||decide (r.session>zbs)||decide (r.ahead<0)||decide (r.ahead>3))&&
 !(decide ((r.held.length:Int)>4)||((r.session==0)&&decide ((r.held.length:Int)>0)))&&zbA (zcs r.held) 0 r.held
def answerB (m:Memo):Bool:=decide (m.client≥0)&&decide (m.client<8)&&decide (m.seq≥1)&&decide (m.seq≤zbs)&&zbU m.reply
def zte (l:List Memo) (i:Nat):Int:=(l[i - 1]?.map Memo.client).getD 0
def zne (l:List Memo) (i:Nat) (m:Memo):Bool:= !(!answerB m||(decide (i>0)&&decide (zte l i≥m.client)))
def memoB (l:List Memo):Bool:=zbA (zne l) 0 l
def zdb (l:List Memo) (c seq:Int):Int:=
 match zce l c with
 |none=>1
 |some m=>if m.seq<seq then 1 else if m.seq=seq then 0 else -1
def zlC (l:List Memo) (a:Memo):List Memo:=
 if(!answerB a||(zdb l a.client a.seq !=1))=true then l else
 if(zce l a.client).isSome=true then l.set (znM l a.client) a else l.take (znM l a.client)++a::l.drop (znM l a.client)
def within (n:Int):Bool:=decide (n≥0)&&decide (n≤zbs)
def zhQ (s:St):Bool:=s.locks.all fun k=>(k.holder::k.line).all fun c=>(zaC s.sess c).isSome
def zdc (s:St):Bool:=within s.time&&within s.num&&within s.token&&sessB s.sess&&lockB s.locks&&memoB s.memos&&(s.sess.all fun x=>decide (x.num≤s.num))&&(s.locks.all fun k=>decide (k.token≤s.token))&&zhQ s
def zbE (s:St) (gone:List Int):St:=⟨s.time,s.num,s.token+(zen s.locks gone s.token).2,s.sess.filter fun x=> !hasI gone x.client,(zen s.locks gone s.token).1,s.memos⟩
def zeH (s:St) (time:Int):Int:=if(decide (time>s.time)&&decide (time≤zbs))=true then time else s.time
def zcz (s:St) (time lease:Int):St:=zbE {s with time:=zeH s time} (ztb s.sess (zeH s time) (max lease 1))
def rpl (code session ahead:Int) (held:List Grant):Reply:=⟨code,session,ahead,held⟩
def zcU (s:St) (c:Int):St×Reply:=
 match zaC s.sess c with
 |some x=>(s,⟨7,x.num,0,zb5 s.locks c⟩)
 |none=>if(zdN s.sess c (s.num+1) s.time).2≠0 then(s,⟨(zdN s.sess c (s.num+1) s.time).2,0,0,[]⟩)else
  ({s with sess:=(zdN s.sess c (s.num+1) s.time).1,num:=s.num+1},⟨0,s.num+1,0,zb5 s.locks c⟩)
def zbu (s:St) (r:Req):St×Reply:=
 if(r.kind==1)=true then zcU s r.client else
 match zaC s.sess r.client with
 |none=>(s,⟨9,0,0,[]⟩)
 |some x=>if(x.num !=r.session)=true then(s,⟨9,0,0,[]⟩)else
  let s1:St:={s with sess:=(zcH s.sess r.client s.time).1}
  if(r.kind==3||r.kind==4)=true then
   let t:=zaX s1.locks r.name r.client s1.token (r.kind==3)
   let s2:St:=if t.2.2=0 then {s1 with locks:=t.1,token:=s1.token+1}else if t.2.2=10 then {s1 with locks:=t.1}else s1
   (s2,⟨t.2.2,x.num,if t.2.2=10 then t.2.1 else 0,zb5 s2.locks r.client⟩)
  else if(r.kind==5)=true then
   let t:=zbV s1.locks r.name r.client s1.token
   let s2:St:=if t.2.2=0 then {s1 with locks:=t.1,token:=s1.token+t.2.1}else s1
   (s2,⟨t.2.2,x.num,0,zb5 s2.locks r.client⟩)
  else if(r.kind==6)=true then(zbE s1 [r.client],⟨0,0,0,[]⟩)
  else(s1,⟨0,x.num,0,zb5 s1.locks r.client⟩)
def zeI (s:St) (r:Req):St×Reply×Bool:=
 if(!Req.may r)=true then(s,⟨1,0,0,[]⟩,false)else
 if zdb s.memos r.client r.seq= -1 then(s,⟨0,0,0,[]⟩,false)else
 if zdb s.memos r.client r.seq=0 then(s,((zce s.memos r.client).map Memo.reply).getD ⟨0,0,0,[]⟩,false)else
 ({(zbu s r).1 with memos:=zlC (zbu s r).1.memos ⟨r.client,r.seq,(zbu s r).2⟩},(zbu s r).2,true)
def zC6 (a b:St):List Int:=(a.sess.filter fun x=> !((zaC b.sess x.client).any fun y=>y.num==x.num)).map Sess.client
theorem zto {a b:Int}:(ztj a b==0)=(a==b):=by
 unfold ztj
 split
 ·rw[Bool.eq_iff_iff];simp;omega
 ·split
  ·rw[Bool.eq_iff_iff];simp;omega
  ·rw[Bool.eq_iff_iff];simp;omega
theorem ztp {a b:Int}:ztj a b<0↔a<b:=by
 unfold ztj
 split
 ·simp;omega
 ·split<;>simp<;>omega
theorem zvA {α:Type} {o:Option α} {p:α→Bool}:(o.filter p).isSome=(o.map p).getD false:=by
 cases o with
 |none=>rfl
 |some x=>simp only[Option.filter,Option.map_some,Option.getD_some];cases p x<;>rfl
theorem zx0 (x:Sess) (n:Int):CallOK Tryz.prog 193 [.f (zng x), .f (.one (.elt [iD n]))] (fun r o=>r=[rb (x.num==n)]∧o=[]):=by
 refine zh Tryz.func193 Tryz.results193 Tryz.ntmps193 Tryz.call193 ?_
 simp only[Tryz.f193,Option.getD]
 repeat'(first|exact zC|refine zq0 ?_|(apply zaa<;>intro hb)|(apply I;exact zI)|(apply I<;>intro hg))
theorem zow (l:List Sess) (hl:l.length<2^62) (n:Int):CallOK Tryz.prog 163 [.f (al l.length (zaQ l)), .f (ai n)] (fun r o=>r=[rb (numbered l n)]∧o=[]):=by
 refine zh Tryz.func163 Tryz.results163 Tryz.ntmps163 Tryz.call163 ?_
 simp only[Tryz.f163,Option.getD]
 have h:=zlJ l hl (fun x=>x.num==n) 193 [.elt [iD n]] rfl rfl (fun x _=>zx0 x n)
 repeat'(first|exact zC|refine zq0 ?_|refine zx (h) ?_|(apply zaa<;>intro hb)|(apply I;exact zI)|(apply I<;>intro hg))
 rfl
theorem zqS (x:Sess) (c:Int):CallOK Tryz.prog 212 [.f (zng x), .f (ai c)] (fun r o=>r=[ri (ztj x.client c)]∧o=[]):=by
 refine zh Tryz.func212 Tryz.results212 Tryz.ntmps212 Tryz.call212 ?_
 simp only[Tryz.f212,Option.getD]
 repeat'(first|exact zC|refine zq0 ?_|refine zx (zov x.client c) ?_|(apply zaa<;>intro hb)|(apply I;exact zI)|(apply I<;>intro hg))
theorem ztq (l:List Sess) (hs:SS l) (hl:l.length<2^62) (c:Int):CallOK Tryz.prog 197 [.f (al l.length (zaQ l)), .f (ai c)] (fun r o=>r=[ri (zgx l c),rb (zaC l c).isSome]∧o=[]):=by
 refine zh Tryz.func197 Tryz.results197 Tryz.ntmps197 Tryz.call197 ?_
 simp only[Tryz.f197,Option.getD]
 have h:=znh l hl c (fun x=>ztj x.client c) 212 (zgx l c) zos
  (fun j hj h=>by have:=zlD hj h;simp at this;exact ztp.2 this)
  (fun j hj h=>by have:=zlE hj (zot hs c) h;simp at this;have h2:= @ztp l[j].client c;omega) (fun x _=>zqS x c)
 have e:((l[zgx l c]?.map fun x=>ztj x.client c==0).getD false)=(zaC l c).isSome:=by
  rw[zjv hs,zvA]
  simp only[zto]
 rw[e]at h
 repeat'(first|exact zC|refine zq0 ?_|refine zx (h) ?_|(apply zaa<;>intro hb)|(apply I;exact zI)|(apply I<;>intro hg))
theorem zx1 {a b a' b':RO}:zaG [.one a, .one b] [.one a', .one b']=(zaw a a'∧zaw b b'∧True):=rfl
def ze7:Sess:=⟨0,0,0⟩
theorem zvB (l:List Sess) (hs:SS l) (hl:l.length<2^62) (c:Int):CallOK Tryz.prog 168 [.f (al l.length (zaQ l)), .f (ai c)]
  (fun r o=>r=[.agg [.d (iD ((zaC l c).getD ze7).client), .d (iD ((zaC l c).getD ze7).num), .d (iD ((zaC l c).getD ze7).renewed)],rb (zaC l c).isSome]∧o=[]):=by
 refine zh Tryz.func168 Tryz.results168 Tryz.ntmps168 Tryz.call168 ?_
 simp only[Tryz.f168,Option.getD]
 have h:=ztq l hs hl c
 cases hf:zaC l c with
 |none=>
  rw[hf]at h
  simp only[Option.isSome_none]at h
  repeat'(first|exact zC|refine zq0 ?_|refine zx (h) ?_|(apply zaa<;>intro hb)|(apply I;exact zI)|(apply I<;>intro hg))
  rfl
 |some x=>
  rw[hf]at h
  simp only[Option.isSome_some]at h
  rw[zjv hs]at hf
  have hg:l[zgx l c]? =some x:=by
   cases hq:l[zgx l c]? with
   |none=>rw[hq]at hf;simp at hf
   |some y=>rw[hq]at hf;simp only[Option.filter]at hf;split at hf<;>simp_all
  obtain⟨hi,he⟩:=List.getElem?_eq_some_iff.1 hg
  have hat:=zcb hi
  rw[he]at hat
  simp only[List.cons_append,List.nil_append]at hat
  repeat'(first|exact zC|refine zq (I hat @zat) ?_|refine zx (h) ?_|(apply zaa<;>intro hb)|(apply I;exact zI)|(apply I<;>intro hg))
  rfl
theorem znl (l:List Sess) (hl:l.length<2^30):CallOK Tryz.prog 120 [.f (al l.length (zaQ l))] (fun r o=>r=[rb (sessB l)]∧o=[]):=by
 refine zh Tryz.func120 Tryz.results120 Tryz.ntmps120 Tryz.call120 ?_
 simp only[Tryz.f120,Option.getD]
 cases h5:decide ((l.length:Int)>5)
 ·have hs:sessB l=zbA (zlB l) 0 l:=by rw[sessB,h5];rfl
  rw[hs]
  repeat'(first|exact zC|refine zq (I h5 @zat) ?_|(apply zaa<;>intro hb)|(apply I;exact zI)|(apply I<;>intro hg))
  refine zaf (τ:=Nat) (fun i=>⟨(al l.length (zaQ l)::dq7 (al l.length (zaQ l)::ai l.length::ai i::znW (zdP []))),[(4,⟨2,[]⟩)]⟩)
   (fun i=>i≤l.length) (fun i=>zbA (zlB l) i (l.drop i)) (fun i=>l.length - i) 0
   (Gh.canon [] [4] [] zK rfl rfl) (Nat.zero_le _) ?_
  intro i hi0 hF K hK
  simp only[List.drop_zero]at hF hK⊢
  refine zw ?_
  refine zaa (fun hlt=> ?_) (fun hge=> ?_)
  ·have hi:i<l.length:=by simpa using hlt
   have hat:=zcb hi
   simp only[List.cons_append,List.nil_append]at hat
   have hw:=zai hi (by omega)
   rw[zaT hi]at hF
   have hcl:=zlI l[i].client
   have hnb:=zow (l.take i) (by rw[List.length_take];omega) l[i].num
   have hlt2:(l.take i).length=i:=by rw[List.length_take];omega
   have htk:(zaQ l).take (i*3)=zaQ (l.take i):=zgP Sess.enc 3 (fun _=>rfl) (by omega)
   rw[hlt2]at hnb
   cases e0:decide ((i:Int)>0)
   ·have hq:zlB l i l[i]=(!(!(decide (l[i].client≥0)&&decide (l[i].client<8))||decide (l[i].num<1)||decide (l[i].num>2305843009213693952)||decide (l[i].renewed<0)||decide (l[i].renewed>2305843009213693952))&& !(numbered (l.take i) l[i].num)):=by
     unfold zlB zh7 isClient
     have:decide (i>0)=false:=by simpa using e0
     rw[this]
     simp only[Bool.not_or,Bool.not_not,Bool.false_and,Bool.false_or]
    have h0:i=0:=by simpa using e0
    have hp:(zaQ l).drop ((IntKind.i64.wrap ((i:Int) - 1)).toNat*3)=l[i].enc++zaQ (l.drop (i+1)):=by
     rw[←zcb hi,h0];rfl
    repeat'(first|exact zC|refine zq (I hat (I hp (I htk (I e0 (I @zat zca))))) ?_|refine zx (hcl) ?_|refine zx (hnb) ?_|(apply zaa<;>intro hb)|(apply I;exact zI)|(apply I<;>intro hg))
    ·rw[hq,hb,if_neg (by simp)]at hF
     rw[←hF]
    ·rename_i ha
     rw[hq,ha,hb,if_neg (by simp)]at hF
     rw[←hF]
    ·rename_i ha
     exact hK _ (i+1) (Gh.canon [] [] [] (zk hw) rfl rfl) hi (by rw[zaT hi,hq,ha,hb];rfl) (by omega)
   ·have hq:zlB l i l[i]=(!(!(decide (l[i].client≥0)&&decide (l[i].client<8))||decide (l[i].num<1)||decide (l[i].num>2305843009213693952)||decide (l[i].renewed<0)||decide (l[i].renewed>2305843009213693952))&& !(decide ((l[i - 1]'(by omega)).client≥l[i].client)||numbered (l.take i) l[i].num)):=by
     unfold zlB zh7 isClient zta
     have:decide (i>0)=true:=by simpa using e0
     rw[this,List.getElem?_eq_getElem (by omega)]
     simp only[Bool.not_or,Bool.not_not,Bool.true_and,Option.map_some,Option.getD_some]
    have h0:0<i:=by simpa using e0
    have hp:=zcb (show i - 1<l.length by omega)
    have hw1:IntKind.i64.wrap ((i:Int) - 1)=((i - 1:Nat):Int):=by rw[wrap64 (by omega) (by omega)];omega
    repeat'(first|exact zC|refine zq (I hat (I hp (I hw1 (I htk (I e0 (I @zat zca)))))) ?_|refine zx (hcl) ?_|refine zx (hnb) ?_|(apply zaa<;>intro hb)|(apply I;exact zI)|(apply I<;>intro hg))
    ·rw[hq,hb,if_neg (by simp)]at hF
     rw[←hF]
    ·rename_i ha
     rw[hq,ha,hb,if_neg (by simp)]at hF
     rw[←hF]
    ·rename_i ha
     exact hK _ (i+1) (Gh.canon [] [] [] (zk hw) rfl rfl) hi (by rw[zaT hi,hq,ha,hb];rfl) (by omega)
  ·have hi:i=l.length:=by
    have:¬(i:Int)<l.length:=by simpa using hge
    omega
   rw[zdW hi]at hF
   rw[←hF]
   repeat'(first|exact zC|refine zq0 ?_|(apply zaa<;>intro hb)|(apply I;exact zI)|(apply I<;>intro hg))
 ·have hs:sessB l=false:=by rw[sessB,h5];rfl
  rw[hs]
  repeat'(first|exact zC|refine zq (I h5 @zat) ?_|(apply zaa<;>intro hb)|(apply I;exact zI)|(apply I<;>intro hg))
def zDd (a b:ByteArray):Int:=Lib.compareBytes a.data.toList b.data.toList
theorem znj (l:List Int) (hl:l.length<2^30):CallOK Tryz.prog 164 [.f (al l.length (zaB l))] (fun r o=>r=[rb (lineB l)]∧o=[]):=by
 refine zh Tryz.func164 Tryz.results164 Tryz.ntmps164 Tryz.call164 ?_
 simp only[Tryz.f164,Option.getD]
 repeat'(first|exact zC|refine zq @zaA ?_|(apply zaa<;>intro hb)|(apply I;exact zI)|(apply I<;>intro hg))
 refine zaf (τ:=Nat) (fun i=>⟨(al l.length (zaB l)::dq4 (al l.length (zaB l)::ai l.length::ai i::zug [])),[]⟩)
  (fun i=>i≤l.length) (fun i=>zbA (ztc l) i (l.drop i)) (fun i=>l.length - i) 0
  (Gh.canon [] [] [] zK rfl rfl) (Nat.zero_le _) ?_
 intro i hi0 hF K hK
 rw[List.drop_zero]at hF
 refine zw ?_
 refine zaa (fun hlt=> ?_) (fun hge=> ?_)
 ·have hi:i<l.length:=by simpa using hlt
  have hat:=zcu hi
  have hw:=zai hi (by omega)
  rw[zaT hi]at hF
  have hcl:=zlH l[i]
  have hlt2:(l.take i).length=i:=by rw[List.length_take];omega
  have htk:(zaB l).take i=zaB (l.take i):=ztk (by omega)
  have hco:=zh8 (l.take i) (by omega) l[i]
  rw[hlt2]at hco
  have hq:ztc l i l[i]= !(!(decide (l[i]≥0)&&decide (l[i]<8))||(l.take i).any fun x=>l[i]==x):=rfl
  repeat'(first|exact zC|refine zq (I hat (I htk (I @zaA zca))) ?_|refine zx (hcl) ?_|refine zx (hco) ?_|(apply zaa<;>intro hb)|(apply I;exact zI)|(apply I<;>intro hg))
  ·rw[hq,hb,if_neg (by simp)]at hF
   unfold lineB
   rw[←hF];rfl
  ·exact hK _ (i+1) (Gh.canon [] [] [] (zk hw) rfl rfl) hi (by rw[zaT hi,hq,hb];rfl) (by omega)
 ·have hi:i=l.length:=by
   have:¬(i:Int)<l.length:=by simpa using hge
   omega
  rw[zdW hi]at hF
  unfold lineB
  rw[←hF]
  repeat'(first|exact zC|refine zq0 ?_|(apply zaa<;>intro hb)|(apply I;exact zI)|(apply I<;>intro hg))
theorem zqR (k j:Lk):CallOK Tryz.prog 167 [.f (ztm k), .f (.one (.elt j.enc))] (fun r o=>r=[rb (k.token==j.token)]∧o=[]):=by
 refine zh Tryz.func167 Tryz.results167 Tryz.ntmps167 Tryz.call167 ?_
 simp only[Tryz.f167,Option.getD]
 repeat'(first|exact zC|refine zq0 ?_|(apply zaa<;>intro hb)|(apply I;exact zI)|(apply I<;>intro hg))
theorem znk (l:List Lk) (hl:l.length<2^30) (hll:∀k∈l,k.line.length<2^30∧k.name.size<2^62):CallOK Tryz.prog 121 [.f (al l.length (zaj l))] (fun r o=>r=[rb (lockB l)]∧o=[]):=by
 refine zh Tryz.func121 Tryz.results121 Tryz.ntmps121 Tryz.call121 ?_
 simp only[Tryz.f121,Option.getD]
 repeat'(first|exact zC|refine zq @zah ?_|(apply zaa<;>intro hb)|(apply I;exact zI)|(apply I<;>intro hg))
 refine zaf (τ:=Nat) (fun i=>⟨(al l.length (zaj l)::dq4 (al l.length (zaj l)::ai l.length::ai i::zzF (zdP []))),[(4,⟨2,[]⟩)]⟩)
  (fun i=>i≤l.length) (fun i=>zbA (znc l) i (l.drop i)) (fun i=>l.length - i) 0
  (Gh.canon [] [4] [] zK rfl rfl) (Nat.zero_le _) ?_
 intro i hi0 hF K hK
 rw[List.drop_zero]at hF
 refine zw ?_
 refine zaa (fun hlt=> ?_) (fun hge=> ?_)
 ·have hi:i<l.length:=by simpa using hlt
  have hat:=za9 hi
  obtain⟨hk1,hk2⟩:=hll _ (List.getElem_mem hi)
  have hw:=zai hi (by omega)
  rw[zaT hi]at hF
  have hnm:=zlL l[i].name hk2
  have hlr:=znj l[i].line hk1
  have hlc:=zh8 l[i].line (by omega) l[i].holder
  have hlt2:(l.take i).length=i:=by rw[List.length_take];omega
  have htk:(zaj l).take (i*4)=zaj (l.take i):=zgP Lk.enc 4 (fun _=>rfl) (by omega)
  have hco:=zlK (l.take i) (by omega) (fun o=>o.token==l[i].token) 167 [.elt l[i].enc] rfl rfl (fun x _=>zqR x _)
  rw[hlt2]at hco
  cases e0:decide ((i:Int)>0)
  ·have h0:i=0:=by simpa using e0
   have hq:znc l i l[i]=(!(!nameP l[i].name||decide (l[i].holder<0)||decide (l[i].holder≥8)||decide (l[i].token<1)||decide (l[i].token>2305843009213693952))&& !(!lineB l[i].line||l[i].line.any fun x=>l[i].holder==x)&& !((l.take i).any fun o=>o.token==l[i].token)):=by
    unfold znc zqN hasI
    have:decide (i>0)=false:=by simpa using e0
    rw[this]
    simp only[Bool.not_or,Bool.not_not,Bool.false_and,Bool.or_false]
   have hp:(zaj l).drop ((IntKind.i64.wrap ((i:Int) - 1)).toNat*4)=l[i].enc++zaj (l.drop (i+1)):=by
    rw[←za9 hi,h0];rfl
   repeat'(first|exact zC|refine zq (I hat (I hp (I htk (I e0 (I @zah zca))))) ?_|refine zx (hnm) ?_|refine zx (hlr) ?_|refine zx (hlc) ?_|refine zx (hco) ?_|(apply zaa<;>intro hb)|(apply I;exact zI)|(apply I<;>intro hg))
   ·rw[hq,hb,if_neg (by simp)]at hF
    unfold lockB
    rw[←hF];rfl
   ·rename_i ha
    rw[hq,ha,hb,if_neg (by simp)]at hF
    unfold lockB
    rw[←hF];rfl
   ·rename_i ha hc
    rw[hq,ha,hc,hb,if_neg (by simp)]at hF
    unfold lockB
    rw[←hF];rfl
   ·rename_i ha hc
    exact hK _ (i+1) (Gh.canon [] [] [] (zk hw) rfl rfl) hi (by rw[zaT hi,hq,ha,hc,hb];rfl) (by omega)
  ·have h0:0<i:=by simpa using e0
   have hq:znc l i l[i]=(!(!nameP l[i].name||decide (l[i].holder<0)||decide (l[i].holder≥8)||decide (l[i].token<1)||decide (l[i].token>2305843009213693952))&& !(!lineB l[i].line||(l[i].line.any fun x=>l[i].holder==x)|| !(zed (l[i - 1]'(by omega)).name l[i].name))&& !((l.take i).any fun o=>o.token==l[i].token)):=by
    unfold znc zqN hasI ztd
    have:decide (i>0)=true:=by simpa using e0
    rw[this,List.getElem?_eq_getElem (by omega)]
    simp only[Bool.not_or,Bool.not_not,Bool.true_and,Option.map_some,Option.getD_some]
   have hp:=za9 (show i - 1<l.length by omega)
   have hw1:IntKind.i64.wrap ((i:Int) - 1)=((i - 1:Nat):Int):=by rw[wrap64 (by omega) (by omega)];omega
   repeat'(first|exact zC|refine zq (I hat (I hp (I hw1 (I htk (I e0 (I @zah zca)))))) ?_|refine zx (hnm) ?_|refine zx (hlr) ?_|refine zx (hlc) ?_|refine zx (hco) ?_|(apply zaa<;>intro hb)|(apply I;exact zI)|(apply I<;>intro hg))
   ·rw[hq,hb,if_neg (by simp)]at hF
    unfold lockB
    rw[←hF];rfl
   ·rename_i ha
    rw[hq,ha,hb,if_neg (by simp)]at hF
    unfold lockB
    rw[←hF];rfl
   ·rename_i ha hc
    rw[hq,ha,hc,hb,if_neg (by simp)]at hF
    unfold lockB
    rw[←hF];rfl
   ·rename_i ha hc
    exact hK _ (i+1) (Gh.canon [] [] [] (zk hw) rfl rfl) hi (by rw[zaT hi,hq,ha,hc,hb];rfl) (by omega)
 ·have hi:i=l.length:=by
   have:¬(i:Int)<l.length:=by simpa using hge
   omega
  rw[zdW hi]at hF
  unfold lockB
  rw[←hF]
  repeat'(first|exact zC|refine zq0 ?_|(apply zaa<;>intro hb)|(apply I;exact zI)|(apply I<;>intro hg))
def curL (l:List Lk) (gone:List Int) (i:Nat):List Lk:=(l.take i).map (zam gone)++l.drop i
theorem zvC {l:List Lk} {gone:List Int} {i:Nat} (hi:i≤l.length):(curL l gone i).length=l.length:=by
 unfold curL
 rw[List.length_append,List.length_map,List.length_take,List.length_drop];omega
theorem zx2 {l:List Lk} {gone:List Int} {i:Nat} (hi:i<l.length):∃h:i<(curL l gone i).length,(curL l gone i)[i]=l[i]:=by
 have hl:((l.take i).map (zam gone)).length=i:=by rw[List.length_map,List.length_take];omega
 have h:(curL l gone i)[i]? =some l[i]:=by
  unfold curL
  rw[List.getElem?_append_right (by omega),hl,Nat.sub_self,List.getElem?_drop,Nat.add_zero,List.getElem?_eq_getElem hi]
 exact znf h
theorem ztr {l:List Lk} {gone:List Int} {i:Nat} (hi:i<l.length):(curL l gone i).set i (zam gone l[i])=curL l gone (i+1):=by
 have hl:((l.take i).map (zam gone)).length=i:=by rw[List.length_map,List.length_take];omega
 unfold curL
 rw[List.set_append_right _ _ (by omega),hl,Nat.sub_self,List.drop_eq_getElem_cons hi,List.set_cons_zero,List.take_add_one,List.getElem?_eq_getElem hi]
 simp only[Option.toList,List.map_append,List.map_cons,List.map_nil,List.append_assoc,List.cons_append,List.nil_append]
theorem zvD (l:List Lk) (gone:List Int):curL l gone l.length=l.map (zam gone):=by
 unfold curL
 rw[List.take_length,List.drop_length,List.append_nil]
theorem zqT {gone:List Int} {t:Int} {L:List Lk} {i:Nat} {g:Int} (hi:i<L.length):zcd gone t (L.drop i) g=if hasI gone L[i].holder=true then
   match L[i].line with
   |[]=>zcd gone t (L.drop (i+1)) g
   |c::rest=>(⟨L[i].name,c,t+g+1,rest⟩::(zcd gone t (L.drop (i+1)) (g+1)).1,(zcd gone t (L.drop (i+1)) (g+1)).2)
  else(L[i]::(zcd gone t (L.drop (i+1)) g).1,(zcd gone t (L.drop (i+1)) g).2):=by
 rw[List.drop_eq_getElem_cons hi,zcd]
 all_goals (cases L[i].line<;>rfl)
end Go.Proofs.YtliimajkpggbhaaGreat
