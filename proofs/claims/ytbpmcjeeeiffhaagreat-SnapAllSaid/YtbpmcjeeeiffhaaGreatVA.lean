import Derived.Test.YtbpmcjeeeiffhaaGreatTy
import Derived.Test.YtbpmcjeeeiffhaaGreatK8
import Derived.KernelRfl
namespace Go.Proofs.YtbpmcjeeeiffhaaGreat
open Go.Pk
set_option maxRecDepth 100000
set_option linter.unusedSimpArgs false
set_option linter.unusedVariables false
theorem zxg:(([24,38,101]:List Nat)).all (eqB Tryz.prog)=true:=by kernel_rfl
theorem zam:TOK Tryz.prog Ty:=ztC fun t ht=>List.all_eq_true.1 zxg t ht
theorem mixed:Tryz.prog.follows .mixedOrders=true:=by kernel_rfl
def zfW (c:UInt8):Bool:= !((decide ((c.toNat:Int)<97)||decide ((c.toNat:Int)>122))&&(decide ((c.toNat:Int)<48)||decide ((c.toNat:Int)>57))&&((c.toNat:Int) !=45))
def nameP (s:ByteArray):Bool:=((List.range s.size).all fun j=>zfW (s.data.getD j 0))&&(decide ((s.size:Int)≥1)&&decide ((s.size:Int)≤12))
theorem zpo (s:ByteArray) (hs:s.size<2^62):CallOK Tryz.prog 124 [.f (ast s)] (fun r o=>r=[rb (nameP s)]∧o=[]):=by
 refine zae zam mixed (T:=Ty) (n:=40) Tryz.func124 (c:=Tryz.f124.body.getD .skip) rfl Tryz.results124 Tryz.ntmps124 Tryz.call124 ?_
 simp only[Tryz.f124,Option.getD]
 refine zw ?_
 refine zfV Ty Tryz.prog (τ:=Nat) (fun i=>⟨[ast s,dd,ab false,dd,dd,ast s,ai s.size,ai i,dd,dd,dd,dd,dd,dd,dd,dd,dd,dd,dd,dd,dd,dd,dd,dd,dd,dd,dd,dd,dd,dd,dd,dd,dd,dd,dd,dd,dd,dd,dd,dd],[]⟩) (fun i=>i≤s.size∧∀j,j<i→zfW (s.data.getD j 0)=true) (fun i=>s.size - i) 0 ?_ ⟨Nat.zero_le _,fun j hj=>absurd hj (Nat.not_lt_zero j)⟩ ?_
 ·refine Gh.fgt ?_
  simp only[zb1,zb2,zcF,Int.natCast_zero]
 intro i ⟨h1,h2⟩ K hK
 refine zw ?_
 rw[zeY]
 refine⟨trivial,fun hlt=> ?_,fun hge=> ?_⟩
 ·refine zw ?_
  have hi:i<s.size:=by simpa using hlt
  refine⟨⟨Int.natCast_nonneg i,by omega⟩,zpl (fun a b=>by rw[a,b];rfl), ?_⟩
  have hok:zfW (s.data.getD i 0)= !((decide (((s.data.getD i 0).toNat:Int)<97)||decide (((s.data.getD i 0).toNat:Int)>122))&&(decide (((s.data.getD i 0).toNat:Int)<48)||decide (((s.data.getD i 0).toNat:Int)>57))&&(((s.data.getD i 0).toNat:Int) !=45)):=rfl
  rw[zeY]
  refine⟨trivial,fun hb=> ?_,fun hb=> ?_⟩
  ·rw[hb]at hok
   refine zw ?_
   have hn:nameP s=false:=by
    unfold nameP
    rw[show((List.range s.size).all fun j=>zfW (s.data.getD j 0))=false from List.all_eq_false.2 ⟨i,List.mem_range.2 hi,by rw[hok];simp⟩,Bool.false_and]
   rw[hn]
  ·rw[hb]at hok
   refine zw ?_
   refine hK _ (i+1) (Gh.fgt ?_) ⟨hi,fun j hj=> ?_⟩ (by omega)
   ·have hw:IntKind.i64.wrap ((i:Int)+1)=((i+1:Nat):Int):=by rw[wrap64 (by omega) (by omega)];rfl
    simp only[hw,zb1,zb2,zcF]
   ·rcases Nat.lt_or_ge j i with h|h
    ·exact h2 j h
    ·rw[show j=i from by omega,hok];rfl
 ·refine zw ?_
  have hi:i=s.size:=by
   have:¬(i:Int)<s.size:=by simpa using hge
   omega
  have hn:nameP s=(decide ((s.size:Int)≥1)&&decide ((s.size:Int)≤12)):=by
   unfold nameP
   rw[show((List.range s.size).all fun j=>zfW (s.data.getD j 0))=true from List.all_eq_true.2 fun j hj=>h2 j (by rw[hi];exact List.mem_range.1 hj),Bool.true_and]
  rw[hn]
def zxh (k n:Int) (s:ByteArray):Bool:=
 if(decide (k<1)||decide (k>6))=true then false else
 if((k==3||k==4||k==5)&& !nameP s|| !(k==3||k==4||k==5)&& !s.toList==(⟨#[]⟩:ByteArray).toList)=true then false else
 if(k==1)=true then n==0 else decide (n≥1)&&decide (n≤2305843009213693952)
def Req.may (r:Req):Bool:=(decide (r.client≥0)&&decide (r.client<8)&&decide (r.seq≥1)&&decide (r.seq≤zdu))&&zxh r.kind r.session r.name
def zgX {α:Type} (p:α→Bool):List α→Int→Int
 |[],_=> -1
 |x::l,i=>if p x=true then i else zgX p l (i+1)
theorem zi9 {α:Type} (p:α→Bool) (l:List α):decide (zgX p l 0≥0)=l.any p:=by
 have h:∀(l:List α) (i:Int),0≤i→(0≤zgX p l i↔l.any p=true):=by
  intro l
  induction l with
  |nil=>intro i _;simp[zgX]
  |cons x l ih=>
   intro i hi
   simp only[zgX]
   by_cases hx:p x=true
   ·simp[hx,hi]
   ·rw[if_neg hx,ih (i+1) (by omega)];simp[hx]
 rw[Bool.eq_iff_iff]
 simpa using h l 0 (Int.le_refl _)
theorem zai {i n:Nat} (h:i<n) (hn:n<2^62):IntKind.i64.wrap ((i:Int)+1)=((i+1:Nat):Int):=by rw[wrap64 (by omega) (by omega)];rfl
theorem zqd {n:Nat} (h:n<2^63):IntKind.u64.wrap (n:Int)=n:=by
 unfold IntKind.wrap
 simp[IntKind.signed,IntKind.bits]
 omega
theorem zuC:Go.Pk.bad.x= .one .dead:=rfl
abbrev zxf:Int→AV:=fun x=> .one (di x)
abbrev zkc:Sess→AV:=fun x=> .agg (x.enc.map C.d)
abbrev zoh:Lk→AV:=fun x=> .agg (x.enc.map C.d)
abbrev zuX:Memo→AV:=fun x=> .agg (x.enc.map C.d)
theorem zna (l:List Sess) (hl:l.length<2^62) (p:Sess→Bool) (f:Nat) (caps:List C) (hc:lendAs [] (caps.map AV.one)=some (caps.map fun c=> .f (.one c)))
  (hp:∀x∈l,CallOK Tryz.prog f (.f (zkc x)::caps.map fun c=> .f (.one c)) (fun r o=>r=[rb (p x)]∧o=[])):
  CallOK Tryz.prog 155 [.f (al l.length (zaN l)), .f (.one (.clos f caps))] (fun r o=>r=[ri (zgX p l 0)]∧o=[]):=by
 refine zae zam mixed (T:=Ty) (n:=19) Tryz.func155 (c:=Tryz.f155.body.getD .skip) rfl Tryz.results155 Tryz.ntmps155 Tryz.call155 ?_
 simp only[Tryz.f155,Option.getD]
 refine zw ?_
 refine zah (τ:=Nat) (fun i=>⟨[al l.length (zaN l), .one (.clos f caps),dd,dd,ai 0,dd,al l.length (zaN l),ai l.length,ai i,dd,dd,dd,dd,dd,dd,dd,dd,dd,dd],[]⟩) (fun i=>i≤l.length) (fun i=>zgX p (l.drop i) i) (fun i=>l.length - i) 0 (Gh.fgt ?_) (Nat.zero_le _) ?_
 ·simp only[zb1,zb2,zcF,Int.natCast_zero]
 intro i hi0 hF K hK
 refine zw ?_
 rw[zeY]
 refine⟨trivial,fun hlt=> ?_,fun hge=> ?_⟩
 ·have hi:i<l.length:=by simpa using hlt
  rw[List.drop_eq_getElem_cons hi,zgX]at hF
  have hat:=zbu hi
  simp only[List.cons_append,List.nil_append]at hat
  repeat(first|with_reducible refine zac _ _ ?_|with_reducible refine And.imp_right (zac _ _) ?_|with_reducible refine And.imp_right (And.imp_right (zac _ _)) ?_|with_reducible refine And.imp_right (And.imp_right (And.imp_right (zac _ _))) ?_|rw[zay]|simp only[zB,zas,hat,hc,Nat.reduceSub,Nat.reduceEqDiff,Nat.reduceAdd,Nat.reduceMul,Nat.reduceLeDiff,Nat.reduceLT,Nat.reduceBEq,reduceCtorEq])
  refine⟨⟨Int.natCast_nonneg i,by omega⟩, ?_⟩
  refine zaU (hp _ (List.getElem_mem hi)) ?_
  refine zw ?_
  refine zaa (fun hb=> ?_) (fun hb=> ?_)
  ·rw[if_pos hb]at hF
   refine zw ?_
   rw[hF];rfl
  ·rw[if_neg (by simp[hb])]at hF
   refine zw ?_
   refine hK _ (i+1) (Gh.fgt ?_) hi (by simp only[List.drop_eq_getElem_cons hi,zgX];rw[if_neg (by simp[hb])];rfl) (by omega)
   have hw:IntKind.i64.wrap ((i:Int)+1)=((i+1:Nat):Int):=by rw[wrap64 (by omega) (by omega)];rfl
   simp only[hw,zb1,zb2,zcF]
 ·have hi:i=l.length:=by
   have:¬(i:Int)<l.length:=by simpa using hge
   omega
  rw[hi,List.drop_length,zgX]at hF
  refine zw ?_
  rw[hF];rfl
theorem znb (l:List Lk) (hl:l.length<2^62) (p:Lk→Bool) (f:Nat) (caps:List C) (hc:lendAs [] (caps.map AV.one)=some (caps.map fun c=> .f (.one c)))
  (hp:∀x∈l,CallOK Tryz.prog f (.f (zoh x)::caps.map fun c=> .f (.one c)) (fun r o=>r=[rb (p x)]∧o=[])):
  CallOK Tryz.prog 174 [.f (al l.length (zax l)), .f (.one (.clos f caps))] (fun r o=>r=[ri (zgX p l 0)]∧o=[]):=by
 refine zae zam mixed (T:=Ty) (n:=19) Tryz.func174 (c:=Tryz.f174.body.getD .skip) rfl Tryz.results174 Tryz.ntmps174 Tryz.call174 ?_
 simp only[Tryz.f174,Option.getD]
 refine zw ?_
 refine zah (τ:=Nat) (fun i=>⟨[al l.length (zax l), .one (.clos f caps),dd,dd,ai 0,dd,al l.length (zax l),ai l.length,ai i,dd,dd,dd,dd,dd,dd,dd,dd,dd,dd],[]⟩) (fun i=>i≤l.length) (fun i=>zgX p (l.drop i) i) (fun i=>l.length - i) 0 (Gh.fgt ?_) (Nat.zero_le _) ?_
 ·simp only[zb1,zb2,zcF,Int.natCast_zero]
 intro i hi0 hF K hK
 refine zw ?_
 rw[zeY]
 refine⟨trivial,fun hlt=> ?_,fun hge=> ?_⟩
 ·have hi:i<l.length:=by simpa using hlt
  rw[List.drop_eq_getElem_cons hi,zgX]at hF
  have hat:=zbd hi
  simp only[List.cons_append,List.nil_append]at hat
  repeat(first|with_reducible refine zac _ _ ?_|with_reducible refine And.imp_right (zac _ _) ?_|with_reducible refine And.imp_right (And.imp_right (zac _ _)) ?_|with_reducible refine And.imp_right (And.imp_right (And.imp_right (zac _ _))) ?_|rw[zay]|simp only[zB,zal,hat,hc,Nat.reduceSub,Nat.reduceEqDiff,Nat.reduceAdd,Nat.reduceMul,Nat.reduceLeDiff,Nat.reduceLT,Nat.reduceBEq,reduceCtorEq])
  refine⟨⟨Int.natCast_nonneg i,by omega⟩, ?_⟩
  refine zaU (hp _ (List.getElem_mem hi)) ?_
  refine zw ?_
  refine zaa (fun hb=> ?_) (fun hb=> ?_)
  ·rw[if_pos hb]at hF
   refine zw ?_
   rw[hF];rfl
  ·rw[if_neg (by simp[hb])]at hF
   refine zw ?_
   refine hK _ (i+1) (Gh.fgt ?_) hi (by simp only[List.drop_eq_getElem_cons hi,zgX];rw[if_neg (by simp[hb])];rfl) (by omega)
   have hw:IntKind.i64.wrap ((i:Int)+1)=((i+1:Nat):Int):=by rw[wrap64 (by omega) (by omega)];rfl
   simp only[hw,zb1,zb2,zcF]
 ·have hi:i=l.length:=by
   have:¬(i:Int)<l.length:=by simpa using hge
   omega
  rw[hi,List.drop_length,zgX]at hF
  refine zw ?_
  rw[hF];rfl
theorem zja (l:List Sess) (hl:l.length<2^62) (p:Sess→Bool) (f:Nat) (caps:List C) (hc:lendAs [] (caps.map AV.one)=some (caps.map fun c=> .f (.one c))) (hc2:lendC.lendCs [] caps=some caps)
  (hp:∀x∈l,CallOK Tryz.prog f (.f (zkc x)::caps.map fun c=> .f (.one c)) (fun r o=>r=[rb (p x)]∧o=[])):
  CallOK Tryz.prog 171 [.f (al l.length (zaN l)), .f (.one (.clos f caps))] (fun r o=>r=[rb (l.any p)]∧o=[]):=by
 refine zae zam mixed (T:=Ty) (n:=9) Tryz.func171 (c:=Tryz.f171.body.getD .skip) rfl Tryz.results171 Tryz.ntmps171 Tryz.call171 ?_
 simp only[Tryz.f171,Option.getD]
 repeat(first|with_reducible refine zac _ _ ?_|with_reducible refine And.imp_right (zac _ _) ?_|with_reducible refine And.imp_right (And.imp_right (zac _ _)) ?_|with_reducible refine And.imp_right (And.imp_right (And.imp_right (zac _ _))) ?_|rw[zay]|simp only[zB,hc2,Nat.reduceSub,Nat.reduceEqDiff,Nat.reduceAdd,Nat.reduceMul,Nat.reduceLeDiff,Nat.reduceLT,Nat.reduceBEq,reduceCtorEq])
 refine zaU (zna l hl p f caps hc hp) ?_
 refine zw ?_
 rw[zi9]
theorem zjb (l:List Lk) (hl:l.length<2^62) (p:Lk→Bool) (f:Nat) (caps:List C) (hc:lendAs [] (caps.map AV.one)=some (caps.map fun c=> .f (.one c))) (hc2:lendC.lendCs [] caps=some caps)
  (hp:∀x∈l,CallOK Tryz.prog f (.f (zoh x)::caps.map fun c=> .f (.one c)) (fun r o=>r=[rb (p x)]∧o=[])):
  CallOK Tryz.prog 126 [.f (al l.length (zax l)), .f (.one (.clos f caps))] (fun r o=>r=[rb (l.any p)]∧o=[]):=by
 refine zae zam mixed (T:=Ty) (n:=9) Tryz.func126 (c:=Tryz.f126.body.getD .skip) rfl Tryz.results126 Tryz.ntmps126 Tryz.call126 ?_
 simp only[Tryz.f126,Option.getD]
 repeat(first|with_reducible refine zac _ _ ?_|with_reducible refine And.imp_right (zac _ _) ?_|with_reducible refine And.imp_right (And.imp_right (zac _ _)) ?_|with_reducible refine And.imp_right (And.imp_right (And.imp_right (zac _ _))) ?_|rw[zay]|simp only[zB,hc2,Nat.reduceSub,Nat.reduceEqDiff,Nat.reduceAdd,Nat.reduceMul,Nat.reduceLeDiff,Nat.reduceLT,Nat.reduceBEq,reduceCtorEq])
 refine zaU (znb l hl p f caps hc hp) ?_
 refine zw ?_
 rw[zi9]
set_option maxHeartbeats 1000000 in
theorem zkd (l:List Sess) (hl:l.length<2^62) (t:Int) (c:Sess→Int) (f:Nat) (m:Nat) (hm:m≤l.length) (h1:∀j (hj:j<l.length),j<m→c l[j]<0) (h2:∀j (hj:j<l.length),m≤j→0≤c l[j])
  (hp:∀x∈l,CallOK Tryz.prog f [.f (zkc x), .f (ai t)] (fun r o=>r=[ri (c x)]∧o=[])):
  CallOK Tryz.prog 188 [.f (al l.length (zaN l)), .f (ai t), .f (.one (.clos f []))] (fun r o=>r=[ri m,rb ((l[m]?.map fun x=>c x==0).getD false)]∧o=[]):=by
 refine zae zam mixed (T:=Ty) (n:=49) Tryz.func188 (c:=Tryz.f188.body.getD .skip) rfl Tryz.results188 Tryz.ntmps188 Tryz.call188 ?_
 simp only[Tryz.f188,Option.getD]
 refine zw ?_
 refine zah (τ:=Nat×Nat) (fun q=>⟨[al l.length (zaN l),ai t, .one (.clos f []),dd,dd,dd,dd,dd,ai l.length,ai q.1,ai q.2,dd,dd,dd,dd,dd,dd,dd,dd,dd,dd,dd,dd,dd,dd,dd,dd,dd,dd,dd,dd,dd,dd,dd,dd,dd,dd,dd,dd,dd,dd,dd,dd,dd,dd,dd,dd,dd,dd],[]⟩) (fun q=>q.1≤m∧m≤q.2∧q.2≤l.length) (fun _=>()) (fun q=>q.2 - q.1) (0,l.length) (Gh.fgt ?_) ⟨Nat.zero_le _,hm,Nat.le_refl _⟩ ?_
 ·simp only[zb1,zb2,zcF,Int.natCast_zero]
 intro⟨lo,hi⟩ ⟨b1,b2,b3⟩ hF K hK
 simp only at b1 b2 b3 hF hK⊢
 refine zw ?_
 refine zaa (fun hlt=> ?_) (fun hge=> ?_)
 ·have hlt:lo<hi:=by simpa using hlt
  obtain⟨q,hq⟩:∃q:Nat,q=(lo+hi) / 2:=⟨_,rfl⟩
  have hw1:IntKind.i64.wrap ((lo:Int)+hi)=((lo+hi:Nat):Int):=by rw[wrap64 (by omega) (by omega)];rfl
  have hw2:IntKind.u64.wrap ((lo+hi:Nat):Int)=((lo+hi:Nat):Int):=zqd (by omega)
  have hw3:IntKind.i64.wrap (((lo+hi:Nat):Int).fdiv (2^(min (Int.toNat 1) IntKind.u64.bits)))=(q:Int):=by
   rw[show(2:Int)^(min (Int.toNat 1) IntKind.u64.bits)=2 by decide,hq,show(((lo+hi:Nat):Int)).fdiv 2=(((lo+hi) / 2:Nat):Int) by rw[Int.fdiv_eq_ediv_of_nonneg _ (by decide)];rfl]
   exact wrap64 (by omega) (by omega)
  have hqh:q<hi:=by omega
  have hql:q<l.length:=by omega
  have hat:=zbu hql
  simp only[List.cons_append,List.nil_append]at hat
  have hcp:=hp _ (List.getElem_mem hql)
  have hw4:IntKind.i64.wrap ((q:Int)+1)=((q+1:Nat):Int):=by rw[wrap64 (by omega) (by omega)];rfl
  have h10:∀(a b:Option Value),(if(1:Int)<0 then a else b)=b:=fun a b=>if_neg (by decide)
  clear hlt
  repeat'(first|with_reducible refine zac _ _ ?_|rw[zay]|simp only[zB,h10,hw1,hw2,hw3,zas,hat,Nat.mul_one,Nat.reduceSub,Nat.reduceEqDiff,Nat.reduceAdd,Nat.reduceMul,Nat.reduceLeDiff,Nat.reduceLT,Nat.reduceBEq,reduceCtorEq]|((first|((try refine zaK ?_);apply zaU)|(apply zaT;intro _));(solve|exact(hcp)|(refine CallOK.le (hcp) ?_;exact zM)|fail);try case hn=>rfl)|refine zat ?_|refine zaa (fun hb=> ?_) (fun hb=> ?_)|(refine And.intro ?_ ?_;exact zI)|refine And.intro (fun hg=> ?_) (fun hg=> ?_)|exact zC|fail)
  ·have hqm:q<m:=by
    rcases Nat.lt_or_ge q m with h|h
    ·exact h
    ·have:=h2 q hql h
     have hb':c l[q]<0:=by simpa using hb
     omega
   refine hK _ (q+1,hi) (Gh.fgt ?_) ⟨by simp only;omega,b2,b3⟩ trivial (by simp only;omega)
   simp only[hw4,zb1,zb2,zcF]
  ·have hqm:m≤q:=by
    rcases Nat.lt_or_ge q m with h|h
    ·have:=h1 q hql h
     have hb':¬c l[q]<0:=by simpa using hb
     omega
    ·exact h
   refine hK _ (lo,q) (Gh.fgt ?_) ⟨b1,hqm,by simp only;omega⟩ trivial (by simp only;omega)
   simp only[zb1,zb2,zcF]
 ·have he:lo=m:=by
   have:¬(lo:Int)<hi:=by simpa using hge
   omega
  subst he
  by_cases hlt:lo<l.length
  ·have hat:=zbu hlt
   simp only[List.cons_append,List.nil_append]at hat
   have hcp:=hp _ (List.getElem_mem hlt)
   have hd:decide ((lo:Int)<l.length)=true:=by simpa using hlt
   repeat'(first|with_reducible refine zac _ _ ?_|rw[zay]|simp only[zB,hd,zas,hat,Nat.mul_one,Nat.reduceSub,Nat.reduceEqDiff,Nat.reduceAdd,Nat.reduceMul,Nat.reduceLeDiff,Nat.reduceLT,Nat.reduceBEq,reduceCtorEq]|((first|((try refine zaK ?_);apply zaU)|(apply zaT;intro _));(solve|exact(hcp)|(refine CallOK.le (hcp) ?_;exact zM)|fail);try case hn=>rfl)|refine zat ?_|refine zaa (fun hb=> ?_) (fun hb=> ?_)|(refine And.intro ?_ ?_;exact zI)|refine And.intro (fun hg=> ?_) (fun hg=> ?_)|exact zC|fail)
   rw[List.getElem?_eq_getElem hlt];rfl
  ·have hd:decide ((lo:Int)<l.length)=false:=by simp;omega
   have hn:l[lo]? =none:=List.getElem?_eq_none (by omega)
   repeat'(first|with_reducible refine zac _ _ ?_|rw[zay]|simp only[zB,hd,zas,Nat.mul_one,hn,zuC,Option.map_none,Nat.reduceSub,Nat.reduceEqDiff,Nat.reduceAdd,Nat.reduceMul,Nat.reduceLeDiff,Nat.reduceLT,Nat.reduceBEq,reduceCtorEq]|refine zat ?_|refine zaa (fun hb=> ?_) (fun hb=> ?_)|(refine And.intro ?_ ?_;exact zI)|refine And.intro (fun hg=> ?_) (fun hg=> ?_)|exact zC|fail)
theorem zka (l:List Int) (hl:l.length<2^62) (v:Int):CallOK Tryz.prog 156 [.f (al l.length (za3 l)), .f (ai v)] (fun r o=>r=[ri (zgX (fun x=>v==x) l 0)]∧o=[]):=by
 refine zae zam mixed (T:=Ty) (n:=19) Tryz.func156 (c:=Tryz.f156.body.getD .skip) rfl Tryz.results156 Tryz.ntmps156 Tryz.call156 ?_
 simp only[Tryz.f156,Option.getD]
 refine zw ?_
 refine zah (τ:=Nat) (fun i=>⟨[al l.length (za3 l),ai v,dd,dd,ai 0,dd,al l.length (za3 l),ai l.length,ai i,dd,dd,dd,dd,dd,dd,dd,dd,dd,dd],[]⟩) (fun i=>i≤l.length) (fun i=>zgX (fun x=>v==x) (l.drop i) i) (fun i=>l.length - i) 0 (Gh.fgt ?_) (Nat.zero_le _) ?_
 ·simp only[zb1,zb2,zcF,Int.natCast_zero]
 intro i hi0 hF K hK
 refine zw ?_
 refine zaa (fun hlt=> ?_) (fun hge=> ?_)
 ·have hi:i<l.length:=by simpa using hlt
  rw[List.drop_eq_getElem_cons hi,zgX]at hF
  have hat:=zce hi
  simp only[List.cons_append,List.nil_append]at hat
  have hw:=zai hi hl
  clear hlt
  repeat'(first|refine zq (I @zaq hat) ?_|exact zd (I @zaq hat)|(refine zaa ?_ ?_<;>intro hb)|(refine And.intro ?_ ?_;exact zI)|(refine And.intro ?_ ?_<;>intro hg)|exact zC|fail)
  ·rw[if_pos hb]at hF
   rw[hF];rfl
  ·rw[if_neg (by simp[hb])]at hF
   refine hK _ (i+1) (Gh.fgt ?_) hi (by simp only[List.drop_eq_getElem_cons hi,zgX];rw[if_neg (by simp[hb])];rfl) (by omega)
   simp only[hw,zb1,zb2,zcF]
 ·have hi:i=l.length:=by
   have:¬(i:Int)<l.length:=by simpa using hge
   omega
  rw[hi,List.drop_length,zgX]at hF
  refine zw ?_
  rw[hF];rfl
theorem zgD (l:List Int) (hl:l.length<2^62) (v:Int):CallOK Tryz.prog 110 [.f (al l.length (za3 l)), .f (ai v)] (fun r o=>r=[rb (l.any fun x=>v==x)]∧o=[]):=by
 refine zae zam mixed (T:=Ty) (n:=9) Tryz.func110 (c:=Tryz.f110.body.getD .skip) rfl Tryz.results110 Tryz.ntmps110 Tryz.call110 ?_
 simp only[Tryz.f110,Option.getD]
 repeat'(first|with_reducible refine zac _ _ ?_|rw[zay]|simp only[zB,Nat.reduceSub,Nat.reduceEqDiff,Nat.reduceAdd,Nat.reduceMul,Nat.reduceLeDiff,Nat.reduceLT,Nat.reduceBEq,reduceCtorEq]|((first|((try refine zaK ?_);apply zaU)|(apply zaT;intro _));(solve|exact(zka l hl v)|(refine CallOK.le (zka l hl v) ?_;exact zM)|fail);try case hn=>rfl)|refine zat ?_|refine zaa (fun hb=> ?_) (fun hb=> ?_)|(refine And.intro ?_ ?_;exact zI)|refine And.intro (fun hg=> ?_) (fun hg=> ?_)|exact zC|fail)
 rw[zi9]
theorem zgW (v:Int):CallOK Tryz.prog 187 [.f (ai v)] (fun r o=>r=[rb false]∧o=[]):=by
 refine zae zam mixed (T:=Ty) (n:=6) Tryz.func187 (c:=Tryz.f187.body.getD .skip) rfl Tryz.results187 Tryz.ntmps187 Tryz.call187 ?_
 simp only[Tryz.f187,Option.getD]
 repeat'(first|with_reducible refine zac _ _ ?_|rw[zay]|simp only[zB,bne_self_eq_false,Nat.reduceSub,Nat.reduceEqDiff,Nat.reduceAdd,Nat.reduceMul,Nat.reduceLeDiff,Nat.reduceLT,Nat.reduceBEq,reduceCtorEq]|refine zat ?_|refine zaa (fun hb=> ?_) (fun hb=> ?_)|(refine And.intro ?_ ?_;exact zI)|refine And.intro (fun hg=> ?_) (fun hg=> ?_)|exact zC|fail)
def zog (a b:Int):Int:=if a<b then -1 else if a>b then 1 else 0
theorem zho (a b:Int):CallOK Tryz.prog 161 [.f (ai a), .f (ai b)] (fun r o=>r=[ri (zog a b)]∧o=[]):=by
 refine zae zam mixed (T:=Ty) (n:=20) Tryz.func161 (c:=Tryz.f161.body.getD .skip) rfl Tryz.results161 Tryz.ntmps161 Tryz.call161 ?_
 simp only[Tryz.f161,Option.getD]
 repeat'(first|refine zq0 ?_|exact zd0|refine zc (zgW a) ?_|refine zg (zgW a) ?_|refine zc (zgW b) ?_|refine zg (zgW b) ?_|(refine zaa ?_ ?_<;>intro hb)|(refine And.intro ?_ ?_;exact zI)|(refine And.intro ?_ ?_<;>intro hg)|exact zC|fail)
 all_goals simp only[decide_eq_true_eq,decide_eq_false_iff_not]at*
 ·unfold zog;rw[if_pos (by assumption)]
 ·unfold zog;rw[if_neg (by assumption),if_pos (by assumption)]
 ·unfold zog;rw[if_neg (by assumption),if_neg (by assumption)]
theorem zi7 (n:Int):CallOK Tryz.prog 173 [.f (ai n)] (fun r o=>r=[rb (decide (n≥0)&&decide (n<8))]∧o=[]):=by
 refine zae zam mixed (T:=Ty) (n:=9) Tryz.func173 (c:=Tryz.f173.body.getD .skip) rfl Tryz.results173 Tryz.ntmps173 Tryz.call173 ?_
 simp only[Tryz.f173,Option.getD]
 repeat'(first|refine zq0 ?_|exact zd0|(refine zaa ?_ ?_<;>intro hb)|(refine And.intro ?_ ?_;exact zI)|(refine And.intro ?_ ?_<;>intro hg)|exact zC|fail)
theorem zi8 (n:Int):CallOK Tryz.prog 122 [.f (ai n)] (fun r o=>r=[rb (decide (n≥0)&&decide (n<8))]∧o=[]):=by
 refine zae zam mixed (T:=Ty) (n:=9) Tryz.func122 (c:=Tryz.f122.body.getD .skip) rfl Tryz.results122 Tryz.ntmps122 Tryz.call122 ?_
 simp only[Tryz.f122,Option.getD]
 repeat'(first|refine zq0 ?_|exact zd0|(refine zaa ?_ ?_<;>intro hb)|(refine And.intro ?_ ?_;exact zI)|(refine And.intro ?_ ?_<;>intro hg)|exact zC|fail)
def isClient (n:Int):Bool:=decide (n≥0)&&decide (n<8)
def hasI (l:List Int) (v:Int):Bool:=l.any fun x=>v==x
def zxq (l:List Int):RF:= .one (.own 1 l.length (za3 l) false)
def zqb (l:List Int) (c:Int):List Int×Int×Int:=
 if(!isClient c)=true then([],0,1)else if hasI l c=true then([],0,7)else if decide ((l.length:Int)≥3)=true then([],0,5)else(l++[c],l.length,0)
theorem zkb {l:List Int} {i:Nat} (hi:i≤l.length):(za3 l).take i=za3 (l.take i):=by have:=zhp (fun n=>[iD n]) 1 (fun _=>rfl) hi;rwa[Nat.mul_one]at this
def zts (l:List Int) (c:Int):List Int×Bool:=if zgX (fun x=>c==x) l 0<0 then(l,false)else(l.eraseIdx (zgX (fun x=>c==x) l 0).toNat,true)
def zqc (l gone:List Int):List Int:=l.filter fun c=> !hasI gone c
section
variable {α:Type} {p:α→Bool}
def zpY (p:α→Bool) (l:List α):Nat:=(l.takeWhile p).length
def zuA (p:α→Bool) (l:List α):Prop:=l.Pairwise fun x y=>p y=true→p x=true
theorem zsc {l:List α}:zpY p l≤l.length:=(List.takeWhile_prefix _).length_le
theorem zd9 {x:α} {l:List α}:zpY p (x::l)=if p x=true then zpY p l+1 else 0:=by
 unfold zpY
 rw[List.takeWhile_cons]
 split<;>simp[*]
theorem zob:∀{l:List α} {j:Nat} (hj:j<l.length),j<zpY p l→p l[j]=true
 |x::l,0,_,h=>by
  rw[zd9]at h
  split at h
  ·assumption
  ·omega
 |x::l,j+1,hj,h=>by
  rw[zd9]at h
  split at h
  ·exact zob (l:=l) (by simpa using hj) (by omega)
  ·omega
theorem zoc:∀{l:List α} {j:Nat} (hj:j<l.length),zuA p l→zpY p l≤j→p l[j]=false
 |x::l,0,_,hm,h=>by
  rw[zd9]at h
  split at h
  ·omega
  ·rename_i hx;simpa using hx
 |x::l,j+1,hj,hm,h=>by
  have hm':=List.pairwise_cons.1 hm
  have hj':j<l.length:=by simpa using hj
  rw[zd9]at h
  split at h
  ·exact zoc (l:=l) hj' hm'.2 (by omega)
  ·rename_i hx
   have:=hm'.1 l[j] (List.getElem_mem hj')
   simp only[List.getElem_cons_succ]
   cases hc:p l[j]
   ·rfl
   ·exact absurd (this hc) hx
theorem zj7 {q:α→Bool}:∀{l:List α},zuA p l→(∀x,q x=true→p x=false)→(l.Pairwise fun x y=>q y=true→p x=true)→l.find? q=(l[zpY p l]?).filter q
 |[],_,_,_=>rfl
 |x::l,hm,hq,hs=>by
  have hm':=List.pairwise_cons.1 hm
  have hs':=List.pairwise_cons.1 hs
  rw[List.find?_cons,zd9]
  cases hx:p x
  ·rw[if_neg (by simp)]
   simp only[List.getElem?_cons_zero]
   cases hqx:q x
   ·simp only[Option.filter,hqx,Bool.false_eq_true,if_false]
    rw[List.find?_eq_none]
    intro y hy hqy
    have:=hs'.1 y hy hqy
    rw[hx]at this;cases this
   ·simp[Option.filter,hqx]
  ·rw[if_pos rfl]
   have hqx:q x=false:=by
    cases hc:q x
    ·rfl
    ·have:=hq x hc;rw[hx]at this;cases this
   rw[hqx]
   simp only[List.getElem?_cons_succ]
   exact zj7 hm'.2 hq hs'.2
end
def SS (l:List Sess):Prop:=l.Pairwise fun x y=>x.client<y.client
def zp9 (l:List Sess) (c:Int):Nat:=zpY (fun x=>decide (x.client<c)) l
def zbx (l:List Sess) (c:Int):Option Sess:=l.find? fun x=>x.client==c
theorem zod {l:List Sess} (h:SS l) (c:Int):zuA (fun x:Sess=>decide (x.client<c)) l:=h.imp fun hxy h=>by simp at h⊢;omega
theorem zj8 {l:List Sess} (h:SS l) (c:Int):zbx l c=(l[zp9 l c]?).filter fun x=>x.client==c:=
 zj7 (q:=fun x:Sess=>x.client==c) (zod h c) (fun x hx=>by simp at hx⊢;omega) (h.imp fun hxy h=>by simp at h⊢;omega)
def SM (l:List Memo):Prop:=l.Pairwise fun x y=>x.client<y.client
def zuB (l:List Memo) (c:Int):Nat:=zpY (fun x=>decide (x.client<c)) l
def zoe (l:List Memo) (c:Int):Option Memo:=l.find? fun x=>x.client==c
abbrev zj9 (a b:ByteArray):Bool:=Go.Op.bytesLess a.toList b.toList
theorem zof:∀{a:List UInt8},Go.Op.bytesLess a a=false
 |[]=>rfl
 |a::x=>by rw[Go.Op.bytesLess,zof (a:=x)];simp
theorem zi6:∀{a b c:List UInt8},Go.Op.bytesLess a b=true→Go.Op.bytesLess b c=true→Go.Op.bytesLess a c=true
 |[],[],_,h,_=>by cases h
 |[],_::_,[],_,h=>by cases h
 |[],_::_,_::_,_,_=>rfl
 |_::_,[],_,h,_=>by cases h
 |_::_,_::_,[],_,h=>by cases h
 |a::x,b::y,c::z,h1,h2=>by
  rw[Go.Op.bytesLess]at*
  simp only[Bool.or_eq_true,Bool.and_eq_true,decide_eq_true_eq,beq_iff_eq]at*
  rcases h1 with h1|⟨rfl,h1⟩<;>rcases h2 with h2|⟨rfl,h2⟩
  ·exact .inl (UInt8.lt_trans h1 h2)
  ·exact .inl h1
  ·exact .inl h2
  ·exact .inr ⟨rfl,zi6 h1 h2⟩
theorem zqa {a b:List UInt8} (h:Go.Op.bytesLess a b=true):Go.Op.bytesLess b a=false:=by
 cases hc:Go.Op.bytesLess b a
 ·rfl
 ·have:=zi6 h hc
  rw[zof]at this;cases this
theorem zrr:∀{a b:List UInt8},Go.Op.bytesLess a b=false→Go.Op.bytesLess b a=false→a=b
 |[],[],_,_=>rfl
 |[],_::_,h,_=>by cases h
 |_::_,[],_,h=>by cases h
 |a::x,b::y,h1,h2=>by
  rw[Go.Op.bytesLess]at*
  simp only[Bool.or_eq_false_iff,Bool.and_eq_false_iff,decide_eq_false_iff_not,beq_eq_false_iff_ne]at*
  have hab:a=b:=UInt8.le_antisymm (UInt8.not_lt.1 h2.1) (UInt8.not_lt.1 h1.1)
  subst hab
  rcases h1.2 with h|h1'
  ·exact absurd rfl h
  rcases h2.2 with h|h2'
  ·exact absurd rfl h
  rw[zrr h1' h2']
def SL (l:List Lk):Prop:=l.Pairwise fun x y=>zj9 x.name y.name=true
def ztd (l:List Lk) (s:ByteArray):Nat:=zpY (fun x=>zj9 x.name s) l
def isL (s:ByteArray) (x:Lk):Bool:=x.name.toList==s.toList
def ztr (l:List Lk) (s:ByteArray):Option Lk:=l.find? (isL s)
def za0 {α:Type} (q:Nat→α→Bool):Nat→List α→Bool
 |_,[]=>true
 |i,x::r=>if q i x=true then za0 q (i+1) r else false
theorem zcD {α:Type} {q:Nat→α→Bool}:∀{l:List α} {i:Nat},za0 q i l=true↔∀j (hj:j<l.length),q (i+j) l[j]=true
 |[],i=>by simp[za0]
 |x::l,i=>by
  rw[za0]
  constructor
  ·intro h
   split at h
   ·rename_i hx
    intro j hj
    cases j with
    |zero=>exact hx
    |succ j=>
     have:=zcD.1 h j (by simpa using hj)
     simp only[List.getElem_cons_succ]
     rw[show i+(j+1)=i+1+j by omega];exact this
   ·cases h
  ·intro h
   have h0:=h 0 (by simp)
   simp only[List.getElem_cons_zero,Nat.add_zero]at h0
   rw[if_pos h0,zcD]
   intro j hj
   have:=h (j+1) (by simpa using hj)
   simp only[List.getElem_cons_succ]at this
   rw[show i+1+j=i+(j+1) by omega];exact this
theorem zau {α:Type} {q:Nat→α→Bool} {l:List α} {i:Nat} (h:i<l.length):za0 q i (l.drop i)=if q i l[i]=true then za0 q (i+1) (l.drop (i+1))else false:=by
 rw[List.drop_eq_getElem_cons h,za0]
theorem zbQ {α:Type} {q:Nat→α→Bool} {l:List α} {i:Nat} (h:i=l.length):za0 q i (l.drop i)=true:=by
 rw[h,List.drop_length,za0]
def zfb (s:Sess):Bool:=isClient s.client&& !(decide (s.num<1))&& !(decide (s.num>zdu))&& !(decide (s.renewed<0))&& !(decide (s.renewed>zdu))
def numbered (l:List Sess) (n:Int):Bool:=l.any fun x=>x.num==n
def zm6 (l:List Sess) (i:Nat):Int:=(l[i - 1]?.map Sess.client).getD 0
def zfl (l:List Sess) (i:Nat) (s:Sess):Bool:=zfb s&& !((decide (i>0)&&decide (zm6 l i≥s.client))||numbered (l.take i) s.num)
def sessB (l:List Sess):Bool:= !(decide ((l.length:Int)>5))&&za0 (zfl l) 0 l
def zr9 (l:List Sess) (c num now:Int):List Sess×Int:=
 if(!isClient c||decide (num<1)||decide (num>zdu)||decide (now<0)||decide (now>zdu)||(!(zbx l c).isSome&&numbered l num)||((zbx l c).isSome&&(((zbx l c).map Sess.num).getD 0 !=num)&&numbered l num))=true then([],1)else
 if(zbx l c).isSome=true then([],7)else if decide ((l.length:Int)≥5)=true then([],5)else(l.take (zp9 l c)++⟨c,num,now⟩::l.drop (zp9 l c),0)
def ztl (l:List Sess) (c now:Int):List Sess×Int:=
 if(decide (now<0)||decide (now>zdu))=true then([],1)else
 match zbx l c with
 |none=>([],6)
 |some x=>(l.set (zp9 l c) ⟨x.client,x.num,max x.renewed now⟩,0)
def zxd (l:List Sess) (now lease:Int):List Int:=
 if(decide (now<0)||decide (now>zdu)||decide (lease<0)||decide (lease>zdu))=true then []else(l.filter fun s=>decide (now - s.renewed≥lease)).map Sess.client
def zj5 (l:List Int) (i:Nat) (c:Int):Bool:= !(!isClient c||hasI (l.take i) c)
def lineB (l:List Int):Bool:=za0 (zj5 l) 0 l&&decide ((l.length:Int)≤3)
def zm7 (l:List Lk) (i:Nat):ByteArray:=(l[i - 1]?.map Lk.name).getD .empty
def zpX (k:Lk):Bool:=nameP k.name&& !(decide (k.holder<0))&& !(decide (k.holder≥8))&& !(decide (k.token<1))&& !(decide (k.token>zdu))
def zfz (l:List Lk) (i:Nat) (k:Lk):Bool:=zpX k&& !(!lineB k.line||hasI k.line k.holder||(decide (i>0)&& !(zj9 (zm7 l i) k.name)))&& !((l.take i).any fun o=>o.token==k.token)
def lockB (l:List Lk):Bool:=za0 (zfz l) 0 l&&decide ((l.length:Int)≤4)
def ztm (l:List Int) (c:Int):Int:=if zgX (fun x=>c==x) l 0≥0 then zgX (fun x=>c==x) l 0 else 0
def zux (l:List Lk) (name:ByteArray) (c token:Int) (wait:Bool):List Lk×Int×Int:=
 match ztr l name with
 |none=>if decide ((l.length:Int)≥4)=true then([],0,5)else(l.take (ztd l name)++⟨name,c,token+1,[]⟩::l.drop (ztd l name),0,0)
 |some k=>if(k.holder==c)=true then([],0,7)else if(!wait)=true then([],0,8)else
  if hasI k.line c=true then(l,ztm k.line c,10)else
  if(zqb k.line c).2.2≠0 then([],0,(zqb k.line c).2.2)else(l.set (ztd l name) ⟨k.name,k.holder,k.token,(zqb k.line c).1⟩,(zqb k.line c).2.1,10)
def ztn (l:List Lk) (i:Nat) (k:Lk) (token:Int):List Lk×Int:=
 match k.line with
 |[]=>(l.eraseIdx i,0)
 |c::rest=>(l.set i ⟨k.name,c,token+1,rest⟩,1)
def zuy (l:List Lk) (name:ByteArray) (c token:Int):List Lk×Int×Int:=
 match ztr l name with
 |none=>([],0,6)
 |some k=>if(k.holder==c)=true then((ztn l (ztd l name) k token).1,(ztn l (ztd l name) k token).2,0)else
  if hasI k.line c=true then(l.set (ztd l name) ⟨k.name,k.holder,k.token,(zts k.line c).1⟩,0,0)else([],0,6)
def zm8 (gone:List Int) (token:Int):List Lk→Int→List Lk×Int
 |[],g=>([],g)
 |k::r,g=>if hasI gone k.holder=true then
   match k.line with
   |[]=>zm8 gone token r g
   |c::rest=>(⟨k.name,c,token+g+1,rest⟩::(zm8 gone token r (g+1)).1,(zm8 gone token r (g+1)).2)
  else(k::(zm8 gone token r g).1,(zm8 gone token r g).2)
def zhn (gone:List Int) (k:Lk):Lk:=⟨k.name,k.holder,k.token,zqc k.line gone⟩
def zto (l:List Lk) (gone:List Int) (token:Int):List Lk×Int:=zm8 gone token (l.map (zhn gone)) 0
def zn9 (l:List Lk) (c:Int):List Grant:=(l.filter fun k=>k.holder==c).map fun k=>⟨k.name,k.token⟩
def zsa (l:List Grant) (i:Nat):ByteArray:=(l[i - 1]?.map Grant.name).getD .empty
def zcA (l:List Grant) (i:Nat) (g:Grant):Bool:= !(!nameP g.name||decide (g.token<1)||decide (g.token>zdu)||(decide (i>0)&& !(zj9 (zsa l i) g.name)))
def zbz (r:Reply):Bool:=
 !(decide (r.code<0)||decide (r.code>12)||decide (r.session<0)||decide (r.session>zdu)||decide (r.ahead<0)||decide (r.ahead>3))&&
 !(decide ((r.held.length:Int)>4)||((r.session==0)&&decide ((r.held.length:Int)>0)))&&za0 (zcA r.held) 0 r.held
def answerB (m:Memo):Bool:=decide (m.client≥0)&&decide (m.client<8)&&decide (m.seq≥1)&&decide (m.seq≤zdu)&&zbz m.reply
def zm9 (l:List Memo) (i:Nat):Int:=(l[i - 1]?.map Memo.client).getD 0
def zfA (l:List Memo) (i:Nat) (m:Memo):Bool:= !(!answerB m||(decide (i>0)&&decide (zm9 l i≥m.client)))
def memoB (l:List Memo):Bool:=za0 (zfA l) 0 l
def zoa (l:List Memo) (c seq:Int):Int:=
 match zoe l c with
 |none=>1
 |some m=>if m.seq<seq then 1 else if m.seq=seq then 0 else -1
def zuz (l:List Memo) (a:Memo):List Memo:=
 if(!answerB a||(zoa l a.client a.seq !=1))=true then l else
 if(zoe l a.client).isSome=true then l.set (zuB l a.client) a else l.take (zuB l a.client)++a::l.drop (zuB l a.client)
def within (n:Int):Bool:=decide (n≥0)&&decide (n≤zdu)
def zd8 (s:St):Bool:=s.locks.all fun k=>(k.holder::k.line).all fun c=>(zbx s.sess c).isSome
def zbn (s:St):Bool:=within s.time&&within s.num&&within s.token&&sessB s.sess&&lockB s.locks&&memoB s.memos&&(s.sess.all fun x=>decide (x.num≤s.num))&&(s.locks.all fun k=>decide (k.token≤s.token))&&zd8 s
def zj6 (s:St) (gone:List Int):St:=⟨s.time,s.num,s.token+(zto s.locks gone s.token).2,s.sess.filter fun x=> !hasI gone x.client,(zto s.locks gone s.token).1,s.memos⟩
def ztp (s:St) (time:Int):Int:=if(decide (time>s.time)&&decide (time≤zdu))=true then time else s.time
def zl4 (s:St) (time lease:Int):St:=zj6 {s with time:=ztp s time} (zxd s.sess (ztp s time) (max lease 1))
def rpl (code session ahead:Int) (held:List Grant):Reply:=⟨code,session,ahead,held⟩
def zsb (s:St) (c:Int):St×Reply:=
 match zbx s.sess c with
 |some x=>(s,⟨7,x.num,0,zn9 s.locks c⟩)
 |none=>if(zr9 s.sess c (s.num+1) s.time).2≠0 then(s,⟨(zr9 s.sess c (s.num+1) s.time).2,0,0,[]⟩)else
  ({s with sess:=(zr9 s.sess c (s.num+1) s.time).1,num:=s.num+1},⟨0,s.num+1,0,zn9 s.locks c⟩)
def zp8 (s:St) (r:Req):St×Reply:=
 if(r.kind==1)=true then zsb s r.client else
 match zbx s.sess r.client with
 |none=>(s,⟨9,0,0,[]⟩)
 |some x=>if(x.num !=r.session)=true then(s,⟨9,0,0,[]⟩)else
  let s1:St:={s with sess:=(ztl s.sess r.client s.time).1}
  if(r.kind==3||r.kind==4)=true then
   let t:=zux s1.locks r.name r.client s1.token (r.kind==3)
   let s2:St:=if t.2.2=0 then {s1 with locks:=t.1,token:=s1.token+1}else if t.2.2=10 then {s1 with locks:=t.1}else s1
   (s2,⟨t.2.2,x.num,if t.2.2=10 then t.2.1 else 0,zn9 s2.locks r.client⟩)
  else if(r.kind==5)=true then
   let t:=zuy s1.locks r.name r.client s1.token
   let s2:St:=if t.2.2=0 then {s1 with locks:=t.1,token:=s1.token+t.2.1}else s1
   (s2,⟨t.2.2,x.num,0,zn9 s2.locks r.client⟩)
  else if(r.kind==6)=true then(zj6 s1 [r.client],⟨0,0,0,[]⟩)
  else(s1,⟨0,x.num,0,zn9 s1.locks r.client⟩)
def ztq (s:St) (r:Req):St×Reply×Bool:=
 if(!Req.may r)=true then(s,⟨1,0,0,[]⟩,false)else
 if zoa s.memos r.client r.seq= -1 then(s,⟨0,0,0,[]⟩,false)else
 if zoa s.memos r.client r.seq=0 then(s,((zoe s.memos r.client).map Memo.reply).getD ⟨0,0,0,[]⟩,false)else
 ({(zp8 s r).1 with memos:=zuz (zp8 s r).1.memos ⟨r.client,r.seq,(zp8 s r).2⟩},(zp8 s r).2,true)
def zxe (a b:St):List Int:=(a.sess.filter fun x=> !((zbx b.sess x.client).any fun y=>y.num==x.num)).map Sess.client
theorem zpp {a b:Int}:(zog a b==0)=(a==b):=by
 unfold zog
 split
 ·rw[Bool.eq_iff_iff];simp;omega
 ·split
  ·rw[Bool.eq_iff_iff];simp;omega
  ·rw[Bool.eq_iff_iff];simp;omega
theorem zpq {a b:Int}:zog a b<0↔a<b:=by
 unfold zog
 split
 ·simp;omega
 ·split<;>simp<;>omega
theorem zq5 {α:Type} {o:Option α} {p:α→Bool}:(o.filter p).isSome=(o.map p).getD false:=by
 cases o with
 |none=>rfl
 |some x=>simp only[Option.filter,Option.map_some,Option.getD_some];cases p x<;>rfl
theorem zsU (x:Sess) (n:Int):CallOK Tryz.prog 172 [.f (zkc x), .f (.one (.elt [iD n]))] (fun r o=>r=[rb (x.num==n)]∧o=[]):=by
 refine zae zam mixed (T:=Ty) (n:=8) Tryz.func172 (c:=Tryz.f172.body.getD .skip) rfl Tryz.results172 Tryz.ntmps172 Tryz.call172 ?_
 simp only[Tryz.f172,Option.getD]
 repeat'(first|refine zq0 ?_|exact zd0|(refine zaa ?_ ?_<;>intro hb)|(refine And.intro ?_ ?_;exact zI)|(refine And.intro ?_ ?_<;>intro hg)|exact zC|fail)
theorem zlM (l:List Sess) (hl:l.length<2^62) (n:Int):CallOK Tryz.prog 123 [.f (al l.length (zaN l)), .f (ai n)] (fun r o=>r=[rb (numbered l n)]∧o=[]):=by
 refine zae zam mixed (T:=Ty) (n:=8) Tryz.func123 (c:=Tryz.f123.body.getD .skip) rfl Tryz.results123 Tryz.ntmps123 Tryz.call123 ?_
 simp only[Tryz.f123,Option.getD]
 have h:=zja l hl (fun x=>x.num==n) 172 [.elt [iD n]] rfl rfl (fun x _=>zsU x n)
 repeat'(first|refine zq0 ?_|exact zd0|refine zc (h) ?_|refine zg (h) ?_|(refine zaa ?_ ?_<;>intro hb)|(refine And.intro ?_ ?_;exact zI)|(refine And.intro ?_ ?_<;>intro hg)|exact zC|fail)
 rfl
theorem znx (x:Sess) (c:Int):CallOK Tryz.prog 189 [.f (zkc x), .f (ai c)] (fun r o=>r=[ri (zog x.client c)]∧o=[]):=by
 refine zae zam mixed (T:=Ty) (n:=9) Tryz.func189 (c:=Tryz.f189.body.getD .skip) rfl Tryz.results189 Tryz.ntmps189 Tryz.call189 ?_
 simp only[Tryz.f189,Option.getD]
 repeat'(first|refine zq0 ?_|exact zd0|refine zc (zho x.client c) ?_|refine zg (zho x.client c) ?_|(refine zaa ?_ ?_<;>intro hb)|(refine And.intro ?_ ?_;exact zI)|(refine And.intro ?_ ?_<;>intro hg)|exact zC|fail)
theorem zpr (l:List Sess) (hs:SS l) (hl:l.length<2^62) (c:Int):CallOK Tryz.prog 162 [.f (al l.length (zaN l)), .f (ai c)] (fun r o=>r=[ri (zp9 l c),rb (zbx l c).isSome]∧o=[]):=by
 refine zae zam mixed (T:=Ty) (n:=11) Tryz.func162 (c:=Tryz.f162.body.getD .skip) rfl Tryz.results162 Tryz.ntmps162 Tryz.call162 ?_
 simp only[Tryz.f162,Option.getD]
 have h:=zkd l hl c (fun x=>zog x.client c) 189 (zp9 l c) zsc
  (fun j hj h=>by have:=zob hj h;simp at this;exact zpq.2 this)
  (fun j hj h=>by have:=zoc hj (zod hs c) h;simp at this;have h2:= @zpq l[j].client c;omega) (fun x _=>znx x c)
 have e:((l[zp9 l c]?.map fun x=>zog x.client c==0).getD false)=(zbx l c).isSome:=by
  rw[zj8 hs,zq5]
  simp only[zpp]
 rw[e]at h
 repeat'(first|refine zq0 ?_|exact zd0|refine zc (h) ?_|refine zg (h) ?_|(refine zaa ?_ ?_<;>intro hb)|(refine And.intro ?_ ?_;exact zI)|(refine And.intro ?_ ?_<;>intro hg)|exact zC|fail)
def zk2:Sess:=⟨0,0,0⟩
theorem zq6 (l:List Sess) (hs:SS l) (hl:l.length<2^62) (c:Int):CallOK Tryz.prog 114 [.f (al l.length (zaN l)), .f (ai c)]
  (fun r o=>r=[.agg [.d (iD ((zbx l c).getD zk2).client), .d (iD ((zbx l c).getD zk2).num), .d (iD ((zbx l c).getD zk2).renewed)],rb (zbx l c).isSome]∧o=[]):=by
 refine zae zam mixed (T:=Ty) (n:=20) Tryz.func114 (c:=Tryz.f114.body.getD .skip) rfl Tryz.results114 Tryz.ntmps114 Tryz.call114 ?_
 simp only[Tryz.f114,Option.getD]
 have h:=zpr l hs hl c
 cases hf:zbx l c with
 |none=>
  rw[hf]at h
  simp only[Option.isSome_none]at h
  repeat'(first|refine zq0 ?_|exact zd0|refine zc (h) ?_|refine zg (h) ?_|(refine zaa ?_ ?_<;>intro hb)|(refine And.intro ?_ ?_;exact zI)|(refine And.intro ?_ ?_<;>intro hg)|exact zC|fail)
  rfl
 |some x=>
  rw[hf]at h
  simp only[Option.isSome_some]at h
  rw[zj8 hs]at hf
  have hg:l[zp9 l c]? =some x:=by
   cases hq:l[zp9 l c]? with
   |none=>rw[hq]at hf;simp at hf
   |some y=>rw[hq]at hf;simp only[Option.filter]at hf;split at hf<;>simp_all
  obtain⟨hi,he⟩:=List.getElem?_eq_some_iff.1 hg
  have hat:=zbu hi
  rw[he]at hat
  simp only[List.cons_append,List.nil_append]at hat
  repeat'(first|refine zq (I hat @zas) ?_|exact zd (I hat @zas)|refine zc (h) ?_|refine zg (h) ?_|(refine zaa ?_ ?_<;>intro hb)|(refine And.intro ?_ ?_;exact zI)|(refine And.intro ?_ ?_<;>intro hg)|exact zC|fail)
  rfl
theorem zk3 (l:List Sess) (hl:l.length<2^30):CallOK Tryz.prog 72 [.f (al l.length (zaN l))] (fun r o=>r=[rb (sessB l)]∧o=[]):=by
 refine zae zam mixed (T:=Ty) (n:=61) Tryz.func72 (c:=Tryz.f72.body.getD .skip) rfl Tryz.results72 Tryz.ntmps72 Tryz.call72 ?_
 simp only[Tryz.f72,Option.getD]
 cases h5:decide ((l.length:Int)>5)
 ·have hs:sessB l=za0 (zfl l) 0 l:=by rw[sessB,h5];rfl
  rw[hs]
  repeat'(first|refine zq (I h5 @zas) ?_|exact zd (I h5 @zas)|(refine zaa ?_ ?_<;>intro hb)|(refine And.intro ?_ ?_;exact zI)|(refine And.intro ?_ ?_<;>intro hg)|exact zC|fail)
  refine zah (τ:=Nat) (fun i=>⟨[al l.length (zaN l),dd,dd,dd,dd,dd,dd,dd,al l.length (zaN l),ai l.length,ai i,dd,dd,dd,dd,dd,dd,dd,dd,dd,dd,dd,dd,dd,dd,dd,dd,dd,dd,dd,dd,dd,dd,dd,dd,dd,dd,dd,dd,dd,dd,dd,dd,dd,dd,dd,dd,dd,dd,dd,dd,dd,dd,dd,dd,dd,dd,dd,dd,dd,dd],[(4,⟨2,[]⟩)]⟩)
   (fun i=>i≤l.length) (fun i=>za0 (zfl l) i (l.drop i)) (fun i=>l.length - i) 0
   (Gh.canon [] [4] [] zK rfl rfl) (Nat.zero_le _) ?_
  intro i hi0 hF K hK
  simp only[List.drop_zero]at hF hK⊢
  refine zw ?_
  refine zaa (fun hlt=> ?_) (fun hge=> ?_)
  ·have hi:i<l.length:=by simpa using hlt
   have hat:=zbu hi
   simp only[List.cons_append,List.nil_append]at hat
   have hw:=zai hi (by omega)
   rw[zau hi]at hF
   have hcl:=zi8 l[i].client
   have hnb:=zlM (l.take i) (by rw[List.length_take];omega) l[i].num
   have hlt2:(l.take i).length=i:=by rw[List.length_take];omega
   have htk:(zaN l).take (i*3)=zaN (l.take i):=zhp Sess.enc 3 (fun _=>rfl) (by omega)
   rw[hlt2]at hnb
   cases e0:decide ((i:Int)>0)
   ·have hq:zfl l i l[i]=(!(!(decide (l[i].client≥0)&&decide (l[i].client<8))||decide (l[i].num<1)||decide (l[i].num>2305843009213693952)||decide (l[i].renewed<0)||decide (l[i].renewed>2305843009213693952))&& !(numbered (l.take i) l[i].num)):=by
     unfold zfl zfb isClient
     have:decide (i>0)=false:=by simpa using e0
     rw[this]
     simp only[Bool.not_or,Bool.not_not,Bool.false_and,Bool.false_or]
    have h0:i=0:=by simpa using e0
    have hp:(zaN l).drop ((IntKind.i64.wrap ((i:Int) - 1)).toNat*3)=l[i].enc++zaN (l.drop (i+1)):=by
     rw[←zbu hi,h0];rfl
    repeat'(first|refine zq (I hat (I hp (I htk (I e0 (I @zas zca))))) ?_|exact zd (I hat (I hp (I htk (I e0 (I @zas zca)))))|refine zc (hcl) ?_|refine zg (hcl) ?_|refine zc (hnb) ?_|refine zg (hnb) ?_|(refine zaa ?_ ?_<;>intro hb)|(refine And.intro ?_ ?_;exact zI)|(refine And.intro ?_ ?_<;>intro hg)|exact zC|fail)
    ·rw[hq,hb,if_neg (by simp)]at hF
     rw[←hF]
    ·rename_i ha
     rw[hq,ha,hb,if_neg (by simp)]at hF
     rw[←hF]
    ·rename_i ha
     exact hK _ (i+1) (Gh.canon [] [] [] (zk hw) rfl rfl) hi (by rw[zau hi,hq,ha,hb];rfl) (by omega)
   ·have hq:zfl l i l[i]=(!(!(decide (l[i].client≥0)&&decide (l[i].client<8))||decide (l[i].num<1)||decide (l[i].num>2305843009213693952)||decide (l[i].renewed<0)||decide (l[i].renewed>2305843009213693952))&& !(decide ((l[i - 1]'(by omega)).client≥l[i].client)||numbered (l.take i) l[i].num)):=by
     unfold zfl zfb isClient zm6
     have:decide (i>0)=true:=by simpa using e0
     rw[this,List.getElem?_eq_getElem (by omega)]
     simp only[Bool.not_or,Bool.not_not,Bool.true_and,Option.map_some,Option.getD_some]
    have h0:0<i:=by simpa using e0
    have hp:=zbu (show i - 1<l.length by omega)
    have hw1:IntKind.i64.wrap ((i:Int) - 1)=((i - 1:Nat):Int):=by rw[wrap64 (by omega) (by omega)];omega
    repeat'(first|refine zq (I hat (I hp (I hw1 (I htk (I e0 (I @zas zca)))))) ?_|exact zd (I hat (I hp (I hw1 (I htk (I e0 (I @zas zca))))))|refine zc (hcl) ?_|refine zg (hcl) ?_|refine zc (hnb) ?_|refine zg (hnb) ?_|(refine zaa ?_ ?_<;>intro hb)|(refine And.intro ?_ ?_;exact zI)|(refine And.intro ?_ ?_<;>intro hg)|exact zC|fail)
    ·rw[hq,hb,if_neg (by simp)]at hF
     rw[←hF]
    ·rename_i ha
     rw[hq,ha,hb,if_neg (by simp)]at hF
     rw[←hF]
    ·rename_i ha
     exact hK _ (i+1) (Gh.canon [] [] [] (zk hw) rfl rfl) hi (by rw[zau hi,hq,ha,hb];rfl) (by omega)
  ·have hi:i=l.length:=by
    have:¬(i:Int)<l.length:=by simpa using hge
    omega
   rw[zbQ hi]at hF
   rw[←hF]
   repeat'(first|refine zq0 ?_|exact zd0|(refine zaa ?_ ?_<;>intro hb)|(refine And.intro ?_ ?_;exact zI)|(refine And.intro ?_ ?_<;>intro hg)|exact zC|fail)
 ·have hs:sessB l=false:=by rw[sessB,h5];rfl
  rw[hs]
  repeat'(first|refine zq (I h5 @zas) ?_|exact zd (I h5 @zas)|(refine zaa ?_ ?_<;>intro hb)|(refine And.intro ?_ ?_;exact zI)|(refine And.intro ?_ ?_<;>intro hg)|exact zC|fail)
def zxv (a b:ByteArray):Int:=Lib.compareBytes a.data.toList b.data.toList
theorem zk0 (l:List Int) (hl:l.length<2^30):CallOK Tryz.prog 125 [.f (al l.length (za3 l))] (fun r o=>r=[rb (lineB l)]∧o=[]):=by
 refine zae zam mixed (T:=Ty) (n:=26) Tryz.func125 (c:=Tryz.f125.body.getD .skip) rfl Tryz.results125 Tryz.ntmps125 Tryz.call125 ?_
 simp only[Tryz.f125,Option.getD]
 repeat'(first|refine zq @zaq ?_|exact zd @zaq|(refine zaa ?_ ?_<;>intro hb)|(refine And.intro ?_ ?_;exact zI)|(refine And.intro ?_ ?_<;>intro hg)|exact zC|fail)
 refine zah (τ:=Nat) (fun i=>⟨[al l.length (za3 l),dd,dd,dd,dd,al l.length (za3 l),ai l.length,ai i,dd,dd,dd,dd,dd,dd,dd,dd,dd,dd,dd,dd,dd,dd,dd,dd,dd,dd],[]⟩)
  (fun i=>i≤l.length) (fun i=>za0 (zj5 l) i (l.drop i)) (fun i=>l.length - i) 0
  (Gh.canon [] [] [] zK rfl rfl) (Nat.zero_le _) ?_
 intro i hi0 hF K hK
 rw[List.drop_zero]at hF
 refine zw ?_
 refine zaa (fun hlt=> ?_) (fun hge=> ?_)
 ·have hi:i<l.length:=by simpa using hlt
  have hat:=zce hi
  have hw:=zai hi (by omega)
  rw[zau hi]at hF
  have hcl:=zi7 l[i]
  have hlt2:(l.take i).length=i:=by rw[List.length_take];omega
  have htk:(za3 l).take i=za3 (l.take i):=zkb (by omega)
  have hco:=zgD (l.take i) (by omega) l[i]
  rw[hlt2]at hco
  have hq:zj5 l i l[i]= !(!(decide (l[i]≥0)&&decide (l[i]<8))||(l.take i).any fun x=>l[i]==x):=rfl
  repeat'(first|refine zq (I hat (I htk (I @zaq zca))) ?_|exact zd (I hat (I htk (I @zaq zca)))|refine zc (hcl) ?_|refine zg (hcl) ?_|refine zc (hco) ?_|refine zg (hco) ?_|(refine zaa ?_ ?_<;>intro hb)|(refine And.intro ?_ ?_;exact zI)|(refine And.intro ?_ ?_<;>intro hg)|exact zC|fail)
  ·rw[hq,hb,if_neg (by simp)]at hF
   unfold lineB
   rw[←hF];rfl
  ·exact hK _ (i+1) (Gh.canon [] [] [] (zk hw) rfl rfl) hi (by rw[zau hi,hq,hb];rfl) (by omega)
 ·have hi:i=l.length:=by
   have:¬(i:Int)<l.length:=by simpa using hge
   omega
  rw[zbQ hi]at hF
  unfold lineB
  rw[←hF]
  repeat'(first|refine zq0 ?_|exact zd0|(refine zaa ?_ ?_<;>intro hb)|(refine And.intro ?_ ?_;exact zI)|(refine And.intro ?_ ?_<;>intro hg)|exact zC|fail)
theorem znw (k j:Lk):CallOK Tryz.prog 127 [.f (zoh k), .f (.one (.elt j.enc))] (fun r o=>r=[rb (k.token==j.token)]∧o=[]):=by
 refine zae zam mixed (T:=Ty) (n:=9) Tryz.func127 (c:=Tryz.f127.body.getD .skip) rfl Tryz.results127 Tryz.ntmps127 Tryz.call127 ?_
 simp only[Tryz.f127,Option.getD]
 repeat'(first|refine zq0 ?_|exact zd0|(refine zaa ?_ ?_<;>intro hb)|(refine And.intro ?_ ?_;exact zI)|(refine And.intro ?_ ?_<;>intro hg)|exact zC|fail)
theorem zk1 (l:List Lk) (hl:l.length<2^30) (hll:∀k∈l,k.line.length<2^30∧k.name.size<2^62):CallOK Tryz.prog 73 [.f (al l.length (zax l))] (fun r o=>r=[rb (lockB l)]∧o=[]):=by
 refine zae zam mixed (T:=Ty) (n:=71) Tryz.func73 (c:=Tryz.f73.body.getD .skip) rfl Tryz.results73 Tryz.ntmps73 Tryz.call73 ?_
 simp only[Tryz.f73,Option.getD]
 repeat'(first|refine zq @zal ?_|exact zd @zal|(refine zaa ?_ ?_<;>intro hb)|(refine And.intro ?_ ?_;exact zI)|(refine And.intro ?_ ?_<;>intro hg)|exact zC|fail)
 refine zah (τ:=Nat) (fun i=>⟨[al l.length (zax l),dd,dd,dd,dd,al l.length (zax l),ai l.length,ai i,dd,dd,dd,dd,dd,dd,dd,dd,dd,dd,dd,dd,dd,dd,dd,dd,dd,dd,dd,dd,dd,dd,dd,dd,dd,dd,dd,dd,dd,dd,dd,dd,dd,dd,dd,dd,dd,dd,dd,dd,dd,dd,dd,dd,dd,dd,dd,dd,dd,dd,dd,dd,dd,dd,dd,dd,dd,dd,dd,dd,dd,dd,dd],[(4,⟨2,[]⟩)]⟩)
  (fun i=>i≤l.length) (fun i=>za0 (zfz l) i (l.drop i)) (fun i=>l.length - i) 0
  (Gh.canon [] [4] [] zK rfl rfl) (Nat.zero_le _) ?_
 intro i hi0 hF K hK
 rw[List.drop_zero]at hF
 refine zw ?_
 refine zaa (fun hlt=> ?_) (fun hge=> ?_)
 ·have hi:i<l.length:=by simpa using hlt
  have hat:=zbd hi
  obtain⟨hk1,hk2⟩:=hll _ (List.getElem_mem hi)
  have hw:=zai hi (by omega)
  rw[zau hi]at hF
  have hnm:=zpo l[i].name hk2
  have hlr:=zk0 l[i].line hk1
  have hlc:=zgD l[i].line (by omega) l[i].holder
  have hlt2:(l.take i).length=i:=by rw[List.length_take];omega
  have htk:(zax l).take (i*4)=zax (l.take i):=zhp Lk.enc 4 (fun _=>rfl) (by omega)
  have hco:=zjb (l.take i) (by omega) (fun o=>o.token==l[i].token) 127 [.elt l[i].enc] rfl rfl (fun x _=>znw x _)
  rw[hlt2]at hco
  cases e0:decide ((i:Int)>0)
  ·have h0:i=0:=by simpa using e0
   have hq:zfz l i l[i]=(!(!nameP l[i].name||decide (l[i].holder<0)||decide (l[i].holder≥8)||decide (l[i].token<1)||decide (l[i].token>2305843009213693952))&& !(!lineB l[i].line||l[i].line.any fun x=>l[i].holder==x)&& !((l.take i).any fun o=>o.token==l[i].token)):=by
    unfold zfz zpX hasI
    have:decide (i>0)=false:=by simpa using e0
    rw[this]
    simp only[Bool.not_or,Bool.not_not,Bool.false_and,Bool.or_false]
   have hp:(zax l).drop ((IntKind.i64.wrap ((i:Int) - 1)).toNat*4)=l[i].enc++zax (l.drop (i+1)):=by
    rw[←zbd hi,h0];rfl
   repeat'(first|refine zq (I hat (I hp (I htk (I e0 (I @zal zca))))) ?_|exact zd (I hat (I hp (I htk (I e0 (I @zal zca)))))|refine zc (hnm) ?_|refine zg (hnm) ?_|refine zc (hlr) ?_|refine zg (hlr) ?_|refine zc (hlc) ?_|refine zg (hlc) ?_|refine zc (hco) ?_|refine zg (hco) ?_|(refine zaa ?_ ?_<;>intro hb)|(refine And.intro ?_ ?_;exact zI)|(refine And.intro ?_ ?_<;>intro hg)|exact zC|fail)
   ·rw[hq,hb,if_neg (by simp)]at hF
    unfold lockB
    rw[←hF];rfl
   ·rename_i ha
    rw[hq,ha,hb,if_neg (by simp)]at hF
    unfold lockB
    rw[←hF];rfl
   ·rename_i ha hc
    rw[hq,ha,hc,hb,if_neg (by simp)]at hF
    unfold lockB
    rw[←hF];rfl
   ·rename_i ha hc
    exact hK _ (i+1) (Gh.canon [] [] [] (zk hw) rfl rfl) hi (by rw[zau hi,hq,ha,hc,hb];rfl) (by omega)
  ·have h0:0<i:=by simpa using e0
   have hq:zfz l i l[i]=(!(!nameP l[i].name||decide (l[i].holder<0)||decide (l[i].holder≥8)||decide (l[i].token<1)||decide (l[i].token>2305843009213693952))&& !(!lineB l[i].line||(l[i].line.any fun x=>l[i].holder==x)|| !(zj9 (l[i - 1]'(by omega)).name l[i].name))&& !((l.take i).any fun o=>o.token==l[i].token)):=by
    unfold zfz zpX hasI zm7
    have:decide (i>0)=true:=by simpa using e0
    rw[this,List.getElem?_eq_getElem (by omega)]
    simp only[Bool.not_or,Bool.not_not,Bool.true_and,Option.map_some,Option.getD_some]
   have hp:=zbd (show i - 1<l.length by omega)
   have hw1:IntKind.i64.wrap ((i:Int) - 1)=((i - 1:Nat):Int):=by rw[wrap64 (by omega) (by omega)];omega
   repeat'(first|refine zq (I hat (I hp (I hw1 (I htk (I e0 (I @zal zca)))))) ?_|exact zd (I hat (I hp (I hw1 (I htk (I e0 (I @zal zca))))))|refine zc (hnm) ?_|refine zg (hnm) ?_|refine zc (hlr) ?_|refine zg (hlr) ?_|refine zc (hlc) ?_|refine zg (hlc) ?_|refine zc (hco) ?_|refine zg (hco) ?_|(refine zaa ?_ ?_<;>intro hb)|(refine And.intro ?_ ?_;exact zI)|(refine And.intro ?_ ?_<;>intro hg)|exact zC|fail)
   ·rw[hq,hb,if_neg (by simp)]at hF
    unfold lockB
    rw[←hF];rfl
   ·rename_i ha
    rw[hq,ha,hb,if_neg (by simp)]at hF
    unfold lockB
    rw[←hF];rfl
   ·rename_i ha hc
    rw[hq,ha,hc,hb,if_neg (by simp)]at hF
    unfold lockB
    rw[←hF];rfl
   ·rename_i ha hc
    exact hK _ (i+1) (Gh.canon [] [] [] (zk hw) rfl rfl) hi (by rw[zau hi,hq,ha,hc,hb];rfl) (by omega)
 ·have hi:i=l.length:=by
   have:¬(i:Int)<l.length:=by simpa using hge
   omega
  rw[zbQ hi]at hF
  unfold lockB
  rw[←hF]
  repeat'(first|refine zq0 ?_|exact zd0|(refine zaa ?_ ?_<;>intro hb)|(refine And.intro ?_ ?_;exact zI)|(refine And.intro ?_ ?_<;>intro hg)|exact zC|fail)
def curL (l:List Lk) (gone:List Int) (i:Nat):List Lk:=(l.take i).map (zhn gone)++l.drop i
theorem zsV {a b:Int}:(a==b)=(b==a):=by rw[Bool.eq_iff_iff,beq_iff_eq,beq_iff_eq];exact eq_comm
theorem zt5 (l:List Int) (hl:l.length<2^62) (x:Int):CallOK Tryz.prog 132 [.f (al l.length (za3 l)), .f (ai x)] (fun r o=>r=[rb (hasI l x)]∧o=[]):=by
 refine zae zam mixed (T:=Ty) (n:=18) Tryz.func132 (c:=Tryz.f132.body.getD .skip) rfl Tryz.results132 Tryz.ntmps132 Tryz.call132 ?_
 simp only[Tryz.f132,Option.getD]
 repeat'(first|refine zq0 ?_|exact zd0|(refine zaa ?_ ?_<;>intro hb)|(refine And.intro ?_ ?_;exact zI)|(refine And.intro ?_ ?_<;>intro hg)|exact zC|fail)
 refine zah (τ:=Nat) (fun i=>⟨[al l.length (za3 l),ai x,dd,dd,dd,ai i,dd,dd,dd,dd,dd,dd,dd,dd,dd,dd,dd,dd],[]⟩)
  (fun i=>i≤l.length) (fun i=>hasI (l.drop i) x) (fun i=>l.length - i) 0
  (Gh.canon [] [] [] zK rfl rfl) (Nat.zero_le _) ?_
 intro i hi0 hF K hK
 rw[List.drop_zero]at hF
 refine zw ?_
 refine zaa (fun hlt=> ?_) (fun hge=> ?_)
 ·have hi:i<l.length:=by simpa using hlt
  have hat:=zce hi
  have hw:=zai hi hl
  have hq:hasI (l.drop i) x=(l[i]==x||hasI (l.drop (i+1)) x):=by rw[List.drop_eq_getElem_cons hi];unfold hasI;rw[List.any_cons,zsV]
  rw[hq]at hF
  repeat'(first|refine zq (I hat (I @zaq zca)) ?_|exact zd (I hat (I @zaq zca))|(refine zaa ?_ ?_<;>intro hb)|(refine And.intro ?_ ?_;exact zI)|(refine And.intro ?_ ?_<;>intro hg)|exact zC|fail)
  ·rw[hb]at hF
   rw[←hF];rfl
  ·rw[hb]at hq
   exact hK _ (i+1) (Gh.canon [] [] [] (zk hw) rfl rfl) hi (by rw[hq];rfl) (by omega)
 ·have hi:i=l.length:=by
   have:¬(i:Int)<l.length:=by simpa using hge
   omega
  rw[hi,List.drop_length]at hF
  rw[←hF]
  repeat'(first|refine zq0 ?_|exact zd0|(refine zaa ?_ ?_<;>intro hb)|(refine And.intro ?_ ?_;exact zI)|(refine And.intro ?_ ?_<;>intro hg)|exact zC|fail)
  rfl
abbrev zt6 (x:Sess):RF:= .agg [.d (iD x.client), .d (iD x.num), .d (iD x.renewed)]
theorem zmK (l:List Sess) (hl:l.length<2^62) (c:Int):CallOK Tryz.prog 62 [.f (al l.length (zaN l)), .f (ai c)]
  (fun r o=>r=[zt6 ((zbx l c).getD zk2),rb (zbx l c).isSome]∧o=[]):=by
 refine zae zam mixed (T:=Ty) (n:=25) Tryz.func62 (c:=Tryz.f62.body.getD .skip) rfl Tryz.results62 Tryz.ntmps62 Tryz.call62 ?_
 simp only[Tryz.f62,Option.getD]
 repeat'(first|refine zq0 ?_|exact zd0|(refine zaa ?_ ?_<;>intro hb)|(refine And.intro ?_ ?_;exact zI)|(refine And.intro ?_ ?_<;>intro hg)|exact zC|fail)
 refine zah (τ:=Nat) (fun i=>⟨[al l.length (zaN l),ai c,dd,dd, .one (.ptr ⟨4,0,1⟩ 0),dd,ai i,dd,dd,dd,dd,dd,dd,dd,dd,dd,dd,dd,dd,dd,dd,dd,dd,dd,dd],[(4,{next:=2,l:=[some {e:=1,var:=true,fz:=false,sz:=0,cells:=[di 0,di 0,di 0]},none,none,none]})]⟩)
  (fun i=>i≤l.length) (fun i=>zbx (l.drop i) c) (fun i=>l.length - i) 0
  (Gh.canon [4] [] [] zK rfl rfl) (Nat.zero_le _) ?_
 intro i hi0 hF K hK
 rw[List.drop_zero]at hF
 refine zw ?_
 refine zaa (fun hlt=> ?_) (fun hge=> ?_)
 ·have hi:i<l.length:=by simpa using hlt
  have hat:=zbu hi
  have hw:=zai hi hl
  have hq:zbx (l.drop i) c=if(l[i].client==c)=true then some l[i]else zbx (l.drop (i+1)) c:=by
   unfold zbx
   rw[List.drop_eq_getElem_cons hi,List.find?_cons]
   cases l[i].client==c<;>rfl
  rw[hq]at hF
  repeat'(first|refine zq (I hat (I @zas zca)) ?_|exact zd (I hat (I @zas zca))|(refine zaa ?_ ?_<;>intro hb)|(refine And.intro ?_ ?_;exact zI)|(refine And.intro ?_ ?_<;>intro hg)|exact zC|fail)
  ·rw[if_pos hb]at hF
   rw[←hF];rfl
  ·rw[if_neg (by rw[hb];simp)]at hq
   exact hK _ (i+1) (Gh.canon [4] [] [] (zk hw) rfl rfl) hi hq.symm (by omega)
 ·have hi:i=l.length:=by
   have:¬(i:Int)<l.length:=by simpa using hge
   omega
  rw[hi,List.drop_length]at hF
  rw[←hF]
  repeat'(first|refine zq0 ?_|exact zd0|(refine zaa ?_ ?_<;>intro hb)|(refine And.intro ?_ ?_;exact zI)|(refine And.intro ?_ ?_<;>intro hg)|exact zC|fail)
  rfl
theorem zgr (v a:Int):CallOK Tryz.prog 78 [.f (ai v), .f (ai a)] (fun r o=>r=[rb (decide (v≥a)&&decide (v≤2305843009213693952))]∧o=[]):=by
 refine zae zam mixed (T:=Ty) (n:=12) Tryz.func78 (c:=Tryz.f78.body.getD .skip) rfl Tryz.results78 Tryz.ntmps78 Tryz.call78 ?_
 simp only[Tryz.f78,Option.getD]
 repeat'(first|refine zq0 ?_|exact zd0|(refine zaa ?_ ?_<;>intro hb)|(refine And.intro ?_ ?_;exact zI)|(refine And.intro ?_ ?_<;>intro hg)|exact zC|fail)
theorem zgs (c:Int):CallOK Tryz.prog 129 [.f (ai c)] (fun r o=>r=[rb (isClient c)]∧o=[]):=by
 refine zae zam mixed (T:=Ty) (n:=9) Tryz.func129 (c:=Tryz.f129.body.getD .skip) rfl Tryz.results129 Tryz.ntmps129 Tryz.call129 ?_
 simp only[Tryz.f129,Option.getD]
 repeat'(first|refine zq0 ?_|exact zd0|(refine zaa ?_ ?_<;>intro hb)|(refine And.intro ?_ ?_;exact zI)|(refine And.intro ?_ ?_<;>intro hg)|exact zC|fail)
 rfl
abbrev zxy (l:List Sess) (now lease:Int):List Int:=(l.filter fun s=>decide (now - s.renewed≥lease)).map Sess.client
structure LkD where
 k:Lk
 x:D
abbrev LkD.enc (m:LkD):List D:=[sD m.k.name,iD m.k.holder,iD m.k.token,m.x]
abbrev zxj (l:List LkD):List D:=l.flatMap LkD.enc
def plain (k:Lk):LkD:=⟨k, .sl k.line.length (za3 k.line)⟩
theorem ziQ {l:List Lk} {m:Lk}:zax (l++[m])=zax l++m.enc:=by simp[zax]
def zxA (l:List Lk) (i:Nat) (x:D):List LkD:=l.zipIdx.map fun p=>if p.2=i then⟨p.1,x⟩else plain p.1
abbrev zxz:Lk:=⟨.empty,0,0,[]⟩
end Go.Proofs.YtbpmcjeeeiffhaaGreat
