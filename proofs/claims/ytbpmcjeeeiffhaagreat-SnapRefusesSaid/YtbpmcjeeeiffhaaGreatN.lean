import Derived.Test.YtbpmcjeeeiffhaaGreatTy
import Derived.Test.YtbpmcjeeeiffhaaGreatK8
import Derived.KernelRfl
namespace Go.Proofs.YtbpmcjeeeiffhaaGreat
open Go.Pk
set_option maxRecDepth 100000
set_option linter.unusedSimpArgs false
set_option linter.unusedVariables false
theorem eqBs:(([24,38,101]:List Nat)).all (eqB Tryz.prog)=true:=by kernel_rfl
theorem zat:TOK Tryz.prog Ty:=zqJ fun t ht=>List.all_eq_true.1 eqBs t ht
theorem mixed:Tryz.prog.follows .mixedOrders=true:=by kernel_rfl
def okByte (c:UInt8):Bool:= !((decide ((c.toNat:Int)<97)||decide ((c.toNat:Int)>122))&&(decide ((c.toNat:Int)<48)||decide ((c.toNat:Int)>57))&&((c.toNat:Int) !=45))
def nameP (s:ByteArray):Bool:=((List.range s.size).all fun j=>okByte (s.data.getD j 0))&&(decide ((s.size:Int)≥1)&&decide ((s.size:Int)≤12))
theorem zne (s:ByteArray) (hs:s.size<2^62):CallOK Tryz.prog 124 [.f (ast s)] (fun r o=>r=[rb (nameP s)]∧o=[]):=by
 refine zae zat mixed (T:=Ty) (n:=40) Tryz.func124 (c:=Tryz.f124.body.getD .skip) rfl Tryz.results124 Tryz.ntmps124 Tryz.call124 ?_
 simp only[Tryz.f124,Option.getD]
 refine zw ?_
 refine zfw Ty Tryz.prog (τ:=Nat) (fun i=>⟨[ast s,dd,ab false,dd,dd,ast s,ai s.size,ai i,dd,dd,dd,dd,dd,dd,dd,dd,dd,dd,dd,dd,dd,dd,dd,dd,dd,dd,dd,dd,dd,dd,dd,dd,dd,dd,dd,dd,dd,dd,dd,dd],[]⟩) (fun i=>i≤s.size∧∀j,j<i→okByte (s.data.getD j 0)=true) (fun i=>s.size - i) 0 ?_ ⟨Nat.zero_le _,fun j hj=>absurd hj (Nat.not_lt_zero j)⟩ ?_
 ·refine Gh.fgt ?_
  simp only[zbt,zbu,zbX,Int.natCast_zero]
 intro i ⟨h1,h2⟩ K hK
 refine zw ?_
 rw[zdJ]
 refine⟨trivial,fun hlt=> ?_,fun hge=> ?_⟩
 ·refine zw ?_
  have hi:i<s.size:=by simpa using hlt
  refine⟨⟨Int.natCast_nonneg i,by omega⟩,zmS (fun a b=>by rw[a,b];rfl), ?_⟩
  have hok:okByte (s.data.getD i 0)= !((decide (((s.data.getD i 0).toNat:Int)<97)||decide (((s.data.getD i 0).toNat:Int)>122))&&(decide (((s.data.getD i 0).toNat:Int)<48)||decide (((s.data.getD i 0).toNat:Int)>57))&&(((s.data.getD i 0).toNat:Int) !=45)):=rfl
  rw[zdJ]
  refine⟨trivial,fun hb=> ?_,fun hb=> ?_⟩
  ·rw[hb]at hok
   refine zw ?_
   have hn:nameP s=false:=by
    unfold nameP
    rw[show((List.range s.size).all fun j=>okByte (s.data.getD j 0))=false from List.all_eq_false.2 ⟨i,List.mem_range.2 hi,by rw[hok];simp⟩,Bool.false_and]
   rw[hn]
  ·rw[hb]at hok
   refine zw ?_
   refine hK _ (i+1) (Gh.fgt ?_) ⟨hi,fun j hj=> ?_⟩ (by omega)
   ·have hw:IntKind.i64.wrap ((i:Int)+1)=((i+1:Nat):Int):=by rw[wrap64 (by omega) (by omega)];rfl
    simp only[hw,zbt,zbu,zbX]
   ·rcases Nat.lt_or_ge j i with h|h
    ·exact h2 j h
    ·rw[show j=i from by omega,hok];rfl
 ·refine zw ?_
  have hi:i=s.size:=by
   have:¬(i:Int)<s.size:=by simpa using hge
   omega
  have hn:nameP s=(decide ((s.size:Int)≥1)&&decide ((s.size:Int)≤12)):=by
   unfold nameP
   rw[show((List.range s.size).all fun j=>okByte (s.data.getD j 0))=true from List.all_eq_true.2 fun j hj=>h2 j (by rw[hi];exact List.mem_range.1 hj),Bool.true_and]
  rw[hn]
def mayP (k n:Int) (s:ByteArray):Bool:=
 if(decide (k<1)||decide (k>6))=true then false else
 if((k==3||k==4||k==5)&& !nameP s|| !(k==3||k==4||k==5)&& !s.toList==(⟨#[]⟩:ByteArray).toList)=true then false else
 if(k==1)=true then n==0 else decide (n≥1)&&decide (n≤2305843009213693952)
def Req.may (r:Req):Bool:=(decide (r.client≥0)&&decide (r.client<8)&&decide (r.seq≥1)&&decide (r.seq≤High))&&mayP r.kind r.session r.name
end Go.Proofs.YtbpmcjeeeiffhaaGreat
namespace Go.Proofs.YtbpmcjeeeiffhaaGreat
open Go.Pk
set_option maxRecDepth 100000
set_option linter.unusedSimpArgs false
set_option linter.unusedVariables false
def idxF {α:Type} (p:α→Bool):List α→Int→Int
 |[],_=> -1
 |x::l,i=>if p x=true then i else idxF p l (i+1)
theorem zfA {α:Type} (p:α→Bool) (l:List α):decide (idxF p l 0≥0)=l.any p:=by
 have h:∀(l:List α) (i:Int),0≤i→(0≤idxF p l i↔l.any p=true):=by
  intro l
  induction l with
  |nil=>intro i _;simp[idxF]
  |cons x l ih=>
   intro i hi
   simp only[idxF]
   by_cases hx:p x=true
   ·simp[hx,hi]
   ·rw[if_neg hx,ih (i+1) (by omega)];simp[hx]
 rw[Bool.eq_iff_iff]
 simpa using h l 0 (Int.le_refl _)
theorem rfs1 {a b:RO}:rfsLe [.one a] [.one b]=(roLe a b∧True):=rfl
theorem zar {i n:Nat} (h:i<n) (hn:n<2^62):IntKind.i64.wrap ((i:Int)+1)=((i+1:Nat):Int):=by rw[wrap64 (by omega) (by omega)];rfl
theorem zoD {n:Nat} (h:n<2^63):IntKind.u64.wrap (n:Int)=n:=by
 unfold IntKind.wrap
 simp[IntKind.signed,IntKind.bits]
 omega
theorem zrh:Go.Pk.bad.x= .one .dead:=rfl
abbrev intAV:Int→AV:=fun x=> .one (di x)
abbrev sessAV:Sess→AV:=fun x=> .agg (x.enc.map C.d)
abbrev lockAV:Lk→AV:=fun x=> .agg (x.enc.map C.d)
abbrev memoAV:Memo→AV:=fun x=> .agg (x.enc.map C.d)
theorem zli (l:List Sess) (hl:l.length<2^62) (p:Sess→Bool) (f:Nat) (caps:List C) (hc:lendAs [] (caps.map AV.one)=some (caps.map fun c=> .f (.one c)))
  (hp:∀x∈l,CallOK Tryz.prog f (.f (sessAV x)::caps.map fun c=> .f (.one c)) (fun r o=>r=[rb (p x)]∧o=[])):
  CallOK Tryz.prog 155 [.f (al l.length (sessE l)), .f (.one (.clos f caps))] (fun r o=>r=[ri (idxF p l 0)]∧o=[]):=by
 refine zae zat mixed (T:=Ty) (n:=19) Tryz.func155 (c:=Tryz.f155.body.getD .skip) rfl Tryz.results155 Tryz.ntmps155 Tryz.call155 ?_
 simp only[Tryz.f155,Option.getD]
 refine zw ?_
 refine zaq (τ:=Nat) (fun i=>⟨[al l.length (sessE l), .one (.clos f caps),dd,dd,ai 0,dd,al l.length (sessE l),ai l.length,ai i,dd,dd,dd,dd,dd,dd,dd,dd,dd,dd],[]⟩) (fun i=>i≤l.length) (fun i=>idxF p (l.drop i) i) (fun i=>l.length - i) 0 (Gh.fgt ?_) (Nat.zero_le _) ?_
 ·simp only[zbt,zbu,zbX,Int.natCast_zero]
 intro i hi0 hF K hK
 refine zw ?_
 rw[zdJ]
 refine⟨trivial,fun hlt=> ?_,fun hge=> ?_⟩
 ·have hi:i<l.length:=by simpa using hlt
  rw[List.drop_eq_getElem_cons hi,idxF]at hF
  have hat:=zbl hi
  simp only[List.cons_append,List.nil_append]at hat
  repeat(first|with_reducible refine zad _ _ ?_|with_reducible refine And.imp_right (zad _ _) ?_|with_reducible refine And.imp_right (And.imp_right (zad _ _)) ?_|with_reducible refine And.imp_right (And.imp_right (And.imp_right (zad _ _))) ?_|rw[zaB]|simp only[zB,zav,hat,hc,Nat.reduceSub,Nat.reduceEqDiff,Nat.reduceAdd,Nat.reduceMul,Nat.reduceLeDiff,Nat.reduceLT,Nat.reduceBEq,reduceCtorEq])
  refine⟨⟨Int.natCast_nonneg i,by omega⟩, ?_⟩
  refine za6 (hp _ (List.getElem_mem hi)) ?_
  refine zw ?_
  refine zab (fun hb=> ?_) (fun hb=> ?_)
  ·rw[if_pos hb]at hF
   refine zw ?_
   rw[hF];rfl
  ·rw[if_neg (by simp[hb])]at hF
   refine zw ?_
   refine hK _ (i+1) (Gh.fgt ?_) hi (by simp only[List.drop_eq_getElem_cons hi,idxF];rw[if_neg (by simp[hb])];rfl) (by omega)
   have hw:IntKind.i64.wrap ((i:Int)+1)=((i+1:Nat):Int):=by rw[wrap64 (by omega) (by omega)];rfl
   simp only[hw,zbt,zbu,zbX]
 ·have hi:i=l.length:=by
   have:¬(i:Int)<l.length:=by simpa using hge
   omega
  rw[hi,List.drop_length,idxF]at hF
  refine zw ?_
  rw[hF];rfl
theorem zlj (l:List Lk) (hl:l.length<2^62) (p:Lk→Bool) (f:Nat) (caps:List C) (hc:lendAs [] (caps.map AV.one)=some (caps.map fun c=> .f (.one c)))
  (hp:∀x∈l,CallOK Tryz.prog f (.f (lockAV x)::caps.map fun c=> .f (.one c)) (fun r o=>r=[rb (p x)]∧o=[])):
  CallOK Tryz.prog 174 [.f (al l.length (locksE l)), .f (.one (.clos f caps))] (fun r o=>r=[ri (idxF p l 0)]∧o=[]):=by
 refine zae zat mixed (T:=Ty) (n:=19) Tryz.func174 (c:=Tryz.f174.body.getD .skip) rfl Tryz.results174 Tryz.ntmps174 Tryz.call174 ?_
 simp only[Tryz.f174,Option.getD]
 refine zw ?_
 refine zaq (τ:=Nat) (fun i=>⟨[al l.length (locksE l), .one (.clos f caps),dd,dd,ai 0,dd,al l.length (locksE l),ai l.length,ai i,dd,dd,dd,dd,dd,dd,dd,dd,dd,dd],[]⟩) (fun i=>i≤l.length) (fun i=>idxF p (l.drop i) i) (fun i=>l.length - i) 0 (Gh.fgt ?_) (Nat.zero_le _) ?_
 ·simp only[zbt,zbu,zbX,Int.natCast_zero]
 intro i hi0 hF K hK
 refine zw ?_
 rw[zdJ]
 refine⟨trivial,fun hlt=> ?_,fun hge=> ?_⟩
 ·have hi:i<l.length:=by simpa using hlt
  rw[List.drop_eq_getElem_cons hi,idxF]at hF
  have hat:=zaN hi
  simp only[List.cons_append,List.nil_append]at hat
  repeat(first|with_reducible refine zad _ _ ?_|with_reducible refine And.imp_right (zad _ _) ?_|with_reducible refine And.imp_right (And.imp_right (zad _ _)) ?_|with_reducible refine And.imp_right (And.imp_right (And.imp_right (zad _ _))) ?_|rw[zaB]|simp only[zB,zaf,hat,hc,Nat.reduceSub,Nat.reduceEqDiff,Nat.reduceAdd,Nat.reduceMul,Nat.reduceLeDiff,Nat.reduceLT,Nat.reduceBEq,reduceCtorEq])
  refine⟨⟨Int.natCast_nonneg i,by omega⟩, ?_⟩
  refine za6 (hp _ (List.getElem_mem hi)) ?_
  refine zw ?_
  refine zab (fun hb=> ?_) (fun hb=> ?_)
  ·rw[if_pos hb]at hF
   refine zw ?_
   rw[hF];rfl
  ·rw[if_neg (by simp[hb])]at hF
   refine zw ?_
   refine hK _ (i+1) (Gh.fgt ?_) hi (by simp only[List.drop_eq_getElem_cons hi,idxF];rw[if_neg (by simp[hb])];rfl) (by omega)
   have hw:IntKind.i64.wrap ((i:Int)+1)=((i+1:Nat):Int):=by rw[wrap64 (by omega) (by omega)];rfl
   simp only[hw,zbt,zbu,zbX]
 ·have hi:i=l.length:=by
   have:¬(i:Int)<l.length:=by simpa using hge
   omega
  rw[hi,List.drop_length,idxF]at hF
  refine zw ?_
  rw[hF];rfl
theorem zhT (l:List Sess) (hl:l.length<2^62) (p:Sess→Bool) (f:Nat) (caps:List C) (hc:lendAs [] (caps.map AV.one)=some (caps.map fun c=> .f (.one c))) (hc2:lendC.lendCs [] caps=some caps)
  (hp:∀x∈l,CallOK Tryz.prog f (.f (sessAV x)::caps.map fun c=> .f (.one c)) (fun r o=>r=[rb (p x)]∧o=[])):
  CallOK Tryz.prog 171 [.f (al l.length (sessE l)), .f (.one (.clos f caps))] (fun r o=>r=[rb (l.any p)]∧o=[]):=by
 refine zae zat mixed (T:=Ty) (n:=9) Tryz.func171 (c:=Tryz.f171.body.getD .skip) rfl Tryz.results171 Tryz.ntmps171 Tryz.call171 ?_
 simp only[Tryz.f171,Option.getD]
 repeat(first|with_reducible refine zad _ _ ?_|with_reducible refine And.imp_right (zad _ _) ?_|with_reducible refine And.imp_right (And.imp_right (zad _ _)) ?_|with_reducible refine And.imp_right (And.imp_right (And.imp_right (zad _ _))) ?_|rw[zaB]|simp only[zB,hc2,Nat.reduceSub,Nat.reduceEqDiff,Nat.reduceAdd,Nat.reduceMul,Nat.reduceLeDiff,Nat.reduceLT,Nat.reduceBEq,reduceCtorEq])
 refine za6 (zli l hl p f caps hc hp) ?_
 refine zw ?_
 rw[zfA]
theorem zhU (l:List Lk) (hl:l.length<2^62) (p:Lk→Bool) (f:Nat) (caps:List C) (hc:lendAs [] (caps.map AV.one)=some (caps.map fun c=> .f (.one c))) (hc2:lendC.lendCs [] caps=some caps)
  (hp:∀x∈l,CallOK Tryz.prog f (.f (lockAV x)::caps.map fun c=> .f (.one c)) (fun r o=>r=[rb (p x)]∧o=[])):
  CallOK Tryz.prog 126 [.f (al l.length (locksE l)), .f (.one (.clos f caps))] (fun r o=>r=[rb (l.any p)]∧o=[]):=by
 refine zae zat mixed (T:=Ty) (n:=9) Tryz.func126 (c:=Tryz.f126.body.getD .skip) rfl Tryz.results126 Tryz.ntmps126 Tryz.call126 ?_
 simp only[Tryz.f126,Option.getD]
 repeat(first|with_reducible refine zad _ _ ?_|with_reducible refine And.imp_right (zad _ _) ?_|with_reducible refine And.imp_right (And.imp_right (zad _ _)) ?_|with_reducible refine And.imp_right (And.imp_right (And.imp_right (zad _ _))) ?_|rw[zaB]|simp only[zB,hc2,Nat.reduceSub,Nat.reduceEqDiff,Nat.reduceAdd,Nat.reduceMul,Nat.reduceLeDiff,Nat.reduceLT,Nat.reduceBEq,reduceCtorEq])
 refine za6 (zlj l hl p f caps hc hp) ?_
 refine zw ?_
 rw[zfA]
set_option maxHeartbeats 1000000 in
theorem ziR (l:List Sess) (hl:l.length<2^62) (t:Int) (c:Sess→Int) (f:Nat) (m:Nat) (hm:m≤l.length) (h1:∀j (hj:j<l.length),j<m→c l[j]<0) (h2:∀j (hj:j<l.length),m≤j→0≤c l[j])
  (hp:∀x∈l,CallOK Tryz.prog f [.f (sessAV x), .f (ai t)] (fun r o=>r=[ri (c x)]∧o=[])):
  CallOK Tryz.prog 188 [.f (al l.length (sessE l)), .f (ai t), .f (.one (.clos f []))] (fun r o=>r=[ri m,rb ((l[m]?.map fun x=>c x==0).getD false)]∧o=[]):=by
 refine zae zat mixed (T:=Ty) (n:=49) Tryz.func188 (c:=Tryz.f188.body.getD .skip) rfl Tryz.results188 Tryz.ntmps188 Tryz.call188 ?_
 simp only[Tryz.f188,Option.getD]
 refine zw ?_
 refine zaq (τ:=Nat×Nat) (fun q=>⟨[al l.length (sessE l),ai t, .one (.clos f []),dd,dd,dd,dd,dd,ai l.length,ai q.1,ai q.2,dd,dd,dd,dd,dd,dd,dd,dd,dd,dd,dd,dd,dd,dd,dd,dd,dd,dd,dd,dd,dd,dd,dd,dd,dd,dd,dd,dd,dd,dd,dd,dd,dd,dd,dd,dd,dd,dd],[]⟩) (fun q=>q.1≤m∧m≤q.2∧q.2≤l.length) (fun _=>()) (fun q=>q.2 - q.1) (0,l.length) (Gh.fgt ?_) ⟨Nat.zero_le _,hm,Nat.le_refl _⟩ ?_
 ·simp only[zbt,zbu,zbX,Int.natCast_zero]
 intro⟨lo,hi⟩ ⟨b1,b2,b3⟩ hF K hK
 simp only at b1 b2 b3 hF hK⊢
 refine zw ?_
 refine zab (fun hlt=> ?_) (fun hge=> ?_)
 ·have hlt:lo<hi:=by simpa using hlt
  obtain⟨q,hq⟩:∃q:Nat,q=(lo+hi) / 2:=⟨_,rfl⟩
  have hw1:IntKind.i64.wrap ((lo:Int)+hi)=((lo+hi:Nat):Int):=by rw[wrap64 (by omega) (by omega)];rfl
  have hw2:IntKind.u64.wrap ((lo+hi:Nat):Int)=((lo+hi:Nat):Int):=zoD (by omega)
  have hw3:IntKind.i64.wrap (((lo+hi:Nat):Int).fdiv (2^(min (Int.toNat 1) IntKind.u64.bits)))=(q:Int):=by
   rw[show(2:Int)^(min (Int.toNat 1) IntKind.u64.bits)=2 by decide,hq,show(((lo+hi:Nat):Int)).fdiv 2=(((lo+hi) / 2:Nat):Int) by rw[Int.fdiv_eq_ediv_of_nonneg _ (by decide)];rfl]
   exact wrap64 (by omega) (by omega)
  have hqh:q<hi:=by omega
  have hql:q<l.length:=by omega
  have hat:=zbl hql
  simp only[List.cons_append,List.nil_append]at hat
  have hcp:=hp _ (List.getElem_mem hql)
  have hw4:IntKind.i64.wrap ((q:Int)+1)=((q+1:Nat):Int):=by rw[wrap64 (by omega) (by omega)];rfl
  have h10:∀(a b:Option Value),(if(1:Int)<0 then a else b)=b:=fun a b=>if_neg (by decide)
  clear hlt
  repeat'(first|with_reducible refine zad _ _ ?_|rw[zaB]|simp only[zB,h10,hw1,hw2,hw3,zav,hat,Nat.mul_one,Nat.reduceSub,Nat.reduceEqDiff,Nat.reduceAdd,Nat.reduceMul,Nat.reduceLeDiff,Nat.reduceLT,Nat.reduceBEq,reduceCtorEq]|((first|((try refine zaY ?_);apply za6)|(apply zba;intro _));(solve|exact(hcp)|(refine CallOK.le (hcp) ?_;exact zM)|fail);try case hn=>rfl)|refine zaa ?_|refine zab (fun hb=> ?_) (fun hb=> ?_)|(refine And.intro ?_ ?_;exact zI)|refine And.intro (fun hg=> ?_) (fun hg=> ?_)|exact zC|fail)
  ·have hqm:q<m:=by
    rcases Nat.lt_or_ge q m with h|h
    ·exact h
    ·have:=h2 q hql h
     have hb':c l[q]<0:=by simpa using hb
     omega
   refine hK _ (q+1,hi) (Gh.fgt ?_) ⟨by simp only;omega,b2,b3⟩ trivial (by simp only;omega)
   simp only[hw4,zbt,zbu,zbX]
  ·have hqm:m≤q:=by
    rcases Nat.lt_or_ge q m with h|h
    ·have:=h1 q hql h
     have hb':¬c l[q]<0:=by simpa using hb
     omega
    ·exact h
   refine hK _ (lo,q) (Gh.fgt ?_) ⟨b1,hqm,by simp only;omega⟩ trivial (by simp only;omega)
   simp only[zbt,zbu,zbX]
 ·have he:lo=m:=by
   have:¬(lo:Int)<hi:=by simpa using hge
   omega
  subst he
  by_cases hlt:lo<l.length
  ·have hat:=zbl hlt
   simp only[List.cons_append,List.nil_append]at hat
   have hcp:=hp _ (List.getElem_mem hlt)
   have hd:decide ((lo:Int)<l.length)=true:=by simpa using hlt
   repeat'(first|with_reducible refine zad _ _ ?_|rw[zaB]|simp only[zB,hd,zav,hat,Nat.mul_one,Nat.reduceSub,Nat.reduceEqDiff,Nat.reduceAdd,Nat.reduceMul,Nat.reduceLeDiff,Nat.reduceLT,Nat.reduceBEq,reduceCtorEq]|((first|((try refine zaY ?_);apply za6)|(apply zba;intro _));(solve|exact(hcp)|(refine CallOK.le (hcp) ?_;exact zM)|fail);try case hn=>rfl)|refine zaa ?_|refine zab (fun hb=> ?_) (fun hb=> ?_)|(refine And.intro ?_ ?_;exact zI)|refine And.intro (fun hg=> ?_) (fun hg=> ?_)|exact zC|fail)
   rw[List.getElem?_eq_getElem hlt];rfl
  ·have hd:decide ((lo:Int)<l.length)=false:=by simp;omega
   have hn:l[lo]? =none:=List.getElem?_eq_none (by omega)
   repeat'(first|with_reducible refine zad _ _ ?_|rw[zaB]|simp only[zB,hd,zav,Nat.mul_one,hn,zrh,Option.map_none,Nat.reduceSub,Nat.reduceEqDiff,Nat.reduceAdd,Nat.reduceMul,Nat.reduceLeDiff,Nat.reduceLT,Nat.reduceBEq,reduceCtorEq]|refine zaa ?_|refine zab (fun hb=> ?_) (fun hb=> ?_)|(refine And.intro ?_ ?_;exact zI)|refine And.intro (fun hg=> ?_) (fun hg=> ?_)|exact zC|fail)
end Go.Proofs.YtbpmcjeeeiffhaaGreat
namespace Go.Proofs.YtbpmcjeeeiffhaaGreat
open Go.Pk
set_option maxRecDepth 100000
set_option linter.unusedSimpArgs false
set_option linter.unusedVariables false
theorem zgZ {α:Type}:∀(xs pre mid post:List α),mid.length=xs.length→fillAt pre.length xs (pre++(mid++post))=pre++(xs++post)
 |[],pre,mid,post,h=>by
  have:mid=[]:=List.eq_nil_of_length_eq_zero h
  subst this;rfl
 |x::xs,pre,m::mid,post,h=>by
  have:=zgZ xs (pre++[x]) mid post (by simpa using h)
  rw[fillAt]
  simp only[List.length_append,List.length_cons,List.length_nil,Nat.zero_add,List.append_assoc,List.cons_append,List.nil_append]at this⊢
  rw[←this]
  congr 1
  simp[List.set_append]
 |x::xs,pre,[],post,h=>by simp at h
theorem zkC {α:Type} (enc:α→List D) (sz:Nat) (h:∀x,(enc x).length=sz) {l:List α} {i:Nat} (hi:i<l.length) (x:α):
  fillAt (i*sz) ((enc x).map C.d) ((l.flatMap enc).map C.d)=((l.set i x).flatMap enc).map C.d:=by
 have e1:l=l.take i++(l[i]::l.drop (i+1)):=by rw[List.getElem_cons_drop];simp
 have e2:l.set i x=l.take i++(x::l.drop (i+1)):=by rw[List.set_eq_take_append_cons_drop,if_pos hi]
 have hl:((l.take i).flatMap enc).length=i*sz:=by rw[zbV enc sz h,List.length_take];congr 1;omega
 rw[e2]
 conv=>lhs;rw[e1]
 simp only[List.flatMap_append,List.flatMap_cons,List.map_append]
 have:=zgZ ((enc x).map C.d) (((l.take i).flatMap enc).map C.d) ((enc l[i]).map C.d) (((l.drop (i+1)).flatMap enc).map C.d) (by simp[h])
 rw[List.length_map,hl]at this
 exact this
theorem zd5 {α:Type} (enc:α→List D) (sz:Nat) (h:∀x,(enc x).length=sz) {l:List α} {i k:Nat} (hi:i<l.length) (hk:k<sz) (v:D) (x:α) (hx:enc x=(enc l[i]).set k v):
  ((l.flatMap enc).map C.d).set (i*sz+k) (C.d v)=((l.set i x).flatMap enc).map C.d:=by
 have e1:l=l.take i++(l[i]::l.drop (i+1)):=by rw[List.getElem_cons_drop];simp
 have e2:l.set i x=l.take i++(x::l.drop (i+1)):=by rw[List.set_eq_take_append_cons_drop,if_pos hi]
 have hl:((l.take i).flatMap enc).length=i*sz:=by rw[zbV enc sz h,List.length_take];congr 1;omega
 rw[e2]
 conv=>lhs;rw[e1]
 rw[←List.map_set]
 simp only[List.flatMap_append,List.flatMap_cons]
 rw[List.set_append,if_neg (by omega),List.set_append,if_pos (by rw[h];omega),show i*sz+k - ((l.take i).flatMap enc).length=k by omega,hx]
theorem zqn {α:Type} {l:List α} {k:Nat} (hk:k≤l.length) (x:α):(l.take k++x::l.drop k).length=l.length+1:=by
 rw[List.length_append,List.length_take,List.length_cons,List.length_drop];omega
theorem znd {α:Type} (enc:α→List D) (sz:Nat) (h:∀x,(enc x).length=sz) {l:List α} {k:Nat} (hk:k<l.length):
  (l.eraseIdx k).flatMap enc=(l.flatMap enc).take (k*sz)++(l.flatMap enc).drop ((k+1)*sz):=by
 rw[zec enc sz h (by omega),zlW enc sz h hk,List.eraseIdx_eq_take_drop_succ,List.flatMap_append]
theorem zfz {α:Type} (p:α→Bool):∀(l:List α) (i:Nat),(∀x∈l,p x=false)∧idxF p l i= -1∨∃k,∃h:k<l.length,idxF p l i=((i+k:Nat):Int)∧p l[k]=true∧∀x∈l.take k,p x=false
 |[],i=> .inl ⟨fun x hx=>(List.not_mem_nil hx).elim,rfl⟩
 |x::l,i=>by
  rw[idxF]
  by_cases hx:p x=true
  ·rw[if_pos hx]
   exact .inr ⟨0,by simp,rfl,by simpa using hx,fun y hy=>by simp at hy⟩
  ·rw[if_neg hx]
   have hx':p x=false:=by simpa using hx
   rcases zfz p l (i+1)with⟨h1,h2⟩|⟨k,hk,h1,h2,h3⟩
   ·exact .inl ⟨fun y hy=>(List.mem_cons.1 hy).elim (fun e=>e▸hx') (fun e=>h1 y e),by simpa using h2⟩
   ·refine .inr ⟨k+1,by simpa using hk, ?_,by simpa using h2,fun y hy=> ?_⟩
    ·have:((i:Int)+1)=((i+1:Nat):Int):=rfl
     rw[this,h1];congr 1;omega
    ·rw[List.take_succ_cons]at hy
     exact(List.mem_cons.1 hy).elim (fun e=>e▸hx') (fun e=>h3 y e)
end Go.Proofs.YtbpmcjeeeiffhaaGreat
namespace Go.Proofs.YtbpmcjeeeiffhaaGreat
open Go.Pk
set_option maxRecDepth 100000
set_option linter.unusedSimpArgs false
set_option linter.unusedVariables false
theorem ziQ (l:List Int) (hl:l.length<2^62) (v:Int):CallOK Tryz.prog 156 [.f (al l.length (intsE l)), .f (ai v)] (fun r o=>r=[ri (idxF (fun x=>v==x) l 0)]∧o=[]):=by
 refine zae zat mixed (T:=Ty) (n:=19) Tryz.func156 (c:=Tryz.f156.body.getD .skip) rfl Tryz.results156 Tryz.ntmps156 Tryz.call156 ?_
 simp only[Tryz.f156,Option.getD]
 refine zw ?_
 refine zaq (τ:=Nat) (fun i=>⟨[al l.length (intsE l),ai v,dd,dd,ai 0,dd,al l.length (intsE l),ai l.length,ai i,dd,dd,dd,dd,dd,dd,dd,dd,dd,dd],[]⟩) (fun i=>i≤l.length) (fun i=>idxF (fun x=>v==x) (l.drop i) i) (fun i=>l.length - i) 0 (Gh.fgt ?_) (Nat.zero_le _) ?_
 ·simp only[zbt,zbu,zbX,Int.natCast_zero]
 intro i hi0 hF K hK
 refine zw ?_
 refine zab (fun hlt=> ?_) (fun hge=> ?_)
 ·have hi:i<l.length:=by simpa using hlt
  rw[List.drop_eq_getElem_cons hi,idxF]at hF
  have hat:=zbE hi
  simp only[List.cons_append,List.nil_append]at hat
  have hw:=zar hi hl
  clear hlt
  repeat'(first|refine zq (I @zao hat) ?_|exact zd (I @zao hat)|refine zaa ?_|refine zab (fun hb=> ?_) (fun hb=> ?_)|(refine And.intro ?_ ?_;exact zI)|refine And.intro (fun hg=> ?_) (fun hg=> ?_)|exact zC|fail)
  ·rw[if_pos hb]at hF
   rw[hF];rfl
  ·rw[if_neg (by simp[hb])]at hF
   refine hK _ (i+1) (Gh.fgt ?_) hi (by simp only[List.drop_eq_getElem_cons hi,idxF];rw[if_neg (by simp[hb])];rfl) (by omega)
   simp only[hw,zbt,zbu,zbX]
 ·have hi:i=l.length:=by
   have:¬(i:Int)<l.length:=by simpa using hge
   omega
  rw[hi,List.drop_length,idxF]at hF
  refine zw ?_
  rw[hF];rfl
theorem zfc (l:List Int) (hl:l.length<2^62) (v:Int):CallOK Tryz.prog 110 [.f (al l.length (intsE l)), .f (ai v)] (fun r o=>r=[rb (l.any fun x=>v==x)]∧o=[]):=by
 refine zae zat mixed (T:=Ty) (n:=9) Tryz.func110 (c:=Tryz.f110.body.getD .skip) rfl Tryz.results110 Tryz.ntmps110 Tryz.call110 ?_
 simp only[Tryz.f110,Option.getD]
 repeat'(first|with_reducible refine zad _ _ ?_|rw[zaB]|simp only[zB,Nat.reduceSub,Nat.reduceEqDiff,Nat.reduceAdd,Nat.reduceMul,Nat.reduceLeDiff,Nat.reduceLT,Nat.reduceBEq,reduceCtorEq]|((first|((try refine zaY ?_);apply za6)|(apply zba;intro _));(solve|exact(ziQ l hl v)|(refine CallOK.le (ziQ l hl v) ?_;exact zM)|fail);try case hn=>rfl)|refine zaa ?_|refine zab (fun hb=> ?_) (fun hb=> ?_)|(refine And.intro ?_ ?_;exact zI)|refine And.intro (fun hg=> ?_) (fun hg=> ?_)|exact zC|fail)
 rw[zfA]
theorem zfy (v:Int):CallOK Tryz.prog 187 [.f (ai v)] (fun r o=>r=[rb false]∧o=[]):=by
 refine zae zat mixed (T:=Ty) (n:=6) Tryz.func187 (c:=Tryz.f187.body.getD .skip) rfl Tryz.results187 Tryz.ntmps187 Tryz.call187 ?_
 simp only[Tryz.f187,Option.getD]
 repeat'(first|with_reducible refine zad _ _ ?_|rw[zaB]|simp only[zB,bne_self_eq_false,Nat.reduceSub,Nat.reduceEqDiff,Nat.reduceAdd,Nat.reduceMul,Nat.reduceLeDiff,Nat.reduceLT,Nat.reduceBEq,reduceCtorEq]|refine zaa ?_|refine zab (fun hb=> ?_) (fun hb=> ?_)|(refine And.intro ?_ ?_;exact zI)|refine And.intro (fun hg=> ?_) (fun hg=> ?_)|exact zC|fail)
def cmpI (a b:Int):Int:=if a<b then -1 else if a>b then 1 else 0
theorem zf9 (a b:Int):CallOK Tryz.prog 161 [.f (ai a), .f (ai b)] (fun r o=>r=[ri (cmpI a b)]∧o=[]):=by
 refine zae zat mixed (T:=Ty) (n:=20) Tryz.func161 (c:=Tryz.f161.body.getD .skip) rfl Tryz.results161 Tryz.ntmps161 Tryz.call161 ?_
 simp only[Tryz.f161,Option.getD]
 repeat'(first|refine zq0 ?_|exact zd0|refine zc (zfy a) ?_|refine zg (zfy a) ?_|refine zc (zfy b) ?_|refine zg (zfy b) ?_|refine zaa ?_|refine zab (fun hb=> ?_) (fun hb=> ?_)|(refine And.intro ?_ ?_;exact zI)|refine And.intro (fun hg=> ?_) (fun hg=> ?_)|exact zC|fail)
 all_goals simp only[decide_eq_true_eq,decide_eq_false_iff_not]at*
 ·unfold cmpI;rw[if_pos (by assumption)]
 ·unfold cmpI;rw[if_neg (by assumption),if_pos (by assumption)]
 ·unfold cmpI;rw[if_neg (by assumption),if_neg (by assumption)]
theorem zhR (n:Int):CallOK Tryz.prog 173 [.f (ai n)] (fun r o=>r=[rb (decide (n≥0)&&decide (n<8))]∧o=[]):=by
 refine zae zat mixed (T:=Ty) (n:=9) Tryz.func173 (c:=Tryz.f173.body.getD .skip) rfl Tryz.results173 Tryz.ntmps173 Tryz.call173 ?_
 simp only[Tryz.f173,Option.getD]
 repeat'(first|refine zq0 ?_|exact zd0|refine zaa ?_|refine zab (fun hb=> ?_) (fun hb=> ?_)|(refine And.intro ?_ ?_;exact zI)|refine And.intro (fun hg=> ?_) (fun hg=> ?_)|exact zC|fail)
theorem zhS (n:Int):CallOK Tryz.prog 122 [.f (ai n)] (fun r o=>r=[rb (decide (n≥0)&&decide (n<8))]∧o=[]):=by
 refine zae zat mixed (T:=Ty) (n:=9) Tryz.func122 (c:=Tryz.f122.body.getD .skip) rfl Tryz.results122 Tryz.ntmps122 Tryz.call122 ?_
 simp only[Tryz.f122,Option.getD]
 repeat'(first|refine zq0 ?_|exact zd0|refine zaa ?_|refine zab (fun hb=> ?_) (fun hb=> ?_)|(refine And.intro ?_ ?_;exact zI)|refine And.intro (fun hg=> ?_) (fun hg=> ?_)|exact zC|fail)
def isClient (n:Int):Bool:=decide (n≥0)&&decide (n<8)
def hasI (l:List Int) (v:Int):Bool:=l.any fun x=>v==x
theorem rfs3 {a b c a' b' c':RO}:rfsLe [.one a, .one b, .one c] [.one a', .one b', .one c']=(roLe a a'∧roLe b b'∧roLe c c'∧True):=rfl
def rowI (l:List Int):RF:= .one (.own 1 l.length (intsE l) false)
def joinP (l:List Int) (c:Int):List Int×Int×Int:=
 if(!isClient c)=true then([],0,1)else if hasI l c=true then([],0,7)else if decide ((l.length:Int)≥3)=true then([],0,5)else(l++[c],l.length,0)
theorem znc {l:List Int} {i:Nat} (hi:i≤l.length):(intsE l).take i=intsE (l.take i):=by have:=zec (fun n=>[iD n]) 1 (fun _=>rfl) hi;rwa[Nat.mul_one]at this
def leaveP (l:List Int) (c:Int):List Int×Bool:=if idxF (fun x=>c==x) l 0<0 then(l,false)else(l.eraseIdx (idxF (fun x=>c==x) l 0).toNat,true)
def withoutP (l gone:List Int):List Int:=l.filter fun c=> !hasI gone c
end Go.Proofs.YtbpmcjeeeiffhaaGreat
namespace Go.Proofs.YtbpmcjeeeiffhaaGreat
open Go.Pk
set_option linter.unusedSimpArgs false
set_option linter.unusedVariables false
section
variable {α:Type} {p:α→Bool}
def posB (p:α→Bool) (l:List α):Nat:=(l.takeWhile p).length
def Mono (p:α→Bool) (l:List α):Prop:=l.Pairwise fun x y=>p y=true→p x=true
theorem zjA {l:List α}:posB p l≤l.length:=(List.takeWhile_prefix _).length_le
theorem zbR {x:α} {l:List α}:posB p (x::l)=if p x=true then posB p l+1 else 0:=by
 unfold posB
 rw[List.takeWhile_cons]
 split<;>simp[*]
theorem zhN:∀{l:List α} {j:Nat} (hj:j<l.length),j<posB p l→p l[j]=true
 |x::l,0,_,h=>by
  rw[zbR]at h
  split at h
  ·assumption
  ·omega
 |x::l,j+1,hj,h=>by
  rw[zbR]at h
  split at h
  ·exact zhN (l:=l) (by simpa using hj) (by omega)
  ·omega
theorem zhO:∀{l:List α} {j:Nat} (hj:j<l.length),Mono p l→posB p l≤j→p l[j]=false
 |x::l,0,_,hm,h=>by
  rw[zbR]at h
  split at h
  ·omega
  ·rename_i hx;simpa using hx
 |x::l,j+1,hj,hm,h=>by
  have hm':=List.pairwise_cons.1 hm
  have hj':j<l.length:=by simpa using hj
  rw[zbR]at h
  split at h
  ·exact zhO (l:=l) hj' hm'.2 (by omega)
  ·rename_i hx
   have:=hm'.1 l[j] (List.getElem_mem hj')
   simp only[List.getElem_cons_succ]
   cases hc:p l[j]
   ·rfl
   ·exact absurd (this hc) hx
theorem zeF {q:α→Bool}:∀{l:List α},Mono p l→(∀x,q x=true→p x=false)→(l.Pairwise fun x y=>q y=true→p x=true)→l.find? q=(l[posB p l]?).filter q
 |[],_,_,_=>rfl
 |x::l,hm,hq,hs=>by
  have hm':=List.pairwise_cons.1 hm
  have hs':=List.pairwise_cons.1 hs
  rw[List.find?_cons,zbR]
  cases hx:p x
  ·rw[if_neg (by simp)]
   simp only[List.getElem?_cons_zero]
   cases hqx:q x
   ·simp only[Option.filter,hqx,Bool.false_eq_true,if_false]
    rw[List.find?_eq_none]
    intro y hy hqy
    have:=hs'.1 y hy hqy
    rw[hx]at this;cases this
   ·simp[Option.filter,hqx]
  ·rw[if_pos rfl]
   have hqx:q x=false:=by
    cases hc:q x
    ·rfl
    ·have:=hq x hc;rw[hx]at this;cases this
   rw[hqx]
   simp only[List.getElem?_cons_succ]
   exact zeF hm'.2 hq hs'.2
end
def SS (l:List Sess):Prop:=l.Pairwise fun x y=>x.client<y.client
def posS (l:List Sess) (c:Int):Nat:=posB (fun x=>decide (x.client<c)) l
def findS (l:List Sess) (c:Int):Option Sess:=l.find? fun x=>x.client==c
theorem zjB {l:List Sess} (h:SS l) (c:Int):Mono (fun x:Sess=>decide (x.client<c)) l:=h.imp fun hxy h=>by simp at h⊢;omega
theorem zf8 {l:List Sess} (h:SS l) (c:Int):findS l c=(l[posS l c]?).filter fun x=>x.client==c:=
 zeF (q:=fun x:Sess=>x.client==c) (zjB h c) (fun x hx=>by simp at hx⊢;omega) (h.imp fun hxy h=>by simp at h⊢;omega)
def SM (l:List Memo):Prop:=l.Pairwise fun x y=>x.client<y.client
def posM (l:List Memo) (c:Int):Nat:=posB (fun x=>decide (x.client<c)) l
def findM (l:List Memo) (c:Int):Option Memo:=l.find? fun x=>x.client==c
theorem zm9 {l:List Memo} (h:SM l) (c:Int):Mono (fun x:Memo=>decide (x.client<c)) l:=h.imp fun hxy h=>by simp at h⊢;omega
theorem zna {l:List Memo} (h:SM l) (c:Int):findM l c=(l[posM l c]?).filter fun x=>x.client==c:=
 zeF (q:=fun x:Memo=>x.client==c) (zm9 h c) (fun x hx=>by simp at hx⊢;omega) (h.imp fun hxy h=>by simp at h⊢;omega)
abbrev bLess (a b:ByteArray):Bool:=Go.Op.bytesLess a.toList b.toList
theorem zkB:∀{a:List UInt8},Go.Op.bytesLess a a=false
 |[]=>rfl
 |a::x=>by rw[Go.Op.bytesLess,zkB (a:=x)];simp
theorem zhP:∀{a b c:List UInt8},Go.Op.bytesLess a b=true→Go.Op.bytesLess b c=true→Go.Op.bytesLess a c=true
 |[],[],_,h,_=>by cases h
 |[],_::_,[],_,h=>by cases h
 |[],_::_,_::_,_,_=>rfl
 |_::_,[],_,h,_=>by cases h
 |_::_,_::_,[],_,h=>by cases h
 |a::x,b::y,c::z,h1,h2=>by
  rw[Go.Op.bytesLess]at*
  simp only[Bool.or_eq_true,Bool.and_eq_true,decide_eq_true_eq,beq_iff_eq]at*
  rcases h1 with h1|⟨rfl,h1⟩<;>rcases h2 with h2|⟨rfl,h2⟩
  ·exact .inl (UInt8.lt_trans h1 h2)
  ·exact .inl h1
  ·exact .inl h2
  ·exact .inr ⟨rfl,zhP h1 h2⟩
theorem zpF:∀{a b:List UInt8},Go.Op.bytesLess a b=false→Go.Op.bytesLess b a=false→a=b
 |[],[],_,_=>rfl
 |[],_::_,h,_=>by cases h
 |_::_,[],_,h=>by cases h
 |a::x,b::y,h1,h2=>by
  rw[Go.Op.bytesLess]at*
  simp only[Bool.or_eq_false_iff,Bool.and_eq_false_iff,decide_eq_false_iff_not,beq_eq_false_iff_ne]at*
  have hab:a=b:=UInt8.le_antisymm (UInt8.not_lt.1 h2.1) (UInt8.not_lt.1 h1.1)
  subst hab
  rcases h1.2 with h|h1'
  ·exact absurd rfl h
  rcases h2.2 with h|h2'
  ·exact absurd rfl h
  rw[zpF h1' h2']
def SL (l:List Lk):Prop:=l.Pairwise fun x y=>bLess x.name y.name=true
def posL (l:List Lk) (s:ByteArray):Nat:=posB (fun x=>bLess x.name s) l
def isL (s:ByteArray) (x:Lk):Bool:=x.name.toList==s.toList
def findL (l:List Lk) (s:ByteArray):Option Lk:=l.find? (isL s)
theorem zjC {l:List Lk} (h:SL l) (s:ByteArray):Mono (fun x:Lk=>bLess x.name s) l:=h.imp fun hxy h=>zhP hxy h
theorem znb {l:List Lk} (h:SL l) (s:ByteArray):findL l s=(l[posL l s]?).filter (isL s):=
 zeF (q:=isL s) (zjC h s) (fun x hx=>by
  simp only[isL,beq_iff_eq]at hx
  simp only[bLess,hx,zkB]) (h.imp fun hxy h=>by
  simp only[isL,beq_iff_eq]at h
  simp only[bLess]at hxy⊢
  rw[←h];exact hxy)
theorem zd4 {α:Type} {o:Option α} {p:α→Bool} {x:α} (h:o.filter p=some x):o=some x∧p x=true:=by
 cases o with
 |none=>simp at h
 |some y=>
  simp only[Option.filter]at h
  split at h
  ·rename_i hp;cases h;exact⟨rfl,hp⟩
  ·cases h
theorem ziP {α:Type} {l:List α} {i:Nat} {x:α} (h:l[i]? =some x):∃hi:i<l.length,l[i]=x:=by
 obtain⟨hi,h⟩:=List.getElem?_eq_some_iff.1 h
 exact⟨hi,h⟩
theorem zhQ {l:List Sess} (h:SS l) {c:Int} {x:Sess} (hx:findS l c=some x):(∃hi:posS l c<l.length,l[posS l c]=x)∧x.client=c:=by
 rw[zf8 h]at hx
 obtain⟨h1,h2⟩:=zd4 hx
 exact⟨ziP h1,by simpa using h2⟩
theorem zcc {l:List Lk} (h:SL l) {s:ByteArray} {x:Lk} (hx:findL l s=some x):(∃hi:posL l s<l.length,l[posL l s]=x)∧isL s x=true:=by
 rw[znb h]at hx
 obtain⟨h1,h2⟩:=zd4 hx
 exact⟨ziP h1,h2⟩
theorem zoC {l:List Memo} (h:SM l) {c:Int} {x:Memo} (hx:findM l c=some x):(∃hi:posM l c<l.length,l[posM l c]=x)∧x.client=c:=by
 rw[zna h]at hx
 obtain⟨h1,h2⟩:=zd4 hx
 exact⟨ziP h1,by simpa using h2⟩
end Go.Proofs.YtbpmcjeeeiffhaaGreat
namespace Go.Proofs.YtbpmcjeeeiffhaaGreat
open Go.Pk
set_option linter.unusedSimpArgs false
set_option linter.unusedVariables false
def checkP {α:Type} (q:Nat→α→Bool):Nat→List α→Bool
 |_,[]=>true
 |i,x::r=>if q i x=true then checkP q (i+1) r else false
theorem zbK {α:Type} {q:Nat→α→Bool}:∀{l:List α} {i:Nat},checkP q i l=true↔∀j (hj:j<l.length),q (i+j) l[j]=true
 |[],i=>by simp[checkP]
 |x::l,i=>by
  rw[checkP]
  constructor
  ·intro h
   split at h
   ·rename_i hx
    intro j hj
    cases j with
    |zero=>exact hx
    |succ j=>
     have:=zbK.1 h j (by simpa using hj)
     simp only[List.getElem_cons_succ]
     rw[show i+(j+1)=i+1+j by omega];exact this
   ·cases h
  ·intro h
   have h0:=h 0 (by simp)
   simp only[List.getElem_cons_zero,Nat.add_zero]at h0
   rw[if_pos h0,zbK]
   intro j hj
   have:=h (j+1) (by simpa using hj)
   simp only[List.getElem_cons_succ]at this
   rw[show i+1+j=i+(j+1) by omega];exact this
theorem zaH {α:Type} {q:Nat→α→Bool} {l:List α} {i:Nat} (h:i<l.length):checkP q i (l.drop i)=if q i l[i]=true then checkP q (i+1) (l.drop (i+1))else false:=by
 rw[List.drop_eq_getElem_cons h,checkP]
theorem zck {α:Type} {q:Nat→α→Bool} {l:List α} {i:Nat} (h:i=l.length):checkP q i (l.drop i)=true:=by
 rw[h,List.drop_length,checkP]
def okSess (s:Sess):Bool:=isClient s.client&& !(decide (s.num<1))&& !(decide (s.num>High))&& !(decide (s.renewed<0))&& !(decide (s.renewed>High))
def numbered (l:List Sess) (n:Int):Bool:=l.any fun x=>x.num==n
def prevS (l:List Sess) (i:Nat):Int:=(l[i - 1]?.map Sess.client).getD 0
def sessQ (l:List Sess) (i:Nat) (s:Sess):Bool:=okSess s&& !((decide (i>0)&&decide (prevS l i≥s.client))||numbered (l.take i) s.num)
def sessB (l:List Sess):Bool:= !(decide ((l.length:Int)>5))&&checkP (sessQ l) 0 l
def openP (l:List Sess) (c num now:Int):List Sess×Int:=
 if(!isClient c||decide (num<1)||decide (num>High)||decide (now<0)||decide (now>High)||(!(findS l c).isSome&&numbered l num)||((findS l c).isSome&&(((findS l c).map Sess.num).getD 0 !=num)&&numbered l num))=true then([],1)else
 if(findS l c).isSome=true then([],7)else if decide ((l.length:Int)≥5)=true then([],5)else(l.take (posS l c)++⟨c,num,now⟩::l.drop (posS l c),0)
def renewP (l:List Sess) (c now:Int):List Sess×Int:=
 if(decide (now<0)||decide (now>High))=true then([],1)else
 match findS l c with
 |none=>([],6)
 |some x=>(l.set (posS l c) ⟨x.client,x.num,max x.renewed now⟩,0)
def dueP (l:List Sess) (now lease:Int):List Int:=
 if(decide (now<0)||decide (now>High)||decide (lease<0)||decide (lease>High))=true then []else(l.filter fun s=>decide (now - s.renewed≥lease)).map Sess.client
def lineQ (l:List Int) (i:Nat) (c:Int):Bool:= !(!isClient c||hasI (l.take i) c)
def lineB (l:List Int):Bool:=checkP (lineQ l) 0 l&&decide ((l.length:Int)≤3)
def prevL (l:List Lk) (i:Nat):ByteArray:=(l[i - 1]?.map Lk.name).getD .empty
def okLk (k:Lk):Bool:=nameP k.name&& !(decide (k.holder<0))&& !(decide (k.holder≥8))&& !(decide (k.token<1))&& !(decide (k.token>High))
def lockQ (l:List Lk) (i:Nat) (k:Lk):Bool:=okLk k&& !(!lineB k.line||hasI k.line k.holder||(decide (i>0)&& !(bLess (prevL l i) k.name)))&& !((l.take i).any fun o=>o.token==k.token)
def lockB (l:List Lk):Bool:=checkP (lockQ l) 0 l&&decide ((l.length:Int)≤4)
def aheadP (l:List Int) (c:Int):Int:=if idxF (fun x=>c==x) l 0≥0 then idxF (fun x=>c==x) l 0 else 0
def takeP (l:List Lk) (name:ByteArray) (c token:Int) (wait:Bool):List Lk×Int×Int:=
 match findL l name with
 |none=>if decide ((l.length:Int)≥4)=true then([],0,5)else(l.take (posL l name)++⟨name,c,token+1,[]⟩::l.drop (posL l name),0,0)
 |some k=>if(k.holder==c)=true then([],0,7)else if(!wait)=true then([],0,8)else
  if hasI k.line c=true then(l,aheadP k.line c,10)else
  if(joinP k.line c).2.2≠0 then([],0,(joinP k.line c).2.2)else(l.set (posL l name) ⟨k.name,k.holder,k.token,(joinP k.line c).1⟩,(joinP k.line c).2.1,10)
def passP (l:List Lk) (i:Nat) (k:Lk) (token:Int):List Lk×Int:=
 match k.line with
 |[]=>(l.eraseIdx i,0)
 |c::rest=>(l.set i ⟨k.name,c,token+1,rest⟩,1)
def freeP (l:List Lk) (name:ByteArray) (c token:Int):List Lk×Int×Int:=
 match findL l name with
 |none=>([],0,6)
 |some k=>if(k.holder==c)=true then((passP l (posL l name) k token).1,(passP l (posL l name) k token).2,0)else
  if hasI k.line c=true then(l.set (posL l name) ⟨k.name,k.holder,k.token,(leaveP k.line c).1⟩,0,0)else([],0,6)
def dropR (gone:List Int) (token:Int):List Lk→Int→List Lk×Int
 |[],g=>([],g)
 |k::r,g=>if hasI gone k.holder=true then
   match k.line with
   |[]=>dropR gone token r g
   |c::rest=>(⟨k.name,c,token+g+1,rest⟩::(dropR gone token r (g+1)).1,(dropR gone token r (g+1)).2)
  else(k::(dropR gone token r g).1,(dropR gone token r g).2)
def lockWithout (gone:List Int) (k:Lk):Lk:=⟨k.name,k.holder,k.token,withoutP k.line gone⟩
def dropP (l:List Lk) (gone:List Int) (token:Int):List Lk×Int:=dropR gone token (l.map (lockWithout gone)) 0
def heldP (l:List Lk) (c:Int):List Grant:=(l.filter fun k=>k.holder==c).map fun k=>⟨k.name,k.token⟩
def prevG (l:List Grant) (i:Nat):ByteArray:=(l[i - 1]?.map Grant.name).getD .empty
def grantQ (l:List Grant) (i:Nat) (g:Grant):Bool:= !(!nameP g.name||decide (g.token<1)||decide (g.token>High)||(decide (i>0)&& !(bLess (prevG l i) g.name)))
def replyB (r:Reply):Bool:=
 !(decide (r.code<0)||decide (r.code>12)||decide (r.session<0)||decide (r.session>High)||decide (r.ahead<0)||decide (r.ahead>3))&&
 !(decide ((r.held.length:Int)>4)||((r.session==0)&&decide ((r.held.length:Int)>0)))&&checkP (grantQ r.held) 0 r.held
def answerB (m:Memo):Bool:=decide (m.client≥0)&&decide (m.client<8)&&decide (m.seq≥1)&&decide (m.seq≤High)&&replyB m.reply
def prevM (l:List Memo) (i:Nat):Int:=(l[i - 1]?.map Memo.client).getD 0
def memoQ (l:List Memo) (i:Nat) (m:Memo):Bool:= !(!answerB m||(decide (i>0)&&decide (prevM l i≥m.client)))
def memoB (l:List Memo):Bool:=checkP (memoQ l) 0 l
def freshP (l:List Memo) (c seq:Int):Int:=
 match findM l c with
 |none=>1
 |some m=>if m.seq<seq then 1 else if m.seq=seq then 0 else -1
def keepP (l:List Memo) (a:Memo):List Memo:=
 if(!answerB a||(freshP l a.client a.seq !=1))=true then l else
 if(findM l a.client).isSome=true then l.set (posM l a.client) a else l.take (posM l a.client)++a::l.drop (posM l a.client)
def within (n:Int):Bool:=decide (n≥0)&&decide (n≤High)
def seatedB (s:St):Bool:=s.locks.all fun k=>(k.holder::k.line).all fun c=>(findS s.sess c).isSome
def rightB (s:St):Bool:=within s.time&&within s.num&&within s.token&&sessB s.sess&&lockB s.locks&&memoB s.memos&&(s.sess.all fun x=>decide (x.num≤s.num))&&(s.locks.all fun k=>decide (k.token≤s.token))&&seatedB s
def withoutSt (s:St) (gone:List Int):St:=⟨s.time,s.num,s.token+(dropP s.locks gone s.token).2,s.sess.filter fun x=> !hasI gone x.client,(dropP s.locks gone s.token).1,s.memos⟩
def timeP (s:St) (time:Int):Int:=if(decide (time>s.time)&&decide (time≤High))=true then time else s.time
def advanceP (s:St) (time lease:Int):St:=withoutSt {s with time:=timeP s time} (dueP s.sess (timeP s time) (max lease 1))
def rpl (code session ahead:Int) (held:List Grant):Reply:=⟨code,session,ahead,held⟩
def openedP (s:St) (c:Int):St×Reply:=
 match findS s.sess c with
 |some x=>(s,⟨7,x.num,0,heldP s.locks c⟩)
 |none=>if(openP s.sess c (s.num+1) s.time).2≠0 then(s,⟨(openP s.sess c (s.num+1) s.time).2,0,0,[]⟩)else
  ({s with sess:=(openP s.sess c (s.num+1) s.time).1,num:=s.num+1},⟨0,s.num+1,0,heldP s.locks c⟩)
def doneP (s:St) (r:Req):St×Reply:=
 if(r.kind==1)=true then openedP s r.client else
 match findS s.sess r.client with
 |none=>(s,⟨9,0,0,[]⟩)
 |some x=>if(x.num !=r.session)=true then(s,⟨9,0,0,[]⟩)else
  let s1:St:={s with sess:=(renewP s.sess r.client s.time).1}
  if(r.kind==3||r.kind==4)=true then
   let t:=takeP s1.locks r.name r.client s1.token (r.kind==3)
   let s2:St:=if t.2.2=0 then {s1 with locks:=t.1,token:=s1.token+1}else if t.2.2=10 then {s1 with locks:=t.1}else s1
   (s2,⟨t.2.2,x.num,if t.2.2=10 then t.2.1 else 0,heldP s2.locks r.client⟩)
  else if(r.kind==5)=true then
   let t:=freeP s1.locks r.name r.client s1.token
   let s2:St:=if t.2.2=0 then {s1 with locks:=t.1,token:=s1.token+t.2.1}else s1
   (s2,⟨t.2.2,x.num,0,heldP s2.locks r.client⟩)
  else if(r.kind==6)=true then(withoutSt s1 [r.client],⟨0,0,0,[]⟩)
  else(s1,⟨0,x.num,0,heldP s1.locks r.client⟩)
def applyP (s:St) (r:Req):St×Reply×Bool:=
 if(!Req.may r)=true then(s,⟨1,0,0,[]⟩,false)else
 if freshP s.memos r.client r.seq= -1 then(s,⟨0,0,0,[]⟩,false)else
 if freshP s.memos r.client r.seq=0 then(s,((findM s.memos r.client).map Memo.reply).getD ⟨0,0,0,[]⟩,false)else
 ({(doneP s r).1 with memos:=keepP (doneP s r).1.memos ⟨r.client,r.seq,(doneP s r).2⟩},(doneP s r).2,true)
def goneP (a b:St):List Int:=(a.sess.filter fun x=> !((findS b.sess x.client).any fun y=>y.num==x.num)).map Sess.client
end Go.Proofs.YtbpmcjeeeiffhaaGreat
namespace Go.Proofs.YtbpmcjeeeiffhaaGreat
open Go.Pk
set_option maxRecDepth 100000
set_option linter.unusedSimpArgs false
set_option linter.unusedVariables false
theorem znf {a b:Int}:(cmpI a b==0)=(a==b):=by
 unfold cmpI
 split
 ·rw[Bool.eq_iff_iff];simp;omega
 ·split
  ·rw[Bool.eq_iff_iff];simp;omega
  ·rw[Bool.eq_iff_iff];simp;omega
theorem zng {a b:Int}:cmpI a b<0↔a<b:=by
 unfold cmpI
 split
 ·simp;omega
 ·split<;>simp<;>omega
theorem zoE {α:Type} {o:Option α} {p:α→Bool}:(o.filter p).isSome=(o.map p).getD false:=by
 cases o with
 |none=>rfl
 |some x=>simp only[Option.filter,Option.map_some,Option.getD_some];cases p x<;>rfl
theorem zqo (x:Sess) (n:Int):CallOK Tryz.prog 172 [.f (sessAV x), .f (.one (.elt [iD n]))] (fun r o=>r=[rb (x.num==n)]∧o=[]):=by
 refine zae zat mixed (T:=Ty) (n:=8) Tryz.func172 (c:=Tryz.f172.body.getD .skip) rfl Tryz.results172 Tryz.ntmps172 Tryz.call172 ?_
 simp only[Tryz.f172,Option.getD]
 repeat'(first|refine zq0 ?_|exact zd0|refine zaa ?_|refine zab (fun hb=> ?_) (fun hb=> ?_)|(refine And.intro ?_ ?_;exact zI)|refine And.intro (fun hg=> ?_) (fun hg=> ?_)|exact zC|fail)
theorem zjD (l:List Sess) (hl:l.length<2^62) (n:Int):CallOK Tryz.prog 123 [.f (al l.length (sessE l)), .f (ai n)] (fun r o=>r=[rb (numbered l n)]∧o=[]):=by
 refine zae zat mixed (T:=Ty) (n:=8) Tryz.func123 (c:=Tryz.f123.body.getD .skip) rfl Tryz.results123 Tryz.ntmps123 Tryz.call123 ?_
 simp only[Tryz.f123,Option.getD]
 have h:=zhT l hl (fun x=>x.num==n) 172 [.elt [iD n]] rfl rfl (fun x _=>zqo x n)
 repeat'(first|refine zq0 ?_|exact zd0|refine zc (h) ?_|refine zg (h) ?_|refine zaa ?_|refine zab (fun hb=> ?_) (fun hb=> ?_)|(refine And.intro ?_ ?_;exact zI)|refine And.intro (fun hg=> ?_) (fun hg=> ?_)|exact zC|fail)
 rfl
theorem zll (x:Sess) (c:Int):CallOK Tryz.prog 189 [.f (sessAV x), .f (ai c)] (fun r o=>r=[ri (cmpI x.client c)]∧o=[]):=by
 refine zae zat mixed (T:=Ty) (n:=9) Tryz.func189 (c:=Tryz.f189.body.getD .skip) rfl Tryz.results189 Tryz.ntmps189 Tryz.call189 ?_
 simp only[Tryz.f189,Option.getD]
 repeat'(first|refine zq0 ?_|exact zd0|refine zc (zf9 x.client c) ?_|refine zg (zf9 x.client c) ?_|refine zaa ?_|refine zab (fun hb=> ?_) (fun hb=> ?_)|(refine And.intro ?_ ?_;exact zI)|refine And.intro (fun hg=> ?_) (fun hg=> ?_)|exact zC|fail)
theorem znh (l:List Sess) (hs:SS l) (hl:l.length<2^62) (c:Int):CallOK Tryz.prog 162 [.f (al l.length (sessE l)), .f (ai c)] (fun r o=>r=[ri (posS l c),rb (findS l c).isSome]∧o=[]):=by
 refine zae zat mixed (T:=Ty) (n:=11) Tryz.func162 (c:=Tryz.f162.body.getD .skip) rfl Tryz.results162 Tryz.ntmps162 Tryz.call162 ?_
 simp only[Tryz.f162,Option.getD]
 have h:=ziR l hl c (fun x=>cmpI x.client c) 189 (posS l c) zjA
  (fun j hj h=>by have:=zhN hj h;simp at this;exact zng.2 this)
  (fun j hj h=>by have:=zhO hj (zjB hs c) h;simp at this;have h2:= @zng l[j].client c;omega) (fun x _=>zll x c)
 have e:((l[posS l c]?.map fun x=>cmpI x.client c==0).getD false)=(findS l c).isSome:=by
  rw[zf8 hs,zoE]
  simp only[znf]
 rw[e]at h
 repeat'(first|refine zq0 ?_|exact zd0|refine zc (h) ?_|refine zg (h) ?_|refine zaa ?_|refine zab (fun hb=> ?_) (fun hb=> ?_)|(refine And.intro ?_ ?_;exact zI)|refine And.intro (fun hg=> ?_) (fun hg=> ?_)|exact zC|fail)
theorem rfs2 {a b a' b':RO}:rfsLe [.one a, .one b] [.one a', .one b']=(roLe a a'∧roLe b b'∧True):=rfl
def noSess:Sess:=⟨0,0,0⟩
theorem zoF (l:List Sess) (hs:SS l) (hl:l.length<2^62) (c:Int):CallOK Tryz.prog 114 [.f (al l.length (sessE l)), .f (ai c)]
  (fun r o=>r=[.agg [.d (iD ((findS l c).getD noSess).client), .d (iD ((findS l c).getD noSess).num), .d (iD ((findS l c).getD noSess).renewed)],rb (findS l c).isSome]∧o=[]):=by
 refine zae zat mixed (T:=Ty) (n:=20) Tryz.func114 (c:=Tryz.f114.body.getD .skip) rfl Tryz.results114 Tryz.ntmps114 Tryz.call114 ?_
 simp only[Tryz.f114,Option.getD]
 have h:=znh l hs hl c
 cases hf:findS l c with
 |none=>
  rw[hf]at h
  simp only[Option.isSome_none]at h
  repeat'(first|refine zq0 ?_|exact zd0|refine zc (h) ?_|refine zg (h) ?_|refine zaa ?_|refine zab (fun hb=> ?_) (fun hb=> ?_)|(refine And.intro ?_ ?_;exact zI)|refine And.intro (fun hg=> ?_) (fun hg=> ?_)|exact zC|fail)
  rfl
 |some x=>
  rw[hf]at h
  simp only[Option.isSome_some]at h
  rw[zf8 hs]at hf
  have hg:l[posS l c]? =some x:=by
   cases hq:l[posS l c]? with
   |none=>rw[hq]at hf;simp at hf
   |some y=>rw[hq]at hf;simp only[Option.filter]at hf;split at hf<;>simp_all
  obtain⟨hi,he⟩:=List.getElem?_eq_some_iff.1 hg
  have hat:=zbl hi
  rw[he]at hat
  simp only[List.cons_append,List.nil_append]at hat
  repeat'(first|refine zq (I hat @zav) ?_|exact zd (I hat @zav)|refine zc (h) ?_|refine zg (h) ?_|refine zaa ?_|refine zab (fun hb=> ?_) (fun hb=> ?_)|(refine And.intro ?_ ?_;exact zI)|refine And.intro (fun hg=> ?_) (fun hg=> ?_)|exact zC|fail)
  rfl
theorem ziV (l:List Sess) (hl:l.length<2^30):CallOK Tryz.prog 72 [.f (al l.length (sessE l))] (fun r o=>r=[rb (sessB l)]∧o=[]):=by
 refine zae zat mixed (T:=Ty) (n:=61) Tryz.func72 (c:=Tryz.f72.body.getD .skip) rfl Tryz.results72 Tryz.ntmps72 Tryz.call72 ?_
 simp only[Tryz.f72,Option.getD]
 cases h5:decide ((l.length:Int)>5)
 ·have hs:sessB l=checkP (sessQ l) 0 l:=by rw[sessB,h5];rfl
  rw[hs]
  repeat'(first|refine zq (I h5 @zav) ?_|exact zd (I h5 @zav)|refine zaa ?_|refine zab (fun hb=> ?_) (fun hb=> ?_)|(refine And.intro ?_ ?_;exact zI)|refine And.intro (fun hg=> ?_) (fun hg=> ?_)|exact zC|fail)
  refine zaq (τ:=Nat) (fun i=>⟨[al l.length (sessE l),dd,dd,dd,dd,dd,dd,dd,al l.length (sessE l),ai l.length,ai i,dd,dd,dd,dd,dd,dd,dd,dd,dd,dd,dd,dd,dd,dd,dd,dd,dd,dd,dd,dd,dd,dd,dd,dd,dd,dd,dd,dd,dd,dd,dd,dd,dd,dd,dd,dd,dd,dd,dd,dd,dd,dd,dd,dd,dd,dd,dd,dd,dd,dd],[(4,⟨2,[]⟩)]⟩)
   (fun i=>i≤l.length) (fun i=>checkP (sessQ l) i (l.drop i)) (fun i=>l.length - i) 0
   (Gh.canon [] [4] [] zK rfl rfl) (Nat.zero_le _) ?_
  intro i hi0 hF K hK
  simp only[List.drop_zero]at hF hK⊢
  refine zw ?_
  refine zab (fun hlt=> ?_) (fun hge=> ?_)
  ·have hi:i<l.length:=by simpa using hlt
   have hat:=zbl hi
   simp only[List.cons_append,List.nil_append]at hat
   have hw:=zar hi (by omega)
   rw[zaH hi]at hF
   have hcl:=zhS l[i].client
   have hnb:=zjD (l.take i) (by rw[List.length_take];omega) l[i].num
   have hlt2:(l.take i).length=i:=by rw[List.length_take];omega
   have htk:(sessE l).take (i*3)=sessE (l.take i):=zec Sess.enc 3 (fun _=>rfl) (by omega)
   rw[hlt2]at hnb
   cases e0:decide ((i:Int)>0)
   ·have hq:sessQ l i l[i]=(!(!(decide (l[i].client≥0)&&decide (l[i].client<8))||decide (l[i].num<1)||decide (l[i].num>2305843009213693952)||decide (l[i].renewed<0)||decide (l[i].renewed>2305843009213693952))&& !(numbered (l.take i) l[i].num)):=by
     unfold sessQ okSess isClient
     have:decide (i>0)=false:=by simpa using e0
     rw[this]
     simp only[Bool.not_or,Bool.not_not,Bool.false_and,Bool.false_or]
    have h0:i=0:=by simpa using e0
    have hp:(sessE l).drop ((IntKind.i64.wrap ((i:Int) - 1)).toNat*3)=l[i].enc++sessE (l.drop (i+1)):=by
     rw[←zbl hi,h0];rfl
    repeat'(first|refine zq (I hat (I hp (I htk (I e0 (I @List.cons_append.{0} (I @List.nil_append.{0} @zav)))))) ?_|exact zd (I hat (I hp (I htk (I e0 (I @List.cons_append.{0} (I @List.nil_append.{0} @zav))))))|refine zc (hcl) ?_|refine zg (hcl) ?_|refine zc (hnb) ?_|refine zg (hnb) ?_|refine zaa ?_|refine zab (fun hb=> ?_) (fun hb=> ?_)|(refine And.intro ?_ ?_;exact zI)|refine And.intro (fun hg=> ?_) (fun hg=> ?_)|exact zC|fail)
    ·rw[hq,hb,if_neg (by simp)]at hF
     rw[←hF]
    ·rename_i ha
     rw[hq,ha,hb,if_neg (by simp)]at hF
     rw[←hF]
    ·rename_i ha
     exact hK _ (i+1) (Gh.canon [] [] [] (by simp only[hw,zah,zau,zai,zak,zal,zam,List.set_cons_zero,List.set_cons_succ,and_true,true_and,Int.natCast_zero,Int.cast_ofNat_Int,D.v.injEq,Value.int.injEq];try(repeat'(first|rfl|omega|with_reducible apply And.intro))) rfl rfl) hi (by rw[zaH hi,hq,ha,hb];rfl) (by omega)
   ·have hq:sessQ l i l[i]=(!(!(decide (l[i].client≥0)&&decide (l[i].client<8))||decide (l[i].num<1)||decide (l[i].num>2305843009213693952)||decide (l[i].renewed<0)||decide (l[i].renewed>2305843009213693952))&& !(decide ((l[i - 1]'(by omega)).client≥l[i].client)||numbered (l.take i) l[i].num)):=by
     unfold sessQ okSess isClient prevS
     have:decide (i>0)=true:=by simpa using e0
     rw[this,List.getElem?_eq_getElem (by omega)]
     simp only[Bool.not_or,Bool.not_not,Bool.true_and,Option.map_some,Option.getD_some]
    have h0:0<i:=by simpa using e0
    have hp:=zbl (show i - 1<l.length by omega)
    have hw1:IntKind.i64.wrap ((i:Int) - 1)=((i - 1:Nat):Int):=by rw[wrap64 (by omega) (by omega)];omega
    repeat'(first|refine zq (I hat (I hp (I hw1 (I htk (I e0 (I @List.cons_append.{0} (I @List.nil_append.{0} @zav))))))) ?_|exact zd (I hat (I hp (I hw1 (I htk (I e0 (I @List.cons_append.{0} (I @List.nil_append.{0} @zav)))))))|refine zc (hcl) ?_|refine zg (hcl) ?_|refine zc (hnb) ?_|refine zg (hnb) ?_|refine zaa ?_|refine zab (fun hb=> ?_) (fun hb=> ?_)|(refine And.intro ?_ ?_;exact zI)|refine And.intro (fun hg=> ?_) (fun hg=> ?_)|exact zC|fail)
    ·rw[hq,hb,if_neg (by simp)]at hF
     rw[←hF]
    ·rename_i ha
     rw[hq,ha,hb,if_neg (by simp)]at hF
     rw[←hF]
    ·rename_i ha
     exact hK _ (i+1) (Gh.canon [] [] [] (by simp only[hw,zah,zau,zai,zak,zal,zam,List.set_cons_zero,List.set_cons_succ,and_true,true_and,Int.natCast_zero,Int.cast_ofNat_Int,D.v.injEq,Value.int.injEq];try(repeat'(first|rfl|omega|with_reducible apply And.intro))) rfl rfl) hi (by rw[zaH hi,hq,ha,hb];rfl) (by omega)
  ·have hi:i=l.length:=by
    have:¬(i:Int)<l.length:=by simpa using hge
    omega
   rw[zck hi]at hF
   rw[←hF]
   repeat'(first|refine zq0 ?_|exact zd0|refine zaa ?_|refine zab (fun hb=> ?_) (fun hb=> ?_)|(refine And.intro ?_ ?_;exact zI)|refine And.intro (fun hg=> ?_) (fun hg=> ?_)|exact zC|fail)
 ·have hs:sessB l=false:=by rw[sessB,h5];rfl
  rw[hs]
  repeat'(first|refine zq (I h5 @zav) ?_|exact zd (I h5 @zav)|refine zaa ?_|refine zab (fun hb=> ?_) (fun hb=> ?_)|(refine And.intro ?_ ?_;exact zI)|refine And.intro (fun hg=> ?_) (fun hg=> ?_)|exact zC|fail)
end Go.Proofs.YtbpmcjeeeiffhaaGreat
namespace Go.Proofs.YtbpmcjeeeiffhaaGreat
open Go.Pk
set_option maxRecDepth 100000
set_option linter.unusedSimpArgs false
set_option linter.unusedVariables false
def cmpB (a b:ByteArray):Int:=Lib.compareBytes a.data.toList b.data.toList
theorem ziT (l:List Int) (hl:l.length<2^30):CallOK Tryz.prog 125 [.f (al l.length (intsE l))] (fun r o=>r=[rb (lineB l)]∧o=[]):=by
 refine zae zat mixed (T:=Ty) (n:=26) Tryz.func125 (c:=Tryz.f125.body.getD .skip) rfl Tryz.results125 Tryz.ntmps125 Tryz.call125 ?_
 simp only[Tryz.f125,Option.getD]
 repeat'(first|refine zq @zao ?_|exact zd @zao|refine zaa ?_|refine zab (fun hb=> ?_) (fun hb=> ?_)|(refine And.intro ?_ ?_;exact zI)|refine And.intro (fun hg=> ?_) (fun hg=> ?_)|exact zC|fail)
 refine zaq (τ:=Nat) (fun i=>⟨[al l.length (intsE l),dd,dd,dd,dd,al l.length (intsE l),ai l.length,ai i,dd,dd,dd,dd,dd,dd,dd,dd,dd,dd,dd,dd,dd,dd,dd,dd,dd,dd],[]⟩)
  (fun i=>i≤l.length) (fun i=>checkP (lineQ l) i (l.drop i)) (fun i=>l.length - i) 0
  (Gh.canon [] [] [] zK rfl rfl) (Nat.zero_le _) ?_
 intro i hi0 hF K hK
 rw[List.drop_zero]at hF
 refine zw ?_
 refine zab (fun hlt=> ?_) (fun hge=> ?_)
 ·have hi:i<l.length:=by simpa using hlt
  have hat:=zbE hi
  have hw:=zar hi (by omega)
  rw[zaH hi]at hF
  have hcl:=zhR l[i]
  have hlt2:(l.take i).length=i:=by rw[List.length_take];omega
  have htk:(intsE l).take i=intsE (l.take i):=znc (by omega)
  have hco:=zfc (l.take i) (by omega) l[i]
  rw[hlt2]at hco
  have hq:lineQ l i l[i]= !(!(decide (l[i]≥0)&&decide (l[i]<8))||(l.take i).any fun x=>l[i]==x):=rfl
  repeat'(first|refine zq (I hat (I htk (I @List.cons_append.{0} (I @List.nil_append.{0} @zao)))) ?_|exact zd (I hat (I htk (I @List.cons_append.{0} (I @List.nil_append.{0} @zao))))|refine zc (hcl) ?_|refine zg (hcl) ?_|refine zc (hco) ?_|refine zg (hco) ?_|refine zaa ?_|refine zab (fun hb=> ?_) (fun hb=> ?_)|(refine And.intro ?_ ?_;exact zI)|refine And.intro (fun hg=> ?_) (fun hg=> ?_)|exact zC|fail)
  ·rw[hq,hb,if_neg (by simp)]at hF
   unfold lineB
   rw[←hF];rfl
  ·exact hK _ (i+1) (Gh.canon [] [] [] (by simp only[hw,zah,zau,zai,zak,zal,zam,List.set_cons_zero,List.set_cons_succ,and_true,true_and,Int.natCast_zero,Int.cast_ofNat_Int,D.v.injEq,Value.int.injEq];try(repeat'(first|rfl|omega|with_reducible apply And.intro))) rfl rfl) hi (by rw[zaH hi,hq,hb];rfl) (by omega)
 ·have hi:i=l.length:=by
   have:¬(i:Int)<l.length:=by simpa using hge
   omega
  rw[zck hi]at hF
  unfold lineB
  rw[←hF]
  repeat'(first|refine zq0 ?_|exact zd0|refine zaa ?_|refine zab (fun hb=> ?_) (fun hb=> ?_)|(refine And.intro ?_ ?_;exact zI)|refine And.intro (fun hg=> ?_) (fun hg=> ?_)|exact zC|fail)
theorem zlk (k j:Lk):CallOK Tryz.prog 127 [.f (lockAV k), .f (.one (.elt j.enc))] (fun r o=>r=[rb (k.token==j.token)]∧o=[]):=by
 refine zae zat mixed (T:=Ty) (n:=9) Tryz.func127 (c:=Tryz.f127.body.getD .skip) rfl Tryz.results127 Tryz.ntmps127 Tryz.call127 ?_
 simp only[Tryz.f127,Option.getD]
 repeat'(first|refine zq0 ?_|exact zd0|refine zaa ?_|refine zab (fun hb=> ?_) (fun hb=> ?_)|(refine And.intro ?_ ?_;exact zI)|refine And.intro (fun hg=> ?_) (fun hg=> ?_)|exact zC|fail)
theorem ziU (l:List Lk) (hl:l.length<2^30) (hll:∀k∈l,k.line.length<2^30∧k.name.size<2^62):CallOK Tryz.prog 73 [.f (al l.length (locksE l))] (fun r o=>r=[rb (lockB l)]∧o=[]):=by
 refine zae zat mixed (T:=Ty) (n:=71) Tryz.func73 (c:=Tryz.f73.body.getD .skip) rfl Tryz.results73 Tryz.ntmps73 Tryz.call73 ?_
 simp only[Tryz.f73,Option.getD]
 repeat'(first|refine zq @zaf ?_|exact zd @zaf|refine zaa ?_|refine zab (fun hb=> ?_) (fun hb=> ?_)|(refine And.intro ?_ ?_;exact zI)|refine And.intro (fun hg=> ?_) (fun hg=> ?_)|exact zC|fail)
 refine zaq (τ:=Nat) (fun i=>⟨[al l.length (locksE l),dd,dd,dd,dd,al l.length (locksE l),ai l.length,ai i,dd,dd,dd,dd,dd,dd,dd,dd,dd,dd,dd,dd,dd,dd,dd,dd,dd,dd,dd,dd,dd,dd,dd,dd,dd,dd,dd,dd,dd,dd,dd,dd,dd,dd,dd,dd,dd,dd,dd,dd,dd,dd,dd,dd,dd,dd,dd,dd,dd,dd,dd,dd,dd,dd,dd,dd,dd,dd,dd,dd,dd,dd,dd],[(4,⟨2,[]⟩)]⟩)
  (fun i=>i≤l.length) (fun i=>checkP (lockQ l) i (l.drop i)) (fun i=>l.length - i) 0
  (Gh.canon [] [4] [] zK rfl rfl) (Nat.zero_le _) ?_
 intro i hi0 hF K hK
 rw[List.drop_zero]at hF
 refine zw ?_
 refine zab (fun hlt=> ?_) (fun hge=> ?_)
 ·have hi:i<l.length:=by simpa using hlt
  have hat:=zaN hi
  obtain⟨hk1,hk2⟩:=hll _ (List.getElem_mem hi)
  have hw:=zar hi (by omega)
  rw[zaH hi]at hF
  have hnm:=zne l[i].name hk2
  have hlr:=ziT l[i].line hk1
  have hlc:=zfc l[i].line (by omega) l[i].holder
  have hlt2:(l.take i).length=i:=by rw[List.length_take];omega
  have htk:(locksE l).take (i*4)=locksE (l.take i):=zec Lk.enc 4 (fun _=>rfl) (by omega)
  have hco:=zhU (l.take i) (by omega) (fun o=>o.token==l[i].token) 127 [.elt l[i].enc] rfl rfl (fun x _=>zlk x _)
  rw[hlt2]at hco
  cases e0:decide ((i:Int)>0)
  ·have h0:i=0:=by simpa using e0
   have hq:lockQ l i l[i]=(!(!nameP l[i].name||decide (l[i].holder<0)||decide (l[i].holder≥8)||decide (l[i].token<1)||decide (l[i].token>2305843009213693952))&& !(!lineB l[i].line||l[i].line.any fun x=>l[i].holder==x)&& !((l.take i).any fun o=>o.token==l[i].token)):=by
    unfold lockQ okLk hasI
    have:decide (i>0)=false:=by simpa using e0
    rw[this]
    simp only[Bool.not_or,Bool.not_not,Bool.false_and,Bool.or_false]
   have hp:(locksE l).drop ((IntKind.i64.wrap ((i:Int) - 1)).toNat*4)=l[i].enc++locksE (l.drop (i+1)):=by
    rw[←zaN hi,h0];rfl
   repeat'(first|refine zq (I hat (I hp (I htk (I e0 (I @List.cons_append.{0} (I @List.nil_append.{0} @zaf)))))) ?_|exact zd (I hat (I hp (I htk (I e0 (I @List.cons_append.{0} (I @List.nil_append.{0} @zaf))))))|refine zc (hnm) ?_|refine zg (hnm) ?_|refine zc (hlr) ?_|refine zg (hlr) ?_|refine zc (hlc) ?_|refine zg (hlc) ?_|refine zc (hco) ?_|refine zg (hco) ?_|refine zaa ?_|refine zab (fun hb=> ?_) (fun hb=> ?_)|(refine And.intro ?_ ?_;exact zI)|refine And.intro (fun hg=> ?_) (fun hg=> ?_)|exact zC|fail)
   ·rw[hq,hb,if_neg (by simp)]at hF
    unfold lockB
    rw[←hF];rfl
   ·rename_i ha
    rw[hq,ha,hb,if_neg (by simp)]at hF
    unfold lockB
    rw[←hF];rfl
   ·rename_i ha hc
    rw[hq,ha,hc,hb,if_neg (by simp)]at hF
    unfold lockB
    rw[←hF];rfl
   ·rename_i ha hc
    exact hK _ (i+1) (Gh.canon [] [] [] (by simp only[hw,zah,zau,zai,zak,zal,zam,List.set_cons_zero,List.set_cons_succ,and_true,true_and,Int.natCast_zero,Int.cast_ofNat_Int,D.v.injEq,Value.int.injEq];try(repeat'(first|rfl|omega|with_reducible apply And.intro))) rfl rfl) hi (by rw[zaH hi,hq,ha,hc,hb];rfl) (by omega)
  ·have h0:0<i:=by simpa using e0
   have hq:lockQ l i l[i]=(!(!nameP l[i].name||decide (l[i].holder<0)||decide (l[i].holder≥8)||decide (l[i].token<1)||decide (l[i].token>2305843009213693952))&& !(!lineB l[i].line||(l[i].line.any fun x=>l[i].holder==x)|| !(bLess (l[i - 1]'(by omega)).name l[i].name))&& !((l.take i).any fun o=>o.token==l[i].token)):=by
    unfold lockQ okLk hasI prevL
    have:decide (i>0)=true:=by simpa using e0
    rw[this,List.getElem?_eq_getElem (by omega)]
    simp only[Bool.not_or,Bool.not_not,Bool.true_and,Option.map_some,Option.getD_some]
   have hp:=zaN (show i - 1<l.length by omega)
   have hw1:IntKind.i64.wrap ((i:Int) - 1)=((i - 1:Nat):Int):=by rw[wrap64 (by omega) (by omega)];omega
   repeat'(first|refine zq (I hat (I hp (I hw1 (I htk (I e0 (I @List.cons_append.{0} (I @List.nil_append.{0} @zaf))))))) ?_|exact zd (I hat (I hp (I hw1 (I htk (I e0 (I @List.cons_append.{0} (I @List.nil_append.{0} @zaf)))))))|refine zc (hnm) ?_|refine zg (hnm) ?_|refine zc (hlr) ?_|refine zg (hlr) ?_|refine zc (hlc) ?_|refine zg (hlc) ?_|refine zc (hco) ?_|refine zg (hco) ?_|refine zaa ?_|refine zab (fun hb=> ?_) (fun hb=> ?_)|(refine And.intro ?_ ?_;exact zI)|refine And.intro (fun hg=> ?_) (fun hg=> ?_)|exact zC|fail)
   ·rw[hq,hb,if_neg (by simp)]at hF
    unfold lockB
    rw[←hF];rfl
   ·rename_i ha
    rw[hq,ha,hb,if_neg (by simp)]at hF
    unfold lockB
    rw[←hF];rfl
   ·rename_i ha hc
    rw[hq,ha,hc,hb,if_neg (by simp)]at hF
    unfold lockB
    rw[←hF];rfl
   ·rename_i ha hc
    exact hK _ (i+1) (Gh.canon [] [] [] (by simp only[hw,zah,zau,zai,zak,zal,zam,List.set_cons_zero,List.set_cons_succ,and_true,true_and,Int.natCast_zero,Int.cast_ofNat_Int,D.v.injEq,Value.int.injEq];try(repeat'(first|rfl|omega|with_reducible apply And.intro))) rfl rfl) hi (by rw[zaH hi,hq,ha,hc,hb];rfl) (by omega)
 ·have hi:i=l.length:=by
   have:¬(i:Int)<l.length:=by simpa using hge
   omega
  rw[zck hi]at hF
  unfold lockB
  rw[←hF]
  repeat'(first|refine zq0 ?_|exact zd0|refine zaa ?_|refine zab (fun hb=> ?_) (fun hb=> ?_)|(refine And.intro ?_ ?_;exact zI)|refine And.intro (fun hg=> ?_) (fun hg=> ?_)|exact zC|fail)
end Go.Proofs.YtbpmcjeeeiffhaaGreat
