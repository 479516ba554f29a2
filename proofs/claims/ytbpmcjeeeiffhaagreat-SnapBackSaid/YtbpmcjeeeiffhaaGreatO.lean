import Derived.Test.YtbpmcjeeeiffhaaGreatTy
import Derived.Test.YtbpmcjeeeiffhaaGreatK9
import Derived.KernelRfl
namespace Go.Proofs.YtbpmcjeeeiffhaaGreat
open Go.Pk
set_option maxRecDepth 100000
set_option linter.unusedSimpArgs false
set_option linter.unusedVariables false
theorem zyU:(([24,38,101]:List Nat)).all (eqB Tryz.prog)=true:=by kernel_rfl
theorem zas:TOK Tryz.prog Ty:=zvF fun t ht=>List.all_eq_true.1 zyU t ht
theorem mixed:Tryz.prog.follows .mixedOrders=true:=by kernel_rfl
def zgo (c:UInt8):Bool:= !((decide ((c.toNat:Int)<97)||decide ((c.toNat:Int)>122))&&(decide ((c.toNat:Int)<48)||decide ((c.toNat:Int)>57))&&((c.toNat:Int) !=45))
def nameP (s:ByteArray):Bool:=((List.range s.size).all fun j=>zgo (s.data.getD j 0))&&(decide ((s.size:Int)≥1)&&decide ((s.size:Int)≤12))
theorem zqY (s:ByteArray) (hs:s.size<2^62):CallOK Tryz.prog 124 [.f (ast s)] (fun r o=>r=[rb (nameP s)]∧o=[]):=by
 refine zac zas mixed (T:=Ty) (n:=40) Tryz.func124 (c:=Tryz.f124.body.getD .skip) rfl Tryz.results124 Tryz.ntmps124 Tryz.call124 ?_
 simp only[Tryz.f124,Option.getD]
 refine zw ?_
 refine zho Ty Tryz.prog (τ:=Nat) (fun i=>⟨[ast s,dd,ab false,dd,dd,ast s,ai s.size,ai i,dd,dd,dd,dd,dd,dd,dd,dd,dd,dd,dd,dd,dd,dd,dd,dd,dd,dd,dd,dd,dd,dd,dd,dd,dd,dd,dd,dd,dd,dd,dd,dd],[]⟩) (fun i=>i≤s.size∧∀j,j<i→zgo (s.data.getD j 0)=true) (fun i=>s.size - i) 0 ?_ ⟨Nat.zero_le _,fun j hj=>absurd hj (Nat.not_lt_zero j)⟩ ?_
 ·refine Gh.fgt ?_
  simp only[zce,zcf,zcS,Int.natCast_zero]
 intro i ⟨h1,h2⟩ K hK
 refine zw ?_
 rw[zfe]
 refine⟨trivial,fun hlt=> ?_,fun hge=> ?_⟩
 ·refine zw ?_
  have hi:i<s.size:=by simpa using hlt
  refine⟨⟨Int.natCast_nonneg i,by omega⟩,zqp (fun a b=>by rw[a,b];rfl), ?_⟩
  have hok:zgo (s.data.getD i 0)= !((decide (((s.data.getD i 0).toNat:Int)<97)||decide (((s.data.getD i 0).toNat:Int)>122))&&(decide (((s.data.getD i 0).toNat:Int)<48)||decide (((s.data.getD i 0).toNat:Int)>57))&&(((s.data.getD i 0).toNat:Int) !=45)):=rfl
  rw[zfe]
  refine⟨trivial,fun hb=> ?_,fun hb=> ?_⟩
  ·rw[hb]at hok
   refine zw ?_
   have hn:nameP s=false:=by
    unfold nameP
    rw[show((List.range s.size).all fun j=>zgo (s.data.getD j 0))=false from List.all_eq_false.2 ⟨i,List.mem_range.2 hi,by rw[hok];simp⟩,Bool.false_and]
   rw[hn]
  ·rw[hb]at hok
   refine zw ?_
   refine hK _ (i+1) (Gh.fgt ?_) ⟨hi,fun j hj=> ?_⟩ (by omega)
   ·have hw:IntKind.i64.wrap ((i:Int)+1)=((i+1:Nat):Int):=by rw[wrap64 (by omega) (by omega)];rfl
    simp only[hw,zce,zcf,zcS]
   ·rcases Nat.lt_or_ge j i with h|h
    ·exact h2 j h
    ·rw[show j=i from by omega,hok];rfl
 ·refine zw ?_
  have hi:i=s.size:=by
   have:¬(i:Int)<s.size:=by simpa using hge
   omega
  have hn:nameP s=(decide ((s.size:Int)≥1)&&decide ((s.size:Int)≤12)):=by
   unfold nameP
   rw[show((List.range s.size).all fun j=>zgo (s.data.getD j 0))=true from List.all_eq_true.2 fun j hj=>h2 j (by rw[hi];exact List.mem_range.1 hj),Bool.true_and]
  rw[hn]
def zv4 (k n:Int) (s:ByteArray):Bool:=
 if(decide (k<1)||decide (k>6))=true then false else
 if((k==3||k==4||k==5)&& !nameP s|| !(k==3||k==4||k==5)&& !s.toList==(⟨#[]⟩:ByteArray).toList)=true then false else
 if(k==1)=true then n==0 else decide (n≥1)&&decide (n≤2305843009213693952)
def Req.may (r:Req):Bool:=(decide (r.client≥0)&&decide (r.client<8)&&decide (r.seq≥1)&&decide (r.seq≤zbB))&&zv4 r.kind r.session r.name
def zc6 {α:Type} (p:α→Bool):List α→Int→Int
 |[],_=> -1
 |x::l,i=>if p x=true then i else zc6 p l (i+1)
theorem zhs {α:Type} (p:α→Bool) (l:List α):decide (zc6 p l 0≥0)=l.any p:=by
 have h:∀(l:List α) (i:Int),0≤i→(0≤zc6 p l i↔l.any p=true):=by
  intro l
  induction l with
  |nil=>intro i _;simp[zc6]
  |cons x l ih=>
   intro i hi
   simp only[zc6]
   by_cases hx:p x=true
   ·simp[hx,hi]
   ·rw[if_neg hx,ih (i+1) (by omega)];simp[hx]
 rw[Bool.eq_iff_iff]
 simpa using h l 0 (Int.le_refl _)
theorem zwk {a b:RO}:zbO [.one a] [.one b]=(zaz a b∧True):=rfl
theorem zaq {i n:Nat} (h:i<n) (hn:n<2^62):IntKind.i64.wrap ((i:Int)+1)=((i+1:Nat):Int):=by rw[wrap64 (by omega) (by omega)];rfl
theorem zsN {n:Nat} (h:n<2^63):IntKind.u64.wrap (n:Int)=n:=by
 unfold IntKind.wrap
 simp[IntKind.signed,IntKind.bits]
 omega
theorem zwC:Go.Pk.bad.x= .one .dead:=rfl
abbrev zyT:Int→AV:=fun x=> .one (di x)
abbrev zly:Sess→AV:=fun x=> .agg (x.enc.map C.d)
abbrev zqX:Lk→AV:=fun x=> .agg (x.enc.map C.d)
abbrev zwM:Memo→AV:=fun x=> .agg (x.enc.map C.d)
theorem zoH (l:List Sess) (hl:l.length<2^62) (p:Sess→Bool) (f:Nat) (caps:List C) (hc:lendAs [] (caps.map AV.one)=some (caps.map fun c=> .f (.one c)))
  (hp:∀x∈l,CallOK Tryz.prog f (.f (zly x)::caps.map fun c=> .f (.one c)) (fun r o=>r=[rb (p x)]∧o=[])):
  CallOK Tryz.prog 155 [.f (al l.length (zaJ l)), .f (.one (.clos f caps))] (fun r o=>r=[ri (zc6 p l 0)]∧o=[]):=by
 refine zac zas mixed (T:=Ty) (n:=19) Tryz.func155 (c:=Tryz.f155.body.getD .skip) rfl Tryz.results155 Tryz.ntmps155 Tryz.call155 ?_
 simp only[Tryz.f155,Option.getD]
 refine zw ?_
 refine zam (τ:=Nat) (fun i=>⟨[al l.length (zaJ l), .one (.clos f caps),dd,dd,ai 0,dd,al l.length (zaJ l),ai l.length,ai i,dd,dd,dd,dd,dd,dd,dd,dd,dd,dd],[]⟩) (fun i=>i≤l.length) (fun i=>zc6 p (l.drop i) i) (fun i=>l.length - i) 0 (Gh.fgt ?_) (Nat.zero_le _) ?_
 ·simp only[zce,zcf,zcS,Int.natCast_zero]
 intro i hi0 hF K hK
 refine zw ?_
 rw[zfe]
 refine⟨trivial,fun hlt=> ?_,fun hge=> ?_⟩
 ·have hi:i<l.length:=by simpa using hlt
  rw[List.drop_eq_getElem_cons hi,zc6]at hF
  have hat:=zbZ hi
  simp only[List.cons_append,List.nil_append]at hat
  repeat(first|with_reducible refine zad _ _ ?_|with_reducible refine And.imp_right (zad _ _) ?_|with_reducible refine And.imp_right (And.imp_right (zad _ _)) ?_|with_reducible refine And.imp_right (And.imp_right (And.imp_right (zad _ _))) ?_|rw[zaI]|simp only[zB,zau,hat,hc,Nat.reduceSub,Nat.reduceEqDiff,Nat.reduceAdd,Nat.reduceMul,Nat.reduceLeDiff,Nat.reduceLT,Nat.reduceBEq,reduceCtorEq])
  refine⟨⟨Int.natCast_nonneg i,by omega⟩, ?_⟩
  refine za9 (hp _ (List.getElem_mem hi)) ?_
  refine zw ?_
  refine zaa (fun hb=> ?_) (fun hb=> ?_)
  ·rw[if_pos hb]at hF
   refine zw ?_
   rw[hF];rfl
  ·rw[if_neg (by simp[hb])]at hF
   refine zw ?_
   refine hK _ (i+1) (Gh.fgt ?_) hi (by simp only[List.drop_eq_getElem_cons hi,zc6];rw[if_neg (by simp[hb])];rfl) (by omega)
   have hw:IntKind.i64.wrap ((i:Int)+1)=((i+1:Nat):Int):=by rw[wrap64 (by omega) (by omega)];rfl
   simp only[hw,zce,zcf,zcS]
 ·have hi:i=l.length:=by
   have:¬(i:Int)<l.length:=by simpa using hge
   omega
  rw[hi,List.drop_length,zc6]at hF
  refine zw ?_
  rw[hF];rfl
theorem zoI (l:List Lk) (hl:l.length<2^62) (p:Lk→Bool) (f:Nat) (caps:List C) (hc:lendAs [] (caps.map AV.one)=some (caps.map fun c=> .f (.one c)))
  (hp:∀x∈l,CallOK Tryz.prog f (.f (zqX x)::caps.map fun c=> .f (.one c)) (fun r o=>r=[rb (p x)]∧o=[])):
  CallOK Tryz.prog 174 [.f (al l.length (zai l)), .f (.one (.clos f caps))] (fun r o=>r=[ri (zc6 p l 0)]∧o=[]):=by
 refine zac zas mixed (T:=Ty) (n:=19) Tryz.func174 (c:=Tryz.f174.body.getD .skip) rfl Tryz.results174 Tryz.ntmps174 Tryz.call174 ?_
 simp only[Tryz.f174,Option.getD]
 refine zw ?_
 refine zam (τ:=Nat) (fun i=>⟨[al l.length (zai l), .one (.clos f caps),dd,dd,ai 0,dd,al l.length (zai l),ai l.length,ai i,dd,dd,dd,dd,dd,dd,dd,dd,dd,dd],[]⟩) (fun i=>i≤l.length) (fun i=>zc6 p (l.drop i) i) (fun i=>l.length - i) 0 (Gh.fgt ?_) (Nat.zero_le _) ?_
 ·simp only[zce,zcf,zcS,Int.natCast_zero]
 intro i hi0 hF K hK
 refine zw ?_
 rw[zfe]
 refine⟨trivial,fun hlt=> ?_,fun hge=> ?_⟩
 ·have hi:i<l.length:=by simpa using hlt
  rw[List.drop_eq_getElem_cons hi,zc6]at hF
  have hat:=za0 hi
  simp only[List.cons_append,List.nil_append]at hat
  repeat(first|with_reducible refine zad _ _ ?_|with_reducible refine And.imp_right (zad _ _) ?_|with_reducible refine And.imp_right (And.imp_right (zad _ _)) ?_|with_reducible refine And.imp_right (And.imp_right (And.imp_right (zad _ _))) ?_|rw[zaI]|simp only[zB,zae,hat,hc,Nat.reduceSub,Nat.reduceEqDiff,Nat.reduceAdd,Nat.reduceMul,Nat.reduceLeDiff,Nat.reduceLT,Nat.reduceBEq,reduceCtorEq])
  refine⟨⟨Int.natCast_nonneg i,by omega⟩, ?_⟩
  refine za9 (hp _ (List.getElem_mem hi)) ?_
  refine zw ?_
  refine zaa (fun hb=> ?_) (fun hb=> ?_)
  ·rw[if_pos hb]at hF
   refine zw ?_
   rw[hF];rfl
  ·rw[if_neg (by simp[hb])]at hF
   refine zw ?_
   refine hK _ (i+1) (Gh.fgt ?_) hi (by simp only[List.drop_eq_getElem_cons hi,zc6];rw[if_neg (by simp[hb])];rfl) (by omega)
   have hw:IntKind.i64.wrap ((i:Int)+1)=((i+1:Nat):Int):=by rw[wrap64 (by omega) (by omega)];rfl
   simp only[hw,zce,zcf,zcS]
 ·have hi:i=l.length:=by
   have:¬(i:Int)<l.length:=by simpa using hge
   omega
  rw[hi,List.drop_length,zc6]at hF
  refine zw ?_
  rw[hF];rfl
theorem zki (l:List Sess) (hl:l.length<2^62) (p:Sess→Bool) (f:Nat) (caps:List C) (hc:lendAs [] (caps.map AV.one)=some (caps.map fun c=> .f (.one c))) (hc2:lendC.lendCs [] caps=some caps)
  (hp:∀x∈l,CallOK Tryz.prog f (.f (zly x)::caps.map fun c=> .f (.one c)) (fun r o=>r=[rb (p x)]∧o=[])):
  CallOK Tryz.prog 171 [.f (al l.length (zaJ l)), .f (.one (.clos f caps))] (fun r o=>r=[rb (l.any p)]∧o=[]):=by
 refine zac zas mixed (T:=Ty) (n:=9) Tryz.func171 (c:=Tryz.f171.body.getD .skip) rfl Tryz.results171 Tryz.ntmps171 Tryz.call171 ?_
 simp only[Tryz.f171,Option.getD]
 repeat(first|with_reducible refine zad _ _ ?_|with_reducible refine And.imp_right (zad _ _) ?_|with_reducible refine And.imp_right (And.imp_right (zad _ _)) ?_|with_reducible refine And.imp_right (And.imp_right (And.imp_right (zad _ _))) ?_|rw[zaI]|simp only[zB,hc2,Nat.reduceSub,Nat.reduceEqDiff,Nat.reduceAdd,Nat.reduceMul,Nat.reduceLeDiff,Nat.reduceLT,Nat.reduceBEq,reduceCtorEq])
 refine za9 (zoH l hl p f caps hc hp) ?_
 refine zw ?_
 rw[zhs]
theorem zkj (l:List Lk) (hl:l.length<2^62) (p:Lk→Bool) (f:Nat) (caps:List C) (hc:lendAs [] (caps.map AV.one)=some (caps.map fun c=> .f (.one c))) (hc2:lendC.lendCs [] caps=some caps)
  (hp:∀x∈l,CallOK Tryz.prog f (.f (zqX x)::caps.map fun c=> .f (.one c)) (fun r o=>r=[rb (p x)]∧o=[])):
  CallOK Tryz.prog 126 [.f (al l.length (zai l)), .f (.one (.clos f caps))] (fun r o=>r=[rb (l.any p)]∧o=[]):=by
 refine zac zas mixed (T:=Ty) (n:=9) Tryz.func126 (c:=Tryz.f126.body.getD .skip) rfl Tryz.results126 Tryz.ntmps126 Tryz.call126 ?_
 simp only[Tryz.f126,Option.getD]
 repeat(first|with_reducible refine zad _ _ ?_|with_reducible refine And.imp_right (zad _ _) ?_|with_reducible refine And.imp_right (And.imp_right (zad _ _)) ?_|with_reducible refine And.imp_right (And.imp_right (And.imp_right (zad _ _))) ?_|rw[zaI]|simp only[zB,hc2,Nat.reduceSub,Nat.reduceEqDiff,Nat.reduceAdd,Nat.reduceMul,Nat.reduceLeDiff,Nat.reduceLT,Nat.reduceBEq,reduceCtorEq])
 refine za9 (zoI l hl p f caps hc hp) ?_
 refine zw ?_
 rw[zhs]
set_option maxHeartbeats 1000000 in
theorem zlz (l:List Sess) (hl:l.length<2^62) (t:Int) (c:Sess→Int) (f:Nat) (m:Nat) (hm:m≤l.length) (h1:∀j (hj:j<l.length),j<m→c l[j]<0) (h2:∀j (hj:j<l.length),m≤j→0≤c l[j])
  (hp:∀x∈l,CallOK Tryz.prog f [.f (zly x), .f (ai t)] (fun r o=>r=[ri (c x)]∧o=[])):
  CallOK Tryz.prog 188 [.f (al l.length (zaJ l)), .f (ai t), .f (.one (.clos f []))] (fun r o=>r=[ri m,rb ((l[m]?.map fun x=>c x==0).getD false)]∧o=[]):=by
 refine zac zas mixed (T:=Ty) (n:=49) Tryz.func188 (c:=Tryz.f188.body.getD .skip) rfl Tryz.results188 Tryz.ntmps188 Tryz.call188 ?_
 simp only[Tryz.f188,Option.getD]
 refine zw ?_
 refine zam (τ:=Nat×Nat) (fun q=>⟨[al l.length (zaJ l),ai t, .one (.clos f []),dd,dd,dd,dd,dd,ai l.length,ai q.1,ai q.2,dd,dd,dd,dd,dd,dd,dd,dd,dd,dd,dd,dd,dd,dd,dd,dd,dd,dd,dd,dd,dd,dd,dd,dd,dd,dd,dd,dd,dd,dd,dd,dd,dd,dd,dd,dd,dd,dd],[]⟩) (fun q=>q.1≤m∧m≤q.2∧q.2≤l.length) (fun _=>()) (fun q=>q.2 - q.1) (0,l.length) (Gh.fgt ?_) ⟨Nat.zero_le _,hm,Nat.le_refl _⟩ ?_
 ·simp only[zce,zcf,zcS,Int.natCast_zero]
 intro⟨lo,hi⟩ ⟨b1,b2,b3⟩ hF K hK
 simp only at b1 b2 b3 hF hK⊢
 refine zw ?_
 refine zaa (fun hlt=> ?_) (fun hge=> ?_)
 ·have hlt:lo<hi:=by simpa using hlt
  obtain⟨q,hq⟩:∃q:Nat,q=(lo+hi) / 2:=⟨_,rfl⟩
  have hw1:IntKind.i64.wrap ((lo:Int)+hi)=((lo+hi:Nat):Int):=by rw[wrap64 (by omega) (by omega)];rfl
  have hw2:IntKind.u64.wrap ((lo+hi:Nat):Int)=((lo+hi:Nat):Int):=zsN (by omega)
  have hw3:IntKind.i64.wrap (((lo+hi:Nat):Int).fdiv (2^(min (Int.toNat 1) IntKind.u64.bits)))=(q:Int):=by
   rw[show(2:Int)^(min (Int.toNat 1) IntKind.u64.bits)=2 by decide,hq,show(((lo+hi:Nat):Int)).fdiv 2=(((lo+hi) / 2:Nat):Int) by rw[Int.fdiv_eq_ediv_of_nonneg _ (by decide)];rfl]
   exact wrap64 (by omega) (by omega)
  have hqh:q<hi:=by omega
  have hql:q<l.length:=by omega
  have hat:=zbZ hql
  simp only[List.cons_append,List.nil_append]at hat
  have hcp:=hp _ (List.getElem_mem hql)
  have hw4:IntKind.i64.wrap ((q:Int)+1)=((q+1:Nat):Int):=by rw[wrap64 (by omega) (by omega)];rfl
  have h10:∀(a b:Option Value),(if(1:Int)<0 then a else b)=b:=fun a b=>if_neg (by decide)
  clear hlt
  repeat'(first|with_reducible refine zad _ _ ?_|rw[zaI]|simp only[zB,h10,hw1,hw2,hw3,zau,hat,Nat.mul_one,Nat.reduceSub,Nat.reduceEqDiff,Nat.reduceAdd,Nat.reduceMul,Nat.reduceLeDiff,Nat.reduceLT,Nat.reduceBEq,reduceCtorEq]|((first|((try refine zaV ?_);apply za9)|(apply zbc;intro _));(solve|exact(hcp)|(refine CallOK.le (hcp) ?_;exact zM)|fail);try case hn=>rfl)|refine zax ?_|refine zaa (fun hb=> ?_) (fun hb=> ?_)|(refine And.intro ?_ ?_;exact zI)|refine And.intro (fun hg=> ?_) (fun hg=> ?_)|exact zC|fail)
  ·have hqm:q<m:=by
    rcases Nat.lt_or_ge q m with h|h
    ·exact h
    ·have:=h2 q hql h
     have hb':c l[q]<0:=by simpa using hb
     omega
   refine hK _ (q+1,hi) (Gh.fgt ?_) ⟨by simp only;omega,b2,b3⟩ trivial (by simp only;omega)
   simp only[hw4,zce,zcf,zcS]
  ·have hqm:m≤q:=by
    rcases Nat.lt_or_ge q m with h|h
    ·have:=h1 q hql h
     have hb':¬c l[q]<0:=by simpa using hb
     omega
    ·exact h
   refine hK _ (lo,q) (Gh.fgt ?_) ⟨b1,hqm,by simp only;omega⟩ trivial (by simp only;omega)
   simp only[zce,zcf,zcS]
 ·have he:lo=m:=by
   have:¬(lo:Int)<hi:=by simpa using hge
   omega
  subst he
  by_cases hlt:lo<l.length
  ·have hat:=zbZ hlt
   simp only[List.cons_append,List.nil_append]at hat
   have hcp:=hp _ (List.getElem_mem hlt)
   have hd:decide ((lo:Int)<l.length)=true:=by simpa using hlt
   repeat'(first|with_reducible refine zad _ _ ?_|rw[zaI]|simp only[zB,hd,zau,hat,Nat.mul_one,Nat.reduceSub,Nat.reduceEqDiff,Nat.reduceAdd,Nat.reduceMul,Nat.reduceLeDiff,Nat.reduceLT,Nat.reduceBEq,reduceCtorEq]|((first|((try refine zaV ?_);apply za9)|(apply zbc;intro _));(solve|exact(hcp)|(refine CallOK.le (hcp) ?_;exact zM)|fail);try case hn=>rfl)|refine zax ?_|refine zaa (fun hb=> ?_) (fun hb=> ?_)|(refine And.intro ?_ ?_;exact zI)|refine And.intro (fun hg=> ?_) (fun hg=> ?_)|exact zC|fail)
   rw[List.getElem?_eq_getElem hlt];rfl
  ·have hd:decide ((lo:Int)<l.length)=false:=by simp;omega
   have hn:l[lo]? =none:=List.getElem?_eq_none (by omega)
   repeat'(first|with_reducible refine zad _ _ ?_|rw[zaI]|simp only[zB,hd,zau,Nat.mul_one,hn,zwC,Option.map_none,Nat.reduceSub,Nat.reduceEqDiff,Nat.reduceAdd,Nat.reduceMul,Nat.reduceLeDiff,Nat.reduceLT,Nat.reduceBEq,reduceCtorEq]|refine zax ?_|refine zaa (fun hb=> ?_) (fun hb=> ?_)|(refine And.intro ?_ ?_;exact zI)|refine And.intro (fun hg=> ?_) (fun hg=> ?_)|exact zC|fail)
theorem zja {α:Type}:∀(xs pre mid post:List α),mid.length=xs.length→fillAt pre.length xs (pre++(mid++post))=pre++(xs++post)
 |[],pre,mid,post,h=>by
  have:mid=[]:=List.eq_nil_of_length_eq_zero h
  subst this;rfl
 |x::xs,pre,m::mid,post,h=>by
  have:=zja xs (pre++[x]) mid post (by simpa using h)
  rw[fillAt]
  simp only[List.length_append,List.length_cons,List.length_nil,Nat.zero_add,List.append_assoc,List.cons_append,List.nil_append]at this⊢
  rw[←this]
  congr 1
  simp[List.set_append]
 |x::xs,pre,[],post,h=>by simp at h
theorem znP {α:Type} (enc:α→List D) (sz:Nat) (h:∀x,(enc x).length=sz) {l:List α} {i:Nat} (hi:i<l.length) (x:α):
  fillAt (i*sz) ((enc x).map C.d) ((l.flatMap enc).map C.d)=((l.set i x).flatMap enc).map C.d:=by
 have e1:l=l.take i++(l[i]::l.drop (i+1)):=by rw[List.getElem_cons_drop];simp
 have e2:l.set i x=l.take i++(x::l.drop (i+1)):=by rw[List.set_eq_take_append_cons_drop,if_pos hi]
 have hl:((l.take i).flatMap enc).length=i*sz:=by rw[zcR enc sz h,List.length_take];congr 1;omega
 rw[e2]
 conv=>lhs;rw[e1]
 simp only[List.flatMap_append,List.flatMap_cons,List.map_append]
 have:=zja ((enc x).map C.d) (((l.take i).flatMap enc).map C.d) ((enc l[i]).map C.d) (((l.drop (i+1)).flatMap enc).map C.d) (by simp[h])
 rw[List.length_map,hl]at this
 exact this
theorem zfN {α:Type} (enc:α→List D) (sz:Nat) (h:∀x,(enc x).length=sz) {l:List α} {i k:Nat} (hi:i<l.length) (hk:k<sz) (v:D) (x:α) (hx:enc x=(enc l[i]).set k v):
  ((l.flatMap enc).map C.d).set (i*sz+k) (C.d v)=((l.set i x).flatMap enc).map C.d:=by
 have e1:l=l.take i++(l[i]::l.drop (i+1)):=by rw[List.getElem_cons_drop];simp
 have e2:l.set i x=l.take i++(x::l.drop (i+1)):=by rw[List.set_eq_take_append_cons_drop,if_pos hi]
 have hl:((l.take i).flatMap enc).length=i*sz:=by rw[zcR enc sz h,List.length_take];congr 1;omega
 rw[e2]
 conv=>lhs;rw[e1]
 rw[←List.map_set]
 simp only[List.flatMap_append,List.flatMap_cons]
 rw[List.set_append,if_neg (by omega),List.set_append,if_pos (by rw[h];omega),show i*sz+k - ((l.take i).flatMap enc).length=k by omega,hx]
theorem zu6 {α:Type} {l:List α} {k:Nat} (hk:k≤l.length) (x:α):(l.take k++x::l.drop k).length=l.length+1:=by
 rw[List.length_append,List.length_take,List.length_cons,List.length_drop];omega
theorem zqW {α:Type} (enc:α→List D) (sz:Nat) (h:∀x,(enc x).length=sz) {l:List α} {k:Nat} (hk:k<l.length):
  (l.eraseIdx k).flatMap enc=(l.flatMap enc).take (k*sz)++(l.flatMap enc).drop ((k+1)*sz):=by
 rw[zfU enc sz h (by omega),zpt enc sz h hk,List.eraseIdx_eq_take_drop_succ,List.flatMap_append]
theorem zhr {α:Type} (p:α→Bool):∀(l:List α) (i:Nat),(∀x∈l,p x=false)∧zc6 p l i= -1∨∃k,∃h:k<l.length,zc6 p l i=((i+k:Nat):Int)∧p l[k]=true∧∀x∈l.take k,p x=false
 |[],i=> .inl ⟨fun x hx=>(List.not_mem_nil hx).elim,rfl⟩
 |x::l,i=>by
  rw[zc6]
  by_cases hx:p x=true
  ·rw[if_pos hx]
   exact .inr ⟨0,by simp,rfl,by simpa using hx,fun y hy=>by simp at hy⟩
  ·rw[if_neg hx]
   have hx':p x=false:=by simpa using hx
   rcases zhr p l (i+1)with⟨h1,h2⟩|⟨k,hk,h1,h2,h3⟩
   ·exact .inl ⟨fun y hy=>(List.mem_cons.1 hy).elim (fun e=>e▸hx') (fun e=>h1 y e),by simpa using h2⟩
   ·refine .inr ⟨k+1,by simpa using hk, ?_,by simpa using h2,fun y hy=> ?_⟩
    ·have:((i:Int)+1)=((i+1:Nat):Int):=rfl
     rw[this,h1];congr 1;omega
    ·rw[List.take_succ_cons]at hy
     exact(List.mem_cons.1 hy).elim (fun e=>e▸hx') (fun e=>h3 y e)
theorem zlx (l:List Int) (hl:l.length<2^62) (v:Int):CallOK Tryz.prog 156 [.f (al l.length (zaE l)), .f (ai v)] (fun r o=>r=[ri (zc6 (fun x=>v==x) l 0)]∧o=[]):=by
 refine zac zas mixed (T:=Ty) (n:=19) Tryz.func156 (c:=Tryz.f156.body.getD .skip) rfl Tryz.results156 Tryz.ntmps156 Tryz.call156 ?_
 simp only[Tryz.f156,Option.getD]
 refine zw ?_
 refine zam (τ:=Nat) (fun i=>⟨[al l.length (zaE l),ai v,dd,dd,ai 0,dd,al l.length (zaE l),ai l.length,ai i,dd,dd,dd,dd,dd,dd,dd,dd,dd,dd],[]⟩) (fun i=>i≤l.length) (fun i=>zc6 (fun x=>v==x) (l.drop i) i) (fun i=>l.length - i) 0 (Gh.fgt ?_) (Nat.zero_le _) ?_
 ·simp only[zce,zcf,zcS,Int.natCast_zero]
 intro i hi0 hF K hK
 refine zw ?_
 refine zaa (fun hlt=> ?_) (fun hge=> ?_)
 ·have hi:i<l.length:=by simpa using hlt
  rw[List.drop_eq_getElem_cons hi,zc6]at hF
  have hat:=zcp hi
  simp only[List.cons_append,List.nil_append]at hat
  have hw:=zaq hi hl
  clear hlt
  repeat'(first|refine zq (I @zak hat) ?_|exact zd (I @zak hat)|(refine zaa ?_ ?_<;>intro hb)|(refine And.intro ?_ ?_;exact zI)|(refine And.intro ?_ ?_<;>intro hg)|exact zC|fail)
  ·rw[if_pos hb]at hF
   rw[hF];rfl
  ·rw[if_neg (by simp[hb])]at hF
   refine hK _ (i+1) (Gh.fgt ?_) hi (by simp only[List.drop_eq_getElem_cons hi,zc6];rw[if_neg (by simp[hb])];rfl) (by omega)
   simp only[hw,zce,zcf,zcS]
 ·have hi:i=l.length:=by
   have:¬(i:Int)<l.length:=by simpa using hge
   omega
  rw[hi,List.drop_length,zc6]at hF
  refine zw ?_
  rw[hF];rfl
theorem zg3 (l:List Int) (hl:l.length<2^62) (v:Int):CallOK Tryz.prog 110 [.f (al l.length (zaE l)), .f (ai v)] (fun r o=>r=[rb (l.any fun x=>v==x)]∧o=[]):=by
 refine zac zas mixed (T:=Ty) (n:=9) Tryz.func110 (c:=Tryz.f110.body.getD .skip) rfl Tryz.results110 Tryz.ntmps110 Tryz.call110 ?_
 simp only[Tryz.f110,Option.getD]
 repeat'(first|with_reducible refine zad _ _ ?_|rw[zaI]|simp only[zB,Nat.reduceSub,Nat.reduceEqDiff,Nat.reduceAdd,Nat.reduceMul,Nat.reduceLeDiff,Nat.reduceLT,Nat.reduceBEq,reduceCtorEq]|((first|((try refine zaV ?_);apply za9)|(apply zbc;intro _));(solve|exact(zlx l hl v)|(refine CallOK.le (zlx l hl v) ?_;exact zM)|fail);try case hn=>rfl)|refine zax ?_|refine zaa (fun hb=> ?_) (fun hb=> ?_)|(refine And.intro ?_ ?_;exact zI)|refine And.intro (fun hg=> ?_) (fun hg=> ?_)|exact zC|fail)
 rw[zhs]
theorem zhq (v:Int):CallOK Tryz.prog 187 [.f (ai v)] (fun r o=>r=[rb false]∧o=[]):=by
 refine zac zas mixed (T:=Ty) (n:=6) Tryz.func187 (c:=Tryz.f187.body.getD .skip) rfl Tryz.results187 Tryz.ntmps187 Tryz.call187 ?_
 simp only[Tryz.f187,Option.getD]
 repeat'(first|with_reducible refine zad _ _ ?_|rw[zaI]|simp only[zB,bne_self_eq_false,Nat.reduceSub,Nat.reduceEqDiff,Nat.reduceAdd,Nat.reduceMul,Nat.reduceLeDiff,Nat.reduceLT,Nat.reduceBEq,reduceCtorEq]|refine zax ?_|refine zaa (fun hb=> ?_) (fun hb=> ?_)|(refine And.intro ?_ ?_;exact zI)|refine And.intro (fun hg=> ?_) (fun hg=> ?_)|exact zC|fail)
def zqU (a b:Int):Int:=if a<b then -1 else if a>b then 1 else 0
theorem zh7 (a b:Int):CallOK Tryz.prog 161 [.f (ai a), .f (ai b)] (fun r o=>r=[ri (zqU a b)]∧o=[]):=by
 refine zac zas mixed (T:=Ty) (n:=20) Tryz.func161 (c:=Tryz.f161.body.getD .skip) rfl Tryz.results161 Tryz.ntmps161 Tryz.call161 ?_
 simp only[Tryz.f161,Option.getD]
 repeat'(first|refine zq0 ?_|exact zd0|refine zc (zhq a) ?_|refine zg (zhq a) ?_|refine zc (zhq b) ?_|refine zg (zhq b) ?_|(refine zaa ?_ ?_<;>intro hb)|(refine And.intro ?_ ?_;exact zI)|(refine And.intro ?_ ?_<;>intro hg)|exact zC|fail)
 all_goals simp only[decide_eq_true_eq,decide_eq_false_iff_not]at*
 ·unfold zqU;rw[if_pos (by assumption)]
 ·unfold zqU;rw[if_neg (by assumption),if_pos (by assumption)]
 ·unfold zqU;rw[if_neg (by assumption),if_neg (by assumption)]
theorem zkg (n:Int):CallOK Tryz.prog 173 [.f (ai n)] (fun r o=>r=[rb (decide (n≥0)&&decide (n<8))]∧o=[]):=by
 refine zac zas mixed (T:=Ty) (n:=9) Tryz.func173 (c:=Tryz.f173.body.getD .skip) rfl Tryz.results173 Tryz.ntmps173 Tryz.call173 ?_
 simp only[Tryz.f173,Option.getD]
 repeat'(first|refine zq0 ?_|exact zd0|(refine zaa ?_ ?_<;>intro hb)|(refine And.intro ?_ ?_;exact zI)|(refine And.intro ?_ ?_<;>intro hg)|exact zC|fail)
theorem zkh (n:Int):CallOK Tryz.prog 122 [.f (ai n)] (fun r o=>r=[rb (decide (n≥0)&&decide (n<8))]∧o=[]):=by
 refine zac zas mixed (T:=Ty) (n:=9) Tryz.func122 (c:=Tryz.f122.body.getD .skip) rfl Tryz.results122 Tryz.ntmps122 Tryz.call122 ?_
 simp only[Tryz.f122,Option.getD]
 repeat'(first|refine zq0 ?_|exact zd0|(refine zaa ?_ ?_<;>intro hb)|(refine And.intro ?_ ?_;exact zI)|(refine And.intro ?_ ?_<;>intro hg)|exact zC|fail)
def isClient (n:Int):Bool:=decide (n≥0)&&decide (n<8)
def hasI (l:List Int) (v:Int):Bool:=l.any fun x=>v==x
theorem zph {a b c a' b' c':RO}:zbO [.one a, .one b, .one c] [.one a', .one b', .one c']=(zaz a a'∧zaz b b'∧zaz c c'∧True):=rfl
def zsM (l:List Int):RF:= .one (.own 1 l.length (zaE l) false)
def zh8 (l:List Int) (c:Int):List Int×Int×Int:=
 if(!isClient c)=true then([],0,1)else if hasI l c=true then([],0,7)else if decide ((l.length:Int)≥3)=true then([],0,5)else(l++[c],l.length,0)
theorem zqV {l:List Int} {i:Nat} (hi:i≤l.length):(zaE l).take i=zaE (l.take i):=by have:=zfU (fun n=>[iD n]) 1 (fun _=>rfl) hi;rwa[Nat.mul_one]at this
def zgn (l:List Int) (c:Int):List Int×Bool:=if zc6 (fun x=>c==x) l 0<0 then(l,false)else(l.eraseIdx (zc6 (fun x=>c==x) l 0).toNat,true)
def zaX (l gone:List Int):List Int:=l.filter fun c=> !hasI gone c
section
variable {α:Type} {p:α→Bool}
def znN (p:α→Bool) (l:List α):Nat:=(l.takeWhile p).length
def zvs (p:α→Bool) (l:List α):Prop:=l.Pairwise fun x y=>p y=true→p x=true
theorem zmD {l:List α}:znN p l≤l.length:=(List.takeWhile_prefix _).length_le
theorem zcK {x:α} {l:List α}:znN p (x::l)=if p x=true then znN p l+1 else 0:=by
 unfold znN
 rw[List.takeWhile_cons]
 split<;>simp[*]
theorem zkc:∀{l:List α} {j:Nat} (hj:j<l.length),j<znN p l→p l[j]=true
 |x::l,0,_,h=>by
  rw[zcK]at h
  split at h
  ·assumption
  ·omega
 |x::l,j+1,hj,h=>by
  rw[zcK]at h
  split at h
  ·exact zkc (l:=l) (by simpa using hj) (by omega)
  ·omega
theorem zkd:∀{l:List α} {j:Nat} (hj:j<l.length),zvs p l→znN p l≤j→p l[j]=false
 |x::l,0,_,hm,h=>by
  rw[zcK]at h
  split at h
  ·omega
  ·rename_i hx;simpa using hx
 |x::l,j+1,hj,hm,h=>by
  have hm':=List.pairwise_cons.1 hm
  have hj':j<l.length:=by simpa using hj
  rw[zcK]at h
  split at h
  ·exact zkd (l:=l) hj' hm'.2 (by omega)
  ·rename_i hx
   have:=hm'.1 l[j] (List.getElem_mem hj')
   simp only[List.getElem_cons_succ]
   cases hc:p l[j]
   ·rfl
   ·exact absurd (this hc) hx
theorem zgm {q:α→Bool}:∀{l:List α},zvs p l→(∀x,q x=true→p x=false)→(l.Pairwise fun x y=>q y=true→p x=true)→l.find? q=(l[znN p l]?).filter q
 |[],_,_,_=>rfl
 |x::l,hm,hq,hs=>by
  have hm':=List.pairwise_cons.1 hm
  have hs':=List.pairwise_cons.1 hs
  rw[List.find?_cons,zcK]
  cases hx:p x
  ·rw[if_neg (by simp)]
   simp only[List.getElem?_cons_zero]
   cases hqx:q x
   ·simp only[Option.filter,hqx,Bool.false_eq_true,if_false]
    rw[List.find?_eq_none]
    intro y hy hqy
    have:=hs'.1 y hy hqy
    rw[hx]at this;cases this
   ·simp[Option.filter,hqx]
  ·rw[if_pos rfl]
   have hqx:q x=false:=by
    cases hc:q x
    ·rfl
    ·have:=hq x hc;rw[hx]at this;cases this
   rw[hqx]
   simp only[List.getElem?_cons_succ]
   exact zgm hm'.2 hq hs'.2
end
def SS (l:List Sess):Prop:=l.Pairwise fun x y=>x.client<y.client
def zfL (l:List Sess) (c:Int):Nat:=znN (fun x=>decide (x.client<c)) l
def zaA (l:List Sess) (c:Int):Option Sess:=l.find? fun x=>x.client==c
theorem zmE {l:List Sess} (h:SS l) (c:Int):zvs (fun x:Sess=>decide (x.client<c)) l:=h.imp fun hxy h=>by simp at h⊢;omega
theorem zh6 {l:List Sess} (h:SS l) (c:Int):zaA l c=(l[zfL l c]?).filter fun x=>x.client==c:=
 zgm (q:=fun x:Sess=>x.client==c) (zmE h c) (fun x hx=>by simp at hx⊢;omega) (h.imp fun hxy h=>by simp at h⊢;omega)
def SM (l:List Memo):Prop:=l.Pairwise fun x y=>x.client<y.client
def zl0 (l:List Memo) (c:Int):Nat:=znN (fun x=>decide (x.client<c)) l
def zb3 (l:List Memo) (c:Int):Option Memo:=l.find? fun x=>x.client==c
theorem zqR {l:List Memo} (h:SM l) (c:Int):zvs (fun x:Memo=>decide (x.client<c)) l:=h.imp fun hxy h=>by simp at h⊢;omega
theorem zqS {l:List Memo} (h:SM l) (c:Int):zb3 l c=(l[zl0 l c]?).filter fun x=>x.client==c:=
 zgm (q:=fun x:Memo=>x.client==c) (zqR h c) (fun x hx=>by simp at hx⊢;omega) (h.imp fun hxy h=>by simp at h⊢;omega)
abbrev zef (a b:ByteArray):Bool:=Go.Op.bytesLess a.toList b.toList
theorem znO:∀{a:List UInt8},Go.Op.bytesLess a a=false
 |[]=>rfl
 |a::x=>by rw[Go.Op.bytesLess,znO (a:=x)];simp
theorem zke:∀{a b c:List UInt8},Go.Op.bytesLess a b=true→Go.Op.bytesLess b c=true→Go.Op.bytesLess a c=true
 |[],[],_,h,_=>by cases h
 |[],_::_,[],_,h=>by cases h
 |[],_::_,_::_,_,_=>rfl
 |_::_,[],_,h,_=>by cases h
 |_::_,_::_,[],_,h=>by cases h
 |a::x,b::y,c::z,h1,h2=>by
  rw[Go.Op.bytesLess]at*
  simp only[Bool.or_eq_true,Bool.and_eq_true,decide_eq_true_eq,beq_iff_eq]at*
  rcases h1 with h1|⟨rfl,h1⟩<;>rcases h2 with h2|⟨rfl,h2⟩
  ·exact .inl (UInt8.lt_trans h1 h2)
  ·exact .inl h1
  ·exact .inl h2
  ·exact .inr ⟨rfl,zke h1 h2⟩
theorem zt7:∀{a b:List UInt8},Go.Op.bytesLess a b=false→Go.Op.bytesLess b a=false→a=b
 |[],[],_,_=>rfl
 |[],_::_,h,_=>by cases h
 |_::_,[],_,h=>by cases h
 |a::x,b::y,h1,h2=>by
  rw[Go.Op.bytesLess]at*
  simp only[Bool.or_eq_false_iff,Bool.and_eq_false_iff,decide_eq_false_iff_not,beq_eq_false_iff_ne]at*
  have hab:a=b:=UInt8.le_antisymm (UInt8.not_lt.1 h2.1) (UInt8.not_lt.1 h1.1)
  subst hab
  rcases h1.2 with h|h1'
  ·exact absurd rfl h
  rcases h2.2 with h|h2'
  ·exact absurd rfl h
  rw[zt7 h1' h2']
def SL (l:List Lk):Prop:=l.Pairwise fun x y=>zef x.name y.name=true
def zbu (l:List Lk) (s:ByteArray):Nat:=znN (fun x=>zef x.name s) l
def isL (s:ByteArray) (x:Lk):Bool:=x.name.toList==s.toList
def zc5 (l:List Lk) (s:ByteArray):Option Lk:=l.find? (isL s)
theorem zmF {l:List Lk} (h:SL l) (s:ByteArray):zvs (fun x:Lk=>zef x.name s) l:=h.imp fun hxy h=>zke hxy h
theorem zqT {l:List Lk} (h:SL l) (s:ByteArray):zc5 l s=(l[zbu l s]?).filter (isL s):=
 zgm (q:=isL s) (zmF h s) (fun x hx=>by
  simp only[isL,beq_iff_eq]at hx
  simp only[zef,hx,znO]) (h.imp fun hxy h=>by
  simp only[isL,beq_iff_eq]at h
  simp only[zef]at hxy⊢
  rw[←h];exact hxy)
theorem zfM {α:Type} {o:Option α} {p:α→Bool} {x:α} (h:o.filter p=some x):o=some x∧p x=true:=by
 cases o with
 |none=>simp at h
 |some y=>
  simp only[Option.filter]at h
  split at h
  ·rename_i hp;cases h;exact⟨rfl,hp⟩
  ·cases h
theorem zlw {α:Type} {l:List α} {i:Nat} {x:α} (h:l[i]? =some x):∃hi:i<l.length,l[i]=x:=by
 obtain⟨hi,h⟩:=List.getElem?_eq_some_iff.1 h
 exact⟨hi,h⟩
theorem zkf {l:List Sess} (h:SS l) {c:Int} {x:Sess} (hx:zaA l c=some x):(∃hi:zfL l c<l.length,l[zfL l c]=x)∧x.client=c:=by
 rw[zh6 h]at hx
 obtain⟨h1,h2⟩:=zfM hx
 exact⟨zlw h1,by simpa using h2⟩
theorem zdf {l:List Lk} (h:SL l) {s:ByteArray} {x:Lk} (hx:zc5 l s=some x):(∃hi:zbu l s<l.length,l[zbu l s]=x)∧isL s x=true:=by
 rw[zqT h]at hx
 obtain⟨h1,h2⟩:=zfM hx
 exact⟨zlw h1,h2⟩
theorem zsL {l:List Memo} (h:SM l) {c:Int} {x:Memo} (hx:zb3 l c=some x):(∃hi:zl0 l c<l.length,l[zl0 l c]=x)∧x.client=c:=by
 rw[zqS h]at hx
 obtain⟨h1,h2⟩:=zfM hx
 exact⟨zlw h1,by simpa using h2⟩
def zby {α:Type} (q:Nat→α→Bool):Nat→List α→Bool
 |_,[]=>true
 |i,x::r=>if q i x=true then zby q (i+1) r else false
theorem zcx {α:Type} {q:Nat→α→Bool}:∀{l:List α} {i:Nat},zby q i l=true↔∀j (hj:j<l.length),q (i+j) l[j]=true
 |[],i=>by simp[zby]
 |x::l,i=>by
  rw[zby]
  constructor
  ·intro h
   split at h
   ·rename_i hx
    intro j hj
    cases j with
    |zero=>exact hx
    |succ j=>
     have:=zcx.1 h j (by simpa using hj)
     simp only[List.getElem_cons_succ]
     rw[show i+(j+1)=i+1+j by omega];exact this
   ·cases h
  ·intro h
   have h0:=h 0 (by simp)
   simp only[List.getElem_cons_zero,Nat.add_zero]at h0
   rw[if_pos h0,zcx]
   intro j hj
   have:=h (j+1) (by simpa using hj)
   simp only[List.getElem_cons_succ]at this
   rw[show i+1+j=i+(j+1) by omega];exact this
theorem zaO {α:Type} {q:Nat→α→Bool} {l:List α} {i:Nat} (h:i<l.length):zby q i (l.drop i)=if q i l[i]=true then zby q (i+1) (l.drop (i+1))else false:=by
 rw[List.drop_eq_getElem_cons h,zby]
theorem zdo {α:Type} {q:Nat→α→Bool} {l:List α} {i:Nat} (h:i=l.length):zby q i (l.drop i)=true:=by
 rw[h,List.drop_length,zby]
def zg2 (s:Sess):Bool:=isClient s.client&& !(decide (s.num<1))&& !(decide (s.num>zbB))&& !(decide (s.renewed<0))&& !(decide (s.renewed>zbB))
def numbered (l:List Sess) (n:Int):Bool:=l.any fun x=>x.num==n
def zqM (l:List Sess) (i:Nat):Int:=(l[i - 1]?.map Sess.client).getD 0
def zka (l:List Sess) (i:Nat) (s:Sess):Bool:=zg2 s&& !((decide (i>0)&&decide (zqM l i≥s.client))||numbered (l.take i) s.num)
def sessB (l:List Sess):Bool:= !(decide ((l.length:Int)>5))&&zby (zka l) 0 l
def zde (l:List Sess) (c num now:Int):List Sess×Int:=
 if(!isClient c||decide (num<1)||decide (num>zbB)||decide (now<0)||decide (now>zbB)||(!(zaA l c).isSome&&numbered l num)||((zaA l c).isSome&&(((zaA l c).map Sess.num).getD 0 !=num)&&numbered l num))=true then([],1)else
 if(zaA l c).isSome=true then([],7)else if decide ((l.length:Int)≥5)=true then([],5)else(l.take (zfL l c)++⟨c,num,now⟩::l.drop (zfL l c),0)
def zco (l:List Sess) (c now:Int):List Sess×Int:=
 if(decide (now<0)||decide (now>zbB))=true then([],1)else
 match zaA l c with
 |none=>([],6)
 |some x=>(l.set (zfL l c) ⟨x.client,x.num,max x.renewed now⟩,0)
def zqN (l:List Sess) (now lease:Int):List Int:=
 if(decide (now<0)||decide (now>zbB)||decide (lease<0)||decide (lease>zbB))=true then []else(l.filter fun s=>decide (now - s.renewed≥lease)).map Sess.client
def zqO (l:List Int) (i:Nat) (c:Int):Bool:= !(!isClient c||hasI (l.take i) c)
def lineB (l:List Int):Bool:=zby (zqO l) 0 l&&decide ((l.length:Int)≤3)
def zqP (l:List Lk) (i:Nat):ByteArray:=(l[i - 1]?.map Lk.name).getD .empty
def zoG (k:Lk):Bool:=nameP k.name&& !(decide (k.holder<0))&& !(decide (k.holder≥8))&& !(decide (k.token<1))&& !(decide (k.token>zbB))
def zlt (l:List Lk) (i:Nat) (k:Lk):Bool:=zoG k&& !(!lineB k.line||hasI k.line k.holder||(decide (i>0)&& !(zef (zqP l i) k.name)))&& !((l.take i).any fun o=>o.token==k.token)
def lockB (l:List Lk):Bool:=zby (zlt l) 0 l&&decide ((l.length:Int)≤4)
def zlu (l:List Int) (c:Int):Int:=if zc6 (fun x=>c==x) l 0≥0 then zc6 (fun x=>c==x) l 0 else 0
def zaR (l:List Lk) (name:ByteArray) (c token:Int) (wait:Bool):List Lk×Int×Int:=
 match zc5 l name with
 |none=>if decide ((l.length:Int)≥4)=true then([],0,5)else(l.take (zbu l name)++⟨name,c,token+1,[]⟩::l.drop (zbu l name),0,0)
 |some k=>if(k.holder==c)=true then([],0,7)else if(!wait)=true then([],0,8)else
  if hasI k.line c=true then(l,zlu k.line c,10)else
  if(zh8 k.line c).2.2≠0 then([],0,(zh8 k.line c).2.2)else(l.set (zbu l name) ⟨k.name,k.holder,k.token,(zh8 k.line c).1⟩,(zh8 k.line c).2.1,10)
def zfK (l:List Lk) (i:Nat) (k:Lk) (token:Int):List Lk×Int:=
 match k.line with
 |[]=>(l.eraseIdx i,0)
 |c::rest=>(l.set i ⟨k.name,c,token+1,rest⟩,1)
def zbN (l:List Lk) (name:ByteArray) (c token:Int):List Lk×Int×Int:=
 match zc5 l name with
 |none=>([],0,6)
 |some k=>if(k.holder==c)=true then((zfK l (zbu l name) k token).1,(zfK l (zbu l name) k token).2,0)else
  if hasI k.line c=true then(l.set (zbu l name) ⟨k.name,k.holder,k.token,(zgn k.line c).1⟩,0,0)else([],0,6)
def zb2 (gone:List Int) (token:Int):List Lk→Int→List Lk×Int
 |[],g=>([],g)
 |k::r,g=>if hasI gone k.holder=true then
   match k.line with
   |[]=>zb2 gone token r g
   |c::rest=>(⟨k.name,c,token+g+1,rest⟩::(zb2 gone token r (g+1)).1,(zb2 gone token r (g+1)).2)
  else(k::(zb2 gone token r g).1,(zb2 gone token r g).2)
def zao (gone:List Int) (k:Lk):Lk:=⟨k.name,k.holder,k.token,zaX k.line gone⟩
def zdO (l:List Lk) (gone:List Int) (token:Int):List Lk×Int:=zb2 gone token (l.map (zao gone)) 0
def zbW (l:List Lk) (c:Int):List Grant:=(l.filter fun k=>k.holder==c).map fun k=>⟨k.name,k.token⟩
def zsK (l:List Grant) (i:Nat):ByteArray:=(l[i - 1]?.map Grant.name).getD .empty
def zcy (l:List Grant) (i:Nat) (g:Grant):Bool:= !(!nameP g.name||decide (g.token<1)||decide (g.token>zbB)||(decide (i>0)&& !(zef (zsK l i) g.name)))
def zbL (r:Reply):Bool:=
 !(decide (r.code<0)||decide (r.code>12)||decide (r.session<0)||decide (r.session>zbB)||decide (r.ahead<0)||decide (r.ahead>3))&&
 !(decide ((r.held.length:Int)>4)||((r.session==0)&&decide ((r.held.length:Int)>0)))&&zby (zcy r.held) 0 r.held
def answerB (m:Memo):Bool:=decide (m.client≥0)&&decide (m.client<8)&&decide (m.seq≥1)&&decide (m.seq≤zbB)&&zbL m.reply
def zqQ (l:List Memo) (i:Nat):Int:=(l[i - 1]?.map Memo.client).getD 0
def zlv (l:List Memo) (i:Nat) (m:Memo):Bool:= !(!answerB m||(decide (i>0)&&decide (zqQ l i≥m.client)))
def memoB (l:List Memo):Bool:=zby (zlv l) 0 l
def zcI (l:List Memo) (c seq:Int):Int:=
 match zb3 l c with
 |none=>1
 |some m=>if m.seq<seq then 1 else if m.seq=seq then 0 else -1
def zkb (l:List Memo) (a:Memo):List Memo:=
 if(!answerB a||(zcI l a.client a.seq !=1))=true then l else
 if(zb3 l a.client).isSome=true then l.set (zl0 l a.client) a else l.take (zl0 l a.client)++a::l.drop (zl0 l a.client)
def within (n:Int):Bool:=decide (n≥0)&&decide (n≤zbB)
def zgM (s:St):Bool:=s.locks.all fun k=>(k.holder::k.line).all fun c=>(zaA s.sess c).isSome
def zcJ (s:St):Bool:=within s.time&&within s.num&&within s.token&&sessB s.sess&&lockB s.locks&&memoB s.memos&&(s.sess.all fun x=>decide (x.num≤s.num))&&(s.locks.all fun k=>decide (k.token≤s.token))&&zgM s
def zbv (s:St) (gone:List Int):St:=⟨s.time,s.num,s.token+(zdO s.locks gone s.token).2,s.sess.filter fun x=> !hasI gone x.client,(zdO s.locks gone s.token).1,s.memos⟩
def zd8 (s:St) (time:Int):Int:=if(decide (time>s.time)&&decide (time≤zbB))=true then time else s.time
def zci (s:St) (time lease:Int):St:=zbv {s with time:=zd8 s time} (zqN s.sess (zd8 s time) (max lease 1))
def rpl (code session ahead:Int) (held:List Grant):Reply:=⟨code,session,ahead,held⟩
def zcv (s:St) (c:Int):St×Reply:=
 match zaA s.sess c with
 |some x=>(s,⟨7,x.num,0,zbW s.locks c⟩)
 |none=>if(zde s.sess c (s.num+1) s.time).2≠0 then(s,⟨(zde s.sess c (s.num+1) s.time).2,0,0,[]⟩)else
  ({s with sess:=(zde s.sess c (s.num+1) s.time).1,num:=s.num+1},⟨0,s.num+1,0,zbW s.locks c⟩)
def zbm (s:St) (r:Req):St×Reply:=
 if(r.kind==1)=true then zcv s r.client else
 match zaA s.sess r.client with
 |none=>(s,⟨9,0,0,[]⟩)
 |some x=>if(x.num !=r.session)=true then(s,⟨9,0,0,[]⟩)else
  let s1:St:={s with sess:=(zco s.sess r.client s.time).1}
  if(r.kind==3||r.kind==4)=true then
   let t:=zaR s1.locks r.name r.client s1.token (r.kind==3)
   let s2:St:=if t.2.2=0 then {s1 with locks:=t.1,token:=s1.token+1}else if t.2.2=10 then {s1 with locks:=t.1}else s1
   (s2,⟨t.2.2,x.num,if t.2.2=10 then t.2.1 else 0,zbW s2.locks r.client⟩)
  else if(r.kind==5)=true then
   let t:=zbN s1.locks r.name r.client s1.token
   let s2:St:=if t.2.2=0 then {s1 with locks:=t.1,token:=s1.token+t.2.1}else s1
   (s2,⟨t.2.2,x.num,0,zbW s2.locks r.client⟩)
  else if(r.kind==6)=true then(zbv s1 [r.client],⟨0,0,0,[]⟩)
  else(s1,⟨0,x.num,0,zbW s1.locks r.client⟩)
def zd9 (s:St) (r:Req):St×Reply×Bool:=
 if(!Req.may r)=true then(s,⟨1,0,0,[]⟩,false)else
 if zcI s.memos r.client r.seq= -1 then(s,⟨0,0,0,[]⟩,false)else
 if zcI s.memos r.client r.seq=0 then(s,((zb3 s.memos r.client).map Memo.reply).getD ⟨0,0,0,[]⟩,false)else
 ({(zbm s r).1 with memos:=zkb (zbm s r).1.memos ⟨r.client,r.seq,(zbm s r).2⟩},(zbm s r).2,true)
def zyS (a b:St):List Int:=(a.sess.filter fun x=> !((zaA b.sess x.client).any fun y=>y.num==x.num)).map Sess.client
theorem zqZ {a b:Int}:(zqU a b==0)=(a==b):=by
 unfold zqU
 split
 ·rw[Bool.eq_iff_iff];simp;omega
 ·split
  ·rw[Bool.eq_iff_iff];simp;omega
  ·rw[Bool.eq_iff_iff];simp;omega
theorem zq1 {a b:Int}:zqU a b<0↔a<b:=by
 unfold zqU
 split
 ·simp;omega
 ·split<;>simp<;>omega
theorem zsO {α:Type} {o:Option α} {p:α→Bool}:(o.filter p).isSome=(o.map p).getD false:=by
 cases o with
 |none=>rfl
 |some x=>simp only[Option.filter,Option.map_some,Option.getD_some];cases p x<;>rfl
theorem zu7 (x:Sess) (n:Int):CallOK Tryz.prog 172 [.f (zly x), .f (.one (.elt [iD n]))] (fun r o=>r=[rb (x.num==n)]∧o=[]):=by
 refine zac zas mixed (T:=Ty) (n:=8) Tryz.func172 (c:=Tryz.f172.body.getD .skip) rfl Tryz.results172 Tryz.ntmps172 Tryz.call172 ?_
 simp only[Tryz.f172,Option.getD]
 repeat'(first|refine zq0 ?_|exact zd0|(refine zaa ?_ ?_<;>intro hb)|(refine And.intro ?_ ?_;exact zI)|(refine And.intro ?_ ?_<;>intro hg)|exact zC|fail)
theorem zmG (l:List Sess) (hl:l.length<2^62) (n:Int):CallOK Tryz.prog 123 [.f (al l.length (zaJ l)), .f (ai n)] (fun r o=>r=[rb (numbered l n)]∧o=[]):=by
 refine zac zas mixed (T:=Ty) (n:=8) Tryz.func123 (c:=Tryz.f123.body.getD .skip) rfl Tryz.results123 Tryz.ntmps123 Tryz.call123 ?_
 simp only[Tryz.f123,Option.getD]
 have h:=zki l hl (fun x=>x.num==n) 172 [.elt [iD n]] rfl rfl (fun x _=>zu7 x n)
 repeat'(first|refine zq0 ?_|exact zd0|refine zc (h) ?_|refine zg (h) ?_|(refine zaa ?_ ?_<;>intro hb)|(refine And.intro ?_ ?_;exact zI)|(refine And.intro ?_ ?_<;>intro hg)|exact zC|fail)
 rfl
theorem zoK (x:Sess) (c:Int):CallOK Tryz.prog 189 [.f (zly x), .f (ai c)] (fun r o=>r=[ri (zqU x.client c)]∧o=[]):=by
 refine zac zas mixed (T:=Ty) (n:=9) Tryz.func189 (c:=Tryz.f189.body.getD .skip) rfl Tryz.results189 Tryz.ntmps189 Tryz.call189 ?_
 simp only[Tryz.f189,Option.getD]
 repeat'(first|refine zq0 ?_|exact zd0|refine zc (zh7 x.client c) ?_|refine zg (zh7 x.client c) ?_|(refine zaa ?_ ?_<;>intro hb)|(refine And.intro ?_ ?_;exact zI)|(refine And.intro ?_ ?_<;>intro hg)|exact zC|fail)
theorem zq2 (l:List Sess) (hs:SS l) (hl:l.length<2^62) (c:Int):CallOK Tryz.prog 162 [.f (al l.length (zaJ l)), .f (ai c)] (fun r o=>r=[ri (zfL l c),rb (zaA l c).isSome]∧o=[]):=by
 refine zac zas mixed (T:=Ty) (n:=11) Tryz.func162 (c:=Tryz.f162.body.getD .skip) rfl Tryz.results162 Tryz.ntmps162 Tryz.call162 ?_
 simp only[Tryz.f162,Option.getD]
 have h:=zlz l hl c (fun x=>zqU x.client c) 189 (zfL l c) zmD
  (fun j hj h=>by have:=zkc hj h;simp at this;exact zq1.2 this)
  (fun j hj h=>by have:=zkd hj (zmE hs c) h;simp at this;have h2:= @zq1 l[j].client c;omega) (fun x _=>zoK x c)
 have e:((l[zfL l c]?.map fun x=>zqU x.client c==0).getD false)=(zaA l c).isSome:=by
  rw[zh6 hs,zsO]
  simp only[zqZ]
 rw[e]at h
 repeat'(first|refine zq0 ?_|exact zd0|refine zc (h) ?_|refine zg (h) ?_|(refine zaa ?_ ?_<;>intro hb)|(refine And.intro ?_ ?_;exact zI)|(refine And.intro ?_ ?_<;>intro hg)|exact zC|fail)
theorem zu8 {a b a' b':RO}:zbO [.one a, .one b] [.one a', .one b']=(zaz a a'∧zaz b b'∧True):=rfl
def zeq:Sess:=⟨0,0,0⟩
theorem zsP (l:List Sess) (hs:SS l) (hl:l.length<2^62) (c:Int):CallOK Tryz.prog 114 [.f (al l.length (zaJ l)), .f (ai c)]
  (fun r o=>r=[.agg [.d (iD ((zaA l c).getD zeq).client), .d (iD ((zaA l c).getD zeq).num), .d (iD ((zaA l c).getD zeq).renewed)],rb (zaA l c).isSome]∧o=[]):=by
 refine zac zas mixed (T:=Ty) (n:=20) Tryz.func114 (c:=Tryz.f114.body.getD .skip) rfl Tryz.results114 Tryz.ntmps114 Tryz.call114 ?_
 simp only[Tryz.f114,Option.getD]
 have h:=zq2 l hs hl c
 cases hf:zaA l c with
 |none=>
  rw[hf]at h
  simp only[Option.isSome_none]at h
  repeat'(first|refine zq0 ?_|exact zd0|refine zc (h) ?_|refine zg (h) ?_|(refine zaa ?_ ?_<;>intro hb)|(refine And.intro ?_ ?_;exact zI)|(refine And.intro ?_ ?_<;>intro hg)|exact zC|fail)
  rfl
 |some x=>
  rw[hf]at h
  simp only[Option.isSome_some]at h
  rw[zh6 hs]at hf
  have hg:l[zfL l c]? =some x:=by
   cases hq:l[zfL l c]? with
   |none=>rw[hq]at hf;simp at hf
   |some y=>rw[hq]at hf;simp only[Option.filter]at hf;split at hf<;>simp_all
  obtain⟨hi,he⟩:=List.getElem?_eq_some_iff.1 hg
  have hat:=zbZ hi
  rw[he]at hat
  simp only[List.cons_append,List.nil_append]at hat
  repeat'(first|refine zq (I hat @zau) ?_|exact zd (I hat @zau)|refine zc (h) ?_|refine zg (h) ?_|(refine zaa ?_ ?_<;>intro hb)|(refine And.intro ?_ ?_;exact zI)|(refine And.intro ?_ ?_<;>intro hg)|exact zC|fail)
  rfl
theorem zlD (l:List Sess) (hl:l.length<2^30):CallOK Tryz.prog 72 [.f (al l.length (zaJ l))] (fun r o=>r=[rb (sessB l)]∧o=[]):=by
 refine zac zas mixed (T:=Ty) (n:=61) Tryz.func72 (c:=Tryz.f72.body.getD .skip) rfl Tryz.results72 Tryz.ntmps72 Tryz.call72 ?_
 simp only[Tryz.f72,Option.getD]
 cases h5:decide ((l.length:Int)>5)
 ·have hs:sessB l=zby (zka l) 0 l:=by rw[sessB,h5];rfl
  rw[hs]
  repeat'(first|refine zq (I h5 @zau) ?_|exact zd (I h5 @zau)|(refine zaa ?_ ?_<;>intro hb)|(refine And.intro ?_ ?_;exact zI)|(refine And.intro ?_ ?_<;>intro hg)|exact zC|fail)
  refine zam (τ:=Nat) (fun i=>⟨[al l.length (zaJ l),dd,dd,dd,dd,dd,dd,dd,al l.length (zaJ l),ai l.length,ai i,dd,dd,dd,dd,dd,dd,dd,dd,dd,dd,dd,dd,dd,dd,dd,dd,dd,dd,dd,dd,dd,dd,dd,dd,dd,dd,dd,dd,dd,dd,dd,dd,dd,dd,dd,dd,dd,dd,dd,dd,dd,dd,dd,dd,dd,dd,dd,dd,dd,dd],[(4,⟨2,[]⟩)]⟩)
   (fun i=>i≤l.length) (fun i=>zby (zka l) i (l.drop i)) (fun i=>l.length - i) 0
   (Gh.canon [] [4] [] zK rfl rfl) (Nat.zero_le _) ?_
  intro i hi0 hF K hK
  simp only[List.drop_zero]at hF hK⊢
  refine zw ?_
  refine zaa (fun hlt=> ?_) (fun hge=> ?_)
  ·have hi:i<l.length:=by simpa using hlt
   have hat:=zbZ hi
   simp only[List.cons_append,List.nil_append]at hat
   have hw:=zaq hi (by omega)
   rw[zaO hi]at hF
   have hcl:=zkh l[i].client
   have hnb:=zmG (l.take i) (by rw[List.length_take];omega) l[i].num
   have hlt2:(l.take i).length=i:=by rw[List.length_take];omega
   have htk:(zaJ l).take (i*3)=zaJ (l.take i):=zfU Sess.enc 3 (fun _=>rfl) (by omega)
   rw[hlt2]at hnb
   cases e0:decide ((i:Int)>0)
   ·have hq:zka l i l[i]=(!(!(decide (l[i].client≥0)&&decide (l[i].client<8))||decide (l[i].num<1)||decide (l[i].num>2305843009213693952)||decide (l[i].renewed<0)||decide (l[i].renewed>2305843009213693952))&& !(numbered (l.take i) l[i].num)):=by
     unfold zka zg2 isClient
     have:decide (i>0)=false:=by simpa using e0
     rw[this]
     simp only[Bool.not_or,Bool.not_not,Bool.false_and,Bool.false_or]
    have h0:i=0:=by simpa using e0
    have hp:(zaJ l).drop ((IntKind.i64.wrap ((i:Int) - 1)).toNat*3)=l[i].enc++zaJ (l.drop (i+1)):=by
     rw[←zbZ hi,h0];rfl
    repeat'(first|refine zq (I hat (I hp (I htk (I e0 (I @zau zca))))) ?_|exact zd (I hat (I hp (I htk (I e0 (I @zau zca)))))|refine zc (hcl) ?_|refine zg (hcl) ?_|refine zc (hnb) ?_|refine zg (hnb) ?_|(refine zaa ?_ ?_<;>intro hb)|(refine And.intro ?_ ?_;exact zI)|(refine And.intro ?_ ?_<;>intro hg)|exact zC|fail)
    ·rw[hq,hb,if_neg (by simp)]at hF
     rw[←hF]
    ·rename_i ha
     rw[hq,ha,hb,if_neg (by simp)]at hF
     rw[←hF]
    ·rename_i ha
     exact hK _ (i+1) (Gh.canon [] [] [] (zk hw) rfl rfl) hi (by rw[zaO hi,hq,ha,hb];rfl) (by omega)
   ·have hq:zka l i l[i]=(!(!(decide (l[i].client≥0)&&decide (l[i].client<8))||decide (l[i].num<1)||decide (l[i].num>2305843009213693952)||decide (l[i].renewed<0)||decide (l[i].renewed>2305843009213693952))&& !(decide ((l[i - 1]'(by omega)).client≥l[i].client)||numbered (l.take i) l[i].num)):=by
     unfold zka zg2 isClient zqM
     have:decide (i>0)=true:=by simpa using e0
     rw[this,List.getElem?_eq_getElem (by omega)]
     simp only[Bool.not_or,Bool.not_not,Bool.true_and,Option.map_some,Option.getD_some]
    have h0:0<i:=by simpa using e0
    have hp:=zbZ (show i - 1<l.length by omega)
    have hw1:IntKind.i64.wrap ((i:Int) - 1)=((i - 1:Nat):Int):=by rw[wrap64 (by omega) (by omega)];omega
    repeat'(first|refine zq (I hat (I hp (I hw1 (I htk (I e0 (I @zau zca)))))) ?_|exact zd (I hat (I hp (I hw1 (I htk (I e0 (I @zau zca))))))|refine zc (hcl) ?_|refine zg (hcl) ?_|refine zc (hnb) ?_|refine zg (hnb) ?_|(refine zaa ?_ ?_<;>intro hb)|(refine And.intro ?_ ?_;exact zI)|(refine And.intro ?_ ?_<;>intro hg)|exact zC|fail)
    ·rw[hq,hb,if_neg (by simp)]at hF
     rw[←hF]
    ·rename_i ha
     rw[hq,ha,hb,if_neg (by simp)]at hF
     rw[←hF]
    ·rename_i ha
     exact hK _ (i+1) (Gh.canon [] [] [] (zk hw) rfl rfl) hi (by rw[zaO hi,hq,ha,hb];rfl) (by omega)
  ·have hi:i=l.length:=by
    have:¬(i:Int)<l.length:=by simpa using hge
    omega
   rw[zdo hi]at hF
   rw[←hF]
   repeat'(first|refine zq0 ?_|exact zd0|(refine zaa ?_ ?_<;>intro hb)|(refine And.intro ?_ ?_;exact zI)|(refine And.intro ?_ ?_<;>intro hg)|exact zC|fail)
 ·have hs:sessB l=false:=by rw[sessB,h5];rfl
  rw[hs]
  repeat'(first|refine zq (I h5 @zau) ?_|exact zd (I h5 @zau)|(refine zaa ?_ ?_<;>intro hb)|(refine And.intro ?_ ?_;exact zI)|(refine And.intro ?_ ?_<;>intro hg)|exact zC|fail)
def zy1 (a b:ByteArray):Int:=Lib.compareBytes a.data.toList b.data.toList
theorem zlB (l:List Int) (hl:l.length<2^30):CallOK Tryz.prog 125 [.f (al l.length (zaE l))] (fun r o=>r=[rb (lineB l)]∧o=[]):=by
 refine zac zas mixed (T:=Ty) (n:=26) Tryz.func125 (c:=Tryz.f125.body.getD .skip) rfl Tryz.results125 Tryz.ntmps125 Tryz.call125 ?_
 simp only[Tryz.f125,Option.getD]
 repeat'(first|refine zq @zak ?_|exact zd @zak|(refine zaa ?_ ?_<;>intro hb)|(refine And.intro ?_ ?_;exact zI)|(refine And.intro ?_ ?_<;>intro hg)|exact zC|fail)
 refine zam (τ:=Nat) (fun i=>⟨[al l.length (zaE l),dd,dd,dd,dd,al l.length (zaE l),ai l.length,ai i,dd,dd,dd,dd,dd,dd,dd,dd,dd,dd,dd,dd,dd,dd,dd,dd,dd,dd],[]⟩)
  (fun i=>i≤l.length) (fun i=>zby (zqO l) i (l.drop i)) (fun i=>l.length - i) 0
  (Gh.canon [] [] [] zK rfl rfl) (Nat.zero_le _) ?_
 intro i hi0 hF K hK
 rw[List.drop_zero]at hF
 refine zw ?_
 refine zaa (fun hlt=> ?_) (fun hge=> ?_)
 ·have hi:i<l.length:=by simpa using hlt
  have hat:=zcp hi
  have hw:=zaq hi (by omega)
  rw[zaO hi]at hF
  have hcl:=zkg l[i]
  have hlt2:(l.take i).length=i:=by rw[List.length_take];omega
  have htk:(zaE l).take i=zaE (l.take i):=zqV (by omega)
  have hco:=zg3 (l.take i) (by omega) l[i]
  rw[hlt2]at hco
  have hq:zqO l i l[i]= !(!(decide (l[i]≥0)&&decide (l[i]<8))||(l.take i).any fun x=>l[i]==x):=rfl
  repeat'(first|refine zq (I hat (I htk (I @zak zca))) ?_|exact zd (I hat (I htk (I @zak zca)))|refine zc (hcl) ?_|refine zg (hcl) ?_|refine zc (hco) ?_|refine zg (hco) ?_|(refine zaa ?_ ?_<;>intro hb)|(refine And.intro ?_ ?_;exact zI)|(refine And.intro ?_ ?_<;>intro hg)|exact zC|fail)
  ·rw[hq,hb,if_neg (by simp)]at hF
   unfold lineB
   rw[←hF];rfl
  ·exact hK _ (i+1) (Gh.canon [] [] [] (zk hw) rfl rfl) hi (by rw[zaO hi,hq,hb];rfl) (by omega)
 ·have hi:i=l.length:=by
   have:¬(i:Int)<l.length:=by simpa using hge
   omega
  rw[zdo hi]at hF
  unfold lineB
  rw[←hF]
  repeat'(first|refine zq0 ?_|exact zd0|(refine zaa ?_ ?_<;>intro hb)|(refine And.intro ?_ ?_;exact zI)|(refine And.intro ?_ ?_<;>intro hg)|exact zC|fail)
theorem zoJ (k j:Lk):CallOK Tryz.prog 127 [.f (zqX k), .f (.one (.elt j.enc))] (fun r o=>r=[rb (k.token==j.token)]∧o=[]):=by
 refine zac zas mixed (T:=Ty) (n:=9) Tryz.func127 (c:=Tryz.f127.body.getD .skip) rfl Tryz.results127 Tryz.ntmps127 Tryz.call127 ?_
 simp only[Tryz.f127,Option.getD]
 repeat'(first|refine zq0 ?_|exact zd0|(refine zaa ?_ ?_<;>intro hb)|(refine And.intro ?_ ?_;exact zI)|(refine And.intro ?_ ?_<;>intro hg)|exact zC|fail)
theorem zlC (l:List Lk) (hl:l.length<2^30) (hll:∀k∈l,k.line.length<2^30∧k.name.size<2^62):CallOK Tryz.prog 73 [.f (al l.length (zai l))] (fun r o=>r=[rb (lockB l)]∧o=[]):=by
 refine zac zas mixed (T:=Ty) (n:=71) Tryz.func73 (c:=Tryz.f73.body.getD .skip) rfl Tryz.results73 Tryz.ntmps73 Tryz.call73 ?_
 simp only[Tryz.f73,Option.getD]
 repeat'(first|refine zq @zae ?_|exact zd @zae|(refine zaa ?_ ?_<;>intro hb)|(refine And.intro ?_ ?_;exact zI)|(refine And.intro ?_ ?_<;>intro hg)|exact zC|fail)
 refine zam (τ:=Nat) (fun i=>⟨[al l.length (zai l),dd,dd,dd,dd,al l.length (zai l),ai l.length,ai i,dd,dd,dd,dd,dd,dd,dd,dd,dd,dd,dd,dd,dd,dd,dd,dd,dd,dd,dd,dd,dd,dd,dd,dd,dd,dd,dd,dd,dd,dd,dd,dd,dd,dd,dd,dd,dd,dd,dd,dd,dd,dd,dd,dd,dd,dd,dd,dd,dd,dd,dd,dd,dd,dd,dd,dd,dd,dd,dd,dd,dd,dd,dd],[(4,⟨2,[]⟩)]⟩)
  (fun i=>i≤l.length) (fun i=>zby (zlt l) i (l.drop i)) (fun i=>l.length - i) 0
  (Gh.canon [] [4] [] zK rfl rfl) (Nat.zero_le _) ?_
 intro i hi0 hF K hK
 rw[List.drop_zero]at hF
 refine zw ?_
 refine zaa (fun hlt=> ?_) (fun hge=> ?_)
 ·have hi:i<l.length:=by simpa using hlt
  have hat:=za0 hi
  obtain⟨hk1,hk2⟩:=hll _ (List.getElem_mem hi)
  have hw:=zaq hi (by omega)
  rw[zaO hi]at hF
  have hnm:=zqY l[i].name hk2
  have hlr:=zlB l[i].line hk1
  have hlc:=zg3 l[i].line (by omega) l[i].holder
  have hlt2:(l.take i).length=i:=by rw[List.length_take];omega
  have htk:(zai l).take (i*4)=zai (l.take i):=zfU Lk.enc 4 (fun _=>rfl) (by omega)
  have hco:=zkj (l.take i) (by omega) (fun o=>o.token==l[i].token) 127 [.elt l[i].enc] rfl rfl (fun x _=>zoJ x _)
  rw[hlt2]at hco
  cases e0:decide ((i:Int)>0)
  ·have h0:i=0:=by simpa using e0
   have hq:zlt l i l[i]=(!(!nameP l[i].name||decide (l[i].holder<0)||decide (l[i].holder≥8)||decide (l[i].token<1)||decide (l[i].token>2305843009213693952))&& !(!lineB l[i].line||l[i].line.any fun x=>l[i].holder==x)&& !((l.take i).any fun o=>o.token==l[i].token)):=by
    unfold zlt zoG hasI
    have:decide (i>0)=false:=by simpa using e0
    rw[this]
    simp only[Bool.not_or,Bool.not_not,Bool.false_and,Bool.or_false]
   have hp:(zai l).drop ((IntKind.i64.wrap ((i:Int) - 1)).toNat*4)=l[i].enc++zai (l.drop (i+1)):=by
    rw[←za0 hi,h0];rfl
   repeat'(first|refine zq (I hat (I hp (I htk (I e0 (I @zae zca))))) ?_|exact zd (I hat (I hp (I htk (I e0 (I @zae zca)))))|refine zc (hnm) ?_|refine zg (hnm) ?_|refine zc (hlr) ?_|refine zg (hlr) ?_|refine zc (hlc) ?_|refine zg (hlc) ?_|refine zc (hco) ?_|refine zg (hco) ?_|(refine zaa ?_ ?_<;>intro hb)|(refine And.intro ?_ ?_;exact zI)|(refine And.intro ?_ ?_<;>intro hg)|exact zC|fail)
   ·rw[hq,hb,if_neg (by simp)]at hF
    unfold lockB
    rw[←hF];rfl
   ·rename_i ha
    rw[hq,ha,hb,if_neg (by simp)]at hF
    unfold lockB
    rw[←hF];rfl
   ·rename_i ha hc
    rw[hq,ha,hc,hb,if_neg (by simp)]at hF
    unfold lockB
    rw[←hF];rfl
   ·rename_i ha hc
    exact hK _ (i+1) (Gh.canon [] [] [] (zk hw) rfl rfl) hi (by rw[zaO hi,hq,ha,hc,hb];rfl) (by omega)
  ·have h0:0<i:=by simpa using e0
   have hq:zlt l i l[i]=(!(!nameP l[i].name||decide (l[i].holder<0)||decide (l[i].holder≥8)||decide (l[i].token<1)||decide (l[i].token>2305843009213693952))&& !(!lineB l[i].line||(l[i].line.any fun x=>l[i].holder==x)|| !(zef (l[i - 1]'(by omega)).name l[i].name))&& !((l.take i).any fun o=>o.token==l[i].token)):=by
    unfold zlt zoG hasI zqP
    have:decide (i>0)=true:=by simpa using e0
    rw[this,List.getElem?_eq_getElem (by omega)]
    simp only[Bool.not_or,Bool.not_not,Bool.true_and,Option.map_some,Option.getD_some]
   have hp:=za0 (show i - 1<l.length by omega)
   have hw1:IntKind.i64.wrap ((i:Int) - 1)=((i - 1:Nat):Int):=by rw[wrap64 (by omega) (by omega)];omega
   repeat'(first|refine zq (I hat (I hp (I hw1 (I htk (I e0 (I @zae zca)))))) ?_|exact zd (I hat (I hp (I hw1 (I htk (I e0 (I @zae zca))))))|refine zc (hnm) ?_|refine zg (hnm) ?_|refine zc (hlr) ?_|refine zg (hlr) ?_|refine zc (hlc) ?_|refine zg (hlc) ?_|refine zc (hco) ?_|refine zg (hco) ?_|(refine zaa ?_ ?_<;>intro hb)|(refine And.intro ?_ ?_;exact zI)|(refine And.intro ?_ ?_<;>intro hg)|exact zC|fail)
   ·rw[hq,hb,if_neg (by simp)]at hF
    unfold lockB
    rw[←hF];rfl
   ·rename_i ha
    rw[hq,ha,hb,if_neg (by simp)]at hF
    unfold lockB
    rw[←hF];rfl
   ·rename_i ha hc
    rw[hq,ha,hc,hb,if_neg (by simp)]at hF
    unfold lockB
    rw[←hF];rfl
   ·rename_i ha hc
    exact hK _ (i+1) (Gh.canon [] [] [] (zk hw) rfl rfl) hi (by rw[zaO hi,hq,ha,hc,hb];rfl) (by omega)
 ·have hi:i=l.length:=by
   have:¬(i:Int)<l.length:=by simpa using hge
   omega
  rw[zdo hi]at hF
  unfold lockB
  rw[←hF]
  repeat'(first|refine zq0 ?_|exact zd0|(refine zaa ?_ ?_<;>intro hb)|(refine And.intro ?_ ?_;exact zI)|(refine And.intro ?_ ?_<;>intro hg)|exact zC|fail)
def curL (l:List Lk) (gone:List Int) (i:Nat):List Lk:=(l.take i).map (zao gone)++l.drop i
theorem zsQ {l:List Lk} {gone:List Int} {i:Nat} (hi:i≤l.length):(curL l gone i).length=l.length:=by
 unfold curL
 rw[List.length_append,List.length_map,List.length_take,List.length_drop];omega
theorem zu9 {l:List Lk} {gone:List Int} {i:Nat} (hi:i<l.length):∃h:i<(curL l gone i).length,(curL l gone i)[i]=l[i]:=by
 have hl:((l.take i).map (zao gone)).length=i:=by rw[List.length_map,List.length_take];omega
 have h:(curL l gone i)[i]? =some l[i]:=by
  unfold curL
  rw[List.getElem?_append_right (by omega),hl,Nat.sub_self,List.getElem?_drop,Nat.add_zero,List.getElem?_eq_getElem hi]
 exact zlw h
theorem zq3 {l:List Lk} {gone:List Int} {i:Nat} (hi:i<l.length):(curL l gone i).set i (zao gone l[i])=curL l gone (i+1):=by
 have hl:((l.take i).map (zao gone)).length=i:=by rw[List.length_map,List.length_take];omega
 unfold curL
 rw[List.set_append_right _ _ (by omega),hl,Nat.sub_self,List.drop_eq_getElem_cons hi,List.set_cons_zero,List.take_add_one,List.getElem?_eq_getElem hi]
 simp only[Option.toList,List.map_append,List.map_cons,List.map_nil,List.append_assoc,List.cons_append,List.nil_append]
theorem zsR (l:List Lk) (gone:List Int):curL l gone l.length=l.map (zao gone):=by
 unfold curL
 rw[List.take_length,List.drop_length,List.append_nil]
theorem zoL {gone:List Int} {t:Int} {L:List Lk} {i:Nat} {g:Int} (hi:i<L.length):zb2 gone t (L.drop i) g=if hasI gone L[i].holder=true then
   match L[i].line with
   |[]=>zb2 gone t (L.drop (i+1)) g
   |c::rest=>(⟨L[i].name,c,t+g+1,rest⟩::(zb2 gone t (L.drop (i+1)) (g+1)).1,(zb2 gone t (L.drop (i+1)) (g+1)).2)
  else(L[i]::(zb2 gone t (L.drop (i+1)) g).1,(zb2 gone t (L.drop (i+1)) g).2):=by
 rw[List.drop_eq_getElem_cons hi,zb2]
 all_goals (cases L[i].line<;>rfl)
end Go.Proofs.YtbpmcjeeeiffhaaGreat
