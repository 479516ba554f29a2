import Derived.Test.YtliimajkpggbhaaGreatTy
import Derived.Test.YtliimajkpggbhaaGreatK9
import Derived.KernelRfl
namespace Go.Proofs.YtliimajkpggbhaaGreat
open Go.Pk
set_option maxRecDepth 100000
set_option linter.unusedSimpArgs false
set_option linter.unusedVariables false
theorem zD6:(([25,33,153,151]:List Nat)).all (eqB Tryz.prog)=true:=by kernel_rfl
theorem zcQ:TOK Tryz.prog Ty:=zzX fun t ht=>List.all_eq_true.1 zD6 t ht
theorem mixed:Tryz.prog.follows .mixedOrders=true:=by kernel_rfl
theorem zh {i:FuncId} {f:Func} {rvs:List ResultVar} {n:Nat} {args:List Arg} {post:List RF→List (List RO)→Prop} (h1:Tryz.prog.funcs[i]? =some f) (h2:f.results=rvs.toArray) (h3:f.ntmps=n) (h4:∀(us:Array Value) (w:World),(callFunc i us).run Tryz.prog w= .ok (.enter i us) w)
  (hk:awp Ty Tryz.prog (f.body.getD .skip) (openG n args) (zpQ Ty rvs (objPos 0 args) post)) (hb:f.body=some (f.body.getD .skip):=by rfl):CallOK Tryz.prog i args post:=zm8 zcQ mixed h1 hb h2 h3 h4 hk
theorem zhy {i:FuncId} {f:Func} {n:Nat} {args:List Arg} {x:Value} (h1:Tryz.prog.funcs[i]? =some f) (h3:f.ntmps=n) (h4:∀(us:Array Value) (w:World),(callFunc i us).run Tryz.prog w= .ok (.enter i us) w)
  (hk:awp Ty Tryz.prog (f.body.getD .skip) (openG n args) (zzV x)) (hb:f.body=some (f.body.getD .skip):=by rfl):zbW Tryz.prog i args x:=zm9 zcQ mixed h1 hb h3 h4 hk
theorem zhb {i:FuncId} {f:Func} {rvs:List ResultVar} {n:Nat} {args:List Arg} {post:List RF→List (List RO)→Prop} {x:Value} {b:Bool} (h1:Tryz.prog.funcs[i]? =some f) (h2:f.results=rvs.toArray) (h3:f.ntmps=n) (h4:∀(us:Array Value) (w:World),(callFunc i us).run Tryz.prog w= .ok (.enter i us) w)
  (hk:awp Ty Tryz.prog (f.body.getD .skip) (openG n args) (zAM (zpQ Ty rvs (objPos 0 args) post) (zzV x) b)) (hb:f.body=some (f.body.getD .skip):=by rfl):(b=true→CallOK Tryz.prog i args post)∧(b=false→zbW Tryz.prog i args x):=zvc zcQ mixed h1 hb h2 h3 h4 hk
def zhN (c:UInt8):Bool:= !((decide ((c.toNat:Int)<97)||decide ((c.toNat:Int)>122))&&(decide ((c.toNat:Int)<48)||decide ((c.toNat:Int)>57))&&((c.toNat:Int) !=45))
def nameP (s:ByteArray):Bool:=((List.range s.size).all fun j=>zhN (s.data.getD j 0))&&(decide ((s.size:Int)≥1)&&decide ((s.size:Int)≤12))
theorem zqp (k:Int):CallOK Tryz.prog 113 [.f (ai k)] (fun r o=>r=[rb (k==3||k==4||k==5)]∧o=[]):=by
 refine zh Tryz.func113 Tryz.results113 Tryz.ntmps113 Tryz.call113 ?_
 simp only[Tryz.f113,Option.getD]
 exact zDR trivial
theorem zo5 (s:ByteArray) (hs:s.size<2^62):CallOK Tryz.prog 114 [.f (ast s)] (fun r o=>r=[rb (nameP s)]∧o=[]):=by
 refine zh Tryz.func114 Tryz.results114 Tryz.ntmps114 Tryz.call114 ?_
 simp only[Tryz.f114,Option.getD]
 refine zw ?_
 refine zi3 Ty Tryz.prog (τ:=Nat) (fun i=>⟨(ast s::dd::ab false::dq2 (ast s::ai s.size::ai i::zwY [])),[]⟩) (fun i=>i≤s.size∧∀j,j<i→zhN (s.data.getD j 0)=true) (fun i=>s.size - i) 0 ?_ ⟨Nat.zero_le _,fun j hj=>absurd hj (Nat.not_lt_zero j)⟩ ?_
 ·refine Gh.fgt ?_
  simp only[ddE,zcU,zcV,zdQ,Int.natCast_zero]
 intro i ⟨h1,h2⟩ K hK
 refine zw ?_
 rw[ze4]
 refine⟨trivial,fun hlt=> ?_,fun hge=> ?_⟩
 ·refine zw ?_
  have hi:i<s.size:=by simpa using hlt
  refine⟨⟨Int.natCast_nonneg i,by omega⟩,zp8 (fun a b=>by rw[a,b];rfl), ?_⟩
  have hok:zhN (s.data.getD i 0)= !((decide (((s.data.getD i 0).toNat:Int)<97)||decide (((s.data.getD i 0).toNat:Int)>122))&&(decide (((s.data.getD i 0).toNat:Int)<48)||decide (((s.data.getD i 0).toNat:Int)>57))&&(((s.data.getD i 0).toNat:Int) !=45)):=rfl
  rw[ze4]
  refine⟨trivial,fun hb=> ?_,fun hb=> ?_⟩
  ·rw[hb]at hok
   refine zw ?_
   have hn:nameP s=false:=by
    unfold nameP
    rw[show((List.range s.size).all fun j=>zhN (s.data.getD j 0))=false from List.all_eq_false.2 ⟨i,List.mem_range.2 hi,by rw[hok];simp⟩,Bool.false_and]
   rw[hn]
  ·rw[hb]at hok
   refine zw ?_
   refine hK _ (i+1) (Gh.fgt ?_) ⟨hi,fun j hj=> ?_⟩ (by omega)
   ·have hw:IntKind.i64.wrap ((i:Int)+1)=((i+1:Nat):Int):=by rw[wrap64 (by omega) (by omega)];rfl
    simp only[hw,ddE,zcU,zcV,zdQ]
   ·rcases Nat.lt_or_ge j i with h|h
    ·exact h2 j h
    ·rw[show j=i from by omega,hok];rfl
 ·refine zw ?_
  have hi:i=s.size:=by
   have:¬(i:Int)<s.size:=by simpa using hge
   omega
  have hn:nameP s=(decide ((s.size:Int)≥1)&&decide ((s.size:Int)≤12)):=by
   unfold nameP
   rw[show((List.range s.size).all fun j=>zhN (s.data.getD j 0))=true from List.all_eq_true.2 fun j hj=>h2 j (by rw[hi];exact List.mem_range.1 hj),Bool.true_and]
  rw[hn]
def zlz (k n:Int) (s:ByteArray):Bool:=
 if(decide (k<1)||decide (k>6))=true then false else
 if((k==3||k==4||k==5)&& !nameP s|| !(k==3||k==4||k==5)&& !s.toList==(⟨#[]⟩:ByteArray).toList)=true then false else
 if(k==1)=true then n==0 else decide (n≥1)&&decide (n≤2305843009213693952)
theorem zqq (k n:Int) (s:ByteArray) (hs:s.size<2^62):CallOK Tryz.prog 73 [.f (.agg [di k,di n,dS s])] (fun r o=>r=[rb (zlz k n s)]∧o=[]):=by
 refine zh Tryz.func73 Tryz.results73 Tryz.ntmps73 Tryz.call73 ?_
 simp only[Tryz.f73,Option.getD]
 repeat'(first|exact zC|refine za0 ?_|((first|((try refine zaT ?_);apply za9)|(apply za7;intro _));(solve|exact(zqp _)|(refine CallOK.le (zqp _) ?_;exact zM)|fail);try case hn=>rfl)|((first|((try refine zaT ?_);apply za9)|(apply za7;intro _));(solve|exact(zo5 _ hs)|(refine CallOK.le (zo5 _ hs) ?_;exact zM)|fail);try case hn=>rfl)|(apply zaa<;>intro hb)|(apply I;exact zI)|(apply I<;>intro hg))
 ·rw[zlz,if_pos (by assumption)]
 ·rw[zlz,if_neg (by simp_all),if_pos (by assumption)]
 ·rw[zlz,if_neg (by simp_all),if_neg (by simp_all),if_pos (by assumption)]
 ·rw[zlz,if_neg (by simp_all),if_neg (by simp_all),if_neg (by simp_all)]
def Req.may (r:Req):Bool:=(decide (r.client≥0)&&decide (r.client<8)&&decide (r.seq≥1)&&decide (r.seq≤zbx))&&zlz r.kind r.session r.name
theorem zf4 (r:Req) (hr:r.ok):CallOK Tryz.prog 34 [.f (.agg (r.enc.map C.d))] (fun x o=>x=[rb (Req.may r)]∧o=[]):=by
 refine zh Tryz.func34 Tryz.results34 Tryz.ntmps34 Tryz.call34 ?_
 simp only[Tryz.f34,Option.getD]
 repeat'(first|exact zC|refine za0 ?_|((first|((try refine zaT ?_);apply za9)|(apply za7;intro _));(solve|exact(zqq _ _ _ hr.2.2.2.2)|(refine CallOK.le (zqq _ _ _ hr.2.2.2.2) ?_;exact zM)|fail);try case hn=>rfl)|(apply zaa<;>intro hb)|(apply I;exact zI)|(apply I<;>intro hg))
 rfl
def zev {α:Type} (p:α→Bool):List α→Int→Int
 |[],_=> -1
 |x::l,i=>if p x=true then i else zev p l (i+1)
theorem zmp {α:Type} (p:α→Bool) (l:List α):decide (zev p l 0≥0)=l.any p:=by
 have h:∀(l:List α) (i:Int),0≤i→(0≤zev p l i↔l.any p=true):=by
  intro l
  induction l with
  |nil=>intro i _;simp[zev]
  |cons x l ih=>
   intro i hi
   simp only[zev]
   by_cases hx:p x=true
   ·simp[hx,hi]
   ·rw[if_neg hx,ih (i+1) (by omega)];simp[hx]
 rw[Bool.eq_iff_iff]
 simpa using h l 0 (Int.le_refl _)
theorem zAO {a b:RO}:zaL [.one a] [.one b]=(zax a b∧True):=rfl
theorem zal {i n:Nat} (h:i<n) (hn:n<2^62):IntKind.i64.wrap ((i:Int)+1)=((i+1:Nat):Int):=by rw[wrap64 (by omega) (by omega)];rfl
abbrev zAp:Int→AV:=fun x=> .one (di x)
abbrev zBm:Sess→AV:=fun x=> .agg (x.enc.map C.d)
abbrev zBn:Lk→AV:=fun x=> .agg (x.enc.map C.d)
abbrev zBo:Memo→AV:=fun x=> .agg (x.enc.map C.d)
theorem ztU (l:List Int) (hl:l.length<2^62) (p:Int→Bool) (f:Nat) (caps:List C) (hc:lendAs [] (caps.map AV.one)=some (caps.map fun c=> .f (.one c)))
  (hp:∀x∈l,CallOK Tryz.prog f (.f (zAp x)::caps.map fun c=> .f (.one c)) (fun r o=>r=[rb (p x)]∧o=[])):
  CallOK Tryz.prog 161 [.f (al l.length (zaQ l)), .f (.one (.clos f caps))] (fun r o=>r=[ri (zev p l 0)]∧o=[]):=by
 refine zh Tryz.func161 Tryz.results161 Tryz.ntmps161 Tryz.call161 ?_
 simp only[Tryz.f161,Option.getD]
 refine zw ?_
 refine zai (τ:=Nat) (fun i=>⟨(al l.length (zaQ l):: .one (.clos f caps)::dq2 (ai 0::dd::al l.length (zaQ l)::ai l.length::ai i::zr8 [])),[]⟩) (fun i=>i≤l.length) (fun i=>zev p (l.drop i) i) (fun i=>l.length - i) 0 (Gh.fgt ?_) (Nat.zero_le _) ?_
 ·simp only[ddE,zcU,zcV,zdQ,Int.natCast_zero]
 intro i hi0 hF K hK
 refine zw ?_
 rw[ze4]
 refine⟨trivial,fun hlt=> ?_,fun hge=> ?_⟩
 ·have hi:i<l.length:=by simpa using hlt
  rw[List.drop_eq_getElem_cons hi,zev]at hF
  have hat:=ints_at hi
  simp only[List.cons_append,List.nil_append]at hat
  refine zw1 (I @zpE (I hat hc)) ?_
  refine⟨⟨Int.natCast_nonneg i,by omega⟩, ?_⟩
  refine za9 (hp _ (List.getElem_mem hi)) ?_
  refine zw ?_
  refine zaa (fun hb=> ?_) (fun hb=> ?_)
  ·rw[if_pos hb]at hF
   refine zw ?_
   rw[hF];rfl
  ·rw[if_neg (by simp[hb])]at hF
   refine zw ?_
   refine hK _ (i+1) (Gh.fgt ?_) hi (by simp only[List.drop_eq_getElem_cons hi,zev];rw[if_neg (by simp[hb])];rfl) (by omega)
   have hw:IntKind.i64.wrap ((i:Int)+1)=((i+1:Nat):Int):=by rw[wrap64 (by omega) (by omega)];rfl
   simp only[hw,ddE,zcU,zcV,zdQ]
 ·have hi:i=l.length:=by
   have:¬(i:Int)<l.length:=by simpa using hge
   omega
  rw[hi,List.drop_length,zev]at hF
  refine zw ?_
  rw[hF];rfl
theorem zly {α:Type}:∀(xs pre mid post:List α),mid.length=xs.length→fillAt pre.length xs (pre++(mid++post))=pre++(xs++post)
 |[],pre,mid,post,h=>by
  have:mid=[]:=List.eq_nil_of_length_eq_zero h
  subst this;rfl
 |x::xs,pre,m::mid,post,h=>by
  have:=zly xs (pre++[x]) mid post (by simpa using h)
  rw[fillAt]
  simp only[List.length_append,List.length_cons,List.length_nil,Nat.zero_add,List.append_assoc,List.cons_append,List.nil_append]at this⊢
  rw[←this]
  congr 1
  simp[List.set_append]
 |x::xs,pre,[],post,h=>by simp at h
theorem zqo {α:Type} (enc:α→List D) (sz:Nat) (h:∀x,(enc x).length=sz) {l:List α} {i:Nat} (hi:i<l.length) (x:α):
  fillAt (i*sz) ((enc x).map C.d) ((l.flatMap enc).map C.d)=((l.set i x).flatMap enc).map C.d:=by
 have e1:l=l.take i++(l[i]::l.drop (i+1)):=by rw[List.getElem_cons_drop];simp
 have e2:l.set i x=l.take i++(x::l.drop (i+1)):=by rw[List.set_eq_take_append_cons_drop,if_pos hi]
 have hl:((l.take i).flatMap enc).length=i*sz:=by rw[zcM enc sz h,List.length_take];congr 1;omega
 rw[e2]
 conv=>lhs;rw[e1]
 simp only[List.flatMap_append,List.flatMap_cons,List.map_append]
 have:=zly ((enc x).map C.d) (((l.take i).flatMap enc).map C.d) ((enc l[i]).map C.d) (((l.drop (i+1)).flatMap enc).map C.d) (by simp[h])
 rw[List.length_map,hl]at this
 exact this
theorem zgY {α:Type} (enc:α→List D) (sz:Nat) (h:∀x,(enc x).length=sz) {l:List α} {i k:Nat} (hi:i<l.length) (hk:k<sz) (v:D) (x:α) (hx:enc x=(enc l[i]).set k v):
  ((l.flatMap enc).map C.d).set (i*sz+k) (C.d v)=((l.set i x).flatMap enc).map C.d:=by
 have e1:l=l.take i++(l[i]::l.drop (i+1)):=by rw[List.getElem_cons_drop];simp
 have e2:l.set i x=l.take i++(x::l.drop (i+1)):=by rw[List.set_eq_take_append_cons_drop,if_pos hi]
 have hl:((l.take i).flatMap enc).length=i*sz:=by rw[zcM enc sz h,List.length_take];congr 1;omega
 rw[e2]
 conv=>lhs;rw[e1]
 rw[←List.map_set]
 simp only[List.flatMap_append,List.flatMap_cons]
 rw[List.set_append,if_neg (by omega),List.set_append,if_pos (by rw[h];omega),show i*sz+k - ((l.take i).flatMap enc).length=k by omega,hx]
theorem zyZ {α:Type} {l:List α} {k:Nat} (hk:k≤l.length) (x:α):(l.take k++x::l.drop k).length=l.length+1:=by
 rw[List.length_append,List.length_take,List.length_cons,List.length_drop];omega
theorem ztT {α:Type} (enc:α→List D) (sz:Nat) (h:∀x,(enc x).length=sz) {l:List α} {k:Nat} (hk:k<l.length):
  (l.eraseIdx k).flatMap enc=(l.flatMap enc).take (k*sz)++(l.flatMap enc).drop ((k+1)*sz):=by
 rw[zsc enc sz h (by omega),zsd enc sz h hk,List.eraseIdx_eq_take_drop_succ,List.flatMap_append]
theorem zi7 {α:Type} (p:α→Bool):∀(l:List α) (i:Nat),(∀x∈l,p x=false)∧zev p l i= -1∨∃k,∃h:k<l.length,zev p l i=((i+k:Nat):Int)∧p l[k]=true∧∀x∈l.take k,p x=false
 |[],i=> .inl ⟨fun x hx=>(List.not_mem_nil hx).elim,rfl⟩
 |x::l,i=>by
  rw[zev]
  by_cases hx:p x=true
  ·rw[if_pos hx]
   exact .inr ⟨0,by simp,rfl,by simpa using hx,fun y hy=>by simp at hy⟩
  ·rw[if_neg hx]
   have hx':p x=false:=by simpa using hx
   rcases zi7 p l (i+1)with⟨h1,h2⟩|⟨k,hk,h1,h2,h3⟩
   ·exact .inl ⟨fun y hy=>(List.mem_cons.1 hy).elim (fun e=>e▸hx') (fun e=>h1 y e),by simpa using h2⟩
   ·refine .inr ⟨k+1,by simpa using hk, ?_,by simpa using h2,fun y hy=> ?_⟩
    ·have:((i:Int)+1)=((i+1:Nat):Int):=rfl
     rw[this,h1];congr 1;omega
    ·rw[List.take_succ_cons]at hy
     exact(List.mem_cons.1 hy).elim (fun e=>e▸hx') (fun e=>h3 y e)
def zEc (a b:Int):Int:=if a<b then -1 else if a>b then 1 else 0
def isClient (n:Int):Bool:=decide (n≥0)&&decide (n<8)
def hasI (l:List Int) (v:Int):Bool:=l.any fun x=>v==x
theorem zrQ {a b c a' b' c':RO}:zaL [.one a, .one b, .one c] [.one a', .one b', .one c']=(zax a a'∧zax b b'∧zax c c'∧True):=rfl
def rowI (l:List Int):RF:= .one (.own 1 l.length (zaQ l) false)
def zj3 (l:List Int) (c:Int):List Int×Int×Int:=
 if(!isClient c)=true then([],0,1)else if hasI l c=true then([],0,7)else if decide ((l.length:Int)≥3)=true then([],0,5)else(l++[c],l.length,0)
def zhM (l:List Int) (c:Int):List Int×Bool:=if zev (fun x=>c==x) l 0<0 then(l,false)else(l.eraseIdx (zev (fun x=>c==x) l 0).toNat,true)
def zbd (l gone:List Int):List Int:=l.filter fun c=> !hasI gone c
section
variable {α:Type} {p:α→Bool}
def zqm (p:α→Bool) (l:List α):Nat:=(l.takeWhile p).length
def zzu (p:α→Bool) (l:List α):Prop:=l.Pairwise fun x y=>p y=true→p x=true
theorem ztM {l:List α}:zqm p l≤l.length:=(List.takeWhile_prefix _).length_le
theorem zdl {x:α} {l:List α}:zqm p (x::l)=if p x=true then zqm p l+1 else 0:=by
 unfold zqm
 rw[List.takeWhile_cons]
 split<;>simp[*]
theorem zo2:∀{l:List α} {j:Nat} (hj:j<l.length),j<zqm p l→p l[j]=true
 |x::l,0,_,h=>by
  rw[zdl]at h
  split at h
  ·assumption
  ·omega
 |x::l,j+1,hj,h=>by
  rw[zdl]at h
  split at h
  ·exact zo2 (l:=l) (by simpa using hj) (by omega)
  ·omega
theorem zo3:∀{l:List α} {j:Nat} (hj:j<l.length),zzu p l→zqm p l≤j→p l[j]=false
 |x::l,0,_,hm,h=>by
  rw[zdl]at h
  split at h
  ·omega
  ·rename_i hx;simpa using hx
 |x::l,j+1,hj,hm,h=>by
  have hm':=List.pairwise_cons.1 hm
  have hj':j<l.length:=by simpa using hj
  rw[zdl]at h
  split at h
  ·exact zo3 (l:=l) hj' hm'.2 (by omega)
  ·rename_i hx
   have:=hm'.1 l[j] (List.getElem_mem hj')
   simp only[List.getElem_cons_succ]
   cases hc:p l[j]
   ·rfl
   ·exact absurd (this hc) hx
theorem zhL {q:α→Bool}:∀{l:List α},zzu p l→(∀x,q x=true→p x=false)→(l.Pairwise fun x y=>q y=true→p x=true)→l.find? q=(l[zqm p l]?).filter q
 |[],_,_,_=>rfl
 |x::l,hm,hq,hs=>by
  have hm':=List.pairwise_cons.1 hm
  have hs':=List.pairwise_cons.1 hs
  rw[List.find?_cons,zdl]
  cases hx:p x
  ·rw[if_neg (by simp)]
   simp only[List.getElem?_cons_zero]
   cases hqx:q x
   ·simp only[Option.filter,hqx,Bool.false_eq_true,if_false]
    rw[List.find?_eq_none]
    intro y hy hqy
    have:=hs'.1 y hy hqy
    rw[hx]at this;cases this
   ·simp[Option.filter,hqx]
  ·rw[if_pos rfl]
   have hqx:q x=false:=by
    cases hc:q x
    ·rfl
    ·have:=hq x hc;rw[hx]at this;cases this
   rw[hqx]
   simp only[List.getElem?_cons_succ]
   exact zhL hm'.2 hq hs'.2
end
def SS (l:List Sess):Prop:=l.Pairwise fun x y=>x.client<y.client
def ziC (l:List Sess) (c:Int):Nat:=zqm (fun x=>decide (x.client<c)) l
def zaS (l:List Sess) (c:Int):Option Sess:=l.find? fun x=>x.client==c
theorem ztN {l:List Sess} (h:SS l) (c:Int):zzu (fun x:Sess=>decide (x.client<c)) l:=h.imp fun hxy h=>by simp at h⊢;omega
theorem ztO {l:List Sess} (h:SS l) (c:Int):zaS l c=(l[ziC l c]?).filter fun x=>x.client==c:=
 zhL (q:=fun x:Sess=>x.client==c) (ztN h c) (fun x hx=>by simp at hx⊢;omega) (h.imp fun hxy h=>by simp at h⊢;omega)
def SM (l:List Memo):Prop:=l.Pairwise fun x y=>x.client<y.client
def zoj (l:List Memo) (c:Int):Nat:=zqm (fun x=>decide (x.client<c)) l
def zco (l:List Memo) (c:Int):Option Memo:=l.find? fun x=>x.client==c
theorem ztQ {l:List Memo} (h:SM l) (c:Int):zzu (fun x:Memo=>decide (x.client<c)) l:=h.imp fun hxy h=>by simp at h⊢;omega
theorem ztR {l:List Memo} (h:SM l) (c:Int):zco l c=(l[zoj l c]?).filter fun x=>x.client==c:=
 zhL (q:=fun x:Memo=>x.client==c) (ztQ h c) (fun x hx=>by simp at hx⊢;omega) (h.imp fun hxy h=>by simp at h⊢;omega)
abbrev zeK (a b:ByteArray):Bool:=Go.Op.bytesLess a.toList b.toList
theorem zqn:∀{a:List UInt8},Go.Op.bytesLess a a=false
 |[]=>rfl
 |a::x=>by rw[Go.Op.bytesLess,zqn (a:=x)];simp
theorem zmn:∀{a b c:List UInt8},Go.Op.bytesLess a b=true→Go.Op.bytesLess b c=true→Go.Op.bytesLess a c=true
 |[],[],_,h,_=>by cases h
 |[],_::_,[],_,h=>by cases h
 |[],_::_,_::_,_,_=>rfl
 |_::_,[],_,h,_=>by cases h
 |_::_,_::_,[],_,h=>by cases h
 |a::x,b::y,c::z,h1,h2=>by
  rw[Go.Op.bytesLess]at*
  simp only[Bool.or_eq_true,Bool.and_eq_true,decide_eq_true_eq,beq_iff_eq]at*
  rcases h1 with h1|⟨rfl,h1⟩<;>rcases h2 with h2|⟨rfl,h2⟩
  ·exact .inl (UInt8.lt_trans h1 h2)
  ·exact .inl h1
  ·exact .inl h2
  ·exact .inr ⟨rfl,zmn h1 h2⟩
theorem zxB:∀{a b:List UInt8},Go.Op.bytesLess a b=false→Go.Op.bytesLess b a=false→a=b
 |[],[],_,_=>rfl
 |[],_::_,h,_=>by cases h
 |_::_,[],_,h=>by cases h
 |a::x,b::y,h1,h2=>by
  rw[Go.Op.bytesLess]at*
  simp only[Bool.or_eq_false_iff,Bool.and_eq_false_iff,decide_eq_false_iff_not,beq_eq_false_iff_ne]at*
  have hab:a=b:=UInt8.le_antisymm (UInt8.not_lt.1 h2.1) (UInt8.not_lt.1 h1.1)
  subst hab
  rcases h1.2 with h|h1'
  ·exact absurd rfl h
  rcases h2.2 with h|h2'
  ·exact absurd rfl h
  rw[zxB h1' h2']
def SL (l:List Lk):Prop:=l.Pairwise fun x y=>zeK x.name y.name=true
def zbH (l:List Lk) (s:ByteArray):Nat:=zqm (fun x=>zeK x.name s) l
def isL (s:ByteArray) (x:Lk):Bool:=x.name.toList==s.toList
def zdU (l:List Lk) (s:ByteArray):Option Lk:=l.find? (isL s)
theorem zo4 {l:List Lk} (h:SL l) (s:ByteArray):zzu (fun x:Lk=>zeK x.name s) l:=h.imp fun hxy h=>zmn hxy h
theorem ztS {l:List Lk} (h:SL l) (s:ByteArray):zdU l s=(l[zbH l s]?).filter (isL s):=
 zhL (q:=isL s) (zo4 h s) (fun x hx=>by
  simp only[isL,beq_iff_eq]at hx
  simp only[zeK,hx,zqn]) (h.imp fun hxy h=>by
  simp only[isL,beq_iff_eq]at h
  simp only[zeK]at hxy⊢
  rw[←h];exact hxy)
theorem zgX {α:Type} {o:Option α} {p:α→Bool} {x:α} (h:o.filter p=some x):o=some x∧p x=true:=by
 cases o with
 |none=>simp at h
 |some y=>
  simp only[Option.filter]at h
  split at h
  ·rename_i hp;cases h;exact⟨rfl,hp⟩
  ·cases h
theorem znT {α:Type} {l:List α} {i:Nat} {x:α} (h:l[i]? =some x):∃hi:i<l.length,l[i]=x:=by
 obtain⟨hi,h⟩:=List.getElem?_eq_some_iff.1 h
 exact⟨hi,h⟩
theorem zmo {l:List Sess} (h:SS l) {c:Int} {x:Sess} (hx:zaS l c=some x):(∃hi:ziC l c<l.length,l[ziC l c]=x)∧x.client=c:=by
 rw[ztO h]at hx
 obtain⟨h1,h2⟩:=zgX hx
 exact⟨znT h1,by simpa using h2⟩
theorem zd4 {l:List Lk} (h:SL l) {s:ByteArray} {x:Lk} (hx:zdU l s=some x):(∃hi:zbH l s<l.length,l[zbH l s]=x)∧isL s x=true:=by
 rw[ztS h]at hx
 obtain⟨h1,h2⟩:=zgX hx
 exact⟨znT h1,h2⟩
theorem zwd {l:List Memo} (h:SM l) {c:Int} {x:Memo} (hx:zco l c=some x):(∃hi:zoj l c<l.length,l[zoj l c]=x)∧x.client=c:=by
 rw[ztR h]at hx
 obtain⟨h1,h2⟩:=zgX hx
 exact⟨znT h1,by simpa using h2⟩
def zcg {α:Type} (q:Nat→α→Bool):Nat→List α→Bool
 |_,[]=>true
 |i,x::r=>if q i x=true then zcg q (i+1) r else false
theorem zcI {α:Type} {q:Nat→α→Bool}:∀{l:List α} {i:Nat},zcg q i l=true↔∀j (hj:j<l.length),q (i+j) l[j]=true
 |[],i=>by simp[zcg]
 |x::l,i=>by
  rw[zcg]
  constructor
  ·intro h
   split at h
   ·rename_i hx
    intro j hj
    cases j with
    |zero=>exact hx
    |succ j=>
     have:=zcI.1 h j (by simpa using hj)
     simp only[List.getElem_cons_succ]
     rw[show i+(j+1)=i+1+j by omega];exact this
   ·cases h
  ·intro h
   have h0:=h 0 (by simp)
   simp only[List.getElem_cons_zero,Nat.add_zero]at h0
   rw[if_pos h0,zcI]
   intro j hj
   have:=h (j+1) (by simpa using hj)
   simp only[List.getElem_cons_succ]at this
   rw[show i+1+j=i+(j+1) by omega];exact this
theorem zdw {α:Type} {q:Nat→α→Bool} {l:List α} {i:Nat} (h:i<l.length):zcg q i (l.drop i)=if q i l[i]=true then zcg q (i+1) (l.drop (i+1))else false:=by
 rw[List.drop_eq_getElem_cons h,zcg]
theorem zlw {α:Type} {q:Nat→α→Bool} {l:List α} {i:Nat} (h:i=l.length):zcg q i (l.drop i)=true:=by
 rw[h,List.drop_length,zcg]
def zlx (s:Sess):Bool:=isClient s.client&& !(decide (s.num<1))&& !(decide (s.num>zbx))&& !(decide (s.renewed<0))&& !(decide (s.renewed>zbx))
def numbered (l:List Sess) (n:Int):Bool:=l.any fun x=>x.num==n
def zv9 (l:List Sess) (i:Nat):Int:=(l[i - 1]?.map Sess.client).getD 0
def zyS (l:List Sess) (i:Nat) (s:Sess):Bool:=zlx s&& !((decide (i>0)&&decide (zv9 l i≥s.client))||numbered (l.take i) s.num)
def zyT (l:List Sess):Bool:= !(decide ((l.length:Int)>5))&&zcg (zyS l) 0 l
def zd3 (l:List Sess) (c num now:Int):List Sess×Int:=
 if(!isClient c||decide (num<1)||decide (num>zbx)||decide (now<0)||decide (now>zbx)||(!(zaS l c).isSome&&numbered l num)||((zaS l c).isSome&&(((zaS l c).map Sess.num).getD 0 !=num)&&numbered l num))=true then([],1)else
 if(zaS l c).isSome=true then([],7)else if decide ((l.length:Int)≥5)=true then([],5)else(l.take (ziC l c)++⟨c,num,now⟩::l.drop (ziC l c),0)
def zcP (l:List Sess) (c now:Int):List Sess×Int:=
 if(decide (now<0)||decide (now>zbx))=true then([],1)else
 match zaS l c with
 |none=>([],6)
 |some x=>(l.set (ziC l c) ⟨x.client,x.num,max x.renewed now⟩,0)
def zwa (l:List Sess) (now lease:Int):List Int:=
 if(decide (now<0)||decide (now>zbx)||decide (lease<0)||decide (lease>zbx))=true then []else(l.filter fun s=>decide (now - s.renewed≥lease)).map Sess.client
def zyU (l:List Int) (i:Nat) (c:Int):Bool:= !(!isClient c||hasI (l.take i) c)
def lineB (l:List Int):Bool:=zcg (zyU l) 0 l&&decide ((l.length:Int)≤3)
def zwb (l:List Lk) (i:Nat):ByteArray:=(l[i - 1]?.map Lk.name).getD .empty
def ztK (k:Lk):Bool:=nameP k.name&& !(decide (k.holder<0))&& !(decide (k.holder≥8))&& !(decide (k.token<1))&& !(decide (k.token>zbx))
def zyV (l:List Lk) (i:Nat) (k:Lk):Bool:=ztK k&& !(!lineB k.line||hasI k.line k.holder||(decide (i>0)&& !(zeK (zwb l i) k.name)))&& !((l.take i).any fun o=>o.token==k.token)
def zyW (l:List Lk):Bool:=zcg (zyV l) 0 l&&decide ((l.length:Int)≤4)
def znS (l:List Int) (c:Int):Int:=if zev (fun x=>c==x) l 0≥0 then zev (fun x=>c==x) l 0 else 0
def za5 (l:List Lk) (name:ByteArray) (c token:Int) (wait:Bool):List Lk×Int×Int:=
 match zdU l name with
 |none=>if decide ((l.length:Int)≥4)=true then([],0,5)else(l.take (zbH l name)++⟨name,c,token+1,[]⟩::l.drop (zbH l name),0,0)
 |some k=>if(k.holder==c)=true then([],0,7)else if(!wait)=true then([],0,8)else
  if hasI k.line c=true then(l,znS k.line c,10)else
  if(zj3 k.line c).2.2≠0 then([],0,(zj3 k.line c).2.2)else(l.set (zbH l name) ⟨k.name,k.holder,k.token,(zj3 k.line c).1⟩,(zj3 k.line c).2.1,10)
def zgW (l:List Lk) (i:Nat) (k:Lk) (token:Int):List Lk×Int:=
 match k.line with
 |[]=>(l.eraseIdx i,0)
 |c::rest=>(l.set i ⟨k.name,c,token+1,rest⟩,1)
def zb4 (l:List Lk) (name:ByteArray) (c token:Int):List Lk×Int×Int:=
 match zdU l name with
 |none=>([],0,6)
 |some k=>if(k.holder==c)=true then((zgW l (zbH l name) k token).1,(zgW l (zbH l name) k token).2,0)else
  if hasI k.line c=true then(l.set (zbH l name) ⟨k.name,k.holder,k.token,(zhM k.line c).1⟩,0,0)else([],0,6)
def zcm (gone:List Int) (token:Int):List Lk→Int→List Lk×Int
 |[],g=>([],g)
 |k::r,g=>if hasI gone k.holder=true then
   match k.line with
   |[]=>zcm gone token r g
   |c::rest=>(⟨k.name,c,token+g+1,rest⟩::(zcm gone token r (g+1)).1,(zcm gone token r (g+1)).2)
  else(k::(zcm gone token r g).1,(zcm gone token r g).2)
def zan (gone:List Int) (k:Lk):Lk:=⟨k.name,k.holder,k.token,zbd k.line gone⟩
def zeJ (l:List Lk) (gone:List Int) (token:Int):List Lk×Int:=zcm gone token (l.map (zan gone)) 0
def zch (l:List Lk) (c:Int):List Grant:=(l.filter fun k=>k.holder==c).map fun k=>⟨k.name,k.token⟩
def zrt (l:List Grant) (i:Nat):ByteArray:=(l[i - 1]?.map Grant.name).getD .empty
def zcC (l:List Grant) (i:Nat) (g:Grant):Bool:= !(!nameP g.name||decide (g.token<1)||decide (g.token>zbx)||(decide (i>0)&& !(zeK (zrt l i) g.name)))
def zbN (r:Reply):Bool:=
 !(decide (r.code<0)||decide (r.code>12)||decide (r.session<0)||decide (r.session>zbx)||decide (r.ahead<0)||decide (r.ahead>3))&&
 !(decide ((r.held.length:Int)>4)||((r.session==0)&&decide ((r.held.length:Int)>0)))&&zcg (zcC r.held) 0 r.held
def answerB (m:Memo):Bool:=decide (m.client≥0)&&decide (m.client<8)&&decide (m.seq≥1)&&decide (m.seq≤zbx)&&zbN m.reply
def zwc (l:List Memo) (i:Nat):Int:=(l[i - 1]?.map Memo.client).getD 0
def zyX (l:List Memo) (i:Nat) (m:Memo):Bool:= !(!answerB m||(decide (i>0)&&decide (zwc l i≥m.client)))
def zyY (l:List Memo):Bool:=zcg (zyX l) 0 l
def zdk (l:List Memo) (c seq:Int):Int:=
 match zco l c with
 |none=>1
 |some m=>if m.seq<seq then 1 else if m.seq=seq then 0 else -1
def zmm (l:List Memo) (a:Memo):List Memo:=
 if(!answerB a||(zdk l a.client a.seq !=1))=true then l else
 if(zco l a.client).isSome=true then l.set (zoj l a.client) a else l.take (zoj l a.client)++a::l.drop (zoj l a.client)
def within (n:Int):Bool:=decide (n≥0)&&decide (n≤zbx)
def ztL (s:St):Bool:=s.locks.all fun k=>(k.holder::k.line).all fun c=>(zaS s.sess c).isSome
def zeG (s:St):Bool:=within s.time&&within s.num&&within s.token&&zyT s.sess&&zyW s.locks&&zyY s.memos&&(s.sess.all fun x=>decide (x.num≤s.num))&&(s.locks.all fun k=>decide (k.token≤s.token))&&ztL s
def zbL (s:St) (gone:List Int):St:=⟨s.time,s.num,s.token+(zeJ s.locks gone s.token).2,s.sess.filter fun x=> !hasI gone x.client,(zeJ s.locks gone s.token).1,s.memos⟩
def ze6 (s:St) (time:Int):Int:=if(decide (time>s.time)&&decide (time≤zbx))=true then time else s.time
def zcJ (s:St) (time lease:Int):St:=zbL {s with time:=ze6 s time} (zwa s.sess (ze6 s time) (max lease 1))
def rpl (code session ahead:Int) (held:List Grant):Reply:=⟨code,session,ahead,held⟩
def zc4 (s:St) (c:Int):St×Reply:=
 match zaS s.sess c with
 |some x=>(s,⟨7,x.num,0,zch s.locks c⟩)
 |none=>if(zd3 s.sess c (s.num+1) s.time).2≠0 then(s,⟨(zd3 s.sess c (s.num+1) s.time).2,0,0,[]⟩)else
  ({s with sess:=(zd3 s.sess c (s.num+1) s.time).1,num:=s.num+1},⟨0,s.num+1,0,zch s.locks c⟩)
def zbB (s:St) (r:Req):St×Reply:=
 if(r.kind==1)=true then zc4 s r.client else
 match zaS s.sess r.client with
 |none=>(s,⟨9,0,0,[]⟩)
 |some x=>if(x.num !=r.session)=true then(s,⟨9,0,0,[]⟩)else
  let s1:St:={s with sess:=(zcP s.sess r.client s.time).1}
  if(r.kind==3||r.kind==4)=true then
   let t:=za5 s1.locks r.name r.client s1.token (r.kind==3)
   let s2:St:=if t.2.2=0 then {s1 with locks:=t.1,token:=s1.token+1}else if t.2.2=10 then {s1 with locks:=t.1}else s1
   (s2,⟨t.2.2,x.num,if t.2.2=10 then t.2.1 else 0,zch s2.locks r.client⟩)
  else if(r.kind==5)=true then
   let t:=zb4 s1.locks r.name r.client s1.token
   let s2:St:=if t.2.2=0 then {s1 with locks:=t.1,token:=s1.token+t.2.1}else s1
   (s2,⟨t.2.2,x.num,0,zch s2.locks r.client⟩)
  else if(r.kind==6)=true then(zbL s1 [r.client],⟨0,0,0,[]⟩)
  else(s1,⟨0,x.num,0,zch s1.locks r.client⟩)
def ze7 (s:St) (r:Req):St×Reply×Bool:=
 if(!Req.may r)=true then(s,⟨1,0,0,[]⟩,false)else
 if zdk s.memos r.client r.seq= -1 then(s,⟨0,0,0,[]⟩,false)else
 if zdk s.memos r.client r.seq=0 then(s,((zco s.memos r.client).map Memo.reply).getD ⟨0,0,0,[]⟩,false)else
 ({(zbB s r).1 with memos:=zmm (zbB s r).1.memos ⟨r.client,r.seq,(zbB s r).2⟩},(zbB s r).2,true)
def zD5 (a b:St):List Int:=(a.sess.filter fun x=> !((zaS b.sess x.client).any fun y=>y.num==x.num)).map Sess.client
theorem zy0 {a b a' b':RO}:zaL [.one a, .one b] [.one a', .one b']=(zax a a'∧zax b b'∧True):=rfl
def zhO:Sess:=⟨0,0,0⟩
def zEd (a b:ByteArray):Int:=Lib.compareBytes a.data.toList b.data.toList
def curL (l:List Lk) (gone:List Int) (i:Nat):List Lk:=(l.take i).map (zan gone)++l.drop i
theorem zwe {l:List Lk} {gone:List Int} {i:Nat} (hi:i≤l.length):(curL l gone i).length=l.length:=by
 unfold curL
 rw[List.length_append,List.length_map,List.length_take,List.length_drop];omega
theorem zy1 {l:List Lk} {gone:List Int} {i:Nat} (hi:i<l.length):∃h:i<(curL l gone i).length,(curL l gone i)[i]=l[i]:=by
 have hl:((l.take i).map (zan gone)).length=i:=by rw[List.length_map,List.length_take];omega
 have h:(curL l gone i)[i]? =some l[i]:=by
  unfold curL
  rw[List.getElem?_append_right (by omega),hl,Nat.sub_self,List.getElem?_drop,Nat.add_zero,List.getElem?_eq_getElem hi]
 exact znT h
theorem ztV {l:List Lk} {gone:List Int} {i:Nat} (hi:i<l.length):(curL l gone i).set i (zan gone l[i])=curL l gone (i+1):=by
 have hl:((l.take i).map (zan gone)).length=i:=by rw[List.length_map,List.length_take];omega
 unfold curL
 rw[List.set_append_right _ _ (by omega),hl,Nat.sub_self,List.drop_eq_getElem_cons hi,List.set_cons_zero,List.take_add_one,List.getElem?_eq_getElem hi]
 simp only[Option.toList,List.map_append,List.map_cons,List.map_nil,List.append_assoc,List.cons_append,List.nil_append]
theorem zwf (l:List Lk) (gone:List Int):curL l gone l.length=l.map (zan gone):=by
 unfold curL
 rw[List.take_length,List.drop_length,List.append_nil]
theorem zru {gone:List Int} {t:Int} {L:List Lk} {i:Nat} {g:Int} (hi:i<L.length):zcm gone t (L.drop i) g=if hasI gone L[i].holder=true then
   match L[i].line with
   |[]=>zcm gone t (L.drop (i+1)) g
   |c::rest=>(⟨L[i].name,c,t+g+1,rest⟩::(zcm gone t (L.drop (i+1)) (g+1)).1,(zcm gone t (L.drop (i+1)) (g+1)).2)
  else(L[i]::(zcm gone t (L.drop (i+1)) g).1,(zcm gone t (L.drop (i+1)) g).2):=by
 rw[List.drop_eq_getElem_cons hi,zcm]
 all_goals (cases L[i].line<;>rfl)
theorem zo6 {a b:Int}:(a==b)=(b==a):=by rw[Bool.eq_iff_iff,beq_iff_eq,beq_iff_eq];exact eq_comm
theorem zAq (l:List Int) (hl:l.length<2^62) (x:Int):CallOK Tryz.prog 171 [.f (al l.length (zaQ l)), .f (ai x)] (fun r o=>r=[rb (hasI l x)]∧o=[]):=by
 refine zh Tryz.func171 Tryz.results171 Tryz.ntmps171 Tryz.call171 ?_
 simp only[Tryz.f171,Option.getD]
 refine zL0 trivial ?_
 refine zai (τ:=Nat) (fun i=>⟨(al l.length (zaQ l)::ai x::dq3 (ai i::zrP [])),[]⟩)
  (fun i=>i≤l.length) (fun i=>hasI (l.drop i) x) (fun i=>l.length - i) 0
  (Gh.canon [] [] [] zK rfl rfl) (Nat.zero_le _) ?_
 intro i hi0 hF K hK
 rw[List.drop_zero]at hF
 refine zw ?_
 refine zaa (fun hlt=> ?_) (fun hge=> ?_)
 ·have hi:i<l.length:=by simpa using hlt
  have hat:=zdA hi
  have hw:=zal hi hl
  have hq:hasI (l.drop i) x=(l[i]==x||hasI (l.drop (i+1)) x):=by rw[List.drop_eq_getElem_cons hi];unfold hasI;rw[List.any_cons,zo6]
  rw[hq]at hF
  repeat'(first|exact zC|refine zq (I hat (I @zaO zca)) ?_|(apply zaa<;>intro hb)|(apply I;exact zI)|(apply I<;>intro hg))
  ·rw[hb]at hF
   rw[←hF];rfl
  ·rw[hb]at hq
   exact hK _ (i+1) (Gh.canon [] [] [] (zk hw) rfl rfl) hi (by rw[hq];rfl) (by omega)
 ·have hi:i=l.length:=by
   have:¬(i:Int)<l.length:=by simpa using hge
   omega
  rw[hi,List.drop_length]at hF
  rw[←hF]
  refine zL0 trivial ?_
  rfl
abbrev zAr (x:Sess):RF:= .agg [.d (iD x.client), .d (iD x.num), .d (iD x.renewed)]
theorem zfk (l:List Sess) (hl:l.length<2^62) (c:Int):CallOK Tryz.prog 137 [.f (al l.length (zbC l)), .f (ai c)]
  (fun r o=>r=[zAr ((zaS l c).getD zhO),rb (zaS l c).isSome]∧o=[]):=by
 refine zh Tryz.func137 Tryz.results137 Tryz.ntmps137 Tryz.call137 ?_
 simp only[Tryz.f137,Option.getD]
 refine zL0 trivial ?_
 refine zai (τ:=Nat) (fun i=>⟨(al l.length (zbC l)::ai c::dq2 (ptq 4::dd::ai i::zu6 [])),[(4,⟨2,[obq 1 [di 0,di 0,di 0],none,none,none]⟩)]⟩)
  (fun i=>i≤l.length) (fun i=>zaS (l.drop i) c) (fun i=>l.length - i) 0
  (Gh.canon [4] [] [] zK rfl rfl) (Nat.zero_le _) ?_
 intro i hi0 hF K hK
 rw[List.drop_zero]at hF
 refine zw ?_
 refine zaa (fun hlt=> ?_) (fun hge=> ?_)
 ·have hi:i<l.length:=by simpa using hlt
  have hat:=zee hi
  have hw:=zal hi hl
  have hq:zaS (l.drop i) c=if(l[i].client==c)=true then some l[i]else zaS (l.drop (i+1)) c:=by
   unfold zaS
   rw[List.drop_eq_getElem_cons hi,List.find?_cons]
   cases l[i].client==c<;>rfl
  rw[hq]at hF
  repeat'(first|exact zC|refine zq (I hat (I @zaB zca)) ?_|(apply zaa<;>intro hb)|(apply I;exact zI)|(apply I<;>intro hg))
  ·rw[if_pos hb]at hF
   rw[←hF];rfl
  ·rw[if_neg (by rw[hb];simp)]at hq
   exact hK _ (i+1) (Gh.canon [4] [] [] (zk hw) rfl rfl) hi hq.symm (by omega)
 ·have hi:i=l.length:=by
   have:¬(i:Int)<l.length:=by simpa using hge
   omega
  rw[hi,List.drop_length]at hF
  rw[←hF]
  refine zL0 trivial ?_
  rfl
theorem zj4 (l:List Lk) (hl:l.length<2^62) (s:ByteArray):CallOK Tryz.prog 217 [.f (al l.length (zam l)), .f (ast s)] (fun r o=>r=[ri (zev (isL s) l 0)]∧o=[]):=by
 refine zh Tryz.func217 Tryz.results217 Tryz.ntmps217 Tryz.call217 ?_
 simp only[Tryz.f217,Option.getD]
 refine zL0 trivial ?_
 refine zai (τ:=Nat) (fun i=>⟨(al l.length (zam l)::ast s::dq3 (ai i::zxT [])),[]⟩)
  (fun i=>i≤l.length) (fun i=>zev (isL s) (l.drop i) i) (fun i=>l.length - i) 0
  (Gh.canon [] [] [] zK rfl rfl) (Nat.zero_le _) ?_
 intro i hi0 hF K hK
 rw[List.drop_zero]at hF
 refine zw ?_
 refine zaa (fun hlt=> ?_) (fun hge=> ?_)
 ·have hi:i<l.length:=by simpa using hlt
  have hat:=zbT hi
  have hw:=zal hi hl
  have hq:zev (isL s) (l.drop i) i=if(l[i].name.toList==s.toList)=true then(i:Int)else zev (isL s) (l.drop (i+1)) ((i+1:Nat):Int):=by
   rw[List.drop_eq_getElem_cons hi,zev];rfl
  rw[hq]at hF
  repeat'(first|exact zC|refine zq (I hat (I @zah zca)) ?_|(apply zaa<;>intro hb)|(apply I;exact zI)|(apply I<;>intro hg))
  ·rw[if_pos hb]at hF
   have hF:(i:Int)=zev (isL s) l 0:=hF
   rw[←hF]
  ·rw[if_neg (by rw[hb];simp)]at hq
   exact hK _ (i+1) (Gh.canon [] [] [] (zk hw) rfl rfl) hi hq.symm (by omega)
 ·have hi:i=l.length:=by
   have:¬(i:Int)<l.length:=by simpa using hge
   omega
  rw[hi,List.drop_length]at hF
  have hF:(-1:Int)=zev (isL s) l 0:=hF
  rw[←hF]
  exact zW0 trivial
theorem zj6 (v a:Int):CallOK Tryz.prog 133 [.f (ai v), .f (ai a)] (fun r o=>r=[rb (decide (v≥a)&&decide (v≤2305843009213693952))]∧o=[]):=by
 refine zh Tryz.func133 Tryz.results133 Tryz.ntmps133 Tryz.call133 ?_
 simp only[Tryz.f133,Option.getD]
 exact zW0 trivial
theorem zrA (c:Int):CallOK Tryz.prog 169 [.f (ai c)] (fun r o=>r=[rb (isClient c)]∧o=[]):=by
 refine zh Tryz.func169 Tryz.results169 Tryz.ntmps169 Tryz.call169 ?_
 simp only[Tryz.f169,Option.getD]
 refine zL0 trivial ?_
 rfl
theorem zj7 (l:List Int) (hl:l.length<2^62) (c:Int):CallOK Tryz.prog 218 [.f (al l.length (zaQ l)), .f (ai c)] (fun r o=>r=[ri (znS l c),rb (hasI l c)]∧o=[]):=by
 refine zh Tryz.func218 Tryz.results218 Tryz.ntmps218 Tryz.call218 ?_
 simp only[Tryz.f218,Option.getD]
 have hh:hasI l c=decide (zev (fun x=>c==x) l 0≥0):=(zmp _ l).symm
 rw[hh]
 unfold znS
 refine zL0 trivial ?_
 refine zai (τ:=Nat) (fun i=>⟨(al l.length (zaQ l)::ai c::dq4 (ai i::zuO [])),[]⟩)
  (fun i=>i≤l.length) (fun i=>zev (fun x=>c==x) (l.drop i) i) (fun i=>l.length - i) 0
  (Gh.canon [] [] [] zK rfl rfl) (Nat.zero_le _) ?_
 intro i hi0 hF K hK
 rw[List.drop_zero]at hF
 refine zw ?_
 refine zaa (fun hlt=> ?_) (fun hge=> ?_)
 ·have hi:i<l.length:=by simpa using hlt
  have hat:=zdA hi
  have hw:=zal hi hl
  have hq:zev (fun x=>c==x) (l.drop i) i=if(l[i]==c)=true then(i:Int)else zev (fun x=>c==x) (l.drop (i+1)) ((i+1:Nat):Int):=by
   rw[List.drop_eq_getElem_cons hi,zev,zo6];rfl
  rw[hq]at hF
  repeat'(first|exact zC|refine zq (I hat (I @zaO zca)) ?_|(apply zaa<;>intro hb)|(apply I;exact zI)|(apply I<;>intro hg))
  ·rw[if_pos hb]at hF
   have hF:(i:Int)=zev (fun x=>c==x) l 0:=hF
   rw[←hF,if_pos (by omega)]
   simp
  ·rw[if_neg (by rw[hb];simp)]at hq
   exact hK _ (i+1) (Gh.canon [] [] [] (zk hw) rfl rfl) hi hq.symm (by omega)
 ·have hi:i=l.length:=by
   have:¬(i:Int)<l.length:=by simpa using hge
   omega
  rw[hi,List.drop_length]at hF
  have hF:(-1:Int)=zev (fun x=>c==x) l 0:=hF
  rw[←hF]
  refine zL0 trivial ?_
  rfl
theorem zj8 (l gone:List Int) (hl:l.length<2^30) (hg:gone.length<2^30):CallOK Tryz.prog 215 [.f (al l.length (zaQ l)), .f (al gone.length (zaQ gone))] (fun r o=>r=[rowI (zbd l gone)]∧o=[]):=by
 refine CallOK.nil ?_
 refine zh Tryz.func215 Tryz.results215 Tryz.ntmps215 Tryz.call215 ?_
 simp only[Tryz.f215,Option.getD]
 refine zL0 trivial ?_
 refine zai (τ:=Nat×List Int) (fun t=>⟨(al l.length (zaQ l)::al gone.length (zaQ gone)::dq3 (.one (.own ⟨5,1,1⟩ 0 t.2.length)::ai t.1::zov [])),[(5,⟨2,[none,roq 1 1 (zaQ t.2)]⟩),(25,⟨2,[]⟩),(26,⟨2,[]⟩)]⟩)
  (fun t=>t.1≤l.length∧t.2.length≤t.1) (fun t=>t.2++zbd (l.drop t.1) gone) (fun t=>l.length - t.1) (0,[])
  ((Gh.nil (i:=5) (s:=5) (sz:=1) rfl).trans (Gh.canon [5] [25,26] [] zK rfl rfl)) ⟨Nat.zero_le _,Nat.zero_le _⟩ ?_
 intro⟨i,acc⟩ ⟨hi0,hac⟩ hF K hK
 simp only[List.drop_zero,List.nil_append]at hi0 hac hF hK⊢
 refine zw ?_
 refine zaa (fun hlt=> ?_) (fun hge=> ?_)
 ·have hi:i<l.length:=by simpa using hlt
  have hat:=zdA hi
  have hw:=zal hi (by omega)
  have hin:=zAq gone (by omega) l[i]
  have hFs:zbd (l.drop i) gone=if(!hasI gone l[i])=true then l[i]::zbd (l.drop (i+1)) gone else zbd (l.drop (i+1)) gone:=by
   unfold zbd
   rw[List.drop_eq_getElem_cons hi,List.filter_cons]
  cases hb:(!hasI gone l[i])
  ·rw[hb,if_neg (by simp)]at hFs
   refine zL (I hat (I hb (I @zaO zca))) (hin) ?_
   exact hK _ (i+1,acc) (Gh.canon [5] [] [] (zk hw) rfl rfl) ⟨hi,by simp only;omega⟩ (by simp only;rw[hFs]) (by simp only;omega)
  ·rw[hb,if_pos rfl]at hFs
   refine zL (I hat (I hb (I @zaO zca))) (hin) ?_
   exact hK _ (i+1,acc++[l[i]]) (Gh.canon [5] [] [] (zk (I hw (I @List.length_append.{0} @List.length_singleton.{0}))) rfl (by simp only[List.length_append,List.length_singleton];rw[zh2];rfl)) ⟨hi,by simp only[List.length_append,List.length_singleton];omega⟩ (by simp only[List.append_assoc,List.singleton_append];rw[hFs]) (by simp only;omega)
 ·have hi:i=l.length:=by
   have:¬(i:Int)<l.length:=by simpa using hge
   omega
  rw[hi,List.drop_length]at hF
  have hF:acc++[]=zbd l gone:=hF
  rw[←hF,List.append_nil]
  refine zL0 trivial ?_
  simp[zAO,zax,rowI]
abbrev zy4 (l:List Sess) (now lease:Int):List Int:=(l.filter fun s=>decide (now - s.renewed≥lease)).map Sess.client
theorem zy5 (l:List Sess) (hl:l.length<2^30) (now lease:Int) (hr:∀s∈l,0≤s.renewed∧s.renewed≤zbx) (hn:0≤now∧now≤zbx):CallOK Tryz.prog 187 [.f (al l.length (zbC l)), .f (ai now), .f (ai lease)] (fun r o=>r=[rowI (zwa l now lease)]∧o=[]):=by
 refine CallOK.nil ?_
 refine zh Tryz.func187 Tryz.results187 Tryz.ntmps187 Tryz.call187 ?_
 simp only[Tryz.f187,Option.getD]
 have hg1:=zj6 now 0
 have hg2:=zj6 lease 0
 rw[show(decide (now≥0)&&decide (now≤2305843009213693952))=true by have:zbx=2305843009213693952:=rfl;simp;omega]at hg1
 cases hle:(decide (lease≥0)&&decide (lease≤2305843009213693952))
 ·rw[hle]at hg2
  have hd:zwa l now lease=[]:=by
   unfold zwa
   rw[if_pos]
   have:zbx=2305843009213693952:=rfl
   simp at hle⊢
   omega
  rw[hd]
  refine zL trivial (I (hg1) (hg2)) ?_
  simp[zAO,zax,rowI]
 rw[hle]at hg2
 have hd:zwa l now lease=zy4 l now lease:=by
  unfold zwa
  rw[if_neg]
  have:zbx=2305843009213693952:=rfl
  simp at hle⊢
  omega
 rw[hd]
 refine zL trivial (I (hg1) (hg2)) ?_
 refine zai (τ:=Nat×List Int) (fun t=>⟨(al l.length (zbC l)::ai now::ai lease::dq4 (.one (.own ⟨7,1,1⟩ 0 t.2.length)::ai t.1::zwY [])),[(7,⟨2,[none,roq 1 1 (zaQ t.2)]⟩),(38,⟨2,[]⟩),(39,⟨2,[]⟩)]⟩)
  (fun t=>t.1≤l.length∧t.2.length≤t.1) (fun t=>t.2++zy4 (l.drop t.1) now lease) (fun t=>l.length - t.1) (0,[])
  ((Gh.nil (i:=7) (s:=7) (sz:=1) rfl).trans (Gh.canon [7] [38,39] [] zK rfl rfl)) ⟨Nat.zero_le _,Nat.zero_le _⟩ ?_
 intro⟨i,acc⟩ ⟨hi0,hac⟩ hF K hK
 simp only[List.drop_zero,List.nil_append]at hi0 hac hF hK⊢
 refine zw ?_
 refine zaa (fun hlt=> ?_) (fun hge=> ?_)
 ·have hi:i<l.length:=by simpa using hlt
  have hat:=zee hi
  have hw:=zal hi (by omega)
  have hrb:=hr _ (List.getElem_mem hi)
  have hH:zbx=2305843009213693952:=rfl
  have hw2:IntKind.i64.wrap (now - l[i].renewed)=now - l[i].renewed:=wrap64 (by omega) (by omega)
  have hFs:zy4 (l.drop i) now lease=if(decide (now - l[i].renewed≥lease))=true then l[i].client::zy4 (l.drop (i+1)) now lease else zy4 (l.drop (i+1)) now lease:=by
   unfold zy4
   rw[List.drop_eq_getElem_cons hi,List.filter_cons]
   split<;>simp
  cases hb:(decide (now - l[i].renewed≥lease))
  ·rw[hb,if_neg (by simp)]at hFs
   refine zL0 (I hat (I hb (I hw2 (I @zaB zca)))) ?_
   exact hK _ (i+1,acc) (Gh.canon [7] [] [] (zk hw) rfl rfl) ⟨hi,by simp only;omega⟩ (by simp only;rw[hFs]) (by simp only;omega)
  ·rw[hb,if_pos rfl]at hFs
   refine zL0 (I hat (I hb (I hw2 (I @zaB zca)))) ?_
   exact hK _ (i+1,acc++[l[i].client]) (Gh.canon [7] [] [] (zk (I hw (I @List.length_append.{0} @List.length_singleton.{0}))) rfl (by simp only[List.length_append,List.length_singleton];rw[zh2];rfl)) ⟨hi,by simp only[List.length_append,List.length_singleton];omega⟩ (by simp only[List.append_assoc,List.singleton_append];rw[hFs]) (by simp only;omega)
 ·have hi:i=l.length:=by
   have:¬(i:Int)<l.length:=by simpa using hge
   omega
  rw[hi,List.drop_length]at hF
  have hF:acc++[]=zy4 l now lease:=hF
  rw[←hF,List.append_nil]
  refine zL0 trivial ?_
  simp[zAO,zax,rowI]
theorem zwl (l:List Lk) (hl:l.length<2^30) (c:Int):CallOK Tryz.prog 219 [.f (al l.length (zam l)), .f (ai c)] (fun r o=>r=[.one (.own 2 (zch l c).length (zaJ (zch l c)) false)]∧o=[]):=by
 refine CallOK.nil ?_
 refine zh Tryz.func219 Tryz.results219 Tryz.ntmps219 Tryz.call219 ?_
 simp only[Tryz.f219,Option.getD]
 refine zL0 trivial ?_
 refine zai (τ:=Nat×List Grant) (fun t=>⟨(al l.length (zam l)::ai c::dq3 (.one (.own ⟨5,1,1⟩ 0 t.2.length)::ai t.1::zu7 [])),[(5,⟨2,[none,roq 1 2 (zaJ t.2)]⟩),(32,⟨2,[]⟩),(33,⟨2,[]⟩)]⟩)
  (fun t=>t.1≤l.length∧t.2.length≤t.1) (fun t=>t.2++zch (l.drop t.1) c) (fun t=>l.length - t.1) (0,[])
  ((Gh.nil (i:=5) (s:=5) (sz:=2) rfl).trans (Gh.canon [5] [32,33] [] zK rfl rfl)) ⟨Nat.zero_le _,Nat.zero_le _⟩ ?_
 intro⟨i,acc⟩ ⟨hi0,hac⟩ hF K hK
 simp only[List.drop_zero,List.nil_append]at hi0 hac hF hK⊢
 refine zw ?_
 refine zaa (fun hlt=> ?_) (fun hge=> ?_)
 ·have hi:i<l.length:=by simpa using hlt
  have hat:=zbT hi
  have hw:=zal hi (by omega)
  have hFs:zch (l.drop i) c=if(l[i].holder==c)=true then⟨l[i].name,l[i].token⟩::zch (l.drop (i+1)) c else zch (l.drop (i+1)) c:=by
   unfold zch
   rw[List.drop_eq_getElem_cons hi,List.filter_cons]
   split<;>simp
  cases hb:(l[i].holder==c)
  ·rw[hb,if_neg (by simp)]at hFs
   refine zL0 (I hat (I hb (I @zah zca))) ?_
   exact hK _ (i+1,acc) (Gh.canon [5] [] [] (zk hw) rfl rfl) ⟨hi,by simp only;omega⟩ (by simp only;rw[hFs]) (by simp only;omega)
  ·rw[hb,if_pos rfl]at hFs
   refine zL0 (I hat (I hb (I @zah zca))) ?_
   exact hK _ (i+1,acc++[⟨l[i].name,l[i].token⟩]) (Gh.canon [5] [] [] (zk (I hw (I @List.length_append.{0} @List.length_singleton.{0}))) rfl (by simp only[List.length_append,List.length_singleton];rw[zfD];rfl)) ⟨hi,by simp only[List.length_append,List.length_singleton];omega⟩ (by simp only[List.append_assoc,List.singleton_append];rw[hFs]) (by simp only;omega)
 ·have hi:i=l.length:=by
   have:¬(i:Int)<l.length:=by simpa using hge
   omega
  rw[hi,List.drop_length]at hF
  have hF:acc++[]=zch l c:=hF
  rw[←hF,List.append_nil]
  refine zL0 trivial ?_
  simp[zAO,zax]
theorem zug {x:Value}:normD (.raw x)= .raw x:=rfl
structure LkD where
 k:Lk
 x:D
abbrev LkD.enc (m:LkD):List D:=[sD m.k.name,iD m.k.holder,iD m.k.token,m.x]
abbrev zeL (l:List LkD):List D:=l.flatMap LkD.enc
def plain (k:Lk):LkD:=⟨k, .sl k.line.length (zaQ k.line)⟩
theorem zj9 {l:List Lk}:zeL (l.map plain)=zam l:=by
 induction l with
 |nil=>rfl
 |cons k l ih=>rw[List.map_cons,zeL,List.flatMap_cons,zam,List.flatMap_cons];exact congrArg (_++·) ih
theorem zqu {l:List LkD} {i:Nat} (hi:i<l.length):(zeL l).drop (i*4)=l[i].enc++(zeL (l.drop (i+1))):=zda _ 4 l i hi fun _=>rfl
theorem zeq {l:List LkD}:(zeL l).length=l.length*4:=zcM _ 4 (fun _=>rfl) l
theorem zlC {l:List LkD}:(zeL l).take (l.length*4)=zeL l:=zcT LkD.enc 4 (fun _=>rfl) l
theorem zlD {l:List LkD} {m:LkD}:zeL (l++[m])=zeL l++m.enc:=by simp[zeL]
theorem zgv {l:List Lk} {m:Lk}:zam (l++[m])=zam l++m.enc:=by simp[zam]
theorem zi8 (l:List Lk) (hl:l.length<2^30) (hll:∀k∈l,k.line.length<2^30):CallOK Tryz.prog 214 [.f (al l.length (zam l))] (fun r o=>r=[.one (.own 4 l.length (zam l) false)]∧o=[]):=by
 refine CallOK.nil ?_
 refine zh Tryz.func214 Tryz.results214 Tryz.ntmps214 Tryz.call214 ?_
 simp only[Tryz.f214,Option.getD]
 refine zL0 trivial ?_
 refine zai (τ:=Nat) (fun i=>⟨(al l.length (zam l)::dq2 (.one (.own ⟨3,1,1⟩ 0 i)::ai i::zov [])),[(3,⟨2,[none,roq 1 4 (zam (l.take i))]⟩),(5,⟨2,[]⟩),(16,⟨2,[]⟩),(19,⟨2,[]⟩),(23,⟨2,[]⟩),(24,⟨2,[]⟩)]⟩)
  (fun i=>i≤l.length) (fun _=>()) (fun i=>l.length - i) 0
  ((Gh.nil (i:=3) (s:=3) (sz:=4) rfl).trans (Gh.canon [3] [5,16,19,23,24] [] zK rfl rfl)) (Nat.zero_le _) ?_
 intro i hi0 hF K hK
 refine zw ?_
 refine zaa (fun hlt=> ?_) (fun hge=> ?_)
 ·have hi:i<l.length:=by simpa using hlt
  have hat:=zbT hi
  have hw:=zal hi (by omega)
  have hlk:=hll _ (List.getElem_mem hi)
  have h1:(l[i].line.length*8≤2^47)=True:=eq_true (by omega)
  have htl:(l.take i).length=i:=by rw[List.length_take];omega
  have htk:=zaF (l:=l.take i)
  rw[htl]at htk
  have hsn:zam (l.take i)++[sD l[i].name,iD l[i].holder,iD l[i].token, .sl l[i].line.length (zaQ l[i].line)]=zam (l.take (i+1)):=by
   rw[←List.take_append_getElem hi,zgv]
  refine zL0 (I hat (I @zah (I @zaO (I h1 (I htl (I htk (I hsn zca))))))) ?_
  exact hK _ (i+1) (Gh.canon [3] [] [] (zk hw) rfl rfl) hi rfl (by omega)
 ·have hi:i=l.length:=by
   have:¬(i:Int)<l.length:=by simpa using hge
   omega
  subst hi
  refine zL0 @List.take_length.{0} ?_
  show zax _ _∧True
  simp[zax]
def zlE (l:List Lk) (i:Nat) (x:D):List LkD:=l.zipIdx.map fun p=>if p.2=i then⟨p.1,x⟩else plain p.1
theorem zbZ {l:List Lk} {i:Nat} {x:D}:(zlE l i x).length=l.length:=by simp[zlE]
theorem zfm {l:List Lk} {i j:Nat} {x:D} (hj:j<l.length):(zlE l i x)[j]'(by rw[zbZ];exact hj)=if j=i then⟨l[j],x⟩else plain l[j]:=by simp[zlE]
theorem zAu {l:List Lk} {i:Nat} {x:D}:(zlE l i x).map LkD.k=l:=by
 refine List.ext_getElem (by simp[zbZ]) fun j h1 h2=> ?_
 rw[List.getElem_map,zfm h2]
 split<;>rfl
set_option maxHeartbeats 4000000 in
theorem zuh (l:List Lk) (hl:l.length<2^30) (hll:∀k∈l,k.line.length<2^30) (i0:Nat) (hi0:i0<l.length):
  ztd Tryz.prog 214 [.f (al l.length (zam l))] (fun bs r o=>∃x,(∃a cap,x=Value.slice a l[i0].line.length cap)∧bs=[.val x]∧r=[.one (.own 4 l.length (zeL (zlE l i0 (.raw x))) false)]∧o=[[.own 1 l[i0].line.length (zaQ l[i0].line) false]]):=by
 refine zvb zcQ mixed (T:=Ty) (n:=26) Tryz.func214 (c:=Tryz.f214.body.getD .skip) (q:=1000) (n2:=l[i0].line.length) rfl Tryz.results214 Tryz.ntmps214 Tryz.call214 (R:=fun x=>_) ?_
 simp only[Tryz.f214,Option.getD]
 refine zL0 trivial ?_
 refine zai (τ:=Nat×Option (Option Addr×Nat)) (fun t=>match t.2 with
  |none=>⟨(al l.length (zam l)::dq2 (.one (.own ⟨3,1,1⟩ 0 t.1)::ai t.1::zov [])),[(3,⟨2,[none,roq 1 4 (zam (l.take t.1))]⟩),(5,⟨2,[]⟩),(16,⟨2,[]⟩),(19,⟨2,[]⟩),(23,⟨2,[]⟩),(24,⟨2,[]⟩)]⟩
  |some x=>⟨(al l.length (zam l):: .one (.lk ⟨1000,1,0⟩ l[i0].line.length (.slice x.1 l[i0].line.length x.2))::dd:: .one (.own ⟨3,1,1⟩ 0 t.1)::ai t.1::zov []),[(3,⟨2,[none,roq 1 4 (zeL ((zlE l i0 (.raw (.slice x.1 l[i0].line.length x.2))).take t.1))]⟩),(5,⟨2,[]⟩),(16,⟨2,[]⟩),(19,⟨2,[]⟩),(23,⟨2,[]⟩),(24,⟨2,[]⟩),(1000,⟨1,[none,roq 0 1 (zaQ l[i0].line)]⟩)]⟩)
  (fun t=>t.1≤l.length∧(t.1≤i0↔t.2=none)) (fun _=>()) (fun t=>l.length - t.1) (0,none)
  ((Gh.nil (i:=3) (s:=3) (sz:=4) rfl).trans (Gh.canon [3] [5,16,19,23,24] [] zK rfl rfl)) ⟨Nat.zero_le _,by simp⟩ ?_
 rintro⟨i,x⟩ ⟨hi1,hx⟩ hF K hK
 cases x with
 |none=>
  simp only at hi1 hx hK⊢
  have hx0:i≤i0:=hx.2 trivial
  refine zw ?_
  refine zaa (fun hlt=> ?_) (fun hge=> ?_)
  ·have hi:i<l.length:=by simpa using hlt
   have hat:=zbT hi
   have hw:=zal hi (by omega)
   have hlk:=hll _ (List.getElem_mem hi)
   have h1:(l[i].line.length*8≤2^47)=True:=eq_true (by omega)
   have htl:(l.take i).length=i:=by rw[List.length_take];omega
   have htk:=zaF (l:=l.take i)
   rw[htl]at htk
   have hsn:zam (l.take i)++[sD l[i].name,iD l[i].holder,iD l[i].token, .sl l[i].line.length (zaQ l[i].line)]=zam (l.take (i+1)):=by
    rw[←List.take_append_getElem hi,zgv]
   repeat'(first|exact zC|(with_reducible first|refine zbh 7 ?_|refine zaU 7 ?_|refine zaV 7 ?_)|refine zu (I hat (I @zah (I @zaO (I h1 (I htl (I htk (I hsn zca))))))) ?_|(with_reducible first|refine zae _ _ ?_)|(apply zaa<;>intro hb)|(apply I;exact zI)|(apply I<;>intro hg))
   by_cases hii:i=i0
   ·subst hii
    refine zbl (zfg _ _ (zzS zcQ mixed _ _ (zqS (s:=5) (k:=3) (k':=4) (e:=7) (j:=1) (q:=1000) rfl rfl rfl rfl rfl rfl (by decide) rfl rfl) ?_))
    intro x _
    have hsx:zam (l.take i)++[sD l[i].name,iD l[i].holder,iD l[i].token, .raw (.slice x.1 l[i].line.length x.2)]=zeL ((zlE l i (.raw (.slice x.1 l[i].line.length x.2))).take (i+1)):=by
     rw[←List.take_append_getElem (by rw[zbZ];exact hi),zlD,zfm hi,if_pos rfl]
     congr 1
     rw[←zj9]
     congr 1
     refine List.ext_getElem (by simp[zbZ]) fun j h1 h2=> ?_
     have hji:j<i:=by simp at h1;omega
     rw[List.getElem_map,List.getElem_take,List.getElem_take,zfm (by omega),if_neg (by omega)]
    refine zL0 (I hat (I @zah (I @zaO (I h1 (I htl (I htk (I hsx (I @zug zca)))))))) ?_
    exact hK _ (i+1,some x) (Gh.canon [3,1000] [] [1000] (zk (I hw @zwW)) rfl rfl) ⟨hi,by simp⟩ trivial (by simp only;omega)
   ·refine zbl ?_
    refine zL0 (I hat (I @zah (I @zaO (I h1 (I htl (I htk (I hsn zca))))))) ?_
    exact hK _ (i+1,none) (Gh.canon [3] [] [] (zk hw) rfl rfl) ⟨hi,by simp;omega⟩ trivial (by simp only;omega)
  ·exfalso
   have:¬(i:Int)<l.length:=by simpa using hge
   omega
 |some x=>
  simp only at hi1 hx hK⊢
  have hx0:¬i≤i0:=fun h=>by cases hx.1 h
  refine zw ?_
  refine zaa (fun hlt=> ?_) (fun hge=> ?_)
  ·have hi:i<l.length:=by simpa using hlt
   have hat:=zbT hi
   have hw:=zal hi (by omega)
   have hlk:=hll _ (List.getElem_mem hi)
   have h1:(l[i].line.length*8≤2^47)=True:=eq_true (by omega)
   have htl:((zlE l i0 (.raw (.slice x.1 l[i0].line.length x.2))).take i).length=i:=by rw[List.length_take,zbZ];omega
   have htk:=zlC (l:=(zlE l i0 (.raw (.slice x.1 l[i0].line.length x.2))).take i)
   rw[htl]at htk
   have hsn:zeL ((zlE l i0 (.raw (.slice x.1 l[i0].line.length x.2))).take i)++[sD l[i].name,iD l[i].holder,iD l[i].token, .sl l[i].line.length (zaQ l[i].line)]=zeL ((zlE l i0 (.raw (.slice x.1 l[i0].line.length x.2))).take (i+1)):=by
    rw[←List.take_append_getElem (by rw[zbZ];exact hi),zlD,zfm hi,if_neg (by omega)];rfl
   refine zL0 (I hat (I @zah (I @zaO (I @zeq (I h1 (I htl (I htk (I hsn zca)))))))) ?_
   exact hK _ (i+1,some x) (Gh.canon [3,1000] [] [1000] (zk (I hw @zwW)) rfl rfl) ⟨hi,by simp;omega⟩ trivial (by simp only;omega)
  ·have hi:i=l.length:=by
    have:¬(i:Int)<l.length:=by simpa using hge
    omega
   subst hi
   refine zL0 trivial ?_
   refine⟨1, .slice x.1 l[i0].line.length x.2,rfl,⟨_,_,rfl⟩, ?_,rfl⟩
   rw[List.take_of_length_le (by rw[zbZ];exact Nat.le_refl _)]
end Go.Proofs.YtliimajkpggbhaaGreat
