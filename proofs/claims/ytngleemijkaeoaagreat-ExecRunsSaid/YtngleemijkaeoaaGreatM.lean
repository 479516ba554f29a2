import Derived.Test.YtngleemijkaeoaaGreatK9
import Derived.Test.YtngleemijkaeoaaGreatE
namespace Go.Proofs.YtngleemijkaeoaaGreat
open Go.Pk
set_option maxRecDepth 100000
set_option linter.unusedSimpArgs false
set_option linter.unusedVariables false
theorem zdi (l:List Int) (hl:l.length<2^62) (v:Int):CallOK Tryz.prog 117 [.f (al l.length (zat l)), .f (ai v)] (fun r o=>r=[ri (zcn (fun x=>v==x) l 0)]∧o=[]):=by
 refine zac zar mixed (T:=Ty) (n:=19) Tryz.func117 (c:=Tryz.f117.body.getD .skip) rfl Tryz.results117 Tryz.ntmps117 Tryz.call117 ?_
 simp only[Tryz.f117,Option.getD]
 refine zw ?_
 refine zao (τ:=Nat) (fun i=>⟨[al l.length (zat l),ai v,dd,dd,ai 0,dd,al l.length (zat l),ai l.length,ai i,dd,dd,dd,dd,dd,dd,dd,dd,dd,dd],[]⟩) (fun i=>i≤l.length) (fun i=>zcn (fun x=>v==x) (l.drop i) i) (fun i=>l.length - i) 0 (Gh.fgt ?_) (Nat.zero_le _) ?_
 ·simp only[zaM,zaN,za4,Int.natCast_zero]
 intro i hi0 hF K hK
 refine zw ?_
 refine zaa (fun hlt=> ?_) (fun hge=> ?_)
 ·have hi:i<l.length:=by simpa using hlt
  rw[List.drop_eq_getElem_cons hi,zcn]at hF
  have hat:=zcx hi
  simp only[List.cons_append,List.nil_append]at hat
  have hw:=zan hi hl
  clear hlt
  repeat'(first|refine zq (I @zaf hat) ?_|exact zd (I @zaf hat)|(refine zaa ?_ ?_<;>intro hb)|(refine And.intro ?_ ?_;exact zI)|(refine And.intro ?_ ?_<;>intro hg)|exact zC|fail)
  ·rw[if_pos hb]at hF
   rw[hF];rfl
  ·rw[if_neg (by simp[hb])]at hF
   refine hK _ (i+1) (Gh.fgt ?_) hi (by simp only[List.drop_eq_getElem_cons hi,zcn];rw[if_neg (by simp[hb])];rfl) (by omega)
   simp only[hw,zaM,zaN,za4]
 ·have hi:i=l.length:=by
   have:¬(i:Int)<l.length:=by simpa using hge
   omega
  rw[hi,List.drop_length,zcn]at hF
  refine zw ?_
  rw[hF];rfl
theorem zbt (l:List Int) (hl:l.length<2^62) (v:Int):CallOK Tryz.prog 78 [.f (al l.length (zat l)), .f (ai v)] (fun r o=>r=[rb (l.any fun x=>v==x)]∧o=[]):=by
 refine zac zar mixed (T:=Ty) (n:=9) Tryz.func78 (c:=Tryz.f78.body.getD .skip) rfl Tryz.results78 Tryz.ntmps78 Tryz.call78 ?_
 simp only[Tryz.f78,Option.getD]
 repeat'(first|with_reducible refine zab _ _ ?_|rw[zak]|simp only[zB,Nat.reduceSub,Nat.reduceEqDiff,Nat.reduceAdd,Nat.reduceMul,Nat.reduceLeDiff,Nat.reduceLT,Nat.reduceBEq,reduceCtorEq]|((first|((try refine zaz ?_);apply zaD)|(apply zaB;intro _));(solve|exact(zdi l hl v)|(refine CallOK.le (zdi l hl v) ?_;exact zM)|fail);try case hn=>rfl)|refine zam ?_|refine zaa (fun hb=> ?_) (fun hb=> ?_)|(refine And.intro ?_ ?_;exact zI)|refine And.intro (fun hg=> ?_) (fun hg=> ?_)|exact zC|fail)
 rw[zdB]
theorem zf1 (v:Int):CallOK Tryz.prog 145 [.f (ai v)] (fun r o=>r=[rb false]∧o=[]):=by
 refine zac zar mixed (T:=Ty) (n:=6) Tryz.func145 (c:=Tryz.f145.body.getD .skip) rfl Tryz.results145 Tryz.ntmps145 Tryz.call145 ?_
 simp only[Tryz.f145,Option.getD]
 repeat'(first|with_reducible refine zab _ _ ?_|rw[zak]|simp only[zB,bne_self_eq_false,Nat.reduceSub,Nat.reduceEqDiff,Nat.reduceAdd,Nat.reduceMul,Nat.reduceLeDiff,Nat.reduceLT,Nat.reduceBEq,reduceCtorEq]|refine zam ?_|refine zaa (fun hb=> ?_) (fun hb=> ?_)|(refine And.intro ?_ ?_;exact zI)|refine And.intro (fun hg=> ?_) (fun hg=> ?_)|exact zC|fail)
def zk7 (a b:Int):Int:=if a<b then -1 else if a>b then 1 else 0
theorem zdy (a b:Int):CallOK Tryz.prog 112 [.f (ai a), .f (ai b)] (fun r o=>r=[ri (zk7 a b)]∧o=[]):=by
 refine zac zar mixed (T:=Ty) (n:=20) Tryz.func112 (c:=Tryz.f112.body.getD .skip) rfl Tryz.results112 Tryz.ntmps112 Tryz.call112 ?_
 simp only[Tryz.f112,Option.getD]
 repeat'(first|refine zq0 ?_|exact zd0|refine zc (zf1 a) ?_|refine zg (zf1 a) ?_|refine zc (zf1 b) ?_|refine zg (zf1 b) ?_|(refine zaa ?_ ?_<;>intro hb)|(refine And.intro ?_ ?_;exact zI)|(refine And.intro ?_ ?_<;>intro hg)|exact zC|fail)
 all_goals simp only[decide_eq_true_eq,decide_eq_false_iff_not]at*
 ·unfold zk7;rw[if_pos (by assumption)]
 ·unfold zk7;rw[if_neg (by assumption),if_pos (by assumption)]
 ·unfold zk7;rw[if_neg (by assumption),if_neg (by assumption)]
theorem zeV (n:Int):CallOK Tryz.prog 160 [.f (ai n)] (fun r o=>r=[rb (decide (n≥0)&&decide (n<8))]∧o=[]):=by
 refine zac zar mixed (T:=Ty) (n:=9) Tryz.func160 (c:=Tryz.f160.body.getD .skip) rfl Tryz.results160 Tryz.ntmps160 Tryz.call160 ?_
 simp only[Tryz.f160,Option.getD]
 repeat'(first|refine zq0 ?_|exact zd0|(refine zaa ?_ ?_<;>intro hb)|(refine And.intro ?_ ?_;exact zI)|(refine And.intro ?_ ?_<;>intro hg)|exact zC|fail)
theorem zhZ (n:Int):CallOK Tryz.prog 152 [.f (ai n)] (fun r o=>r=[rb (decide (n≥0)&&decide (n<8))]∧o=[]):=by
 refine zac zar mixed (T:=Ty) (n:=9) Tryz.func152 (c:=Tryz.f152.body.getD .skip) rfl Tryz.results152 Tryz.ntmps152 Tryz.call152 ?_
 simp only[Tryz.f152,Option.getD]
 repeat'(first|refine zq0 ?_|exact zd0|(refine zaa ?_ ?_<;>intro hb)|(refine And.intro ?_ ?_;exact zI)|(refine And.intro ?_ ?_<;>intro hg)|exact zC|fail)
def isClient (n:Int):Bool:=decide (n≥0)&&decide (n<8)
def hasI (l:List Int) (v:Int):Bool:=l.any fun x=>v==x
theorem zpq (l:List Int) (hl:l.length<2^62) (c:Int):CallOK Tryz.prog 124 [.f (al l.length (zat l)), .f (ai c)]
  (fun r o=>r=[ri (if zcn (fun x=>c==x) l 0≥0 then zcn (fun x=>c==x) l 0 else 0),rb (hasI l c)]∧o=[]):=by
 refine zac zar mixed (T:=Ty) (n:=13) Tryz.func124 (c:=Tryz.f124.body.getD .skip) rfl Tryz.results124 Tryz.ntmps124 Tryz.call124 ?_
 simp only[Tryz.f124,Option.getD]
 have hh:=zdB (fun x=>c==x) l
 repeat'(first|refine zq0 ?_|exact zd0|refine zc (zdi l hl c) ?_|refine zg (zdi l hl c) ?_|(refine zaa ?_ ?_<;>intro hb)|(refine And.intro ?_ ?_;exact zI)|(refine And.intro ?_ ?_<;>intro hg)|exact zC|fail)
 ·rw[hb]at hh
  unfold hasI
  rw[←hh,if_pos (by simpa using hb)]
 ·rw[hb]at hh
  unfold hasI
  rw[←hh,if_neg (by simpa using hb)]
theorem zeW {a b c a' b' c':RO}:zbg [.one a, .one b, .one c] [.one a', .one b', .one c']=(zaY a a'∧zaY b b'∧zaY c c'∧True):=rfl
def zeC (l:List Int):RF:= .one (.own 1 l.length (zat l) false)
def zc7 (l:List Int) (c:Int):List Int×Int×Int:=
 if(!isClient c)=true then([],0,1)else if hasI l c=true then([],0,7)else if decide ((l.length:Int)≥3)=true then([],0,5)else(l++[c],l.length,0)
theorem zrx (l:List Int) (hl:l.length<2^30) (c:Int):CallOK Tryz.prog 125 [.f (al l.length (zat l)), .f (ai c)]
  (fun r o=>r=[zeC (zc7 l c).1,ri (zc7 l c).2.1,ri (zc7 l c).2.2]∧o=[]):=by
 refine CallOK.nil ?_
 refine zac zar mixed (T:=Ty) (n:=26) Tryz.func125 (c:=Tryz.f125.body.getD .skip) rfl Tryz.results125 Tryz.ntmps125 Tryz.call125 ?_
 simp only[Tryz.f125,Option.getD]
 have hcl:=zcS l.length (zat l) zaf (by omega)
 repeat'(first|refine zq @zaf ?_|exact zd @zaf|refine zc (zeV c) ?_|refine zg (zeV c) ?_|refine zc (zbt l (by omega) c) ?_|refine zg (zbt l (by omega) c) ?_|refine zc (hcl) ?_|refine zg (hcl) ?_|(refine zaa ?_ ?_<;>intro hb)|(refine And.intro ?_ ?_;exact zI)|(refine And.intro ?_ ?_<;>intro hg)|exact zC|fail)
 all_goals unfold isClient zc7 hasI isClient at*
 ·rw[if_pos hb];simp[zeW,zeC,zaY]
 ·rename_i hc
  rw[if_neg (by rw[hc];simp),if_pos hb];simp[zeW,zeC,zaY]
 ·rename_i hc hh
  rw[if_neg (by rw[hc];simp),if_neg (by rw[hh];simp),if_pos hb];simp[zeW,zeC,zaY]
 ·rename_i hc hh
  rw[if_neg (by rw[hc];simp),if_neg (by rw[hh];simp),if_neg (by rw[hb];simp)];simp[zeW,zeC,zaY]
theorem znm {l:List Int} {i:Nat} (hi:i≤l.length):(zat l).drop i=zat (l.drop i):=by have:=zgv (fun n=>[iD n]) 1 (fun _=>rfl) hi;rwa[Nat.mul_one]at this
theorem zi0 {l:List Int} {i:Nat} (hi:i≤l.length):(zat l).take i=zat (l.take i):=by have:=zdN (fun n=>[iD n]) 1 (fun _=>rfl) hi;rwa[Nat.mul_one]at this
def zce (l:List Int) (c:Int):List Int×Bool:=if zcn (fun x=>c==x) l 0<0 then(l,false)else(l.eraseIdx (zcn (fun x=>c==x) l 0).toNat,true)
theorem zpr (l:List Int) (hl:l.length<2^30) (c:Int):CallOK Tryz.prog 126 [.f (al l.length (zat l)), .f (ai c)]
  (fun r o=>r=[zeC (zce l c).1,rb (zce l c).2]∧o=[]):=by
 refine zac zar mixed (T:=Ty) (n:=20) Tryz.func126 (c:=Tryz.f126.body.getD .skip) rfl Tryz.results126 Tryz.ntmps126 Tryz.call126 ?_
 simp only[Tryz.f126,Option.getD]
 have hcl:=zcS l.length (zat l) zaf (by omega)
 rcases zdA (fun x=>c==x) l 0 with⟨h1,h2⟩|⟨k,hk,h1,h2,h3⟩
 ·have hi:=zdi l (by omega) c
  rw[show((0:Nat):Int)=0 from rfl]at h2
  rw[h2]at hi
  have hlt:decide ((-1:Int)<0)=true:=rfl
  repeat'(first|refine zq (I @zaf hlt) ?_|exact zd (I @zaf hlt)|refine zc (hi) ?_|refine zg (hi) ?_|refine zc (hcl) ?_|refine zg (hcl) ?_|(refine zaa ?_ ?_<;>intro hb)|(refine And.intro ?_ ?_;exact zI)|(refine And.intro ?_ ?_<;>intro hg)|exact zC|fail)
  unfold zce
  rw[h2,if_pos (by decide)]
  rfl
 ·have hi:=zdi l (by omega) c
  rw[show((0:Nat):Int)=0 from rfl,Nat.zero_add]at h1
  rw[h1]at hi
  have hlt:decide ((k:Int)<0)=false:=by simp
  have hw:=zan hk (by omega)
  obtain⟨n,hn⟩:∃n,l.length=n+1:=⟨l.length - 1,by omega⟩
  have hdl:=zno n k (zat l) (by rw[zaf,hn]) (by omega) (by omega)
  rw[hn]at hi hcl hk
  have hll:(zat l).length=n+1:=by rw[zaf,hn]
  rw[hn]
  repeat'(first|refine zq (I hlt (I hw hll)) ?_|exact zd (I hlt (I hw hll))|refine zc (hi) ?_|refine zg (hi) ?_|refine zc (hcl) ?_|refine zg (hcl) ?_|(refine zaa ?_ ?_<;>intro hb)|(refine And.intro ?_ ?_;exact zI)|(refine And.intro ?_ ?_<;>intro hg)|exact zC|fail)
  refine zbK (mv:= ?mv1) (lent:= ?le1) 0 ?ha1 (hdl) ?hb1 ?hc1
  case ha1=>(try simp only[zB,zaE,Nat.reduceSub,Nat.reduceEqDiff,Nat.reduceAdd,Nat.reduceMul,Nat.reduceLeDiff,Nat.reduceLT,Nat.reduceBEq,reduceCtorEq]);exact rfl
  case hb1=>(try simp only[zB,scM,Nat.reduceSub,Nat.reduceEqDiff,Nat.reduceAdd,Nat.reduceMul,Nat.reduceLeDiff,Nat.reduceLT,Nat.reduceBEq,reduceCtorEq]);repeat'(first|rfl|trivial|omega|with_reducible refine And.intro ?_ ?_)
  show aops _ _ _ _ _ _ _ _
  repeat'(first|refine zq0 ?_|exact zd0|(refine zaa ?_ ?_<;>intro hb)|(refine And.intro ?_ ?_;exact zI)|(refine And.intro ?_ ?_<;>intro hg)|exact zC|fail)
  unfold zce
  rw[h1,if_neg (by omega),Int.toNat_natCast]
  have he:(l.eraseIdx k).length=n:=by rw[List.length_eraseIdx];split<;>omega
  have hx:zat (l.eraseIdx k)=List.take k (zat l)++List.drop (k+1) (zat l):=by
   rw[List.eraseIdx_eq_take_drop_succ,zi0 (by omega),znm (by omega)]
   simp[zat]
  simp only[zeC,he,hx]
def zaS (l gone:List Int):List Int:=l.filter fun c=> !hasI gone c
theorem zky (gone:List Int) (hg:gone.length<2^62) (c:Int):CallOK Tryz.prog 147 [.f (ai c), .f (.one (.eltR [.lent gone.length (zat gone)]))] (fun r o=>r=[rb (hasI gone c)]∧o=[]):=by
 refine zac zar mixed (T:=Ty) (n:=7) Tryz.func147 (c:=Tryz.f147.body.getD .skip) rfl Tryz.results147 Tryz.ntmps147 Tryz.call147 ?_
 simp only[Tryz.f147,Option.getD]
 repeat'(first|refine zq0 ?_|exact zd0|refine zc (zbt gone hg c) ?_|refine zg (zbt gone hg c) ?_|refine zc (CallOK.le (zbt gone hg c) (by simp[zcf,aLe,zlp,cLe])) ?_|refine zg (CallOK.le (zbt gone hg c) (by simp[zcf,aLe,zlp,cLe])) ?_|(refine zaa ?_ ?_<;>intro hb)|(refine And.intro ?_ ?_;exact zI)|(refine And.intro ?_ ?_<;>intro hg)|exact zC|fail)
 rfl
theorem zmk (l gone:List Int) (hl:l.length<2^30) (hg:gone.length<2^30):CallOK Tryz.prog 114 [.f (al l.length (zat l)), .f (al gone.length (zat gone))] (fun r o=>r=[zeC (zaS l gone)]∧o=[]):=by
 refine zac zar mixed (T:=Ty) (n:=9) Tryz.func114 (c:=Tryz.f114.body.getD .skip) rfl Tryz.results114 Tryz.ntmps114 Tryz.call114 ?_
 simp only[Tryz.f114,Option.getD]
 have hcl:=zcS l.length (zat l) zaf (by omega)
 have hd:=zps l (by omega) (hasI gone) 147 [.eltR [.lent gone.length (zat gone)]] (fun _=>rfl) (fun _=>rfl) (fun _ _=>rfl) (fun _=>rfl) (fun x _=>zky gone (by omega) x)
 repeat'(first|refine zq @zaf ?_|exact zd @zaf|refine zc (hcl) ?_|refine zg (hcl) ?_|(refine zaa ?_ ?_<;>intro hb)|(refine And.intro ?_ ?_;exact zI)|(refine And.intro ?_ ?_<;>intro hg)|exact zC|fail)
 refine zbK (mv:= ?mv2) (lent:= ?le2) 0 ?ha2 (hd) ?hb2 ?hc2
 case ha2=>(try simp only[zB,zaE,Nat.reduceSub,Nat.reduceEqDiff,Nat.reduceAdd,Nat.reduceMul,Nat.reduceLeDiff,Nat.reduceLT,Nat.reduceBEq,reduceCtorEq]);exact rfl
 case hb2=>(try simp only[zB,scM,Nat.reduceSub,Nat.reduceEqDiff,Nat.reduceAdd,Nat.reduceMul,Nat.reduceLeDiff,Nat.reduceLT,Nat.reduceBEq,reduceCtorEq]);repeat'(first|rfl|trivial|omega|with_reducible refine And.intro ?_ ?_)
 show aops _ _ _ _ _ _ _ _
 repeat'(first|refine zq0 ?_|exact zd0|(refine zaa ?_ ?_<;>intro hb)|(refine And.intro ?_ ?_;exact zI)|(refine And.intro ?_ ?_<;>intro hg)|exact zC|fail)
 rfl
section
variable {α:Type} {p:α→Bool}
def zk5 (p:α→Bool) (l:List α):Nat:=(l.takeWhile p).length
def zsB (p:α→Bool) (l:List α):Prop:=l.Pairwise fun x y=>p y=true→p x=true
theorem zb9 {l:List α}:zk5 p l≤l.length:=(List.takeWhile_prefix _).length_le
theorem zcb {x:α} {l:List α}:zk5 p (x::l)=if p x=true then zk5 p l+1 else 0:=by
 unfold zk5
 rw[List.takeWhile_cons]
 split<;>simp[*]
theorem zfs:∀{l:List α} {j:Nat} (hj:j<l.length),j<zk5 p l→p l[j]=true
 |x::l,0,_,h=>by
  rw[zcb]at h
  split at h
  ·assumption
  ·omega
 |x::l,j+1,hj,h=>by
  rw[zcb]at h
  split at h
  ·exact zfs (l:=l) (by simpa using hj) (by omega)
  ·omega
theorem zft:∀{l:List α} {j:Nat} (hj:j<l.length),zsB p l→zk5 p l≤j→p l[j]=false
 |x::l,0,_,hm,h=>by
  rw[zcb]at h
  split at h
  ·omega
  ·rename_i hx;simpa using hx
 |x::l,j+1,hj,hm,h=>by
  have hm':=List.pairwise_cons.1 hm
  have hj':j<l.length:=by simpa using hj
  rw[zcb]at h
  split at h
  ·exact zft (l:=l) hj' hm'.2 (by omega)
  ·rename_i hx
   have:=hm'.1 l[j] (List.getElem_mem hj')
   simp only[List.getElem_cons_succ]
   cases hc:p l[j]
   ·rfl
   ·exact absurd (this hc) hx
theorem zeU {q:α→Bool}:∀{l:List α},zsB p l→(∀x,q x=true→p x=false)→(l.Pairwise fun x y=>q y=true→p x=true)→l.find? q=(l[zk5 p l]?).filter q
 |[],_,_,_=>rfl
 |x::l,hm,hq,hs=>by
  have hm':=List.pairwise_cons.1 hm
  have hs':=List.pairwise_cons.1 hs
  rw[List.find?_cons,zcb]
  cases hx:p x
  ·rw[if_neg (by simp)]
   simp only[List.getElem?_cons_zero]
   cases hqx:q x
   ·simp only[Option.filter,hqx,Bool.false_eq_true,if_false]
    rw[List.find?_eq_none]
    intro y hy hqy
    have:=hs'.1 y hy hqy
    rw[hx]at this;cases this
   ·simp[Option.filter,hqx]
  ·rw[if_pos rfl]
   have hqx:q x=false:=by
    cases hc:q x
    ·rfl
    ·have:=hq x hc;rw[hx]at this;cases this
   rw[hqx]
   simp only[List.getElem?_cons_succ]
   exact zeU hm'.2 hq hs'.2
end
def SS (l:List Sess):Prop:=l.Pairwise fun x y=>x.client<y.client
def zdf (l:List Sess) (c:Int):Nat:=zk5 (fun x=>decide (x.client<c)) l
def zaC (l:List Sess) (c:Int):Option Sess:=l.find? fun x=>x.client==c
theorem zkw {l:List Sess} (h:SS l) (c:Int):zsB (fun x:Sess=>decide (x.client<c)) l:=h.imp fun hxy h=>by simp at h⊢;omega
theorem zgo {l:List Sess} (h:SS l) (c:Int):zaC l c=(l[zdf l c]?).filter fun x=>x.client==c:=
 zeU (q:=fun x:Sess=>x.client==c) (zkw h c) (fun x hx=>by simp at hx⊢;omega) (h.imp fun hxy h=>by simp at h⊢;omega)
def SM (l:List Memo):Prop:=l.Pairwise fun x y=>x.client<y.client
def zfo (l:List Memo) (c:Int):Nat:=zk5 (fun x=>decide (x.client<c)) l
def zbe (l:List Memo) (c:Int):Option Memo:=l.find? fun x=>x.client==c
theorem zkx {l:List Memo} (h:SM l) (c:Int):zsB (fun x:Memo=>decide (x.client<c)) l:=h.imp fun hxy h=>by simp at h⊢;omega
theorem ziX {l:List Memo} (h:SM l) (c:Int):zbe l c=(l[zfo l c]?).filter fun x=>x.client==c:=
 zeU (q:=fun x:Memo=>x.client==c) (zkx h c) (fun x hx=>by simp at hx⊢;omega) (h.imp fun hxy h=>by simp at h⊢;omega)
abbrev zdh (a b:ByteArray):Bool:=Go.Op.bytesLess a.toList b.toList
theorem zgp:∀{a:List UInt8},Go.Op.bytesLess a a=false
 |[]=>rfl
 |a::x=>by rw[Go.Op.bytesLess,zgp (a:=x)];simp
theorem zfX:∀{a b c:List UInt8},Go.Op.bytesLess a b=true→Go.Op.bytesLess b c=true→Go.Op.bytesLess a c=true
 |[],[],_,h,_=>by cases h
 |[],_::_,[],_,h=>by cases h
 |[],_::_,_::_,_,_=>rfl
 |_::_,[],_,h,_=>by cases h
 |_::_,_::_,[],_,h=>by cases h
 |a::x,b::y,c::z,h1,h2=>by
  rw[Go.Op.bytesLess]at*
  simp only[Bool.or_eq_true,Bool.and_eq_true,decide_eq_true_eq,beq_iff_eq]at*
  rcases h1 with h1|⟨rfl,h1⟩<;>rcases h2 with h2|⟨rfl,h2⟩
  ·exact .inl (UInt8.lt_trans h1 h2)
  ·exact .inl h1
  ·exact .inl h2
  ·exact .inr ⟨rfl,zfX h1 h2⟩
theorem zpp {a b:List UInt8} (h:Go.Op.bytesLess a b=true):Go.Op.bytesLess b a=false:=by
 cases hc:Go.Op.bytesLess b a
 ·rfl
 ·have:=zfX h hc
  rw[zgp]at this;cases this
theorem zk6:∀{a b:List UInt8},Go.Op.bytesLess a b=false→Go.Op.bytesLess b a=false→a=b
 |[],[],_,_=>rfl
 |[],_::_,h,_=>by cases h
 |_::_,[],_,h=>by cases h
 |a::x,b::y,h1,h2=>by
  rw[Go.Op.bytesLess]at*
  simp only[Bool.or_eq_false_iff,Bool.and_eq_false_iff,decide_eq_false_iff_not,beq_eq_false_iff_ne]at*
  have hab:a=b:=UInt8.le_antisymm (UInt8.not_lt.1 h2.1) (UInt8.not_lt.1 h1.1)
  subst hab
  rcases h1.2 with h|h1'
  ·exact absurd rfl h
  rcases h2.2 with h|h2'
  ·exact absurd rfl h
  rw[zk6 h1' h2']
def SL (l:List Lk):Prop:=l.Pairwise fun x y=>zdh x.name y.name=true
def za9 (l:List Lk) (s:ByteArray):Nat:=zk5 (fun x=>zdh x.name s) l
def isL (s:ByteArray) (x:Lk):Bool:=x.name.toList==s.toList
def zcc (l:List Lk) (s:ByteArray):Option Lk:=l.find? (isL s)
theorem zhY {l:List Lk} (h:SL l) (s:ByteArray):zsB (fun x:Lk=>zdh x.name s) l:=h.imp fun hxy h=>zfX hxy h
theorem ziY {l:List Lk} (h:SL l) (s:ByteArray):zcc l s=(l[za9 l s]?).filter (isL s):=
 zeU (q:=isL s) (zhY h s) (fun x hx=>by
  simp only[isL,beq_iff_eq]at hx
  simp only[zdh,hx,zgp]) (h.imp fun hxy h=>by
  simp only[isL,beq_iff_eq]at h
  simp only[zdh]at hxy⊢
  rw[←h];exact hxy)
theorem zeB {α:Type} {o:Option α} {p:α→Bool} {x:α} (h:o.filter p=some x):o=some x∧p x=true:=by
 cases o with
 |none=>simp at h
 |some y=>
  simp only[Option.filter]at h
  split at h
  ·rename_i hp;cases h;exact⟨rfl,hp⟩
  ·cases h
theorem ziZ {α:Type} {l:List α} {i:Nat} {x:α} (h:l[i]? =some x):∃hi:i<l.length,l[i]=x:=by
 obtain⟨hi,h⟩:=List.getElem?_eq_some_iff.1 h
 exact⟨hi,h⟩
theorem zfY {l:List Sess} (h:SS l) {c:Int} {x:Sess} (hx:zaC l c=some x):(∃hi:zdf l c<l.length,l[zdf l c]=x)∧x.client=c:=by
 rw[zgo h]at hx
 obtain⟨h1,h2⟩:=zeB hx
 exact⟨ziZ h1,by simpa using h2⟩
theorem zcd {l:List Lk} (h:SL l) {s:ByteArray} {x:Lk} (hx:zcc l s=some x):(∃hi:za9 l s<l.length,l[za9 l s]=x)∧isL s x=true:=by
 rw[ziY h]at hx
 obtain⟨h1,h2⟩:=zeB hx
 exact⟨ziZ h1,h2⟩
theorem zfZ {l:List Memo} (h:SM l) {c:Int} {x:Memo} (hx:zbe l c=some x):(∃hi:zfo l c<l.length,l[zfo l c]=x)∧x.client=c:=by
 rw[ziX h]at hx
 obtain⟨h1,h2⟩:=zeB hx
 exact⟨ziZ h1,by simpa using h2⟩
def zbq {α:Type} (q:Nat→α→Bool):Nat→List α→Bool
 |_,[]=>true
 |i,x::r=>if q i x=true then zbq q (i+1) r else false
theorem zb4 {α:Type} {q:Nat→α→Bool}:∀{l:List α} {i:Nat},zbq q i l=true↔∀j (hj:j<l.length),q (i+j) l[j]=true
 |[],i=>by simp[zbq]
 |x::l,i=>by
  rw[zbq]
  constructor
  ·intro h
   split at h
   ·rename_i hx
    intro j hj
    cases j with
    |zero=>exact hx
    |succ j=>
     have:=zb4.1 h j (by simpa using hj)
     simp only[List.getElem_cons_succ]
     rw[show i+(j+1)=i+1+j by omega];exact this
   ·cases h
  ·intro h
   have h0:=h 0 (by simp)
   simp only[List.getElem_cons_zero,Nat.add_zero]at h0
   rw[if_pos h0,zb4]
   intro j hj
   have:=h (j+1) (by simpa using hj)
   simp only[List.getElem_cons_succ]at this
   rw[show i+1+j=i+(j+1) by omega];exact this
theorem zaR {α:Type} {q:Nat→α→Bool} {l:List α} {i:Nat} (h:i<l.length):zbq q i (l.drop i)=if q i l[i]=true then zbq q (i+1) (l.drop (i+1))else false:=by
 rw[List.drop_eq_getElem_cons h,zbq]
theorem zcM {α:Type} {q:Nat→α→Bool} {l:List α} {i:Nat} (h:i=l.length):zbq q i (l.drop i)=true:=by
 rw[h,List.drop_length,zbq]
def zfJ (s:Sess):Bool:=isClient s.client&& !(decide (s.num<1))&& !(decide (s.num>zaT))&& !(decide (s.renewed<0))&& !(decide (s.renewed>zaT))
def numbered (l:List Sess) (n:Int):Bool:=l.any fun x=>x.num==n
def znj (l:List Sess) (i:Nat):Int:=(l[i - 1]?.map Sess.client).getD 0
def zhT (l:List Sess) (i:Nat) (s:Sess):Bool:=zfJ s&& !((decide (i>0)&&decide (znj l i≥s.client))||numbered (l.take i) s.num)
def sessB (l:List Sess):Bool:= !(decide ((l.length:Int)>5))&&zbq (zhT l) 0 l
def zbR (l:List Sess) (c num now:Int):List Sess×Int:=
 if(!isClient c||decide (num<1)||decide (num>zaT)||decide (now<0)||decide (now>zaT)||(!(zaC l c).isSome&&numbered l num)||((zaC l c).isSome&&(((zaC l c).map Sess.num).getD 0 !=num)&&numbered l num))=true then([],1)else
 if(zaC l c).isSome=true then([],7)else if decide ((l.length:Int)≥5)=true then([],5)else(l.take (zdf l c)++⟨c,num,now⟩::l.drop (zdf l c),0)
def zbf (l:List Sess) (c now:Int):List Sess×Int:=
 if(decide (now<0)||decide (now>zaT))=true then([],1)else
 match zaC l c with
 |none=>([],6)
 |some x=>(l.set (zdf l c) ⟨x.client,x.num,max x.renewed now⟩,0)
def zhU (l:List Sess) (now lease:Int):List Int:=
 if(decide (now<0)||decide (now>zaT)||decide (lease<0)||decide (lease>zaT))=true then []else(l.filter fun s=>decide (now - s.renewed≥lease)).map Sess.client
def zmi (l:List Int) (i:Nat) (c:Int):Bool:= !(!isClient c||hasI (l.take i) c)
def lineB (l:List Int):Bool:=zbq (zmi l) 0 l&&decide ((l.length:Int)≤3)
def znk (l:List Lk) (i:Nat):ByteArray:=(l[i - 1]?.map Lk.name).getD .empty
def zmj (k:Lk):Bool:=nameP k.name&& !(decide (k.holder<0))&& !(decide (k.holder≥8))&& !(decide (k.token<1))&& !(decide (k.token>zaT))
def zhV (l:List Lk) (i:Nat) (k:Lk):Bool:=zmj k&& !(!lineB k.line||hasI k.line k.holder||(decide (i>0)&& !(zdh (znk l i) k.name)))&& !((l.take i).any fun o=>o.token==k.token)
def lockB (l:List Lk):Bool:=zbq (zhV l) 0 l&&decide ((l.length:Int)≤4)
def zgn (l:List Int) (c:Int):Int:=if zcn (fun x=>c==x) l 0≥0 then zcn (fun x=>c==x) l 0 else 0
def zaH (l:List Lk) (name:ByteArray) (c token:Int) (wait:Bool):List Lk×Int×Int:=
 match zcc l name with
 |none=>if decide ((l.length:Int)≥4)=true then([],0,5)else(l.take (za9 l name)++⟨name,c,token+1,[]⟩::l.drop (za9 l name),0,0)
 |some k=>if(k.holder==c)=true then([],0,7)else if(!wait)=true then([],0,8)else
  if hasI k.line c=true then(l,zgn k.line c,10)else
  if(zc7 k.line c).2.2≠0 then([],0,(zc7 k.line c).2.2)else(l.set (za9 l name) ⟨k.name,k.holder,k.token,(zc7 k.line c).1⟩,(zc7 k.line c).2.1,10)
def zco (l:List Lk) (i:Nat) (k:Lk) (token:Int):List Lk×Int:=
 match k.line with
 |[]=>(l.eraseIdx i,0)
 |c::rest=>(l.set i ⟨k.name,c,token+1,rest⟩,1)
def za2 (l:List Lk) (name:ByteArray) (c token:Int):List Lk×Int×Int:=
 match zcc l name with
 |none=>([],0,6)
 |some k=>if(k.holder==c)=true then((zco l (za9 l name) k token).1,(zco l (za9 l name) k token).2,0)else
  if hasI k.line c=true then(l.set (za9 l name) ⟨k.name,k.holder,k.token,(zce k.line c).1⟩,0,0)else([],0,6)
def zbz (gone:List Int) (token:Int):List Lk→Int→List Lk×Int
 |[],g=>([],g)
 |k::r,g=>if hasI gone k.holder=true then
   match k.line with
   |[]=>zbz gone token r g
   |c::rest=>(⟨k.name,c,token+g+1,rest⟩::(zbz gone token r (g+1)).1,(zbz gone token r (g+1)).2)
  else(k::(zbz gone token r g).1,(zbz gone token r g).2)
def zaq (gone:List Int) (k:Lk):Lk:=⟨k.name,k.holder,k.token,zaS k.line gone⟩
def zbW (l:List Lk) (gone:List Int) (token:Int):List Lk×Int:=zbz gone token (l.map (zaq gone)) 0
def za7 (l:List Lk) (c:Int):List Grant:=(l.filter fun k=>k.holder==c).map fun k=>⟨k.name,k.token⟩
def zpo (l:List Grant) (i:Nat):ByteArray:=(l[i - 1]?.map Grant.name).getD .empty
def zcp (l:List Grant) (i:Nat) (g:Grant):Bool:= !(!nameP g.name||decide (g.token<1)||decide (g.token>zaT)||(decide (i>0)&& !(zdh (zpo l i) g.name)))
def zcC (r:Reply):Bool:=
 !(decide (r.code<0)||decide (r.code>12)||decide (r.session<0)||decide (r.session>zaT)||decide (r.ahead<0)||decide (r.ahead>3))&&
 !(decide ((r.held.length:Int)>4)||((r.session==0)&&decide ((r.held.length:Int)>0)))&&zbq (zcp r.held) 0 r.held
def answerB (m:Memo):Bool:=decide (m.client≥0)&&decide (m.client<8)&&decide (m.seq≥1)&&decide (m.seq≤zaT)&&zcC m.reply
def znl (l:List Memo) (i:Nat):Int:=(l[i - 1]?.map Memo.client).getD 0
def zhW (l:List Memo) (i:Nat) (m:Memo):Bool:= !(!answerB m||(decide (i>0)&&decide (znl l i≥m.client)))
def memoB (l:List Memo):Bool:=zbq (zhW l) 0 l
def zbc (l:List Memo) (c seq:Int):Int:=
 match zbe l c with
 |none=>1
 |some m=>if m.seq<seq then 1 else if m.seq=seq then 0 else -1
def zdJ (l:List Memo) (a:Memo):List Memo:=
 if(!answerB a||(zbc l a.client a.seq !=1))=true then l else
 if(zbe l a.client).isSome=true then l.set (zfo l a.client) a else l.take (zfo l a.client)++a::l.drop (zfo l a.client)
def within (n:Int):Bool:=decide (n≥0)&&decide (n≤zaT)
def zhX (s:St):Bool:=s.locks.all fun k=>(k.holder::k.line).all fun c=>(zaC s.sess c).isSome
def zfK (s:St):Bool:=within s.time&&within s.num&&within s.token&&sessB s.sess&&lockB s.locks&&memoB s.memos&&(s.sess.all fun x=>decide (x.num≤s.num))&&(s.locks.all fun k=>decide (k.token≤s.token))&&zhX s
def zbd (s:St) (gone:List Int):St:=⟨s.time,s.num,s.token+(zbW s.locks gone s.token).2,s.sess.filter fun x=> !hasI gone x.client,(zbW s.locks gone s.token).1,s.memos⟩
def zb8 (s:St) (time:Int):Int:=if(decide (time>s.time)&&decide (time≤zaT))=true then time else s.time
def zbk (s:St) (time lease:Int):St:=zbd {s with time:=zb8 s time} (zhU s.sess (zb8 s time) (max lease 1))
def rpl (code session ahead:Int) (held:List Grant):Reply:=⟨code,session,ahead,held⟩
def zbr (s:St) (c:Int):St×Reply:=
 match zaC s.sess c with
 |some x=>(s,⟨7,x.num,0,za7 s.locks c⟩)
 |none=>if(zbR s.sess c (s.num+1) s.time).2≠0 then(s,⟨(zbR s.sess c (s.num+1) s.time).2,0,0,[]⟩)else
  ({s with sess:=(zbR s.sess c (s.num+1) s.time).1,num:=s.num+1},⟨0,s.num+1,0,za7 s.locks c⟩)
def zaV (s:St) (r:Req):St×Reply:=
 if(r.kind==1)=true then zbr s r.client else
 match zaC s.sess r.client with
 |none=>(s,⟨9,0,0,[]⟩)
 |some x=>if(x.num !=r.session)=true then(s,⟨9,0,0,[]⟩)else
  let s1:St:={s with sess:=(zbf s.sess r.client s.time).1}
  if(r.kind==3||r.kind==4)=true then
   let t:=zaH s1.locks r.name r.client s1.token (r.kind==3)
   let s2:St:=if t.2.2=0 then {s1 with locks:=t.1,token:=s1.token+1}else if t.2.2=10 then {s1 with locks:=t.1}else s1
   (s2,⟨t.2.2,x.num,if t.2.2=10 then t.2.1 else 0,za7 s2.locks r.client⟩)
  else if(r.kind==5)=true then
   let t:=za2 s1.locks r.name r.client s1.token
   let s2:St:=if t.2.2=0 then {s1 with locks:=t.1,token:=s1.token+t.2.1}else s1
   (s2,⟨t.2.2,x.num,0,za7 s2.locks r.client⟩)
  else if(r.kind==6)=true then(zbd s1 [r.client],⟨0,0,0,[]⟩)
  else(s1,⟨0,x.num,0,za7 s1.locks r.client⟩)
def za6 (s:St) (r:Req):St×Reply×Bool:=
 if(!Req.may r)=true then(s,⟨1,0,0,[]⟩,false)else
 if zbc s.memos r.client r.seq= -1 then(s,⟨0,0,0,[]⟩,false)else
 if zbc s.memos r.client r.seq=0 then(s,((zbe s.memos r.client).map Memo.reply).getD ⟨0,0,0,[]⟩,false)else
 ({(zaV s r).1 with memos:=zdJ (zaV s r).1.memos ⟨r.client,r.seq,(zaV s r).2⟩},(zaV s r).2,true)
def zv3 (a b:St):List Int:=(a.sess.filter fun x=> !((zaC b.sess x.client).any fun y=>y.num==x.num)).map Sess.client
theorem zj0 {a b:Int}:(zk7 a b==0)=(a==b):=by
 unfold zk7
 split
 ·rw[Bool.eq_iff_iff];simp;omega
 ·split
  ·rw[Bool.eq_iff_iff];simp;omega
  ·rw[Bool.eq_iff_iff];simp;omega
theorem ziz {a b:Int}:zk7 a b<0↔a<b:=by
 unfold zk7
 split
 ·simp;omega
 ·split<;>simp<;>omega
theorem ziA {α:Type} {o:Option α} {p:α→Bool}:(o.filter p).isSome=(o.map p).getD false:=by
 cases o with
 |none=>rfl
 |some x=>simp only[Option.filter,Option.map_some,Option.getD_some];cases p x<;>rfl
theorem zsj (x:Sess) (n:Int):CallOK Tryz.prog 169 [.f (zgq x), .f (.one (.elt [iD n]))] (fun r o=>r=[rb (x.num==n)]∧o=[]):=by
 refine zac zar mixed (T:=Ty) (n:=8) Tryz.func169 (c:=Tryz.f169.body.getD .skip) rfl Tryz.results169 Tryz.ntmps169 Tryz.call169 ?_
 simp only[Tryz.f169,Option.getD]
 repeat'(first|refine zq0 ?_|exact zd0|(refine zaa ?_ ?_<;>intro hb)|(refine And.intro ?_ ?_;exact zI)|(refine And.intro ?_ ?_<;>intro hg)|exact zC|fail)
theorem zkT (l:List Sess) (hl:l.length<2^62) (n:Int):CallOK Tryz.prog 153 [.f (al l.length (zaF l)), .f (ai n)] (fun r o=>r=[rb (numbered l n)]∧o=[]):=by
 refine zac zar mixed (T:=Ty) (n:=8) Tryz.func153 (c:=Tryz.f153.body.getD .skip) rfl Tryz.results153 Tryz.ntmps153 Tryz.call153 ?_
 simp only[Tryz.f153,Option.getD]
 have h:=zh2 l hl (fun x=>x.num==n) 169 [.elt [iD n]] rfl rfl (fun x _=>zsj x n)
 repeat'(first|refine zq0 ?_|exact zd0|refine zc (h) ?_|refine zg (h) ?_|(refine zaa ?_ ?_<;>intro hb)|(refine And.intro ?_ ?_;exact zI)|(refine And.intro ?_ ?_<;>intro hg)|exact zC|fail)
 rfl
theorem zmN (x:Sess) (c:Int):CallOK Tryz.prog 151 [.f (zgq x), .f (ai c)] (fun r o=>r=[ri (zk7 x.client c)]∧o=[]):=by
 refine zac zar mixed (T:=Ty) (n:=9) Tryz.func151 (c:=Tryz.f151.body.getD .skip) rfl Tryz.results151 Tryz.ntmps151 Tryz.call151 ?_
 simp only[Tryz.f151,Option.getD]
 repeat'(first|refine zq0 ?_|exact zd0|refine zc (zdy x.client c) ?_|refine zg (zdy x.client c) ?_|(refine zaa ?_ ?_<;>intro hb)|(refine And.intro ?_ ?_;exact zI)|(refine And.intro ?_ ?_<;>intro hg)|exact zC|fail)
theorem zgR (l:List Sess) (hs:SS l) (hl:l.length<2^62) (c:Int):CallOK Tryz.prog 120 [.f (al l.length (zaF l)), .f (ai c)] (fun r o=>r=[ri (zdf l c),rb (zaC l c).isSome]∧o=[]):=by
 refine zac zar mixed (T:=Ty) (n:=11) Tryz.func120 (c:=Tryz.f120.body.getD .skip) rfl Tryz.results120 Tryz.ntmps120 Tryz.call120 ?_
 simp only[Tryz.f120,Option.getD]
 have h:=zi4 l hl c (fun x=>zk7 x.client c) 151 (zdf l c) zb9
  (fun j hj h=>by have:=zfs hj h;simp at this;exact ziz.2 this)
  (fun j hj h=>by have:=zft hj (zkw hs c) h;simp at this;have h2:= @ziz l[j].client c;omega) (fun x _=>zmN x c)
 have e:((l[zdf l c]?.map fun x=>zk7 x.client c==0).getD false)=(zaC l c).isSome:=by
  rw[zgo hs,ziA]
  simp only[zj0]
 rw[e]at h
 repeat'(first|refine zq0 ?_|exact zd0|refine zc (h) ?_|refine zg (h) ?_|(refine zaa ?_ ?_<;>intro hb)|(refine And.intro ?_ ?_;exact zI)|(refine And.intro ?_ ?_<;>intro hg)|exact zC|fail)
theorem zlR {a b a' b':RO}:zbg [.one a, .one b] [.one a', .one b']=(zaY a a'∧zaY b b'∧True):=rfl
def zdI:Sess:=⟨0,0,0⟩
theorem zlS (l:List Sess) (hs:SS l) (hl:l.length<2^62) (c:Int):CallOK Tryz.prog 80 [.f (al l.length (zaF l)), .f (ai c)]
  (fun r o=>r=[.agg [.d (iD ((zaC l c).getD zdI).client), .d (iD ((zaC l c).getD zdI).num), .d (iD ((zaC l c).getD zdI).renewed)],rb (zaC l c).isSome]∧o=[]):=by
 refine zac zar mixed (T:=Ty) (n:=20) Tryz.func80 (c:=Tryz.f80.body.getD .skip) rfl Tryz.results80 Tryz.ntmps80 Tryz.call80 ?_
 simp only[Tryz.f80,Option.getD]
 have h:=zgR l hs hl c
 cases hf:zaC l c with
 |none=>
  rw[hf]at h
  simp only[Option.isSome_none]at h
  repeat'(first|refine zq0 ?_|exact zd0|refine zc (h) ?_|refine zg (h) ?_|(refine zaa ?_ ?_<;>intro hb)|(refine And.intro ?_ ?_;exact zI)|(refine And.intro ?_ ?_<;>intro hg)|exact zC|fail)
  rfl
 |some x=>
  rw[hf]at h
  simp only[Option.isSome_some]at h
  rw[zgo hs]at hf
  have hg:l[zdf l c]? =some x:=by
   cases hq:l[zdf l c]? with
   |none=>rw[hq]at hf;simp at hf
   |some y=>rw[hq]at hf;simp only[Option.filter]at hf;split at hf<;>simp_all
  obtain⟨hi,he⟩:=List.getElem?_eq_some_iff.1 hg
  have hat:=zbs hi
  rw[he]at hat
  simp only[List.cons_append,List.nil_append]at hat
  repeat'(first|refine zq (I hat @zai) ?_|exact zd (I hat @zai)|refine zc (h) ?_|refine zg (h) ?_|(refine zaa ?_ ?_<;>intro hb)|(refine And.intro ?_ ?_;exact zI)|(refine And.intro ?_ ?_<;>intro hg)|exact zC|fail)
  rfl
theorem ztl (l:List Sess) (hl:l.length<2^30) (now lease:Int) (hr:∀s∈l,0≤s.renewed∧s.renewed≤zaT):CallOK Tryz.prog 40 [.f (al l.length (zaF l)), .f (ai now), .f (ai lease)]
  (fun r o=>r=[zeC (zhU l now lease)]∧o=[]):=by
 refine CallOK.nil ?_
 refine zac zar mixed (T:=Ty) (n:=43) Tryz.func40 (c:=Tryz.f40.body.getD .skip) rfl Tryz.results40 Tryz.ntmps40 Tryz.call40 ?_
 simp only[Tryz.f40,Option.getD]
 cases hc:(decide (now<0)||decide (now>zaT)||decide (lease<0)||decide (lease>zaT))
 ·have hd:zhU l now lease=(l.filter fun s=>decide (now - s.renewed≥lease)).map Sess.client:=by rw[zhU,if_neg (by rw[hc];simp)]
  rw[hd]
  have hn:0≤now∧now≤zaT:=by simp at hc;omega
  repeat'(first|refine zq (I hc @zai) ?_|exact zd (I hc @zai)|(refine zaa ?_ ?_<;>intro hb)|(refine And.intro ?_ ?_;exact zI)|(refine And.intro ?_ ?_<;>intro hg)|exact zC|fail)
  refine zao (τ:=Nat×List Int) (fun t=>⟨[dd,ai now,ai lease,dd,dd,dd,dd, .one (.own ⟨7,1,1⟩ 0 t.2.length),dd,dd,dd,dd,dd,dd,dd,dd,dd,dd,dd,dd,dd,dd,dd,dd,al l.length (zaF l),ai l.length,ai t.1,dd,dd,dd,dd,dd,dd,dd,dd,dd,dd,dd,dd,dd,dd,dd,dd],[(7,{next:=2,l:=[none,some {e:=1,var:=false,fz:=false,sz:=1,cells:=(zat t.2).map C.d}]}),(9,⟨2,[]⟩),(39,⟨2,[]⟩),(40,⟨2,[]⟩)]⟩)
   (fun t=>t.1≤l.length∧t.2.length≤t.1) (fun t=>t.2++((l.drop t.1).filter fun s=>decide (now - s.renewed≥lease)).map Sess.client) (fun t=>l.length - t.1) (0,[])
   ((Gh.nil (i:=7) (s:=7) (sz:=1) rfl).trans (Gh.canon [7] [9,39,40] [] zK rfl rfl)) ⟨Nat.zero_le _,Nat.zero_le _⟩ ?_
  intro⟨i,acc⟩ ⟨hi0,ha⟩ hF K hK
  simp only[List.drop_zero,List.nil_append]at hi0 ha hF hK⊢
  refine zw ?_
  refine zaa (fun hlt=> ?_) (fun hge=> ?_)
  ·have hi:i<l.length:=by simpa using hlt
   have hat:=zbs hi
   simp only[List.cons_append,List.nil_append]at hat
   have hw:=zan hi (by omega)
   have hrb:=hr _ (List.getElem_mem hi)
   have hH:zaT=2305843009213693952:=rfl
   have hw2:IntKind.i64.wrap (now - l[i].renewed)=now - l[i].renewed:=wrap64 (by omega) (by omega)
   have hFs:((l.drop i).filter fun s=>decide (now - s.renewed≥lease)).map Sess.client=if decide (now - l[i].renewed≥lease)=true then l[i].client::((l.drop (i+1)).filter fun s=>decide (now - s.renewed≥lease)).map Sess.client else((l.drop (i+1)).filter fun s=>decide (now - s.renewed≥lease)).map Sess.client:=by
    rw[List.drop_eq_getElem_cons hi,List.filter_cons]
    split<;>simp
   cases hb:decide (now - l[i].renewed≥lease)
   ·rw[hb,if_neg (by simp)]at hFs
    repeat'(first|refine zq (I hat (I @zai (I hw2 hb))) ?_|exact zd (I hat (I @zai (I hw2 hb)))|(refine zaa ?_ ?_<;>intro hb)|(refine And.intro ?_ ?_;exact zI)|(refine And.intro ?_ ?_<;>intro hg)|exact zC|fail)
    exact hK _ (i+1,acc) (Gh.canon [7] [] [] (zk hw) rfl rfl) ⟨hi,by simp only;omega⟩ (by simp only;rw[hFs]) (by simp only;omega)
   ·rw[hb,if_pos rfl]at hFs
    repeat'(first|refine zq (I hat (I @zai (I hw2 hb))) ?_|exact zd (I hat (I @zai (I hw2 hb)))|(refine zaa ?_ ?_<;>intro hb)|(refine And.intro ?_ ?_;exact zI)|(refine And.intro ?_ ?_<;>intro hg)|exact zC|fail)
    exact hK _ (i+1,acc++[l[i].client]) (Gh.canon [7] [] [] (zk (I hw (I @List.length_append.{0} @List.length_singleton.{0}))) rfl (by simp only[List.length_append,List.length_singleton];rw[zfy];rfl)) ⟨hi,by simp only[List.length_append,List.length_singleton];omega⟩ (by simp only[List.append_assoc,List.singleton_append];rw[hFs]) (by simp only;omega)
  ·have hi:i=l.length:=by
    have:¬(i:Int)<l.length:=by simpa using hge
    omega
   rw[hi,List.drop_length,List.filter_nil,List.map_nil,List.append_nil]at hF
   rw[←hF]
   repeat'(first|refine zq0 ?_|exact zd0|(refine zaa ?_ ?_<;>intro hb)|(refine And.intro ?_ ?_;exact zI)|(refine And.intro ?_ ?_<;>intro hg)|exact zC|fail)
   simp[zgZ,zaY,zeC]
 ·have hd:zhU l now lease=[]:=by rw[zhU,if_pos hc]
  rw[hd]
  repeat'(first|refine zq hc ?_|exact zd hc|(refine zaa ?_ ?_<;>intro hb)|(refine And.intro ?_ ?_;exact zI)|(refine And.intro ?_ ?_<;>intro hg)|exact zC|fail)
  simp[zgZ,zaY,zeC]
set_option maxHeartbeats 4000000 in
theorem zsk (l:List Sess) (hs:SS l) (hl:l.length<2^30) (c num now:Int) (hc:isClient c=true) (h1:1≤num) (hn:0≤now∧now≤zaT) (hf:zaC l c=none) (hnum:numbered l num=false):
  CallOK Tryz.prog 121 [.f (al l.length (zaF l)), .f (ai c), .f (ai num), .f (ai now)]
  (fun r o=>r=[.one (.own 3 (zbR l c num now).1.length (zaF (zbR l c num now).1) false),ri (zbR l c num now).2]∧o=[]):=by
 refine CallOK.nil ?_
 refine zac zar mixed (T:=Ty) (n:=76) Tryz.func121 (c:=Tryz.f121.body.getD .skip) rfl Tryz.results121 Tryz.ntmps121 Tryz.call121 ?_
 simp only[Tryz.f121,Option.getD]
 have hp:=zgR l hs (by omega) c
 have hcl:=zhZ c
 rw[show(decide (c≥0)&&decide (c<8))=true from hc]at hcl
 have hnb:=zkT l (by omega) num
 rw[hnum]at hnb
 rw[hf]at hp
 simp only[Option.isSome_none]at hp
 have hcn:=zea l.length (zaF l) zai (by omega)
 have e1:decide (num<1)=false:=by simp;omega
 have e2:decide (now<0)=false:=by simp;omega
 have e3:decide (now>2305843009213693952)=false:=by have:zaT=2305843009213693952:=rfl;simp;omega
 have hin:=zmn l.length (zdf l c) (zaF l) [iD c,iD num,iD now] zai rfl zb9 hl
 have eo:zbR l c num now=if decide (num>zaT)=true then([],1)else if decide ((l.length:Int)≥5)=true then([],5)else(l.take (zdf l c)++⟨c,num,now⟩::l.drop (zdf l c),0):=by
  unfold zbR
  rw[hf,hnum,hc,e1,e2,e3]
  cases decide (num>zaT)<;>simp
 rw[eo]
 have hd:(zaF l).drop (zdf l c*3)=[]∨∃n1 n2 n3 q,(zaF l).drop (zdf l c*3)=iD n1::iD n2::iD n3::q:=by
  rcases Nat.lt_or_ge (zdf l c) l.length with h|h
  ·exact .inr ⟨_,_,_,_,zbs h⟩
  ·exact .inl (List.drop_of_length_le (by rw[zai];omega))
 have hti:=zkz Sess.enc 3 (fun _=>rfl) (l:=l) (k:=zdf l c) zb9 ⟨c,num,now⟩
 have htl:=zh0 (l:=l) (k:=zdf l c) zb9 ⟨c,num,now⟩
 cases e4:decide (num>2305843009213693952)
 ·rw[if_neg (by simp)]
  cases e5:decide ((l.length:Int)≥5)
  ·rw[if_neg (by simp)]
   simp only[hti,htl]
   rcases hd with hat|⟨n1,n2,n3,q,hat⟩
   ·rw[hat]at hin
    repeat'(first|refine zq (I @zai (I @List.drop_nil.{0} (I hat (I e1 (I e2 (I e3 (I e4 e5))))))) ?_|exact zd (I @zai (I @List.drop_nil.{0} (I hat (I e1 (I e2 (I e3 (I e4 e5)))))))|refine zc (hp) ?_|refine zg (hp) ?_|refine zc (hcl) ?_|refine zg (hcl) ?_|refine zc (hnb) ?_|refine zg (hnb) ?_|refine zc (hcn) ?_|refine zg (hcn) ?_|(refine zaa ?_ ?_<;>intro hb)|(refine And.intro ?_ ?_;exact zI)|(refine And.intro ?_ ?_<;>intro hg)|exact zC|fail)
    refine zbK (mv:= ?mv1) (lent:= ?le1) 0 ?ha1 (hin) ?hb1 ?hc1
    case ha1=>(try simp only[zB,zaE,Nat.reduceSub,Nat.reduceEqDiff,Nat.reduceAdd,Nat.reduceMul,Nat.reduceLeDiff,Nat.reduceLT,Nat.reduceBEq,reduceCtorEq]);exact rfl
    case hb1=>(try simp only[zB,scM,Nat.reduceSub,Nat.reduceEqDiff,Nat.reduceAdd,Nat.reduceMul,Nat.reduceLeDiff,Nat.reduceLT,Nat.reduceBEq,reduceCtorEq]);repeat'(first|rfl|trivial|omega|with_reducible refine And.intro ?_ ?_)
    show aops _ _ _ _ _ _ _ _
    repeat'(first|refine zq hat ?_|exact zd hat|(refine zaa ?_ ?_<;>intro hb)|(refine And.intro ?_ ?_;exact zI)|(refine And.intro ?_ ?_<;>intro hg)|exact zC|fail)
    simp[zlR,zaY]
   ·rw[hat]at hin
    repeat'(first|refine zq (I @zai (I hat (I e1 (I e2 (I e3 (I e4 e5)))))) ?_|exact zd (I @zai (I hat (I e1 (I e2 (I e3 (I e4 e5))))))|refine zc (hp) ?_|refine zg (hp) ?_|refine zc (hcl) ?_|refine zg (hcl) ?_|refine zc (hnb) ?_|refine zg (hnb) ?_|refine zc (hcn) ?_|refine zg (hcn) ?_|(refine zaa ?_ ?_<;>intro hb)|(refine And.intro ?_ ?_;exact zI)|(refine And.intro ?_ ?_<;>intro hg)|exact zC|fail)
    refine zbK (mv:= ?mv2) (lent:= ?le2) 0 ?ha2 (hin) ?hb2 ?hc2
    case ha2=>(try simp only[zB,zaE,Nat.reduceSub,Nat.reduceEqDiff,Nat.reduceAdd,Nat.reduceMul,Nat.reduceLeDiff,Nat.reduceLT,Nat.reduceBEq,reduceCtorEq]);exact rfl
    case hb2=>(try simp only[zB,scM,Nat.reduceSub,Nat.reduceEqDiff,Nat.reduceAdd,Nat.reduceMul,Nat.reduceLeDiff,Nat.reduceLT,Nat.reduceBEq,reduceCtorEq]);repeat'(first|rfl|trivial|omega|with_reducible refine And.intro ?_ ?_)
    show aops _ _ _ _ _ _ _ _
    repeat'(first|refine zq hat ?_|exact zd hat|(refine zaa ?_ ?_<;>intro hb)|(refine And.intro ?_ ?_;exact zI)|(refine And.intro ?_ ?_<;>intro hg)|exact zC|fail)
    simp[zlR,zaY]
  ·rw[if_pos rfl]
   rcases hd with hat|⟨n1,n2,n3,q,hat⟩
   ·repeat'(first|refine zq (I @zai (I @List.drop_nil.{0} (I hat (I e1 (I e2 (I e3 (I e4 e5))))))) ?_|exact zd (I @zai (I @List.drop_nil.{0} (I hat (I e1 (I e2 (I e3 (I e4 e5)))))))|refine zc (hp) ?_|refine zg (hp) ?_|refine zc (hcl) ?_|refine zg (hcl) ?_|refine zc (hnb) ?_|refine zg (hnb) ?_|refine zc (hcn) ?_|refine zg (hcn) ?_|(refine zaa ?_ ?_<;>intro hb)|(refine And.intro ?_ ?_;exact zI)|(refine And.intro ?_ ?_<;>intro hg)|exact zC|fail)
    simp[zlR,zaY]
   ·repeat'(first|refine zq (I @zai (I hat (I e1 (I e2 (I e3 (I e4 e5)))))) ?_|exact zd (I @zai (I hat (I e1 (I e2 (I e3 (I e4 e5))))))|refine zc (hp) ?_|refine zg (hp) ?_|refine zc (hcl) ?_|refine zg (hcl) ?_|refine zc (hnb) ?_|refine zg (hnb) ?_|refine zc (hcn) ?_|refine zg (hcn) ?_|(refine zaa ?_ ?_<;>intro hb)|(refine And.intro ?_ ?_;exact zI)|(refine And.intro ?_ ?_<;>intro hg)|exact zC|fail)
    simp[zlR,zaY]
 ·rw[if_pos rfl]
  rcases hd with hat|⟨n1,n2,n3,q,hat⟩
  ·repeat'(first|refine zq (I @zai (I @List.drop_nil.{0} (I hat (I e1 (I e2 (I e3 e4)))))) ?_|exact zd (I @zai (I @List.drop_nil.{0} (I hat (I e1 (I e2 (I e3 e4))))))|refine zc (hp) ?_|refine zg (hp) ?_|refine zc (hcl) ?_|refine zg (hcl) ?_|refine zc (hnb) ?_|refine zg (hnb) ?_|refine zc (hcn) ?_|refine zg (hcn) ?_|(refine zaa ?_ ?_<;>intro hb)|(refine And.intro ?_ ?_;exact zI)|(refine And.intro ?_ ?_<;>intro hg)|exact zC|fail)
   simp[zlR,zaY]
  ·repeat'(first|refine zq (I @zai (I hat (I e1 (I e2 (I e3 e4))))) ?_|exact zd (I @zai (I hat (I e1 (I e2 (I e3 e4)))))|refine zc (hp) ?_|refine zg (hp) ?_|refine zc (hcl) ?_|refine zg (hcl) ?_|refine zc (hnb) ?_|refine zg (hnb) ?_|refine zc (hcn) ?_|refine zg (hcn) ?_|(refine zaa ?_ ?_<;>intro hb)|(refine And.intro ?_ ?_;exact zI)|(refine And.intro ?_ ?_<;>intro hg)|exact zC|fail)
   simp[zlR,zaY]
theorem zqk (l:List Sess) (hs:SS l) (hl:l.length<2^30) (c now:Int) (hn:0≤now∧now≤zaT) (hf:(zaC l c).isSome=true):CallOK Tryz.prog 82 [.f (al l.length (zaF l)), .f (ai c), .f (ai now)]
  (fun r o=>r=[.one (.own 3 (zbf l c now).1.length (zaF (zbf l c now).1) false),ri (zbf l c now).2]∧o=[]):=by
 refine CallOK.nil ?_
 refine zac zar mixed (T:=Ty) (n:=39) Tryz.func82 (c:=Tryz.f82.body.getD .skip) rfl Tryz.results82 Tryz.ntmps82 Tryz.call82 ?_
 simp only[Tryz.f82,Option.getD]
 have hp:=zgR l hs (by omega) c
 have hcn:=zea l.length (zaF l) zai (by omega)
 obtain⟨x,hx⟩:=Option.isSome_iff_exists.1 hf
 obtain⟨⟨hi,he⟩,hc⟩:=zfY hs hx
 rw[hf]at hp
 have e2:decide (now<0)=false:=by simp;omega
 have e3:decide (now>2305843009213693952)=false:=by have:zaT=2305843009213693952:=rfl;simp;omega
 have hat:=zbs hi
 rw[he]at hat
 simp only[List.cons_append,List.nil_append]at hat
 have hat2:(zaF l).drop (zdf l c*3+2)=iD x.renewed::zaF (l.drop (zdf l c+1)):=by rw[←List.drop_drop,hat];rfl
 have hset:=zbP Sess.enc 3 (fun _=>rfl) hi (k:=2) (by decide) (iD (max x.renewed now)) ⟨x.client,x.num,max x.renewed now⟩ (by rw[he];rfl)
 have hr:zbf l c now=(l.set (zdf l c) ⟨x.client,x.num,max x.renewed now⟩,0):=by
  unfold zbf
  rw[if_neg (by simp;omega),hx]
 rw[hr]
 repeat'(first|refine zq (I @zai (I e2 (I e3 (I hat2 (I hset (I @zmd @List.map_cons.{0,0})))))) ?_|exact zd (I @zai (I e2 (I e3 (I hat2 (I hset (I @zmd @List.map_cons.{0,0}))))))|refine zc (hp) ?_|refine zg (hp) ?_|refine zc (hcn) ?_|refine zg (hcn) ?_|(refine zaa ?_ ?_<;>intro hb)|(refine And.intro ?_ ?_;exact zI)|(refine And.intro ?_ ?_<;>intro hg)|exact zC|fail)
 simp[zlR,zaY]
end Go.Proofs.YtngleemijkaeoaaGreat
