import Derived.Test.YtngleemijkaeoaaGreatK9
import Derived.Test.YtngleemijkaeoaaGreatE
namespace Go.Proofs.YtngleemijkaeoaaGreat
open Go.Pk
set_option maxRecDepth 100000
set_option linter.unusedSimpArgs false
set_option linter.unusedVariables false
theorem zdF (l:List Int) (hl:l.length<2^62) (v:Int):CallOK Tryz.prog 117 [.f (al l.length (zaw l)), .f (ai v)] (fun r o=>r=[ri (zck (fun x=>v==x) l 0)]∧o=[]):=by
 refine zac zar mixed (T:=Ty) (n:=19) Tryz.func117 (c:=Tryz.f117.body.getD .skip) rfl Tryz.results117 Tryz.ntmps117 Tryz.call117 ?_
 simp only[Tryz.f117,Option.getD]
 refine zw ?_
 refine zao (τ:=Nat) (fun i=>⟨[al l.length (zaw l),ai v,dd,dd,ai 0,dd,al l.length (zaw l),ai l.length,ai i,dd,dd,dd,dd,dd,dd,dd,dd,dd,dd],[]⟩) (fun i=>i≤l.length) (fun i=>zck (fun x=>v==x) (l.drop i) i) (fun i=>l.length - i) 0 (Gh.fgt ?_) (Nat.zero_le _) ?_
 ·simp only[zaR,zaS,za5,Int.natCast_zero]
 intro i hi0 hF K hK
 refine zw ?_
 refine zaa (fun hlt=> ?_) (fun hge=> ?_)
 ·have hi:i<l.length:=by simpa using hlt
  rw[List.drop_eq_getElem_cons hi,zck]at hF
  have hat:=zcN hi
  simp only[List.cons_append,List.nil_append]at hat
  have hw:=zan hi hl
  clear hlt
  repeat'(first|refine zq (I @zah hat) ?_|exact zd (I @zah hat)|(refine zaa ?_ ?_<;>intro hb)|(refine And.intro ?_ ?_;exact zI)|(refine And.intro ?_ ?_<;>intro hg)|exact zC|fail)
  ·rw[if_pos hb]at hF
   rw[hF];rfl
  ·rw[if_neg (by simp[hb])]at hF
   refine hK _ (i+1) (Gh.fgt ?_) hi (by simp only[List.drop_eq_getElem_cons hi,zck];rw[if_neg (by simp[hb])];rfl) (by omega)
   simp only[hw,zaR,zaS,za5]
 ·have hi:i=l.length:=by
   have:¬(i:Int)<l.length:=by simpa using hge
   omega
  rw[hi,List.drop_length,zck]at hF
  refine zw ?_
  rw[hF];rfl
theorem zbk (l:List Int) (hl:l.length<2^62) (v:Int):CallOK Tryz.prog 78 [.f (al l.length (zaw l)), .f (ai v)] (fun r o=>r=[rb (l.any fun x=>v==x)]∧o=[]):=by
 refine zac zar mixed (T:=Ty) (n:=9) Tryz.func78 (c:=Tryz.f78.body.getD .skip) rfl Tryz.results78 Tryz.ntmps78 Tryz.call78 ?_
 simp only[Tryz.f78,Option.getD]
 repeat'(first|with_reducible refine zab _ _ ?_|rw[zaj]|simp only[zB,Nat.reduceSub,Nat.reduceEqDiff,Nat.reduceAdd,Nat.reduceMul,Nat.reduceLeDiff,Nat.reduceLT,Nat.reduceBEq,reduceCtorEq]|((first|((try refine zax ?_);apply zaA)|(apply zaB;intro _));(solve|exact(zdF l hl v)|(refine CallOK.le (zdF l hl v) ?_;exact zM)|fail);try case hn=>rfl)|refine zal ?_|refine zaa (fun hb=> ?_) (fun hb=> ?_)|(refine And.intro ?_ ?_;exact zI)|refine And.intro (fun hg=> ?_) (fun hg=> ?_)|exact zC|fail)
 rw[zdu]
theorem zgS (v:Int):CallOK Tryz.prog 145 [.f (ai v)] (fun r o=>r=[rb false]∧o=[]):=by
 refine zac zar mixed (T:=Ty) (n:=6) Tryz.func145 (c:=Tryz.f145.body.getD .skip) rfl Tryz.results145 Tryz.ntmps145 Tryz.call145 ?_
 simp only[Tryz.f145,Option.getD]
 repeat'(first|with_reducible refine zab _ _ ?_|rw[zaj]|simp only[zB,bne_self_eq_false,Nat.reduceSub,Nat.reduceEqDiff,Nat.reduceAdd,Nat.reduceMul,Nat.reduceLeDiff,Nat.reduceLT,Nat.reduceBEq,reduceCtorEq]|refine zal ?_|refine zaa (fun hb=> ?_) (fun hb=> ?_)|(refine And.intro ?_ ?_;exact zI)|refine And.intro (fun hg=> ?_) (fun hg=> ?_)|exact zC|fail)
def zmM (a b:Int):Int:=if a<b then -1 else if a>b then 1 else 0
theorem zd1 (a b:Int):CallOK Tryz.prog 112 [.f (ai a), .f (ai b)] (fun r o=>r=[ri (zmM a b)]∧o=[]):=by
 refine zac zar mixed (T:=Ty) (n:=20) Tryz.func112 (c:=Tryz.f112.body.getD .skip) rfl Tryz.results112 Tryz.ntmps112 Tryz.call112 ?_
 simp only[Tryz.f112,Option.getD]
 repeat'(first|refine zq0 ?_|exact zd0|refine zc (zgS a) ?_|refine zg (zgS a) ?_|refine zc (zgS b) ?_|refine zg (zgS b) ?_|(refine zaa ?_ ?_<;>intro hb)|(refine And.intro ?_ ?_;exact zI)|(refine And.intro ?_ ?_<;>intro hg)|exact zC|fail)
 all_goals simp only[decide_eq_true_eq,decide_eq_false_iff_not]at*
 ·unfold zmM;rw[if_pos (by assumption)]
 ·unfold zmM;rw[if_neg (by assumption),if_pos (by assumption)]
 ·unfold zmM;rw[if_neg (by assumption),if_neg (by assumption)]
theorem zd2 (n:Int):CallOK Tryz.prog 160 [.f (ai n)] (fun r o=>r=[rb (decide (n≥0)&&decide (n<8))]∧o=[]):=by
 refine zac zar mixed (T:=Ty) (n:=9) Tryz.func160 (c:=Tryz.f160.body.getD .skip) rfl Tryz.results160 Tryz.ntmps160 Tryz.call160 ?_
 simp only[Tryz.f160,Option.getD]
 repeat'(first|refine zq0 ?_|exact zd0|(refine zaa ?_ ?_<;>intro hb)|(refine And.intro ?_ ?_;exact zI)|(refine And.intro ?_ ?_<;>intro hg)|exact zC|fail)
theorem zfw (n:Int):CallOK Tryz.prog 152 [.f (ai n)] (fun r o=>r=[rb (decide (n≥0)&&decide (n<8))]∧o=[]):=by
 refine zac zar mixed (T:=Ty) (n:=9) Tryz.func152 (c:=Tryz.f152.body.getD .skip) rfl Tryz.results152 Tryz.ntmps152 Tryz.call152 ?_
 simp only[Tryz.f152,Option.getD]
 repeat'(first|refine zq0 ?_|exact zd0|(refine zaa ?_ ?_<;>intro hb)|(refine And.intro ?_ ?_;exact zI)|(refine And.intro ?_ ?_<;>intro hg)|exact zC|fail)
def isClient (n:Int):Bool:=decide (n≥0)&&decide (n<8)
def hasI (l:List Int) (v:Int):Bool:=l.any fun x=>v==x
theorem zrb (l:List Int) (hl:l.length<2^62) (c:Int):CallOK Tryz.prog 124 [.f (al l.length (zaw l)), .f (ai c)]
  (fun r o=>r=[ri (if zck (fun x=>c==x) l 0≥0 then zck (fun x=>c==x) l 0 else 0),rb (hasI l c)]∧o=[]):=by
 refine zac zar mixed (T:=Ty) (n:=13) Tryz.func124 (c:=Tryz.f124.body.getD .skip) rfl Tryz.results124 Tryz.ntmps124 Tryz.call124 ?_
 simp only[Tryz.f124,Option.getD]
 have hh:=zdu (fun x=>c==x) l
 repeat'(first|refine zq0 ?_|exact zd0|refine zc (zdF l hl c) ?_|refine zg (zdF l hl c) ?_|(refine zaa ?_ ?_<;>intro hb)|(refine And.intro ?_ ?_;exact zI)|(refine And.intro ?_ ?_<;>intro hg)|exact zC|fail)
 ·rw[hb]at hh
  unfold hasI
  rw[←hh,if_pos (by simpa using hb)]
 ·rw[hb]at hh
  unfold hasI
  rw[←hh,if_neg (by simpa using hb)]
theorem zfx {a b c a' b' c':RO}:zbj [.one a, .one b, .one c] [.one a', .one b', .one c']=(za4 a a'∧za4 b b'∧za4 c c'∧True):=rfl
def zfc (l:List Int):RF:= .one (.own 1 l.length (zaw l) false)
def zdn (l:List Int) (c:Int):List Int×Int×Int:=
 if(!isClient c)=true then([],0,1)else if hasI l c=true then([],0,7)else if decide ((l.length:Int)≥3)=true then([],0,5)else(l++[c],l.length,0)
theorem zte (l:List Int) (hl:l.length<2^30) (c:Int):CallOK Tryz.prog 125 [.f (al l.length (zaw l)), .f (ai c)]
  (fun r o=>r=[zfc (zdn l c).1,ri (zdn l c).2.1,ri (zdn l c).2.2]∧o=[]):=by
 refine CallOK.nil ?_
 refine zac zar mixed (T:=Ty) (n:=26) Tryz.func125 (c:=Tryz.f125.body.getD .skip) rfl Tryz.results125 Tryz.ntmps125 Tryz.call125 ?_
 simp only[Tryz.f125,Option.getD]
 have hcl:=zc5 l.length (zaw l) zah (by omega)
 repeat'(first|refine zq @zah ?_|exact zd @zah|refine zc (zd2 c) ?_|refine zg (zd2 c) ?_|refine zc (zbk l (by omega) c) ?_|refine zg (zbk l (by omega) c) ?_|refine zc (hcl) ?_|refine zg (hcl) ?_|(refine zaa ?_ ?_<;>intro hb)|(refine And.intro ?_ ?_;exact zI)|(refine And.intro ?_ ?_<;>intro hg)|exact zC|fail)
 all_goals unfold isClient zdn hasI isClient at*
 ·rw[if_pos hb];simp[zfx,zfc,za4]
 ·rename_i hc
  rw[if_neg (by rw[hc];simp),if_pos hb];simp[zfx,zfc,za4]
 ·rename_i hc hh
  rw[if_neg (by rw[hc];simp),if_neg (by rw[hh];simp),if_pos hb];simp[zfx,zfc,za4]
 ·rename_i hc hh
  rw[if_neg (by rw[hc];simp),if_neg (by rw[hh];simp),if_neg (by rw[hb];simp)];simp[zfx,zfc,za4]
theorem zo8 {l:List Int} {i:Nat} (hi:i≤l.length):(zaw l).drop i=zaw (l.drop i):=by have:=zhq (fun n=>[iD n]) 1 (fun _=>rfl) hi;rwa[Nat.mul_one]at this
theorem zkv {l:List Int} {i:Nat} (hi:i≤l.length):(zaw l).take i=zaw (l.take i):=by have:=zc8 (fun n=>[iD n]) 1 (fun _=>rfl) hi;rwa[Nat.mul_one]at this
def zcu (l:List Int) (c:Int):List Int×Bool:=if zck (fun x=>c==x) l 0<0 then(l,false)else(l.eraseIdx (zck (fun x=>c==x) l 0).toNat,true)
theorem zrc (l:List Int) (hl:l.length<2^30) (c:Int):CallOK Tryz.prog 126 [.f (al l.length (zaw l)), .f (ai c)]
  (fun r o=>r=[zfc (zcu l c).1,rb (zcu l c).2]∧o=[]):=by
 refine zac zar mixed (T:=Ty) (n:=20) Tryz.func126 (c:=Tryz.f126.body.getD .skip) rfl Tryz.results126 Tryz.ntmps126 Tryz.call126 ?_
 simp only[Tryz.f126,Option.getD]
 have hcl:=zc5 l.length (zaw l) zah (by omega)
 rcases zd4 (fun x=>c==x) l 0 with⟨h1,h2⟩|⟨k,hk,h1,h2,h3⟩
 ·have hi:=zdF l (by omega) c
  rw[show((0:Nat):Int)=0 from rfl]at h2
  rw[h2]at hi
  have hlt:decide ((-1:Int)<0)=true:=rfl
  repeat'(first|refine zq (I @zah hlt) ?_|exact zd (I @zah hlt)|refine zc (hi) ?_|refine zg (hi) ?_|refine zc (hcl) ?_|refine zg (hcl) ?_|(refine zaa ?_ ?_<;>intro hb)|(refine And.intro ?_ ?_;exact zI)|(refine And.intro ?_ ?_<;>intro hg)|exact zC|fail)
  unfold zcu
  rw[h2,if_pos (by decide)]
  rfl
 ·have hi:=zdF l (by omega) c
  rw[show((0:Nat):Int)=0 from rfl,Nat.zero_add]at h1
  rw[h1]at hi
  have hlt:decide ((k:Int)<0)=false:=by simp
  have hw:=zan hk (by omega)
  obtain⟨n,hn⟩:∃n,l.length=n+1:=⟨l.length - 1,by omega⟩
  have hdl:=zpa n k (zaw l) (by rw[zah,hn]) (by omega) (by omega)
  rw[hn]at hi hcl hk
  have hll:(zaw l).length=n+1:=by rw[zah,hn]
  rw[hn]
  repeat'(first|refine zq (I hlt (I hw hll)) ?_|exact zd (I hlt (I hw hll))|refine zc (hi) ?_|refine zg (hi) ?_|refine zc (hcl) ?_|refine zg (hcl) ?_|(refine zaa ?_ ?_<;>intro hb)|(refine And.intro ?_ ?_;exact zI)|(refine And.intro ?_ ?_<;>intro hg)|exact zC|fail)
  refine zbT (mv:= ?mv1) (lent:= ?le1) 0 ?ha1 (hdl) ?hb1 ?hc1
  case ha1=>(try simp only[zB,zaG,Nat.reduceSub,Nat.reduceEqDiff,Nat.reduceAdd,Nat.reduceMul,Nat.reduceLeDiff,Nat.reduceLT,Nat.reduceBEq,reduceCtorEq]);exact rfl
  case hb1=>(try simp only[zB,scM,Nat.reduceSub,Nat.reduceEqDiff,Nat.reduceAdd,Nat.reduceMul,Nat.reduceLeDiff,Nat.reduceLT,Nat.reduceBEq,reduceCtorEq]);repeat'(first|rfl|trivial|omega|with_reducible refine And.intro ?_ ?_)
  show aops _ _ _ _ _ _ _ _
  repeat'(first|refine zq0 ?_|exact zd0|(refine zaa ?_ ?_<;>intro hb)|(refine And.intro ?_ ?_;exact zI)|(refine And.intro ?_ ?_<;>intro hg)|exact zC|fail)
  unfold zcu
  rw[h1,if_neg (by omega),Int.toNat_natCast]
  have he:(l.eraseIdx k).length=n:=by rw[List.length_eraseIdx];split<;>omega
  have hx:zaw (l.eraseIdx k)=List.take k (zaw l)++List.drop (k+1) (zaw l):=by
   rw[List.eraseIdx_eq_take_drop_succ,zkv (by omega),zo8 (by omega)]
   simp[zaw]
  simp only[zfc,he,hx]
def zaY (l gone:List Int):List Int:=l.filter fun c=> !hasI gone c
theorem zl9 (gone:List Int) (hg:gone.length<2^62) (c:Int):CallOK Tryz.prog 147 [.f (ai c), .f (.one (.eltR [.lent gone.length (zaw gone)]))] (fun r o=>r=[rb (hasI gone c)]∧o=[]):=by
 refine zac zar mixed (T:=Ty) (n:=7) Tryz.func147 (c:=Tryz.f147.body.getD .skip) rfl Tryz.results147 Tryz.ntmps147 Tryz.call147 ?_
 simp only[Tryz.f147,Option.getD]
 repeat'(first|refine zq0 ?_|exact zd0|refine zc (zbk gone hg c) ?_|refine zg (zbk gone hg c) ?_|refine zc (CallOK.le (zbk gone hg c) (by simp[zbZ,aLe,zjt,cLe])) ?_|refine zg (CallOK.le (zbk gone hg c) (by simp[zbZ,aLe,zjt,cLe])) ?_|(refine zaa ?_ ?_<;>intro hb)|(refine And.intro ?_ ?_;exact zI)|(refine And.intro ?_ ?_<;>intro hg)|exact zC|fail)
 rfl
theorem znU (l gone:List Int) (hl:l.length<2^30) (hg:gone.length<2^30):CallOK Tryz.prog 114 [.f (al l.length (zaw l)), .f (al gone.length (zaw gone))] (fun r o=>r=[zfc (zaY l gone)]∧o=[]):=by
 refine zac zar mixed (T:=Ty) (n:=9) Tryz.func114 (c:=Tryz.f114.body.getD .skip) rfl Tryz.results114 Tryz.ntmps114 Tryz.call114 ?_
 simp only[Tryz.f114,Option.getD]
 have hcl:=zc5 l.length (zaw l) zah (by omega)
 have hd:=zrd l (by omega) (hasI gone) 147 [.eltR [.lent gone.length (zaw gone)]] (fun _=>rfl) (fun _=>rfl) (fun _ _=>rfl) (fun _=>rfl) (fun x _=>zl9 gone (by omega) x)
 repeat'(first|refine zq @zah ?_|exact zd @zah|refine zc (hcl) ?_|refine zg (hcl) ?_|(refine zaa ?_ ?_<;>intro hb)|(refine And.intro ?_ ?_;exact zI)|(refine And.intro ?_ ?_<;>intro hg)|exact zC|fail)
 refine zbT (mv:= ?mv2) (lent:= ?le2) 0 ?ha2 (hd) ?hb2 ?hc2
 case ha2=>(try simp only[zB,zaG,Nat.reduceSub,Nat.reduceEqDiff,Nat.reduceAdd,Nat.reduceMul,Nat.reduceLeDiff,Nat.reduceLT,Nat.reduceBEq,reduceCtorEq]);exact rfl
 case hb2=>(try simp only[zB,scM,Nat.reduceSub,Nat.reduceEqDiff,Nat.reduceAdd,Nat.reduceMul,Nat.reduceLeDiff,Nat.reduceLT,Nat.reduceBEq,reduceCtorEq]);repeat'(first|rfl|trivial|omega|with_reducible refine And.intro ?_ ?_)
 show aops _ _ _ _ _ _ _ _
 repeat'(first|refine zq0 ?_|exact zd0|(refine zaa ?_ ?_<;>intro hb)|(refine And.intro ?_ ?_;exact zI)|(refine And.intro ?_ ?_<;>intro hg)|exact zC|fail)
 rfl
section
variable {α:Type} {p:α→Bool}
def zmL (p:α→Bool) (l:List α):Nat:=(l.takeWhile p).length
def zur (p:α→Bool) (l:List α):Prop:=l.Pairwise fun x y=>p y=true→p x=true
theorem zcq {l:List α}:zmL p l≤l.length:=(List.takeWhile_prefix _).length_le
theorem zcr {x:α} {l:List α}:zmL p (x::l)=if p x=true then zmL p l+1 else 0:=by
 unfold zmL
 rw[List.takeWhile_cons]
 split<;>simp[*]
theorem zgb:∀{l:List α} {j:Nat} (hj:j<l.length),j<zmL p l→p l[j]=true
 |x::l,0,_,h=>by
  rw[zcr]at h
  split at h
  ·assumption
  ·omega
 |x::l,j+1,hj,h=>by
  rw[zcr]at h
  split at h
  ·exact zgb (l:=l) (by simpa using hj) (by omega)
  ·omega
theorem zgc:∀{l:List α} {j:Nat} (hj:j<l.length),zur p l→zmL p l≤j→p l[j]=false
 |x::l,0,_,hm,h=>by
  rw[zcr]at h
  split at h
  ·omega
  ·rename_i hx;simpa using hx
 |x::l,j+1,hj,hm,h=>by
  have hm':=List.pairwise_cons.1 hm
  have hj':j<l.length:=by simpa using hj
  rw[zcr]at h
  split at h
  ·exact zgc (l:=l) hj' hm'.2 (by omega)
  ·rename_i hx
   have:=hm'.1 l[j] (List.getElem_mem hj')
   simp only[List.getElem_cons_succ]
   cases hc:p l[j]
   ·rfl
   ·exact absurd (this hc) hx
theorem zfv {q:α→Bool}:∀{l:List α},zur p l→(∀x,q x=true→p x=false)→(l.Pairwise fun x y=>q y=true→p x=true)→l.find? q=(l[zmL p l]?).filter q
 |[],_,_,_=>rfl
 |x::l,hm,hq,hs=>by
  have hm':=List.pairwise_cons.1 hm
  have hs':=List.pairwise_cons.1 hs
  rw[List.find?_cons,zcr]
  cases hx:p x
  ·rw[if_neg (by simp)]
   simp only[List.getElem?_cons_zero]
   cases hqx:q x
   ·simp only[Option.filter,hqx,Bool.false_eq_true,if_false]
    rw[List.find?_eq_none]
    intro y hy hqy
    have:=hs'.1 y hy hqy
    rw[hx]at this;cases this
   ·simp[Option.filter,hqx]
  ·rw[if_pos rfl]
   have hqx:q x=false:=by
    cases hc:q x
    ·rfl
    ·have:=hq x hc;rw[hx]at this;cases this
   rw[hqx]
   simp only[List.getElem?_cons_succ]
   exact zfv hm'.2 hq hs'.2
end
def SS (l:List Sess):Prop:=l.Pairwise fun x y=>x.client<y.client
def zdA (l:List Sess) (c:Int):Nat:=zmL (fun x=>decide (x.client<c)) l
def zaF (l:List Sess) (c:Int):Option Sess:=l.find? fun x=>x.client==c
theorem zl7 {l:List Sess} (h:SS l) (c:Int):zur (fun x:Sess=>decide (x.client<c)) l:=h.imp fun hxy h=>by simp at h⊢;omega
theorem zhj {l:List Sess} (h:SS l) (c:Int):zaF l c=(l[zdA l c]?).filter fun x=>x.client==c:=
 zfv (q:=fun x:Sess=>x.client==c) (zl7 h c) (fun x hx=>by simp at hx⊢;omega) (h.imp fun hxy h=>by simp at h⊢;omega)
def SM (l:List Memo):Prop:=l.Pairwise fun x y=>x.client<y.client
def zf2 (l:List Memo) (c:Int):Nat:=zmL (fun x=>decide (x.client<c)) l
def zaM (l:List Memo) (c:Int):Option Memo:=l.find? fun x=>x.client==c
theorem zl8 {l:List Memo} (h:SM l) (c:Int):zur (fun x:Memo=>decide (x.client<c)) l:=h.imp fun hxy h=>by simp at h⊢;omega
theorem zkr {l:List Memo} (h:SM l) (c:Int):zaM l c=(l[zf2 l c]?).filter fun x=>x.client==c:=
 zfv (q:=fun x:Memo=>x.client==c) (zl8 h c) (fun x hx=>by simp at hx⊢;omega) (h.imp fun hxy h=>by simp at h⊢;omega)
abbrev zdx (a b:ByteArray):Bool:=Go.Op.bytesLess a.toList b.toList
theorem zks:∀{a:List UInt8},Go.Op.bytesLess a a=false
 |[]=>rfl
 |a::x=>by rw[Go.Op.bytesLess,zks (a:=x)];simp
theorem zje:∀{a b c:List UInt8},Go.Op.bytesLess a b=true→Go.Op.bytesLess b c=true→Go.Op.bytesLess a c=true
 |[],[],_,h,_=>by cases h
 |[],_::_,[],_,h=>by cases h
 |[],_::_,_::_,_,_=>rfl
 |_::_,[],_,h,_=>by cases h
 |_::_,_::_,[],_,h=>by cases h
 |a::x,b::y,c::z,h1,h2=>by
  rw[Go.Op.bytesLess]at*
  simp only[Bool.or_eq_true,Bool.and_eq_true,decide_eq_true_eq,beq_iff_eq]at*
  rcases h1 with h1|⟨rfl,h1⟩<;>rcases h2 with h2|⟨rfl,h2⟩
  ·exact .inl (UInt8.lt_trans h1 h2)
  ·exact .inl h1
  ·exact .inl h2
  ·exact .inr ⟨rfl,zje h1 h2⟩
theorem zo7:∀{a b:List UInt8},Go.Op.bytesLess a b=false→Go.Op.bytesLess b a=false→a=b
 |[],[],_,_=>rfl
 |[],_::_,h,_=>by cases h
 |_::_,[],_,h=>by cases h
 |a::x,b::y,h1,h2=>by
  rw[Go.Op.bytesLess]at*
  simp only[Bool.or_eq_false_iff,Bool.and_eq_false_iff,decide_eq_false_iff_not,beq_eq_false_iff_ne]at*
  have hab:a=b:=UInt8.le_antisymm (UInt8.not_lt.1 h2.1) (UInt8.not_lt.1 h1.1)
  subst hab
  rcases h1.2 with h|h1'
  ·exact absurd rfl h
  rcases h2.2 with h|h2'
  ·exact absurd rfl h
  rw[zo7 h1' h2']
def SL (l:List Lk):Prop:=l.Pairwise fun x y=>zdx x.name y.name=true
def zbf (l:List Lk) (s:ByteArray):Nat:=zmL (fun x=>zdx x.name s) l
def isL (s:ByteArray) (x:Lk):Bool:=x.name.toList==s.toList
def zcs (l:List Lk) (s:ByteArray):Option Lk:=l.find? (isL s)
theorem zjf {l:List Lk} (h:SL l) (s:ByteArray):zur (fun x:Lk=>zdx x.name s) l:=h.imp fun hxy h=>zje hxy h
theorem zkt {l:List Lk} (h:SL l) (s:ByteArray):zcs l s=(l[zbf l s]?).filter (isL s):=
 zfv (q:=isL s) (zjf h s) (fun x hx=>by
  simp only[isL,beq_iff_eq]at hx
  simp only[zdx,hx,zks]) (h.imp fun hxy h=>by
  simp only[isL,beq_iff_eq]at h
  simp only[zdx]at hxy⊢
  rw[←h];exact hxy)
theorem zfb {α:Type} {o:Option α} {p:α→Bool} {x:α} (h:o.filter p=some x):o=some x∧p x=true:=by
 cases o with
 |none=>simp at h
 |some y=>
  simp only[Option.filter]at h
  split at h
  ·rename_i hp;cases h;exact⟨rfl,hp⟩
  ·cases h
theorem zku {α:Type} {l:List α} {i:Nat} {x:α} (h:l[i]? =some x):∃hi:i<l.length,l[i]=x:=by
 obtain⟨hi,h⟩:=List.getElem?_eq_some_iff.1 h
 exact⟨hi,h⟩
theorem zgQ {l:List Sess} (h:SS l) {c:Int} {x:Sess} (hx:zaF l c=some x):(∃hi:zdA l c<l.length,l[zdA l c]=x)∧x.client=c:=by
 rw[zhj h]at hx
 obtain⟨h1,h2⟩:=zfb hx
 exact⟨zku h1,by simpa using h2⟩
theorem zct {l:List Lk} (h:SL l) {s:ByteArray} {x:Lk} (hx:zcs l s=some x):(∃hi:zbf l s<l.length,l[zbf l s]=x)∧isL s x=true:=by
 rw[zkt h]at hx
 obtain⟨h1,h2⟩:=zfb hx
 exact⟨zku h1,h2⟩
theorem zgR {l:List Memo} (h:SM l) {c:Int} {x:Memo} (hx:zaM l c=some x):(∃hi:zf2 l c<l.length,l[zf2 l c]=x)∧x.client=c:=by
 rw[zkr h]at hx
 obtain⟨h1,h2⟩:=zfb hx
 exact⟨zku h1,by simpa using h2⟩
def zbK {α:Type} (q:Nat→α→Bool):Nat→List α→Bool
 |_,[]=>true
 |i,x::r=>if q i x=true then zbK q (i+1) r else false
theorem zcn {α:Type} {q:Nat→α→Bool}:∀{l:List α} {i:Nat},zbK q i l=true↔∀j (hj:j<l.length),q (i+j) l[j]=true
 |[],i=>by simp[zbK]
 |x::l,i=>by
  rw[zbK]
  constructor
  ·intro h
   split at h
   ·rename_i hx
    intro j hj
    cases j with
    |zero=>exact hx
    |succ j=>
     have:=zcn.1 h j (by simpa using hj)
     simp only[List.getElem_cons_succ]
     rw[show i+(j+1)=i+1+j by omega];exact this
   ·cases h
  ·intro h
   have h0:=h 0 (by simp)
   simp only[List.getElem_cons_zero,Nat.add_zero]at h0
   rw[if_pos h0,zcn]
   intro j hj
   have:=h (j+1) (by simpa using hj)
   simp only[List.getElem_cons_succ]at this
   rw[show i+1+j=i+(j+1) by omega];exact this
theorem za0 {α:Type} {q:Nat→α→Bool} {l:List α} {i:Nat} (h:i<l.length):zbK q i (l.drop i)=if q i l[i]=true then zbK q (i+1) (l.drop (i+1))else false:=by
 rw[List.drop_eq_getElem_cons h,zbK]
theorem zc0 {α:Type} {q:Nat→α→Bool} {l:List α} {i:Nat} (h:i=l.length):zbK q i (l.drop i)=true:=by
 rw[h,List.drop_length,zbK]
def zgv (s:Sess):Bool:=isClient s.client&& !(decide (s.num<1))&& !(decide (s.num>zaL))&& !(decide (s.renewed<0))&& !(decide (s.renewed>zaL))
def numbered (l:List Sess) (n:Int):Bool:=l.any fun x=>x.num==n
def zo3 (l:List Sess) (i:Nat):Int:=(l[i - 1]?.map Sess.client).getD 0
def zjd (l:List Sess) (i:Nat) (s:Sess):Bool:=zgv s&& !((decide (i>0)&&decide (zo3 l i≥s.client))||numbered (l.take i) s.num)
def sessB (l:List Sess):Bool:= !(decide ((l.length:Int)>5))&&zbK (zjd l) 0 l
def zb7 (l:List Sess) (c num now:Int):List Sess×Int:=
 if(!isClient c||decide (num<1)||decide (num>zaL)||decide (now<0)||decide (now>zaL)||(!(zaF l c).isSome&&numbered l num)||((zaF l c).isSome&&(((zaF l c).map Sess.num).getD 0 !=num)&&numbered l num))=true then([],1)else
 if(zaF l c).isSome=true then([],7)else if decide ((l.length:Int)≥5)=true then([],5)else(l.take (zdA l c)++⟨c,num,now⟩::l.drop (zdA l c),0)
def zbi (l:List Sess) (c now:Int):List Sess×Int:=
 if(decide (now<0)||decide (now>zaL))=true then([],1)else
 match zaF l c with
 |none=>([],6)
 |some x=>(l.set (zdA l c) ⟨x.client,x.num,max x.renewed now⟩,0)
def zgP (l:List Sess) (now lease:Int):List Int:=
 if(decide (now<0)||decide (now>zaL)||decide (lease<0)||decide (lease>zaL))=true then []else(l.filter fun s=>decide (now - s.renewed≥lease)).map Sess.client
def zo4 (l:List Int) (i:Nat) (c:Int):Bool:= !(!isClient c||hasI (l.take i) c)
def lineB (l:List Int):Bool:=zbK (zo4 l) 0 l&&decide ((l.length:Int)≤3)
def zo5 (l:List Lk) (i:Nat):ByteArray:=(l[i - 1]?.map Lk.name).getD .empty
def znT (k:Lk):Bool:=nameP k.name&& !(decide (k.holder<0))&& !(decide (k.holder≥8))&& !(decide (k.token<1))&& !(decide (k.token>zaL))
def zkp (l:List Lk) (i:Nat) (k:Lk):Bool:=znT k&& !(!lineB k.line||hasI k.line k.holder||(decide (i>0)&& !(zdx (zo5 l i) k.name)))&& !((l.take i).any fun o=>o.token==k.token)
def lockB (l:List Lk):Bool:=zbK (zkp l) 0 l&&decide ((l.length:Int)≤4)
def zhi (l:List Int) (c:Int):Int:=if zck (fun x=>c==x) l 0≥0 then zck (fun x=>c==x) l 0 else 0
def zaI (l:List Lk) (name:ByteArray) (c token:Int) (wait:Bool):List Lk×Int×Int:=
 match zcs l name with
 |none=>if decide ((l.length:Int)≥4)=true then([],0,5)else(l.take (zbf l name)++⟨name,c,token+1,[]⟩::l.drop (zbf l name),0,0)
 |some k=>if(k.holder==c)=true then([],0,7)else if(!wait)=true then([],0,8)else
  if hasI k.line c=true then(l,zhi k.line c,10)else
  if(zdn k.line c).2.2≠0 then([],0,(zdn k.line c).2.2)else(l.set (zbf l name) ⟨k.name,k.holder,k.token,(zdn k.line c).1⟩,(zdn k.line c).2.1,10)
def zcC (l:List Lk) (i:Nat) (k:Lk) (token:Int):List Lk×Int:=
 match k.line with
 |[]=>(l.eraseIdx i,0)
 |c::rest=>(l.set i ⟨k.name,c,token+1,rest⟩,1)
def zbb (l:List Lk) (name:ByteArray) (c token:Int):List Lk×Int×Int:=
 match zcs l name with
 |none=>([],0,6)
 |some k=>if(k.holder==c)=true then((zcC l (zbf l name) k token).1,(zcC l (zbf l name) k token).2,0)else
  if hasI k.line c=true then(l.set (zbf l name) ⟨k.name,k.holder,k.token,(zcu k.line c).1⟩,0,0)else([],0,6)
def zbw (gone:List Int) (token:Int):List Lk→Int→List Lk×Int
 |[],g=>([],g)
 |k::r,g=>if hasI gone k.holder=true then
   match k.line with
   |[]=>zbw gone token r g
   |c::rest=>(⟨k.name,c,token+g+1,rest⟩::(zbw gone token r (g+1)).1,(zbw gone token r (g+1)).2)
  else(k::(zbw gone token r g).1,(zbw gone token r g).2)
def zam (gone:List Int) (k:Lk):Lk:=⟨k.name,k.holder,k.token,zaY k.line gone⟩
def zcb (l:List Lk) (gone:List Int) (token:Int):List Lk×Int:=zbw gone token (l.map (zam gone)) 0
def zbd (l:List Lk) (c:Int):List Grant:=(l.filter fun k=>k.holder==c).map fun k=>⟨k.name,k.token⟩
def zra (l:List Grant) (i:Nat):ByteArray:=(l[i - 1]?.map Grant.name).getD .empty
def zcD (l:List Grant) (i:Nat) (g:Grant):Bool:= !(!nameP g.name||decide (g.token<1)||decide (g.token>zaL)||(decide (i>0)&& !(zdx (zra l i) g.name)))
def zcS (r:Reply):Bool:=
 !(decide (r.code<0)||decide (r.code>12)||decide (r.session<0)||decide (r.session>zaL)||decide (r.ahead<0)||decide (r.ahead>3))&&
 !(decide ((r.held.length:Int)>4)||((r.session==0)&&decide ((r.held.length:Int)>0)))&&zbK (zcD r.held) 0 r.held
def answerB (m:Memo):Bool:=decide (m.client≥0)&&decide (m.client<8)&&decide (m.seq≥1)&&decide (m.seq≤zaL)&&zcS m.reply
def zo6 (l:List Memo) (i:Nat):Int:=(l[i - 1]?.map Memo.client).getD 0
def zkq (l:List Memo) (i:Nat) (m:Memo):Bool:= !(!answerB m||(decide (i>0)&&decide (zo6 l i≥m.client)))
def memoB (l:List Memo):Bool:=zbK (zkq l) 0 l
def zaT (l:List Memo) (c seq:Int):Int:=
 match zaM l c with
 |none=>1
 |some m=>if m.seq<seq then 1 else if m.seq=seq then 0 else -1
def zcF (l:List Memo) (a:Memo):List Memo:=
 if(!answerB a||(zaT l a.client a.seq !=1))=true then l else
 if(zaM l a.client).isSome=true then l.set (zf2 l a.client) a else l.take (zf2 l a.client)++a::l.drop (zf2 l a.client)
def within (n:Int):Bool:=decide (n≥0)&&decide (n≤zaL)
def zga (s:St):Bool:=s.locks.all fun k=>(k.holder::k.line).all fun c=>(zaF s.sess c).isSome
def zcp (s:St):Bool:=within s.time&&within s.num&&within s.token&&sessB s.sess&&lockB s.locks&&memoB s.memos&&(s.sess.all fun x=>decide (x.num≤s.num))&&(s.locks.all fun k=>decide (k.token≤s.token))&&zga s
def za7 (s:St) (gone:List Int):St:=⟨s.time,s.num,s.token+(zcb s.locks gone s.token).2,s.sess.filter fun x=> !hasI gone x.client,(zcb s.locks gone s.token).1,s.memos⟩
def zbL (s:St) (time:Int):Int:=if(decide (time>s.time)&&decide (time≤zaL))=true then time else s.time
def zaU (s:St) (time lease:Int):St:=za7 {s with time:=zbL s time} (zgP s.sess (zbL s time) (max lease 1))
def rpl (code session ahead:Int) (held:List Grant):Reply:=⟨code,session,ahead,held⟩
def zbt (s:St) (c:Int):St×Reply:=
 match zaF s.sess c with
 |some x=>(s,⟨7,x.num,0,zbd s.locks c⟩)
 |none=>if(zb7 s.sess c (s.num+1) s.time).2≠0 then(s,⟨(zb7 s.sess c (s.num+1) s.time).2,0,0,[]⟩)else
  ({s with sess:=(zb7 s.sess c (s.num+1) s.time).1,num:=s.num+1},⟨0,s.num+1,0,zbd s.locks c⟩)
def za1 (s:St) (r:Req):St×Reply:=
 if(r.kind==1)=true then zbt s r.client else
 match zaF s.sess r.client with
 |none=>(s,⟨9,0,0,[]⟩)
 |some x=>if(x.num !=r.session)=true then(s,⟨9,0,0,[]⟩)else
  let s1:St:={s with sess:=(zbi s.sess r.client s.time).1}
  if(r.kind==3||r.kind==4)=true then
   let t:=zaI s1.locks r.name r.client s1.token (r.kind==3)
   let s2:St:=if t.2.2=0 then {s1 with locks:=t.1,token:=s1.token+1}else if t.2.2=10 then {s1 with locks:=t.1}else s1
   (s2,⟨t.2.2,x.num,if t.2.2=10 then t.2.1 else 0,zbd s2.locks r.client⟩)
  else if(r.kind==5)=true then
   let t:=zbb s1.locks r.name r.client s1.token
   let s2:St:=if t.2.2=0 then {s1 with locks:=t.1,token:=s1.token+t.2.1}else s1
   (s2,⟨t.2.2,x.num,0,zbd s2.locks r.client⟩)
  else if(r.kind==6)=true then(za7 s1 [r.client],⟨0,0,0,[]⟩)
  else(s1,⟨0,x.num,0,zbd s1.locks r.client⟩)
def zaD (s:St) (r:Req):St×Reply×Bool:=
 if(!Req.may r)=true then(s,⟨1,0,0,[]⟩,false)else
 if zaT s.memos r.client r.seq= -1 then(s,⟨0,0,0,[]⟩,false)else
 if zaT s.memos r.client r.seq=0 then(s,((zaM s.memos r.client).map Memo.reply).getD ⟨0,0,0,[]⟩,false)else
 ({(za1 s r).1 with memos:=zcF (za1 s r).1.memos ⟨r.client,r.seq,(za1 s r).2⟩},(za1 s r).2,true)
def zxP (a b:St):List Int:=(a.sess.filter fun x=> !((zaF b.sess x.client).any fun y=>y.num==x.num)).map Sess.client
theorem zlA {a b:Int}:(zmM a b==0)=(a==b):=by
 unfold zmM
 split
 ·rw[Bool.eq_iff_iff];simp;omega
 ·split
  ·rw[Bool.eq_iff_iff];simp;omega
  ·rw[Bool.eq_iff_iff];simp;omega
theorem zjS {a b:Int}:zmM a b<0↔a<b:=by
 unfold zmM
 split
 ·simp;omega
 ·split<;>simp<;>omega
theorem zjT {α:Type} {o:Option α} {p:α→Bool}:(o.filter p).isSome=(o.map p).getD false:=by
 cases o with
 |none=>rfl
 |some x=>simp only[Option.filter,Option.map_some,Option.getD_some];cases p x<;>rfl
theorem zt3 (x:Sess) (n:Int):CallOK Tryz.prog 169 [.f (zhk x), .f (.one (.elt [iD n]))] (fun r o=>r=[rb (x.num==n)]∧o=[]):=by
 refine zac zar mixed (T:=Ty) (n:=8) Tryz.func169 (c:=Tryz.f169.body.getD .skip) rfl Tryz.results169 Tryz.ntmps169 Tryz.call169 ?_
 simp only[Tryz.f169,Option.getD]
 repeat'(first|refine zq0 ?_|exact zd0|(refine zaa ?_ ?_<;>intro hb)|(refine And.intro ?_ ?_;exact zI)|(refine And.intro ?_ ?_<;>intro hg)|exact zC|fail)
theorem zhS (l:List Sess) (hl:l.length<2^62) (n:Int):CallOK Tryz.prog 153 [.f (al l.length (zaE l)), .f (ai n)] (fun r o=>r=[rb (numbered l n)]∧o=[]):=by
 refine zac zar mixed (T:=Ty) (n:=8) Tryz.func153 (c:=Tryz.f153.body.getD .skip) rfl Tryz.results153 Tryz.ntmps153 Tryz.call153 ?_
 simp only[Tryz.f153,Option.getD]
 have h:=zji l hl (fun x=>x.num==n) 169 [.elt [iD n]] rfl rfl (fun x _=>zt3 x n)
 repeat'(first|refine zq0 ?_|exact zd0|refine zc (h) ?_|refine zg (h) ?_|(refine zaa ?_ ?_<;>intro hb)|(refine And.intro ?_ ?_;exact zI)|(refine And.intro ?_ ?_<;>intro hg)|exact zC|fail)
 rfl
theorem zor (x:Sess) (c:Int):CallOK Tryz.prog 151 [.f (zhk x), .f (ai c)] (fun r o=>r=[ri (zmM x.client c)]∧o=[]):=by
 refine zac zar mixed (T:=Ty) (n:=9) Tryz.func151 (c:=Tryz.f151.body.getD .skip) rfl Tryz.results151 Tryz.ntmps151 Tryz.call151 ?_
 simp only[Tryz.f151,Option.getD]
 repeat'(first|refine zq0 ?_|exact zd0|refine zc (zd1 x.client c) ?_|refine zg (zd1 x.client c) ?_|(refine zaa ?_ ?_<;>intro hb)|(refine And.intro ?_ ?_;exact zI)|(refine And.intro ?_ ?_<;>intro hg)|exact zC|fail)
theorem zhT (l:List Sess) (hs:SS l) (hl:l.length<2^62) (c:Int):CallOK Tryz.prog 120 [.f (al l.length (zaE l)), .f (ai c)] (fun r o=>r=[ri (zdA l c),rb (zaF l c).isSome]∧o=[]):=by
 refine zac zar mixed (T:=Ty) (n:=11) Tryz.func120 (c:=Tryz.f120.body.getD .skip) rfl Tryz.results120 Tryz.ntmps120 Tryz.call120 ?_
 simp only[Tryz.f120,Option.getD]
 have h:=zkA l hl c (fun x=>zmM x.client c) 151 (zdA l c) zcq
  (fun j hj h=>by have:=zgb hj h;simp at this;exact zjS.2 this)
  (fun j hj h=>by have:=zgc hj (zl7 hs c) h;simp at this;have h2:= @zjS l[j].client c;omega) (fun x _=>zor x c)
 have e:((l[zdA l c]?.map fun x=>zmM x.client c==0).getD false)=(zaF l c).isSome:=by
  rw[zhj hs,zjT]
  simp only[zlA]
 rw[e]at h
 repeat'(first|refine zq0 ?_|exact zd0|refine zc (h) ?_|refine zg (h) ?_|(refine zaa ?_ ?_<;>intro hb)|(refine And.intro ?_ ?_;exact zI)|(refine And.intro ?_ ?_<;>intro hg)|exact zC|fail)
theorem znB {a b a' b':RO}:zbj [.one a, .one b] [.one a', .one b']=(za4 a a'∧za4 b b'∧True):=rfl
def zee:Sess:=⟨0,0,0⟩
theorem zjU (l:List Sess) (hs:SS l) (hl:l.length<2^62) (c:Int):CallOK Tryz.prog 80 [.f (al l.length (zaE l)), .f (ai c)]
  (fun r o=>r=[.agg [.d (iD ((zaF l c).getD zee).client), .d (iD ((zaF l c).getD zee).num), .d (iD ((zaF l c).getD zee).renewed)],rb (zaF l c).isSome]∧o=[]):=by
 refine zac zar mixed (T:=Ty) (n:=20) Tryz.func80 (c:=Tryz.f80.body.getD .skip) rfl Tryz.results80 Tryz.ntmps80 Tryz.call80 ?_
 simp only[Tryz.f80,Option.getD]
 have h:=zhT l hs hl c
 cases hf:zaF l c with
 |none=>
  rw[hf]at h
  simp only[Option.isSome_none]at h
  repeat'(first|refine zq0 ?_|exact zd0|refine zc (h) ?_|refine zg (h) ?_|(refine zaa ?_ ?_<;>intro hb)|(refine And.intro ?_ ?_;exact zI)|(refine And.intro ?_ ?_<;>intro hg)|exact zC|fail)
  rfl
 |some x=>
  rw[hf]at h
  simp only[Option.isSome_some]at h
  rw[zhj hs]at hf
  have hg:l[zdA l c]? =some x:=by
   cases hq:l[zdA l c]? with
   |none=>rw[hq]at hf;simp at hf
   |some y=>rw[hq]at hf;simp only[Option.filter]at hf;split at hf<;>simp_all
  obtain⟨hi,he⟩:=List.getElem?_eq_some_iff.1 hg
  have hat:=zbM hi
  rw[he]at hat
  simp only[List.cons_append,List.nil_append]at hat
  repeat'(first|refine zq (I hat @zai) ?_|exact zd (I hat @zai)|refine zc (h) ?_|refine zg (h) ?_|(refine zaa ?_ ?_<;>intro hb)|(refine And.intro ?_ ?_;exact zI)|(refine And.intro ?_ ?_<;>intro hg)|exact zC|fail)
  rfl
theorem zu9 (l:List Sess) (hl:l.length<2^30) (now lease:Int) (hr:∀s∈l,0≤s.renewed∧s.renewed≤zaL):CallOK Tryz.prog 40 [.f (al l.length (zaE l)), .f (ai now), .f (ai lease)]
  (fun r o=>r=[zfc (zgP l now lease)]∧o=[]):=by
 refine CallOK.nil ?_
 refine zac zar mixed (T:=Ty) (n:=43) Tryz.func40 (c:=Tryz.f40.body.getD .skip) rfl Tryz.results40 Tryz.ntmps40 Tryz.call40 ?_
 simp only[Tryz.f40,Option.getD]
 cases hc:(decide (now<0)||decide (now>zaL)||decide (lease<0)||decide (lease>zaL))
 ·have hd:zgP l now lease=(l.filter fun s=>decide (now - s.renewed≥lease)).map Sess.client:=by rw[zgP,if_neg (by rw[hc];simp)]
  rw[hd]
  have hn:0≤now∧now≤zaL:=by simp at hc;omega
  repeat'(first|refine zq (I hc @zai) ?_|exact zd (I hc @zai)|(refine zaa ?_ ?_<;>intro hb)|(refine And.intro ?_ ?_;exact zI)|(refine And.intro ?_ ?_<;>intro hg)|exact zC|fail)
  refine zao (τ:=Nat×List Int) (fun t=>⟨[dd,ai now,ai lease,dd,dd,dd,dd, .one (.own ⟨7,1,1⟩ 0 t.2.length),dd,dd,dd,dd,dd,dd,dd,dd,dd,dd,dd,dd,dd,dd,dd,dd,al l.length (zaE l),ai l.length,ai t.1,dd,dd,dd,dd,dd,dd,dd,dd,dd,dd,dd,dd,dd,dd,dd,dd],[(7,{next:=2,l:=[none,some {e:=1,var:=false,fz:=false,sz:=1,cells:=(zaw t.2).map C.d}]}),(9,⟨2,[]⟩),(39,⟨2,[]⟩),(40,⟨2,[]⟩)]⟩)
   (fun t=>t.1≤l.length∧t.2.length≤t.1) (fun t=>t.2++((l.drop t.1).filter fun s=>decide (now - s.renewed≥lease)).map Sess.client) (fun t=>l.length - t.1) (0,[])
   ((Gh.nil (i:=7) (s:=7) (sz:=1) rfl).trans (Gh.canon [7] [9,39,40] [] zK rfl rfl)) ⟨Nat.zero_le _,Nat.zero_le _⟩ ?_
  intro⟨i,acc⟩ ⟨hi0,ha⟩ hF K hK
  simp only[List.drop_zero,List.nil_append]at hi0 ha hF hK⊢
  refine zw ?_
  refine zaa (fun hlt=> ?_) (fun hge=> ?_)
  ·have hi:i<l.length:=by simpa using hlt
   have hat:=zbM hi
   simp only[List.cons_append,List.nil_append]at hat
   have hw:=zan hi (by omega)
   have hrb:=hr _ (List.getElem_mem hi)
   have hH:zaL=2305843009213693952:=rfl
   have hw2:IntKind.i64.wrap (now - l[i].renewed)=now - l[i].renewed:=wrap64 (by omega) (by omega)
   have hFs:((l.drop i).filter fun s=>decide (now - s.renewed≥lease)).map Sess.client=if decide (now - l[i].renewed≥lease)=true then l[i].client::((l.drop (i+1)).filter fun s=>decide (now - s.renewed≥lease)).map Sess.client else((l.drop (i+1)).filter fun s=>decide (now - s.renewed≥lease)).map Sess.client:=by
    rw[List.drop_eq_getElem_cons hi,List.filter_cons]
    split<;>simp
   cases hb:decide (now - l[i].renewed≥lease)
   ·rw[hb,if_neg (by simp)]at hFs
    repeat'(first|refine zq (I hat (I @zai (I hw2 hb))) ?_|exact zd (I hat (I @zai (I hw2 hb)))|(refine zaa ?_ ?_<;>intro hb)|(refine And.intro ?_ ?_;exact zI)|(refine And.intro ?_ ?_<;>intro hg)|exact zC|fail)
    exact hK _ (i+1,acc) (Gh.canon [7] [] [] (zk hw) rfl rfl) ⟨hi,by simp only;omega⟩ (by simp only;rw[hFs]) (by simp only;omega)
   ·rw[hb,if_pos rfl]at hFs
    repeat'(first|refine zq (I hat (I @zai (I hw2 hb))) ?_|exact zd (I hat (I @zai (I hw2 hb)))|(refine zaa ?_ ?_<;>intro hb)|(refine And.intro ?_ ?_;exact zI)|(refine And.intro ?_ ?_<;>intro hg)|exact zC|fail)
    exact hK _ (i+1,acc++[l[i].client]) (Gh.canon [7] [] [] (zk (I hw (I @List.length_append.{0} @List.length_singleton.{0}))) rfl (by simp only[List.length_append,List.length_singleton];rw[zgg];rfl)) ⟨hi,by simp only[List.length_append,List.length_singleton];omega⟩ (by simp only[List.append_assoc,List.singleton_append];rw[hFs]) (by simp only;omega)
  ·have hi:i=l.length:=by
    have:¬(i:Int)<l.length:=by simpa using hge
    omega
   rw[hi,List.drop_length,List.filter_nil,List.map_nil,List.append_nil]at hF
   rw[←hF]
   repeat'(first|refine zq0 ?_|exact zd0|(refine zaa ?_ ?_<;>intro hb)|(refine And.intro ?_ ?_;exact zI)|(refine And.intro ?_ ?_<;>intro hg)|exact zC|fail)
   simp[zh9,za4,zfc]
 ·have hd:zgP l now lease=[]:=by rw[zgP,if_pos hc]
  rw[hd]
  repeat'(first|refine zq hc ?_|exact zd hc|(refine zaa ?_ ?_<;>intro hb)|(refine And.intro ?_ ?_;exact zI)|(refine And.intro ?_ ?_<;>intro hg)|exact zC|fail)
  simp[zh9,za4,zfc]
set_option maxHeartbeats 4000000 in
theorem zt4 (l:List Sess) (hs:SS l) (hl:l.length<2^30) (c num now:Int) (hc:isClient c=true) (h1:1≤num) (hn:0≤now∧now≤zaL) (hf:zaF l c=none) (hnum:numbered l num=false):
  CallOK Tryz.prog 121 [.f (al l.length (zaE l)), .f (ai c), .f (ai num), .f (ai now)]
  (fun r o=>r=[.one (.own 3 (zb7 l c num now).1.length (zaE (zb7 l c num now).1) false),ri (zb7 l c num now).2]∧o=[]):=by
 refine CallOK.nil ?_
 refine zac zar mixed (T:=Ty) (n:=76) Tryz.func121 (c:=Tryz.f121.body.getD .skip) rfl Tryz.results121 Tryz.ntmps121 Tryz.call121 ?_
 simp only[Tryz.f121,Option.getD]
 have hp:=zhT l hs (by omega) c
 have hcl:=zfw c
 rw[show(decide (c≥0)&&decide (c<8))=true from hc]at hcl
 have hnb:=zhS l (by omega) num
 rw[hnum]at hnb
 rw[hf]at hp
 simp only[Option.isSome_none]at hp
 have hcn:=zeJ l.length (zaE l) zai (by omega)
 have e1:decide (num<1)=false:=by simp;omega
 have e2:decide (now<0)=false:=by simp;omega
 have e3:decide (now>2305843009213693952)=false:=by have:zaL=2305843009213693952:=rfl;simp;omega
 have hin:=znY l.length (zdA l c) (zaE l) [iD c,iD num,iD now] zai rfl zcq hl
 have eo:zb7 l c num now=if decide (num>zaL)=true then([],1)else if decide ((l.length:Int)≥5)=true then([],5)else(l.take (zdA l c)++⟨c,num,now⟩::l.drop (zdA l c),0):=by
  unfold zb7
  rw[hf,hnum,hc,e1,e2,e3]
  cases decide (num>zaL)<;>simp
 rw[eo]
 have hd:(zaE l).drop (zdA l c*3)=[]∨∃n1 n2 n3 q,(zaE l).drop (zdA l c*3)=iD n1::iD n2::iD n3::q:=by
  rcases Nat.lt_or_ge (zdA l c) l.length with h|h
  ·exact .inr ⟨_,_,_,_,zbM h⟩
  ·exact .inl (List.drop_of_length_le (by rw[zai];omega))
 have hti:=zma Sess.enc 3 (fun _=>rfl) (l:=l) (k:=zdA l c) zcq ⟨c,num,now⟩
 have htl:=zjg (l:=l) (k:=zdA l c) zcq ⟨c,num,now⟩
 cases e4:decide (num>2305843009213693952)
 ·rw[if_neg (by simp)]
  cases e5:decide ((l.length:Int)≥5)
  ·rw[if_neg (by simp)]
   simp only[hti,htl]
   rcases hd with hat|⟨n1,n2,n3,q,hat⟩
   ·rw[hat]at hin
    repeat'(first|refine zq (I @zai (I @List.drop_nil.{0} (I hat (I e1 (I e2 (I e3 (I e4 e5))))))) ?_|exact zd (I @zai (I @List.drop_nil.{0} (I hat (I e1 (I e2 (I e3 (I e4 e5)))))))|refine zc (hp) ?_|refine zg (hp) ?_|refine zc (hcl) ?_|refine zg (hcl) ?_|refine zc (hnb) ?_|refine zg (hnb) ?_|refine zc (hcn) ?_|refine zg (hcn) ?_|(refine zaa ?_ ?_<;>intro hb)|(refine And.intro ?_ ?_;exact zI)|(refine And.intro ?_ ?_<;>intro hg)|exact zC|fail)
    refine zbT (mv:= ?mv1) (lent:= ?le1) 0 ?ha1 (hin) ?hb1 ?hc1
    case ha1=>(try simp only[zB,zaG,Nat.reduceSub,Nat.reduceEqDiff,Nat.reduceAdd,Nat.reduceMul,Nat.reduceLeDiff,Nat.reduceLT,Nat.reduceBEq,reduceCtorEq]);exact rfl
    case hb1=>(try simp only[zB,scM,Nat.reduceSub,Nat.reduceEqDiff,Nat.reduceAdd,Nat.reduceMul,Nat.reduceLeDiff,Nat.reduceLT,Nat.reduceBEq,reduceCtorEq]);repeat'(first|rfl|trivial|omega|with_reducible refine And.intro ?_ ?_)
    show aops _ _ _ _ _ _ _ _
    repeat'(first|refine zq hat ?_|exact zd hat|(refine zaa ?_ ?_<;>intro hb)|(refine And.intro ?_ ?_;exact zI)|(refine And.intro ?_ ?_<;>intro hg)|exact zC|fail)
    simp[znB,za4]
   ·rw[hat]at hin
    repeat'(first|refine zq (I @zai (I hat (I e1 (I e2 (I e3 (I e4 e5)))))) ?_|exact zd (I @zai (I hat (I e1 (I e2 (I e3 (I e4 e5))))))|refine zc (hp) ?_|refine zg (hp) ?_|refine zc (hcl) ?_|refine zg (hcl) ?_|refine zc (hnb) ?_|refine zg (hnb) ?_|refine zc (hcn) ?_|refine zg (hcn) ?_|(refine zaa ?_ ?_<;>intro hb)|(refine And.intro ?_ ?_;exact zI)|(refine And.intro ?_ ?_<;>intro hg)|exact zC|fail)
    refine zbT (mv:= ?mv2) (lent:= ?le2) 0 ?ha2 (hin) ?hb2 ?hc2
    case ha2=>(try simp only[zB,zaG,Nat.reduceSub,Nat.reduceEqDiff,Nat.reduceAdd,Nat.reduceMul,Nat.reduceLeDiff,Nat.reduceLT,Nat.reduceBEq,reduceCtorEq]);exact rfl
    case hb2=>(try simp only[zB,scM,Nat.reduceSub,Nat.reduceEqDiff,Nat.reduceAdd,Nat.reduceMul,Nat.reduceLeDiff,Nat.reduceLT,Nat.reduceBEq,reduceCtorEq]);repeat'(first|rfl|trivial|omega|with_reducible refine And.intro ?_ ?_)
    show aops _ _ _ _ _ _ _ _
    repeat'(first|refine zq hat ?_|exact zd hat|(refine zaa ?_ ?_<;>intro hb)|(refine And.intro ?_ ?_;exact zI)|(refine And.intro ?_ ?_<;>intro hg)|exact zC|fail)
    simp[znB,za4]
  ·rw[if_pos rfl]
   rcases hd with hat|⟨n1,n2,n3,q,hat⟩
   ·repeat'(first|refine zq (I @zai (I @List.drop_nil.{0} (I hat (I e1 (I e2 (I e3 (I e4 e5))))))) ?_|exact zd (I @zai (I @List.drop_nil.{0} (I hat (I e1 (I e2 (I e3 (I e4 e5)))))))|refine zc (hp) ?_|refine zg (hp) ?_|refine zc (hcl) ?_|refine zg (hcl) ?_|refine zc (hnb) ?_|refine zg (hnb) ?_|refine zc (hcn) ?_|refine zg (hcn) ?_|(refine zaa ?_ ?_<;>intro hb)|(refine And.intro ?_ ?_;exact zI)|(refine And.intro ?_ ?_<;>intro hg)|exact zC|fail)
    simp[znB,za4]
   ·repeat'(first|refine zq (I @zai (I hat (I e1 (I e2 (I e3 (I e4 e5)))))) ?_|exact zd (I @zai (I hat (I e1 (I e2 (I e3 (I e4 e5))))))|refine zc (hp) ?_|refine zg (hp) ?_|refine zc (hcl) ?_|refine zg (hcl) ?_|refine zc (hnb) ?_|refine zg (hnb) ?_|refine zc (hcn) ?_|refine zg (hcn) ?_|(refine zaa ?_ ?_<;>intro hb)|(refine And.intro ?_ ?_;exact zI)|(refine And.intro ?_ ?_<;>intro hg)|exact zC|fail)
    simp[znB,za4]
 ·rw[if_pos rfl]
  rcases hd with hat|⟨n1,n2,n3,q,hat⟩
  ·repeat'(first|refine zq (I @zai (I @List.drop_nil.{0} (I hat (I e1 (I e2 (I e3 e4)))))) ?_|exact zd (I @zai (I @List.drop_nil.{0} (I hat (I e1 (I e2 (I e3 e4))))))|refine zc (hp) ?_|refine zg (hp) ?_|refine zc (hcl) ?_|refine zg (hcl) ?_|refine zc (hnb) ?_|refine zg (hnb) ?_|refine zc (hcn) ?_|refine zg (hcn) ?_|(refine zaa ?_ ?_<;>intro hb)|(refine And.intro ?_ ?_;exact zI)|(refine And.intro ?_ ?_<;>intro hg)|exact zC|fail)
   simp[znB,za4]
  ·repeat'(first|refine zq (I @zai (I hat (I e1 (I e2 (I e3 e4))))) ?_|exact zd (I @zai (I hat (I e1 (I e2 (I e3 e4)))))|refine zc (hp) ?_|refine zg (hp) ?_|refine zc (hcl) ?_|refine zg (hcl) ?_|refine zc (hnb) ?_|refine zg (hnb) ?_|refine zc (hcn) ?_|refine zg (hcn) ?_|(refine zaa ?_ ?_<;>intro hb)|(refine And.intro ?_ ?_;exact zI)|(refine And.intro ?_ ?_<;>intro hg)|exact zC|fail)
   simp[znB,za4]
theorem zr5 (l:List Sess) (hs:SS l) (hl:l.length<2^30) (c now:Int) (hn:0≤now∧now≤zaL) (hf:(zaF l c).isSome=true):CallOK Tryz.prog 82 [.f (al l.length (zaE l)), .f (ai c), .f (ai now)]
  (fun r o=>r=[.one (.own 3 (zbi l c now).1.length (zaE (zbi l c now).1) false),ri (zbi l c now).2]∧o=[]):=by
 refine CallOK.nil ?_
 refine zac zar mixed (T:=Ty) (n:=39) Tryz.func82 (c:=Tryz.f82.body.getD .skip) rfl Tryz.results82 Tryz.ntmps82 Tryz.call82 ?_
 simp only[Tryz.f82,Option.getD]
 have hp:=zhT l hs (by omega) c
 have hcn:=zeJ l.length (zaE l) zai (by omega)
 obtain⟨x,hx⟩:=Option.isSome_iff_exists.1 hf
 obtain⟨⟨hi,he⟩,hc⟩:=zgQ hs hx
 rw[hf]at hp
 have e2:decide (now<0)=false:=by simp;omega
 have e3:decide (now>2305843009213693952)=false:=by have:zaL=2305843009213693952:=rfl;simp;omega
 have hat:=zbM hi
 rw[he]at hat
 simp only[List.cons_append,List.nil_append]at hat
 have hat2:(zaE l).drop (zdA l c*3+2)=iD x.renewed::zaE (l.drop (zdA l c+1)):=by rw[←List.drop_drop,hat];rfl
 have hset:=zb2 Sess.enc 3 (fun _=>rfl) hi (k:=2) (by decide) (iD (max x.renewed now)) ⟨x.client,x.num,max x.renewed now⟩ (by rw[he];rfl)
 have hr:zbi l c now=(l.set (zdA l c) ⟨x.client,x.num,max x.renewed now⟩,0):=by
  unfold zbi
  rw[if_neg (by simp;omega),hx]
 rw[hr]
 repeat'(first|refine zq (I @zai (I e2 (I e3 (I hat2 (I hset (I @zmd @List.map_cons.{0,0})))))) ?_|exact zd (I @zai (I e2 (I e3 (I hat2 (I hset (I @zmd @List.map_cons.{0,0}))))))|refine zc (hp) ?_|refine zg (hp) ?_|refine zc (hcn) ?_|refine zg (hcn) ?_|(refine zaa ?_ ?_<;>intro hb)|(refine And.intro ?_ ?_;exact zI)|(refine And.intro ?_ ?_<;>intro hg)|exact zC|fail)
 simp[znB,za4]
theorem zlB (l:List Sess) (hl:l.length<2^30):CallOK Tryz.prog 164 [.f (al l.length (zaE l))] (fun r o=>r=[rb (sessB l)]∧o=[]):=by
 refine zac zar mixed (T:=Ty) (n:=61) Tryz.func164 (c:=Tryz.f164.body.getD .skip) rfl Tryz.results164 Tryz.ntmps164 Tryz.call164 ?_
 simp only[Tryz.f164,Option.getD]
 cases h5:decide ((l.length:Int)>5)
 ·have hs:sessB l=zbK (zjd l) 0 l:=by rw[sessB,h5];rfl
  rw[hs]
  repeat'(first|refine zq (I h5 @zai) ?_|exact zd (I h5 @zai)|(refine zaa ?_ ?_<;>intro hb)|(refine And.intro ?_ ?_;exact zI)|(refine And.intro ?_ ?_<;>intro hg)|exact zC|fail)
  refine zao (τ:=Nat) (fun i=>⟨[al l.length (zaE l),dd,dd,dd,dd,dd,dd,dd,al l.length (zaE l),ai l.length,ai i,dd,dd,dd,dd,dd,dd,dd,dd,dd,dd,dd,dd,dd,dd,dd,dd,dd,dd,dd,dd,dd,dd,dd,dd,dd,dd,dd,dd,dd,dd,dd,dd,dd,dd,dd,dd,dd,dd,dd,dd,dd,dd,dd,dd,dd,dd,dd,dd,dd,dd],[(4,⟨2,[]⟩)]⟩)
   (fun i=>i≤l.length) (fun i=>zbK (zjd l) i (l.drop i)) (fun i=>l.length - i) 0
   (Gh.canon [] [4] [] zK rfl rfl) (Nat.zero_le _) ?_
  intro i hi0 hF K hK
  simp only[List.drop_zero]at hF hK⊢
  refine zw ?_
  refine zaa (fun hlt=> ?_) (fun hge=> ?_)
  ·have hi:i<l.length:=by simpa using hlt
   have hat:=zbM hi
   simp only[List.cons_append,List.nil_append]at hat
   have hw:=zan hi (by omega)
   rw[za0 hi]at hF
   have hcl:=zfw l[i].client
   have hnb:=zhS (l.take i) (by rw[List.length_take];omega) l[i].num
   have hlt2:(l.take i).length=i:=by rw[List.length_take];omega
   have htk:(zaE l).take (i*3)=zaE (l.take i):=zc8 Sess.enc 3 (fun _=>rfl) (by omega)
   rw[hlt2]at hnb
   cases e0:decide ((i:Int)>0)
   ·have hq:zjd l i l[i]=(!(!(decide (l[i].client≥0)&&decide (l[i].client<8))||decide (l[i].num<1)||decide (l[i].num>2305843009213693952)||decide (l[i].renewed<0)||decide (l[i].renewed>2305843009213693952))&& !(numbered (l.take i) l[i].num)):=by
     unfold zjd zgv isClient
     have:decide (i>0)=false:=by simpa using e0
     rw[this]
     simp only[Bool.not_or,Bool.not_not,Bool.false_and,Bool.false_or]
    have h0:i=0:=by simpa using e0
    have hp:(zaE l).drop ((IntKind.i64.wrap ((i:Int) - 1)).toNat*3)=l[i].enc++zaE (l.drop (i+1)):=by
     rw[←zbM hi,h0];rfl
    repeat'(first|refine zq (I hat (I hp (I htk (I e0 (I @zai zca))))) ?_|exact zd (I hat (I hp (I htk (I e0 (I @zai zca)))))|refine zc (hcl) ?_|refine zg (hcl) ?_|refine zc (hnb) ?_|refine zg (hnb) ?_|(refine zaa ?_ ?_<;>intro hb)|(refine And.intro ?_ ?_;exact zI)|(refine And.intro ?_ ?_<;>intro hg)|exact zC|fail)
    ·rw[hq,hb,if_neg (by simp)]at hF
     rw[←hF]
    ·rename_i ha
     rw[hq,ha,hb,if_neg (by simp)]at hF
     rw[←hF]
    ·rename_i ha
     exact hK _ (i+1) (Gh.canon [] [] [] (zk hw) rfl rfl) hi (by rw[za0 hi,hq,ha,hb];rfl) (by omega)
   ·have hq:zjd l i l[i]=(!(!(decide (l[i].client≥0)&&decide (l[i].client<8))||decide (l[i].num<1)||decide (l[i].num>2305843009213693952)||decide (l[i].renewed<0)||decide (l[i].renewed>2305843009213693952))&& !(decide ((l[i - 1]'(by omega)).client≥l[i].client)||numbered (l.take i) l[i].num)):=by
     unfold zjd zgv isClient zo3
     have:decide (i>0)=true:=by simpa using e0
     rw[this,List.getElem?_eq_getElem (by omega)]
     simp only[Bool.not_or,Bool.not_not,Bool.true_and,Option.map_some,Option.getD_some]
    have h0:0<i:=by simpa using e0
    have hp:=zbM (show i - 1<l.length by omega)
    have hw1:IntKind.i64.wrap ((i:Int) - 1)=((i - 1:Nat):Int):=by rw[wrap64 (by omega) (by omega)];omega
    repeat'(first|refine zq (I hat (I hp (I hw1 (I htk (I e0 (I @zai zca)))))) ?_|exact zd (I hat (I hp (I hw1 (I htk (I e0 (I @zai zca))))))|refine zc (hcl) ?_|refine zg (hcl) ?_|refine zc (hnb) ?_|refine zg (hnb) ?_|(refine zaa ?_ ?_<;>intro hb)|(refine And.intro ?_ ?_;exact zI)|(refine And.intro ?_ ?_<;>intro hg)|exact zC|fail)
    ·rw[hq,hb,if_neg (by simp)]at hF
     rw[←hF]
    ·rename_i ha
     rw[hq,ha,hb,if_neg (by simp)]at hF
     rw[←hF]
    ·rename_i ha
     exact hK _ (i+1) (Gh.canon [] [] [] (zk hw) rfl rfl) hi (by rw[za0 hi,hq,ha,hb];rfl) (by omega)
  ·have hi:i=l.length:=by
    have:¬(i:Int)<l.length:=by simpa using hge
    omega
   rw[zc0 hi]at hF
   rw[←hF]
   repeat'(first|refine zq0 ?_|exact zd0|(refine zaa ?_ ?_<;>intro hb)|(refine And.intro ?_ ?_;exact zI)|(refine And.intro ?_ ?_<;>intro hg)|exact zC|fail)
 ·have hs:sessB l=false:=by rw[sessB,h5];rfl
  rw[hs]
  repeat'(first|refine zq (I h5 @zai) ?_|exact zd (I h5 @zai)|(refine zaa ?_ ?_<;>intro hb)|(refine And.intro ?_ ?_;exact zI)|(refine And.intro ?_ ?_<;>intro hg)|exact zC|fail)
end Go.Proofs.YtngleemijkaeoaaGreat
