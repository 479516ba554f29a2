import Derived.Test.YtbpmcjeeeiffhaaGreatK8
import Derived.Test.YtbpmcjeeeiffhaaGreatE
namespace Go.Proofs.YtbpmcjeeeiffhaaGreat
open Go.Pk
set_option maxRecDepth 100000
set_option linter.unusedSimpArgs false
set_option linter.unusedVariables false
theorem zea (l:List Int) (hl:l.length<2^62) (v:Int):CallOK Tryz.prog 156 [.f (al l.length (zaw l)), .f (ai v)] (fun r o=>r=[ri (zcT (fun x=>v==x) l 0)]∧o=[]):=by
 refine zac zak mixed (T:=Ty) (n:=19) Tryz.func156 (c:=Tryz.f156.body.getD .skip) rfl Tryz.results156 Tryz.ntmps156 Tryz.call156 ?_
 simp only[Tryz.f156,Option.getD]
 refine zw ?_
 refine zam (τ:=Nat) (fun i=>⟨[al l.length (zaw l),ai v,dd,dd,ai 0,dd,al l.length (zaw l),ai l.length,ai i,dd,dd,dd,dd,dd,dd,dd,dd,dd,dd],[]⟩) (fun i=>i≤l.length) (fun i=>zcT (fun x=>v==x) (l.drop i) i) (fun i=>l.length - i) 0 (Gh.fgt ?_) (Nat.zero_le _) ?_
 ·simp only[zbh,zbi,zbI,Int.natCast_zero]
 intro i hi0 hF K hK
 refine zw ?_
 refine zaa (fun hlt=> ?_) (fun hge=> ?_)
 ·have hi:i<l.length:=by simpa using hlt
  rw[List.drop_eq_getElem_cons hi,zcT]at hF
  have hat:=zce hi
  simp only[List.cons_append,List.nil_append]at hat
  have hw:=zal hi hl
  clear hlt
  repeat'(first|refine zq (I @zaf hat) ?_|exact zd (I @zaf hat)|(refine zaa ?_ ?_<;>intro hb)|(refine And.intro ?_ ?_;exact zI)|(refine And.intro ?_ ?_<;>intro hg)|exact zC|fail)
  ·rw[if_pos hb]at hF
   rw[hF];rfl
  ·rw[if_neg (by simp[hb])]at hF
   refine hK _ (i+1) (Gh.fgt ?_) hi (by simp only[List.drop_eq_getElem_cons hi,zcT];rw[if_neg (by simp[hb])];rfl) (by omega)
   simp only[hw,zbh,zbi,zbI]
 ·have hi:i=l.length:=by
   have:¬(i:Int)<l.length:=by simpa using hge
   omega
  rw[hi,List.drop_length,zcT]at hF
  refine zw ?_
  rw[hF];rfl
theorem zbj (l:List Int) (hl:l.length<2^62) (v:Int):CallOK Tryz.prog 110 [.f (al l.length (zaw l)), .f (ai v)] (fun r o=>r=[rb (l.any fun x=>v==x)]∧o=[]):=by
 refine zac zak mixed (T:=Ty) (n:=9) Tryz.func110 (c:=Tryz.f110.body.getD .skip) rfl Tryz.results110 Tryz.ntmps110 Tryz.call110 ?_
 simp only[Tryz.f110,Option.getD]
 repeat'(first|with_reducible refine zab _ _ ?_|rw[zat]|simp only[zB,Nat.reduceSub,Nat.reduceEqDiff,Nat.reduceAdd,Nat.reduceMul,Nat.reduceLeDiff,Nat.reduceLT,Nat.reduceBEq,reduceCtorEq]|((first|((try refine zaJ ?_);apply zaP)|(apply zaM;intro _));(solve|exact(zea l hl v)|(refine CallOK.le (zea l hl v) ?_;exact zM)|fail);try case hn=>rfl)|refine zay ?_|refine zaa (fun hb=> ?_) (fun hb=> ?_)|(refine And.intro ?_ ?_;exact zI)|refine And.intro (fun hg=> ?_) (fun hg=> ?_)|exact zC|fail)
 rw[zfn]
theorem zhG (v:Int):CallOK Tryz.prog 187 [.f (ai v)] (fun r o=>r=[rb false]∧o=[]):=by
 refine zac zak mixed (T:=Ty) (n:=6) Tryz.func187 (c:=Tryz.f187.body.getD .skip) rfl Tryz.results187 Tryz.ntmps187 Tryz.call187 ?_
 simp only[Tryz.f187,Option.getD]
 repeat'(first|with_reducible refine zab _ _ ?_|rw[zat]|simp only[zB,bne_self_eq_false,Nat.reduceSub,Nat.reduceEqDiff,Nat.reduceAdd,Nat.reduceMul,Nat.reduceLeDiff,Nat.reduceLT,Nat.reduceBEq,reduceCtorEq]|refine zay ?_|refine zaa (fun hb=> ?_) (fun hb=> ?_)|(refine And.intro ?_ ?_;exact zI)|refine And.intro (fun hg=> ?_) (fun hg=> ?_)|exact zC|fail)
def zow (a b:Int):Int:=if a<b then -1 else if a>b then 1 else 0
theorem zel (a b:Int):CallOK Tryz.prog 161 [.f (ai a), .f (ai b)] (fun r o=>r=[ri (zow a b)]∧o=[]):=by
 refine zac zak mixed (T:=Ty) (n:=20) Tryz.func161 (c:=Tryz.f161.body.getD .skip) rfl Tryz.results161 Tryz.ntmps161 Tryz.call161 ?_
 simp only[Tryz.f161,Option.getD]
 repeat'(first|refine zq0 ?_|exact zd0|refine zc (zhG a) ?_|refine zg (zhG a) ?_|refine zc (zhG b) ?_|refine zg (zhG b) ?_|(refine zaa ?_ ?_<;>intro hb)|(refine And.intro ?_ ?_;exact zI)|(refine And.intro ?_ ?_<;>intro hg)|exact zC|fail)
 all_goals simp only[decide_eq_true_eq,decide_eq_false_iff_not]at*
 ·unfold zow;rw[if_pos (by assumption)]
 ·unfold zow;rw[if_neg (by assumption),if_pos (by assumption)]
 ·unfold zow;rw[if_neg (by assumption),if_neg (by assumption)]
theorem zem (n:Int):CallOK Tryz.prog 173 [.f (ai n)] (fun r o=>r=[rb (decide (n≥0)&&decide (n<8))]∧o=[]):=by
 refine zac zak mixed (T:=Ty) (n:=9) Tryz.func173 (c:=Tryz.f173.body.getD .skip) rfl Tryz.results173 Tryz.ntmps173 Tryz.call173 ?_
 simp only[Tryz.f173,Option.getD]
 repeat'(first|refine zq0 ?_|exact zd0|(refine zaa ?_ ?_<;>intro hb)|(refine And.intro ?_ ?_;exact zI)|(refine And.intro ?_ ?_<;>intro hg)|exact zC|fail)
theorem zgr (n:Int):CallOK Tryz.prog 122 [.f (ai n)] (fun r o=>r=[rb (decide (n≥0)&&decide (n<8))]∧o=[]):=by
 refine zac zak mixed (T:=Ty) (n:=9) Tryz.func122 (c:=Tryz.f122.body.getD .skip) rfl Tryz.results122 Tryz.ntmps122 Tryz.call122 ?_
 simp only[Tryz.f122,Option.getD]
 repeat'(first|refine zq0 ?_|exact zd0|(refine zaa ?_ ?_<;>intro hb)|(refine And.intro ?_ ?_;exact zI)|(refine And.intro ?_ ?_<;>intro hg)|exact zC|fail)
def isClient (n:Int):Bool:=decide (n≥0)&&decide (n<8)
def hasI (l:List Int) (v:Int):Bool:=l.any fun x=>v==x
theorem ztr (l:List Int) (hl:l.length<2^62) (c:Int):CallOK Tryz.prog 166 [.f (al l.length (zaw l)), .f (ai c)]
  (fun r o=>r=[ri (if zcT (fun x=>c==x) l 0≥0 then zcT (fun x=>c==x) l 0 else 0),rb (hasI l c)]∧o=[]):=by
 refine zac zak mixed (T:=Ty) (n:=13) Tryz.func166 (c:=Tryz.f166.body.getD .skip) rfl Tryz.results166 Tryz.ntmps166 Tryz.call166 ?_
 simp only[Tryz.f166,Option.getD]
 have hh:=zfn (fun x=>c==x) l
 repeat'(first|refine zq0 ?_|exact zd0|refine zc (zea l hl c) ?_|refine zg (zea l hl c) ?_|(refine zaa ?_ ?_<;>intro hb)|(refine And.intro ?_ ?_;exact zI)|(refine And.intro ?_ ?_<;>intro hg)|exact zC|fail)
 ·rw[hb]at hh
  unfold hasI
  rw[←hh,if_pos (by simpa using hb)]
 ·rw[hb]at hh
  unfold hasI
  rw[←hh,if_neg (by simpa using hb)]
theorem zgs {a b c a' b' c':RO}:zbw [.one a, .one b, .one c] [.one a', .one b', .one c']=(zaA a a'∧zaA b b'∧zaA c c'∧True):=rfl
def zfT (l:List Int):RF:= .one (.own 1 l.length (zaw l) false)
def zdE (l:List Int) (c:Int):List Int×Int×Int:=
 if(!isClient c)=true then([],0,1)else if hasI l c=true then([],0,7)else if decide ((l.length:Int)≥3)=true then([],0,5)else(l++[c],l.length,0)
theorem zvC (l:List Int) (hl:l.length<2^30) (c:Int):CallOK Tryz.prog 167 [.f (al l.length (zaw l)), .f (ai c)]
  (fun r o=>r=[zfT (zdE l c).1,ri (zdE l c).2.1,ri (zdE l c).2.2]∧o=[]):=by
 refine CallOK.nil ?_
 refine zac zak mixed (T:=Ty) (n:=26) Tryz.func167 (c:=Tryz.f167.body.getD .skip) rfl Tryz.results167 Tryz.ntmps167 Tryz.call167 ?_
 simp only[Tryz.f167,Option.getD]
 have hcl:=zeb l.length (zaw l) zaf (by omega)
 repeat'(first|refine zq @zaf ?_|exact zd @zaf|refine zc (zem c) ?_|refine zg (zem c) ?_|refine zc (zbj l (by omega) c) ?_|refine zg (zbj l (by omega) c) ?_|refine zc (hcl) ?_|refine zg (hcl) ?_|(refine zaa ?_ ?_<;>intro hb)|(refine And.intro ?_ ?_;exact zI)|(refine And.intro ?_ ?_<;>intro hg)|exact zC|fail)
 all_goals unfold isClient zdE hasI isClient at*
 ·rw[if_pos hb];simp[zgs,zfT,zaA]
 ·rename_i hc
  rw[if_neg (by rw[hc];simp),if_pos hb];simp[zgs,zfT,zaA]
 ·rename_i hc hh
  rw[if_neg (by rw[hc];simp),if_neg (by rw[hh];simp),if_pos hb];simp[zgs,zfT,zaA]
 ·rename_i hc hh
  rw[if_neg (by rw[hc];simp),if_neg (by rw[hh];simp),if_neg (by rw[hb];simp)];simp[zgs,zfT,zaA]
theorem zrz {l:List Int} {i:Nat} (hi:i≤l.length):(zaw l).drop i=zaw (l.drop i):=by have:=zhN (fun n=>[iD n]) 1 (fun _=>rfl) hi;rwa[Nat.mul_one]at this
theorem zmk {l:List Int} {i:Nat} (hi:i≤l.length):(zaw l).take i=zaw (l.take i):=by have:=zdr (fun n=>[iD n]) 1 (fun _=>rfl) hi;rwa[Nat.mul_one]at this
def zcN (l:List Int) (c:Int):List Int×Bool:=if zcT (fun x=>c==x) l 0<0 then(l,false)else(l.eraseIdx (zcT (fun x=>c==x) l 0).toNat,true)
theorem zts (l:List Int) (hl:l.length<2^30) (c:Int):CallOK Tryz.prog 168 [.f (al l.length (zaw l)), .f (ai c)]
  (fun r o=>r=[zfT (zcN l c).1,rb (zcN l c).2]∧o=[]):=by
 refine zac zak mixed (T:=Ty) (n:=20) Tryz.func168 (c:=Tryz.f168.body.getD .skip) rfl Tryz.results168 Tryz.ntmps168 Tryz.call168 ?_
 simp only[Tryz.f168,Option.getD]
 have hcl:=zeb l.length (zaw l) zaf (by omega)
 rcases zeo (fun x=>c==x) l 0 with⟨h1,h2⟩|⟨k,hk,h1,h2,h3⟩
 ·have hi:=zea l (by omega) c
  rw[show((0:Nat):Int)=0 from rfl]at h2
  rw[h2]at hi
  have hlt:decide ((-1:Int)<0)=true:=rfl
  repeat'(first|refine zq (I @zaf hlt) ?_|exact zd (I @zaf hlt)|refine zc (hi) ?_|refine zg (hi) ?_|refine zc (hcl) ?_|refine zg (hcl) ?_|(refine zaa ?_ ?_<;>intro hb)|(refine And.intro ?_ ?_;exact zI)|(refine And.intro ?_ ?_<;>intro hg)|exact zC|fail)
  unfold zcN
  rw[h2,if_pos (by decide)]
  rfl
 ·have hi:=zea l (by omega) c
  rw[show((0:Nat):Int)=0 from rfl,Nat.zero_add]at h1
  rw[h1]at hi
  have hlt:decide ((k:Int)<0)=false:=by simp
  have hw:=zal hk (by omega)
  obtain⟨n,hn⟩:∃n,l.length=n+1:=⟨l.length - 1,by omega⟩
  have hdl:=zrC n k (zaw l) (by rw[zaf,hn]) (by omega) (by omega)
  rw[hn]at hi hcl hk
  have hll:(zaw l).length=n+1:=by rw[zaf,hn]
  rw[hn]
  repeat'(first|refine zq (I hlt (I hw hll)) ?_|exact zd (I hlt (I hw hll))|refine zc (hi) ?_|refine zg (hi) ?_|refine zc (hcl) ?_|refine zg (hcl) ?_|(refine zaa ?_ ?_<;>intro hb)|(refine And.intro ?_ ?_;exact zI)|(refine And.intro ?_ ?_<;>intro hg)|exact zC|fail)
  refine zbY (mv:= ?mv1) (lent:= ?le1) 0 ?ha1 (hdl) ?hb1 ?hc1
  case ha1=>(try simp only[zB,zaG,Nat.reduceSub,Nat.reduceEqDiff,Nat.reduceAdd,Nat.reduceMul,Nat.reduceLeDiff,Nat.reduceLT,Nat.reduceBEq,reduceCtorEq]);exact rfl
  case hb1=>(try simp only[zB,scM,Nat.reduceSub,Nat.reduceEqDiff,Nat.reduceAdd,Nat.reduceMul,Nat.reduceLeDiff,Nat.reduceLT,Nat.reduceBEq,reduceCtorEq]);repeat'(first|rfl|trivial|omega|with_reducible refine And.intro ?_ ?_)
  show aops _ _ _ _ _ _ _ _
  repeat'(first|refine zq0 ?_|exact zd0|(refine zaa ?_ ?_<;>intro hb)|(refine And.intro ?_ ?_;exact zI)|(refine And.intro ?_ ?_<;>intro hg)|exact zC|fail)
  unfold zcN
  rw[h1,if_neg (by omega),Int.toNat_natCast]
  have he:(l.eraseIdx k).length=n:=by rw[List.length_eraseIdx];split<;>omega
  have hx:zaw (l.eraseIdx k)=List.take k (zaw l)++List.drop (k+1) (zaw l):=by
   rw[List.eraseIdx_eq_take_drop_succ,zmk (by omega),zrz (by omega)]
   simp[zaw]
  simp only[zfT,he,hx]
def zaX (l gone:List Int):List Int:=l.filter fun c=> !hasI gone c
theorem znp (gone:List Int) (hg:gone.length<2^62) (c:Int):CallOK Tryz.prog 184 [.f (ai c), .f (.one (.eltR [.lent gone.length (zaw gone)]))] (fun r o=>r=[rb (hasI gone c)]∧o=[]):=by
 refine zac zak mixed (T:=Ty) (n:=7) Tryz.func184 (c:=Tryz.f184.body.getD .skip) rfl Tryz.results184 Tryz.ntmps184 Tryz.call184 ?_
 simp only[Tryz.f184,Option.getD]
 repeat'(first|refine zq0 ?_|exact zd0|refine zc (zbj gone hg c) ?_|refine zg (zbj gone hg c) ?_|refine zc (CallOK.le (zbj gone hg c) (by simp[zdt,aLe,zsn,cLe])) ?_|refine zg (CallOK.le (zbj gone hg c) (by simp[zdt,aLe,zsn,cLe])) ?_|(refine zaa ?_ ?_<;>intro hb)|(refine And.intro ?_ ?_;exact zI)|(refine And.intro ?_ ?_<;>intro hg)|exact zC|fail)
 rfl
theorem zpl (l gone:List Int) (hl:l.length<2^30) (hg:gone.length<2^30):CallOK Tryz.prog 153 [.f (al l.length (zaw l)), .f (al gone.length (zaw gone))] (fun r o=>r=[zfT (zaX l gone)]∧o=[]):=by
 refine zac zak mixed (T:=Ty) (n:=9) Tryz.func153 (c:=Tryz.f153.body.getD .skip) rfl Tryz.results153 Tryz.ntmps153 Tryz.call153 ?_
 simp only[Tryz.f153,Option.getD]
 have hcl:=zeb l.length (zaw l) zaf (by omega)
 have hd:=ztt l (by omega) (hasI gone) 184 [.eltR [.lent gone.length (zaw gone)]] (fun _=>rfl) (fun _=>rfl) (fun _ _=>rfl) (fun _=>rfl) (fun x _=>znp gone (by omega) x)
 repeat'(first|refine zq @zaf ?_|exact zd @zaf|refine zc (hcl) ?_|refine zg (hcl) ?_|(refine zaa ?_ ?_<;>intro hb)|(refine And.intro ?_ ?_;exact zI)|(refine And.intro ?_ ?_<;>intro hg)|exact zC|fail)
 refine zbY (mv:= ?mv2) (lent:= ?le2) 0 ?ha2 (hd) ?hb2 ?hc2
 case ha2=>(try simp only[zB,zaG,Nat.reduceSub,Nat.reduceEqDiff,Nat.reduceAdd,Nat.reduceMul,Nat.reduceLeDiff,Nat.reduceLT,Nat.reduceBEq,reduceCtorEq]);exact rfl
 case hb2=>(try simp only[zB,scM,Nat.reduceSub,Nat.reduceEqDiff,Nat.reduceAdd,Nat.reduceMul,Nat.reduceLeDiff,Nat.reduceLT,Nat.reduceBEq,reduceCtorEq]);repeat'(first|rfl|trivial|omega|with_reducible refine And.intro ?_ ?_)
 show aops _ _ _ _ _ _ _ _
 repeat'(first|refine zq0 ?_|exact zd0|(refine zaa ?_ ?_<;>intro hb)|(refine And.intro ?_ ?_;exact zI)|(refine And.intro ?_ ?_<;>intro hg)|exact zC|fail)
 rfl
section
variable {α:Type} {p:α→Bool}
def zov (p:α→Bool) (l:List α):Nat:=(l.takeWhile p).length
def zv2 (p:α→Bool) (l:List α):Prop:=l.Pairwise fun x y=>p y=true→p x=true
theorem zcJ {l:List α}:zov p l≤l.length:=(List.takeWhile_prefix _).length_le
theorem zcK {x:α} {l:List α}:zov p (x::l)=if p x=true then zov p l+1 else 0:=by
 unfold zov
 rw[List.takeWhile_cons]
 split<;>simp[*]
theorem zgU:∀{l:List α} {j:Nat} (hj:j<l.length),j<zov p l→p l[j]=true
 |x::l,0,_,h=>by
  rw[zcK]at h
  split at h
  ·assumption
  ·omega
 |x::l,j+1,hj,h=>by
  rw[zcK]at h
  split at h
  ·exact zgU (l:=l) (by simpa using hj) (by omega)
  ·omega
theorem zgV:∀{l:List α} {j:Nat} (hj:j<l.length),zv2 p l→zov p l≤j→p l[j]=false
 |x::l,0,_,hm,h=>by
  rw[zcK]at h
  split at h
  ·omega
  ·rename_i hx;simpa using hx
 |x::l,j+1,hj,hm,h=>by
  have hm':=List.pairwise_cons.1 hm
  have hj':j<l.length:=by simpa using hj
  rw[zcK]at h
  split at h
  ·exact zgV (l:=l) hj' hm'.2 (by omega)
  ·rename_i hx
   have:=hm'.1 l[j] (List.getElem_mem hj')
   simp only[List.getElem_cons_succ]
   cases hc:p l[j]
   ·rfl
   ·exact absurd (this hc) hx
theorem zgq {q:α→Bool}:∀{l:List α},zv2 p l→(∀x,q x=true→p x=false)→(l.Pairwise fun x y=>q y=true→p x=true)→l.find? q=(l[zov p l]?).filter q
 |[],_,_,_=>rfl
 |x::l,hm,hq,hs=>by
  have hm':=List.pairwise_cons.1 hm
  have hs':=List.pairwise_cons.1 hs
  rw[List.find?_cons,zcK]
  cases hx:p x
  ·rw[if_neg (by simp)]
   simp only[List.getElem?_cons_zero]
   cases hqx:q x
   ·simp only[Option.filter,hqx,Bool.false_eq_true,if_false]
    rw[List.find?_eq_none]
    intro y hy hqy
    have:=hs'.1 y hy hqy
    rw[hx]at this;cases this
   ·simp[Option.filter,hqx]
  ·rw[if_pos rfl]
   have hqx:q x=false:=by
    cases hc:q x
    ·rfl
    ·have:=hq x hc;rw[hx]at this;cases this
   rw[hqx]
   simp only[List.getElem?_cons_succ]
   exact zgq hm'.2 hq hs'.2
end
def SS (l:List Sess):Prop:=l.Pairwise fun x y=>x.client<y.client
def zdR (l:List Sess) (c:Int):Nat:=zov (fun x=>decide (x.client<c)) l
def zaH (l:List Sess) (c:Int):Option Sess:=l.find? fun x=>x.client==c
theorem znn {l:List Sess} (h:SS l) (c:Int):zv2 (fun x:Sess=>decide (x.client<c)) l:=h.imp fun hxy h=>by simp at h⊢;omega
theorem zin {l:List Sess} (h:SS l) (c:Int):zaH l c=(l[zdR l c]?).filter fun x=>x.client==c:=
 zgq (q:=fun x:Sess=>x.client==c) (znn h c) (fun x hx=>by simp at hx⊢;omega) (h.imp fun hxy h=>by simp at h⊢;omega)
def SM (l:List Memo):Prop:=l.Pairwise fun x y=>x.client<y.client
def zgG (l:List Memo) (c:Int):Nat:=zov (fun x=>decide (x.client<c)) l
def zbc (l:List Memo) (c:Int):Option Memo:=l.find? fun x=>x.client==c
theorem zno {l:List Memo} (h:SM l) (c:Int):zv2 (fun x:Memo=>decide (x.client<c)) l:=h.imp fun hxy h=>by simp at h⊢;omega
theorem zmg {l:List Memo} (h:SM l) (c:Int):zbc l c=(l[zgG l c]?).filter fun x=>x.client==c:=
 zgq (q:=fun x:Memo=>x.client==c) (zno h c) (fun x hx=>by simp at hx⊢;omega) (h.imp fun hxy h=>by simp at h⊢;omega)
abbrev zdP (a b:ByteArray):Bool:=Go.Op.bytesLess a.toList b.toList
theorem zmh:∀{a:List UInt8},Go.Op.bytesLess a a=false
 |[]=>rfl
 |a::x=>by rw[Go.Op.bytesLess,zmh (a:=x)];simp
theorem zkH:∀{a b c:List UInt8},Go.Op.bytesLess a b=true→Go.Op.bytesLess b c=true→Go.Op.bytesLess a c=true
 |[],[],_,h,_=>by cases h
 |[],_::_,[],_,h=>by cases h
 |[],_::_,_::_,_,_=>rfl
 |_::_,[],_,h,_=>by cases h
 |_::_,_::_,[],_,h=>by cases h
 |a::x,b::y,c::z,h1,h2=>by
  rw[Go.Op.bytesLess]at*
  simp only[Bool.or_eq_true,Bool.and_eq_true,decide_eq_true_eq,beq_iff_eq]at*
  rcases h1 with h1|⟨rfl,h1⟩<;>rcases h2 with h2|⟨rfl,h2⟩
  ·exact .inl (UInt8.lt_trans h1 h2)
  ·exact .inl h1
  ·exact .inl h2
  ·exact .inr ⟨rfl,zkH h1 h2⟩
theorem zry:∀{a b:List UInt8},Go.Op.bytesLess a b=false→Go.Op.bytesLess b a=false→a=b
 |[],[],_,_=>rfl
 |[],_::_,h,_=>by cases h
 |_::_,[],_,h=>by cases h
 |a::x,b::y,h1,h2=>by
  rw[Go.Op.bytesLess]at*
  simp only[Bool.or_eq_false_iff,Bool.and_eq_false_iff,decide_eq_false_iff_not,beq_eq_false_iff_ne]at*
  have hab:a=b:=UInt8.le_antisymm (UInt8.not_lt.1 h2.1) (UInt8.not_lt.1 h1.1)
  subst hab
  rcases h1.2 with h|h1'
  ·exact absurd rfl h
  rcases h2.2 with h|h2'
  ·exact absurd rfl h
  rw[zry h1' h2']
def SL (l:List Lk):Prop:=l.Pairwise fun x y=>zdP x.name y.name=true
def za9 (l:List Lk) (s:ByteArray):Nat:=zov (fun x=>zdP x.name s) l
def isL (s:ByteArray) (x:Lk):Bool:=x.name.toList==s.toList
def zcL (l:List Lk) (s:ByteArray):Option Lk:=l.find? (isL s)
theorem zkI {l:List Lk} (h:SL l) (s:ByteArray):zv2 (fun x:Lk=>zdP x.name s) l:=h.imp fun hxy h=>zkH hxy h
theorem zmi {l:List Lk} (h:SL l) (s:ByteArray):zcL l s=(l[za9 l s]?).filter (isL s):=
 zgq (q:=isL s) (zkI h s) (fun x hx=>by
  simp only[isL,beq_iff_eq]at hx
  simp only[zdP,hx,zmh]) (h.imp fun hxy h=>by
  simp only[isL,beq_iff_eq]at h
  simp only[zdP]at hxy⊢
  rw[←h];exact hxy)
theorem zfS {α:Type} {o:Option α} {p:α→Bool} {x:α} (h:o.filter p=some x):o=some x∧p x=true:=by
 cases o with
 |none=>simp at h
 |some y=>
  simp only[Option.filter]at h
  split at h
  ·rename_i hp;cases h;exact⟨rfl,hp⟩
  ·cases h
theorem zmj {α:Type} {l:List α} {i:Nat} {x:α} (h:l[i]? =some x):∃hi:i<l.length,l[i]=x:=by
 obtain⟨hi,h⟩:=List.getElem?_eq_some_iff.1 h
 exact⟨hi,h⟩
theorem zhE {l:List Sess} (h:SS l) {c:Int} {x:Sess} (hx:zaH l c=some x):(∃hi:zdR l c<l.length,l[zdR l c]=x)∧x.client=c:=by
 rw[zin h]at hx
 obtain⟨h1,h2⟩:=zfS hx
 exact⟨zmj h1,by simpa using h2⟩
theorem zcM {l:List Lk} (h:SL l) {s:ByteArray} {x:Lk} (hx:zcL l s=some x):(∃hi:za9 l s<l.length,l[za9 l s]=x)∧isL s x=true:=by
 rw[zmi h]at hx
 obtain⟨h1,h2⟩:=zfS hx
 exact⟨zmj h1,h2⟩
theorem zhF {l:List Memo} (h:SM l) {c:Int} {x:Memo} (hx:zbc l c=some x):(∃hi:zgG l c<l.length,l[zgG l c]=x)∧x.client=c:=by
 rw[zmg h]at hx
 obtain⟨h1,h2⟩:=zfS hx
 exact⟨zmj h1,by simpa using h2⟩
def zbx {α:Type} (q:Nat→α→Bool):Nat→List α→Bool
 |_,[]=>true
 |i,x::r=>if q i x=true then zbx q (i+1) r else false
theorem zcz {α:Type} {q:Nat→α→Bool}:∀{l:List α} {i:Nat},zbx q i l=true↔∀j (hj:j<l.length),q (i+j) l[j]=true
 |[],i=>by simp[zbx]
 |x::l,i=>by
  rw[zbx]
  constructor
  ·intro h
   split at h
   ·rename_i hx
    intro j hj
    cases j with
    |zero=>exact hx
    |succ j=>
     have:=zcz.1 h j (by simpa using hj)
     simp only[List.getElem_cons_succ]
     rw[show i+(j+1)=i+1+j by omega];exact this
   ·cases h
  ·intro h
   have h0:=h 0 (by simp)
   simp only[List.getElem_cons_zero,Nat.add_zero]at h0
   rw[if_pos h0,zcz]
   intro j hj
   have:=h (j+1) (by simpa using hj)
   simp only[List.getElem_cons_succ]at this
   rw[show i+1+j=i+(j+1) by omega];exact this
theorem zaS {α:Type} {q:Nat→α→Bool} {l:List α} {i:Nat} (h:i<l.length):zbx q i (l.drop i)=if q i l[i]=true then zbx q (i+1) (l.drop (i+1))else false:=by
 rw[List.drop_eq_getElem_cons h,zbx]
theorem zdo {α:Type} {q:Nat→α→Bool} {l:List α} {i:Nat} (h:i=l.length):zbx q i (l.drop i)=true:=by
 rw[h,List.drop_length,zbx]
def zhd (s:Sess):Bool:=isClient s.client&& !(decide (s.num<1))&& !(decide (s.num>zbg))&& !(decide (s.renewed<0))&& !(decide (s.renewed>zbg))
def numbered (l:List Sess) (n:Int):Bool:=l.any fun x=>x.num==n
def zru (l:List Sess) (i:Nat):Int:=(l[i - 1]?.map Sess.client).getD 0
def zkF (l:List Sess) (i:Nat) (s:Sess):Bool:=zhd s&& !((decide (i>0)&&decide (zru l i≥s.client))||numbered (l.take i) s.num)
def sessB (l:List Sess):Bool:= !(decide ((l.length:Int)>5))&&zbx (zkF l) 0 l
def zck (l:List Sess) (c num now:Int):List Sess×Int:=
 if(!isClient c||decide (num<1)||decide (num>zbg)||decide (now<0)||decide (now>zbg)||(!(zaH l c).isSome&&numbered l num)||((zaH l c).isSome&&(((zaH l c).map Sess.num).getD 0 !=num)&&numbered l num))=true then([],1)else
 if(zaH l c).isSome=true then([],7)else if decide ((l.length:Int)≥5)=true then([],5)else(l.take (zdR l c)++⟨c,num,now⟩::l.drop (zdR l c),0)
def zbf (l:List Sess) (c now:Int):List Sess×Int:=
 if(decide (now<0)||decide (now>zbg))=true then([],1)else
 match zaH l c with
 |none=>([],6)
 |some x=>(l.set (zdR l c) ⟨x.client,x.num,max x.renewed now⟩,0)
def zkG (l:List Sess) (now lease:Int):List Int:=
 if(decide (now<0)||decide (now>zbg)||decide (lease<0)||decide (lease>zbg))=true then []else(l.filter fun s=>decide (now - s.renewed≥lease)).map Sess.client
def zrv (l:List Int) (i:Nat) (c:Int):Bool:= !(!isClient c||hasI (l.take i) c)
def lineB (l:List Int):Bool:=zbx (zrv l) 0 l&&decide ((l.length:Int)≤3)
def zrw (l:List Lk) (i:Nat):ByteArray:=(l[i - 1]?.map Lk.name).getD .empty
def zpk (k:Lk):Bool:=nameP k.name&& !(decide (k.holder<0))&& !(decide (k.holder≥8))&& !(decide (k.token<1))&& !(decide (k.token>zbg))
def zme (l:List Lk) (i:Nat) (k:Lk):Bool:=zpk k&& !(!lineB k.line||hasI k.line k.holder||(decide (i>0)&& !(zdP (zrw l i) k.name)))&& !((l.take i).any fun o=>o.token==k.token)
def lockB (l:List Lk):Bool:=zbx (zme l) 0 l&&decide ((l.length:Int)≤4)
def zim (l:List Int) (c:Int):Int:=if zcT (fun x=>c==x) l 0≥0 then zcT (fun x=>c==x) l 0 else 0
def zaI (l:List Lk) (name:ByteArray) (c token:Int) (wait:Bool):List Lk×Int×Int:=
 match zcL l name with
 |none=>if decide ((l.length:Int)≥4)=true then([],0,5)else(l.take (za9 l name)++⟨name,c,token+1,[]⟩::l.drop (za9 l name),0,0)
 |some k=>if(k.holder==c)=true then([],0,7)else if(!wait)=true then([],0,8)else
  if hasI k.line c=true then(l,zim k.line c,10)else
  if(zdE k.line c).2.2≠0 then([],0,(zdE k.line c).2.2)else(l.set (za9 l name) ⟨k.name,k.holder,k.token,(zdE k.line c).1⟩,(zdE k.line c).2.1,10)
def zcV (l:List Lk) (i:Nat) (k:Lk) (token:Int):List Lk×Int:=
 match k.line with
 |[]=>(l.eraseIdx i,0)
 |c::rest=>(l.set i ⟨k.name,c,token+1,rest⟩,1)
def za2 (l:List Lk) (name:ByteArray) (c token:Int):List Lk×Int×Int:=
 match zcL l name with
 |none=>([],0,6)
 |some k=>if(k.holder==c)=true then((zcV l (za9 l name) k token).1,(zcV l (za9 l name) k token).2,0)else
  if hasI k.line c=true then(l.set (za9 l name) ⟨k.name,k.holder,k.token,(zcN k.line c).1⟩,0,0)else([],0,6)
def zbO (gone:List Int) (token:Int):List Lk→Int→List Lk×Int
 |[],g=>([],g)
 |k::r,g=>if hasI gone k.holder=true then
   match k.line with
   |[]=>zbO gone token r g
   |c::rest=>(⟨k.name,c,token+g+1,rest⟩::(zbO gone token r (g+1)).1,(zbO gone token r (g+1)).2)
  else(k::(zbO gone token r g).1,(zbO gone token r g).2)
def zar (gone:List Int) (k:Lk):Lk:=⟨k.name,k.holder,k.token,zaX k.line gone⟩
def zcs (l:List Lk) (gone:List Int) (token:Int):List Lk×Int:=zbO gone token (l.map (zar gone)) 0
def za7 (l:List Lk) (c:Int):List Grant:=(l.filter fun k=>k.holder==c).map fun k=>⟨k.name,k.token⟩
def ztq (l:List Grant) (i:Nat):ByteArray:=(l[i - 1]?.map Grant.name).getD .empty
def zcA (l:List Grant) (i:Nat) (g:Grant):Bool:= !(!nameP g.name||decide (g.token<1)||decide (g.token>zbg)||(decide (i>0)&& !(zdP (ztq l i) g.name)))
def zbV (r:Reply):Bool:=
 !(decide (r.code<0)||decide (r.code>12)||decide (r.session<0)||decide (r.session>zbg)||decide (r.ahead<0)||decide (r.ahead>3))&&
 !(decide ((r.held.length:Int)>4)||((r.session==0)&&decide ((r.held.length:Int)>0)))&&zbx (zcA r.held) 0 r.held
def answerB (m:Memo):Bool:=decide (m.client≥0)&&decide (m.client<8)&&decide (m.seq≥1)&&decide (m.seq≤zbg)&&zbV m.reply
def zrx (l:List Memo) (i:Nat):Int:=(l[i - 1]?.map Memo.client).getD 0
def zmf (l:List Memo) (i:Nat) (m:Memo):Bool:= !(!answerB m||(decide (i>0)&&decide (zrx l i≥m.client)))
def memoB (l:List Memo):Bool:=zbx (zmf l) 0 l
def zbW (l:List Memo) (c seq:Int):Int:=
 match zbc l c with
 |none=>1
 |some m=>if m.seq<seq then 1 else if m.seq=seq then 0 else -1
def zeB (l:List Memo) (a:Memo):List Memo:=
 if(!answerB a||(zbW l a.client a.seq !=1))=true then l else
 if(zbc l a.client).isSome=true then l.set (zgG l a.client) a else l.take (zgG l a.client)++a::l.drop (zgG l a.client)
def within (n:Int):Bool:=decide (n≥0)&&decide (n≤zbg)
def zgT (s:St):Bool:=s.locks.all fun k=>(k.holder::k.line).all fun c=>(zaH s.sess c).isSome
def zfF (s:St):Bool:=within s.time&&within s.num&&within s.token&&sessB s.sess&&lockB s.locks&&memoB s.memos&&(s.sess.all fun x=>decide (x.num≤s.num))&&(s.locks.all fun k=>decide (k.token≤s.token))&&zgT s
def zbb (s:St) (gone:List Int):St:=⟨s.time,s.num,s.token+(zcs s.locks gone s.token).2,s.sess.filter fun x=> !hasI gone x.client,(zcs s.locks gone s.token).1,s.memos⟩
def zcW (s:St) (time:Int):Int:=if(decide (time>s.time)&&decide (time≤zbg))=true then time else s.time
def zbl (s:St) (time lease:Int):St:=zbb {s with time:=zcW s time} (zkG s.sess (zcW s time) (max lease 1))
def rpl (code session ahead:Int) (held:List Grant):Reply:=⟨code,session,ahead,held⟩
def zbz (s:St) (c:Int):St×Reply:=
 match zaH s.sess c with
 |some x=>(s,⟨7,x.num,0,za7 s.locks c⟩)
 |none=>if(zck s.sess c (s.num+1) s.time).2≠0 then(s,⟨(zck s.sess c (s.num+1) s.time).2,0,0,[]⟩)else
  ({s with sess:=(zck s.sess c (s.num+1) s.time).1,num:=s.num+1},⟨0,s.num+1,0,za7 s.locks c⟩)
def zaY (s:St) (r:Req):St×Reply:=
 if(r.kind==1)=true then zbz s r.client else
 match zaH s.sess r.client with
 |none=>(s,⟨9,0,0,[]⟩)
 |some x=>if(x.num !=r.session)=true then(s,⟨9,0,0,[]⟩)else
  let s1:St:={s with sess:=(zbf s.sess r.client s.time).1}
  if(r.kind==3||r.kind==4)=true then
   let t:=zaI s1.locks r.name r.client s1.token (r.kind==3)
   let s2:St:=if t.2.2=0 then {s1 with locks:=t.1,token:=s1.token+1}else if t.2.2=10 then {s1 with locks:=t.1}else s1
   (s2,⟨t.2.2,x.num,if t.2.2=10 then t.2.1 else 0,za7 s2.locks r.client⟩)
  else if(r.kind==5)=true then
   let t:=za2 s1.locks r.name r.client s1.token
   let s2:St:=if t.2.2=0 then {s1 with locks:=t.1,token:=s1.token+t.2.1}else s1
   (s2,⟨t.2.2,x.num,0,za7 s2.locks r.client⟩)
  else if(r.kind==6)=true then(zbb s1 [r.client],⟨0,0,0,[]⟩)
  else(s1,⟨0,x.num,0,za7 s1.locks r.client⟩)
def zbN (s:St) (r:Req):St×Reply×Bool:=
 if(!Req.may r)=true then(s,⟨1,0,0,[]⟩,false)else
 if zbW s.memos r.client r.seq= -1 then(s,⟨0,0,0,[]⟩,false)else
 if zbW s.memos r.client r.seq=0 then(s,((zbc s.memos r.client).map Memo.reply).getD ⟨0,0,0,[]⟩,false)else
 ({(zaY s r).1 with memos:=zeB (zaY s r).1.memos ⟨r.client,r.seq,(zaY s r).2⟩},(zaY s r).2,true)
def zzk (a b:St):List Int:=(a.sess.filter fun x=> !((zaH b.sess x.client).any fun y=>y.num==x.num)).map Sess.client
theorem zmw {a b:Int}:(zow a b==0)=(a==b):=by
 unfold zow
 split
 ·rw[Bool.eq_iff_iff];simp;omega
 ·split
  ·rw[Bool.eq_iff_iff];simp;omega
  ·rw[Bool.eq_iff_iff];simp;omega
theorem zkQ {a b:Int}:zow a b<0↔a<b:=by
 unfold zow
 split
 ·simp;omega
 ·split<;>simp<;>omega
theorem zkR {α:Type} {o:Option α} {p:α→Bool}:(o.filter p).isSome=(o.map p).getD false:=by
 cases o with
 |none=>rfl
 |some x=>simp only[Option.filter,Option.map_some,Option.getD_some];cases p x<;>rfl
theorem zvJ (x:Sess) (n:Int):CallOK Tryz.prog 172 [.f (zio x), .f (.one (.elt [iD n]))] (fun r o=>r=[rb (x.num==n)]∧o=[]):=by
 refine zac zak mixed (T:=Ty) (n:=8) Tryz.func172 (c:=Tryz.f172.body.getD .skip) rfl Tryz.results172 Tryz.ntmps172 Tryz.call172 ?_
 simp only[Tryz.f172,Option.getD]
 repeat'(first|refine zq0 ?_|exact zd0|(refine zaa ?_ ?_<;>intro hb)|(refine And.intro ?_ ?_;exact zI)|(refine And.intro ?_ ?_<;>intro hg)|exact zC|fail)
theorem zis (l:List Sess) (hl:l.length<2^62) (n:Int):CallOK Tryz.prog 123 [.f (al l.length (zaF l)), .f (ai n)] (fun r o=>r=[rb (numbered l n)]∧o=[]):=by
 refine zac zak mixed (T:=Ty) (n:=8) Tryz.func123 (c:=Tryz.f123.body.getD .skip) rfl Tryz.results123 Tryz.ntmps123 Tryz.call123 ?_
 simp only[Tryz.f123,Option.getD]
 have h:=zkL l hl (fun x=>x.num==n) 172 [.elt [iD n]] rfl rfl (fun x _=>zvJ x n)
 repeat'(first|refine zq0 ?_|exact zd0|refine zc (h) ?_|refine zg (h) ?_|(refine zaa ?_ ?_<;>intro hb)|(refine And.intro ?_ ?_;exact zI)|(refine And.intro ?_ ?_<;>intro hg)|exact zC|fail)
 rfl
theorem zpv (x:Sess) (c:Int):CallOK Tryz.prog 189 [.f (zio x), .f (ai c)] (fun r o=>r=[ri (zow x.client c)]∧o=[]):=by
 refine zac zak mixed (T:=Ty) (n:=9) Tryz.func189 (c:=Tryz.f189.body.getD .skip) rfl Tryz.results189 Tryz.ntmps189 Tryz.call189 ?_
 simp only[Tryz.f189,Option.getD]
 repeat'(first|refine zq0 ?_|exact zd0|refine zc (zel x.client c) ?_|refine zg (zel x.client c) ?_|(refine zaa ?_ ?_<;>intro hb)|(refine And.intro ?_ ?_;exact zI)|(refine And.intro ?_ ?_<;>intro hg)|exact zC|fail)
theorem zit (l:List Sess) (hs:SS l) (hl:l.length<2^62) (c:Int):CallOK Tryz.prog 162 [.f (al l.length (zaF l)), .f (ai c)] (fun r o=>r=[ri (zdR l c),rb (zaH l c).isSome]∧o=[]):=by
 refine zac zak mixed (T:=Ty) (n:=11) Tryz.func162 (c:=Tryz.f162.body.getD .skip) rfl Tryz.results162 Tryz.ntmps162 Tryz.call162 ?_
 simp only[Tryz.f162,Option.getD]
 have h:=zmo l hl c (fun x=>zow x.client c) 189 (zdR l c) zcJ
  (fun j hj h=>by have:=zgU hj h;simp at this;exact zkQ.2 this)
  (fun j hj h=>by have:=zgV hj (znn hs c) h;simp at this;have h2:= @zkQ l[j].client c;omega) (fun x _=>zpv x c)
 have e:((l[zdR l c]?.map fun x=>zow x.client c==0).getD false)=(zaH l c).isSome:=by
  rw[zin hs,zkR]
  simp only[zmw]
 rw[e]at h
 repeat'(first|refine zq0 ?_|exact zd0|refine zc (h) ?_|refine zg (h) ?_|(refine zaa ?_ ?_<;>intro hb)|(refine And.intro ?_ ?_;exact zI)|(refine And.intro ?_ ?_<;>intro hg)|exact zC|fail)
theorem zoz {a b a' b':RO}:zbw [.one a, .one b] [.one a', .one b']=(zaA a a'∧zaA b b'∧True):=rfl
def zey:Sess:=⟨0,0,0⟩
theorem zkS (l:List Sess) (hs:SS l) (hl:l.length<2^62) (c:Int):CallOK Tryz.prog 114 [.f (al l.length (zaF l)), .f (ai c)]
  (fun r o=>r=[.agg [.d (iD ((zaH l c).getD zey).client), .d (iD ((zaH l c).getD zey).num), .d (iD ((zaH l c).getD zey).renewed)],rb (zaH l c).isSome]∧o=[]):=by
 refine zac zak mixed (T:=Ty) (n:=20) Tryz.func114 (c:=Tryz.f114.body.getD .skip) rfl Tryz.results114 Tryz.ntmps114 Tryz.call114 ?_
 simp only[Tryz.f114,Option.getD]
 have h:=zit l hs hl c
 cases hf:zaH l c with
 |none=>
  rw[hf]at h
  simp only[Option.isSome_none]at h
  repeat'(first|refine zq0 ?_|exact zd0|refine zc (h) ?_|refine zg (h) ?_|(refine zaa ?_ ?_<;>intro hb)|(refine And.intro ?_ ?_;exact zI)|(refine And.intro ?_ ?_<;>intro hg)|exact zC|fail)
  rfl
 |some x=>
  rw[hf]at h
  simp only[Option.isSome_some]at h
  rw[zin hs]at hf
  have hg:l[zdR l c]? =some x:=by
   cases hq:l[zdR l c]? with
   |none=>rw[hq]at hf;simp at hf
   |some y=>rw[hq]at hf;simp only[Option.filter]at hf;split at hf<;>simp_all
  obtain⟨hi,he⟩:=List.getElem?_eq_some_iff.1 hg
  have hat:=zbv hi
  rw[he]at hat
  simp only[List.cons_append,List.nil_append]at hat
  repeat'(first|refine zq (I hat @zai) ?_|exact zd (I hat @zai)|refine zc (h) ?_|refine zg (h) ?_|(refine zaa ?_ ?_<;>intro hb)|(refine And.intro ?_ ?_;exact zI)|(refine And.intro ?_ ?_<;>intro hg)|exact zC|fail)
  rfl
theorem zwF (l:List Sess) (hl:l.length<2^30) (now lease:Int) (hr:∀s∈l,0≤s.renewed∧s.renewed≤zbg):CallOK Tryz.prog 59 [.f (al l.length (zaF l)), .f (ai now), .f (ai lease)]
  (fun r o=>r=[zfT (zkG l now lease)]∧o=[]):=by
 refine CallOK.nil ?_
 refine zac zak mixed (T:=Ty) (n:=43) Tryz.func59 (c:=Tryz.f59.body.getD .skip) rfl Tryz.results59 Tryz.ntmps59 Tryz.call59 ?_
 simp only[Tryz.f59,Option.getD]
 cases hc:(decide (now<0)||decide (now>zbg)||decide (lease<0)||decide (lease>zbg))
 ·have hd:zkG l now lease=(l.filter fun s=>decide (now - s.renewed≥lease)).map Sess.client:=by rw[zkG,if_neg (by rw[hc];simp)]
  rw[hd]
  have hn:0≤now∧now≤zbg:=by simp at hc;omega
  repeat'(first|refine zq (I hc @zai) ?_|exact zd (I hc @zai)|(refine zaa ?_ ?_<;>intro hb)|(refine And.intro ?_ ?_;exact zI)|(refine And.intro ?_ ?_<;>intro hg)|exact zC|fail)
  refine zam (τ:=Nat×List Int) (fun t=>⟨[dd,ai now,ai lease,dd,dd,dd,dd, .one (.own ⟨7,1,1⟩ 0 t.2.length),dd,dd,dd,dd,dd,dd,dd,dd,dd,dd,dd,dd,dd,dd,dd,dd,al l.length (zaF l),ai l.length,ai t.1,dd,dd,dd,dd,dd,dd,dd,dd,dd,dd,dd,dd,dd,dd,dd,dd],[(7,{next:=2,l:=[none,some {e:=1,var:=false,fz:=false,sz:=1,cells:=(zaw t.2).map C.d}]}),(9,⟨2,[]⟩),(39,⟨2,[]⟩),(40,⟨2,[]⟩)]⟩)
   (fun t=>t.1≤l.length∧t.2.length≤t.1) (fun t=>t.2++((l.drop t.1).filter fun s=>decide (now - s.renewed≥lease)).map Sess.client) (fun t=>l.length - t.1) (0,[])
   ((Gh.nil (i:=7) (s:=7) (sz:=1) rfl).trans (Gh.canon [7] [9,39,40] [] zK rfl rfl)) ⟨Nat.zero_le _,Nat.zero_le _⟩ ?_
  intro⟨i,acc⟩ ⟨hi0,ha⟩ hF K hK
  simp only[List.drop_zero,List.nil_append]at hi0 ha hF hK⊢
  refine zw ?_
  refine zaa (fun hlt=> ?_) (fun hge=> ?_)
  ·have hi:i<l.length:=by simpa using hlt
   have hat:=zbv hi
   simp only[List.cons_append,List.nil_append]at hat
   have hw:=zal hi (by omega)
   have hrb:=hr _ (List.getElem_mem hi)
   have hH:zbg=2305843009213693952:=rfl
   have hw2:IntKind.i64.wrap (now - l[i].renewed)=now - l[i].renewed:=wrap64 (by omega) (by omega)
   have hFs:((l.drop i).filter fun s=>decide (now - s.renewed≥lease)).map Sess.client=if decide (now - l[i].renewed≥lease)=true then l[i].client::((l.drop (i+1)).filter fun s=>decide (now - s.renewed≥lease)).map Sess.client else((l.drop (i+1)).filter fun s=>decide (now - s.renewed≥lease)).map Sess.client:=by
    rw[List.drop_eq_getElem_cons hi,List.filter_cons]
    split<;>simp
   cases hb:decide (now - l[i].renewed≥lease)
   ·rw[hb,if_neg (by simp)]at hFs
    repeat'(first|refine zq (I hat (I @zai (I hw2 hb))) ?_|exact zd (I hat (I @zai (I hw2 hb)))|(refine zaa ?_ ?_<;>intro hb)|(refine And.intro ?_ ?_;exact zI)|(refine And.intro ?_ ?_<;>intro hg)|exact zC|fail)
    exact hK _ (i+1,acc) (Gh.canon [7] [] [] (zk hw) rfl rfl) ⟨hi,by simp only;omega⟩ (by simp only;rw[hFs]) (by simp only;omega)
   ·rw[hb,if_pos rfl]at hFs
    repeat'(first|refine zq (I hat (I @zai (I hw2 hb))) ?_|exact zd (I hat (I @zai (I hw2 hb)))|(refine zaa ?_ ?_<;>intro hb)|(refine And.intro ?_ ?_;exact zI)|(refine And.intro ?_ ?_<;>intro hg)|exact zC|fail)
    exact hK _ (i+1,acc++[l[i].client]) (Gh.canon [7] [] [] (zk (I hw (I @List.length_append.{0} @List.length_singleton.{0}))) rfl (by simp only[List.length_append,List.length_singleton];rw[ze6];rfl)) ⟨hi,by simp only[List.length_append,List.length_singleton];omega⟩ (by simp only[List.append_assoc,List.singleton_append];rw[hFs]) (by simp only;omega)
  ·have hi:i=l.length:=by
    have:¬(i:Int)<l.length:=by simpa using hge
    omega
   rw[hi,List.drop_length,List.filter_nil,List.map_nil,List.append_nil]at hF
   rw[←hF]
   repeat'(first|refine zq0 ?_|exact zd0|(refine zaa ?_ ?_<;>intro hb)|(refine And.intro ?_ ?_;exact zI)|(refine And.intro ?_ ?_<;>intro hg)|exact zC|fail)
   simp[ziK,zaA,zfT]
 ·have hd:zkG l now lease=[]:=by rw[zkG,if_pos hc]
  rw[hd]
  repeat'(first|refine zq hc ?_|exact zd hc|(refine zaa ?_ ?_<;>intro hb)|(refine And.intro ?_ ?_;exact zI)|(refine And.intro ?_ ?_<;>intro hg)|exact zC|fail)
  simp[ziK,zaA,zfT]
set_option maxHeartbeats 4000000 in
theorem zvK (l:List Sess) (hs:SS l) (hl:l.length<2^30) (c num now:Int) (hc:isClient c=true) (h1:1≤num) (hn:0≤now∧now≤zbg) (hf:zaH l c=none) (hnum:numbered l num=false):
  CallOK Tryz.prog 163 [.f (al l.length (zaF l)), .f (ai c), .f (ai num), .f (ai now)]
  (fun r o=>r=[.one (.own 3 (zck l c num now).1.length (zaF (zck l c num now).1) false),ri (zck l c num now).2]∧o=[]):=by
 refine CallOK.nil ?_
 refine zac zak mixed (T:=Ty) (n:=76) Tryz.func163 (c:=Tryz.f163.body.getD .skip) rfl Tryz.results163 Tryz.ntmps163 Tryz.call163 ?_
 simp only[Tryz.f163,Option.getD]
 have hp:=zit l hs (by omega) c
 have hcl:=zgr c
 rw[show(decide (c≥0)&&decide (c<8))=true from hc]at hcl
 have hnb:=zis l (by omega) num
 rw[hnum]at hnb
 rw[hf]at hp
 simp only[Option.isSome_none]at hp
 have hcn:=zgW l.length (zaF l) zai (by omega)
 have e1:decide (num<1)=false:=by simp;omega
 have e2:decide (now<0)=false:=by simp;omega
 have e3:decide (now>2305843009213693952)=false:=by have:zbg=2305843009213693952:=rfl;simp;omega
 have hin:=zpp l.length (zdR l c) (zaF l) [iD c,iD num,iD now] zai rfl zcJ hl
 have eo:zck l c num now=if decide (num>zbg)=true then([],1)else if decide ((l.length:Int)≥5)=true then([],5)else(l.take (zdR l c)++⟨c,num,now⟩::l.drop (zdR l c),0):=by
  unfold zck
  rw[hf,hnum,hc,e1,e2,e3]
  cases decide (num>zbg)<;>simp
 rw[eo]
 have hd:(zaF l).drop (zdR l c*3)=[]∨∃n1 n2 n3 q,(zaF l).drop (zdR l c*3)=iD n1::iD n2::iD n3::q:=by
  rcases Nat.lt_or_ge (zdR l c) l.length with h|h
  ·exact .inr ⟨_,_,_,_,zbv h⟩
  ·exact .inl (List.drop_of_length_le (by rw[zai];omega))
 have hti:=znq Sess.enc 3 (fun _=>rfl) (l:=l) (k:=zdR l c) zcJ ⟨c,num,now⟩
 have htl:=zkJ (l:=l) (k:=zdR l c) zcJ ⟨c,num,now⟩
 cases e4:decide (num>2305843009213693952)
 ·rw[if_neg (by simp)]
  cases e5:decide ((l.length:Int)≥5)
  ·rw[if_neg (by simp)]
   simp only[hti,htl]
   rcases hd with hat|⟨n1,n2,n3,q,hat⟩
   ·rw[hat]at hin
    repeat'(first|refine zq (I @zai (I @List.drop_nil.{0} (I hat (I e1 (I e2 (I e3 (I e4 e5))))))) ?_|exact zd (I @zai (I @List.drop_nil.{0} (I hat (I e1 (I e2 (I e3 (I e4 e5)))))))|refine zc (hp) ?_|refine zg (hp) ?_|refine zc (hcl) ?_|refine zg (hcl) ?_|refine zc (hnb) ?_|refine zg (hnb) ?_|refine zc (hcn) ?_|refine zg (hcn) ?_|(refine zaa ?_ ?_<;>intro hb)|(refine And.intro ?_ ?_;exact zI)|(refine And.intro ?_ ?_<;>intro hg)|exact zC|fail)
    refine zbY (mv:= ?mv1) (lent:= ?le1) 0 ?ha1 (hin) ?hb1 ?hc1
    case ha1=>(try simp only[zB,zaG,Nat.reduceSub,Nat.reduceEqDiff,Nat.reduceAdd,Nat.reduceMul,Nat.reduceLeDiff,Nat.reduceLT,Nat.reduceBEq,reduceCtorEq]);exact rfl
    case hb1=>(try simp only[zB,scM,Nat.reduceSub,Nat.reduceEqDiff,Nat.reduceAdd,Nat.reduceMul,Nat.reduceLeDiff,Nat.reduceLT,Nat.reduceBEq,reduceCtorEq]);repeat'(first|rfl|trivial|omega|with_reducible refine And.intro ?_ ?_)
    show aops _ _ _ _ _ _ _ _
    repeat'(first|refine zq hat ?_|exact zd hat|(refine zaa ?_ ?_<;>intro hb)|(refine And.intro ?_ ?_;exact zI)|(refine And.intro ?_ ?_<;>intro hg)|exact zC|fail)
    simp[zoz,zaA]
   ·rw[hat]at hin
    repeat'(first|refine zq (I @zai (I hat (I e1 (I e2 (I e3 (I e4 e5)))))) ?_|exact zd (I @zai (I hat (I e1 (I e2 (I e3 (I e4 e5))))))|refine zc (hp) ?_|refine zg (hp) ?_|refine zc (hcl) ?_|refine zg (hcl) ?_|refine zc (hnb) ?_|refine zg (hnb) ?_|refine zc (hcn) ?_|refine zg (hcn) ?_|(refine zaa ?_ ?_<;>intro hb)|(refine And.intro ?_ ?_;exact zI)|(refine And.intro ?_ ?_<;>intro hg)|exact zC|fail)
    refine zbY (mv:= ?mv2) (lent:= ?le2) 0 ?ha2 (hin) ?hb2 ?hc2
    case ha2=>(try simp only[zB,zaG,Nat.reduceSub,Nat.reduceEqDiff,Nat.reduceAdd,Nat.reduceMul,Nat.reduceLeDiff,Nat.reduceLT,Nat.reduceBEq,reduceCtorEq]);exact rfl
    case hb2=>(try simp only[zB,scM,Nat.reduceSub,Nat.reduceEqDiff,Nat.reduceAdd,Nat.reduceMul,Nat.reduceLeDiff,Nat.reduceLT,Nat.reduceBEq,reduceCtorEq]);repeat'(first|rfl|trivial|omega|with_reducible refine And.intro ?_ ?_)
    show aops _ _ _ _ _ _ _ _
    repeat'(first|refine zq hat ?_|exact zd hat|(refine zaa ?_ ?_<;>intro hb)|(refine And.intro ?_ ?_;exact zI)|(refine And.intro ?_ ?_<;>intro hg)|exact zC|fail)
    simp[zoz,zaA]
  ·rw[if_pos rfl]
   rcases hd with hat|⟨n1,n2,n3,q,hat⟩
   ·repeat'(first|refine zq (I @zai (I @List.drop_nil.{0} (I hat (I e1 (I e2 (I e3 (I e4 e5))))))) ?_|exact zd (I @zai (I @List.drop_nil.{0} (I hat (I e1 (I e2 (I e3 (I e4 e5)))))))|refine zc (hp) ?_|refine zg (hp) ?_|refine zc (hcl) ?_|refine zg (hcl) ?_|refine zc (hnb) ?_|refine zg (hnb) ?_|refine zc (hcn) ?_|refine zg (hcn) ?_|(refine zaa ?_ ?_<;>intro hb)|(refine And.intro ?_ ?_;exact zI)|(refine And.intro ?_ ?_<;>intro hg)|exact zC|fail)
    simp[zoz,zaA]
   ·repeat'(first|refine zq (I @zai (I hat (I e1 (I e2 (I e3 (I e4 e5)))))) ?_|exact zd (I @zai (I hat (I e1 (I e2 (I e3 (I e4 e5))))))|refine zc (hp) ?_|refine zg (hp) ?_|refine zc (hcl) ?_|refine zg (hcl) ?_|refine zc (hnb) ?_|refine zg (hnb) ?_|refine zc (hcn) ?_|refine zg (hcn) ?_|(refine zaa ?_ ?_<;>intro hb)|(refine And.intro ?_ ?_;exact zI)|(refine And.intro ?_ ?_<;>intro hg)|exact zC|fail)
    simp[zoz,zaA]
 ·rw[if_pos rfl]
  rcases hd with hat|⟨n1,n2,n3,q,hat⟩
  ·repeat'(first|refine zq (I @zai (I @List.drop_nil.{0} (I hat (I e1 (I e2 (I e3 e4)))))) ?_|exact zd (I @zai (I @List.drop_nil.{0} (I hat (I e1 (I e2 (I e3 e4))))))|refine zc (hp) ?_|refine zg (hp) ?_|refine zc (hcl) ?_|refine zg (hcl) ?_|refine zc (hnb) ?_|refine zg (hnb) ?_|refine zc (hcn) ?_|refine zg (hcn) ?_|(refine zaa ?_ ?_<;>intro hb)|(refine And.intro ?_ ?_;exact zI)|(refine And.intro ?_ ?_<;>intro hg)|exact zC|fail)
   simp[zoz,zaA]
  ·repeat'(first|refine zq (I @zai (I hat (I e1 (I e2 (I e3 e4))))) ?_|exact zd (I @zai (I hat (I e1 (I e2 (I e3 e4)))))|refine zc (hp) ?_|refine zg (hp) ?_|refine zc (hcl) ?_|refine zg (hcl) ?_|refine zc (hnb) ?_|refine zg (hnb) ?_|refine zc (hcn) ?_|refine zg (hcn) ?_|(refine zaa ?_ ?_<;>intro hb)|(refine And.intro ?_ ?_;exact zI)|(refine And.intro ?_ ?_<;>intro hg)|exact zC|fail)
   simp[zoz,zaA]
theorem ztu (l:List Sess) (hs:SS l) (hl:l.length<2^30) (c now:Int) (hn:0≤now∧now≤zbg) (hf:(zaH l c).isSome=true):CallOK Tryz.prog 116 [.f (al l.length (zaF l)), .f (ai c), .f (ai now)]
  (fun r o=>r=[.one (.own 3 (zbf l c now).1.length (zaF (zbf l c now).1) false),ri (zbf l c now).2]∧o=[]):=by
 refine CallOK.nil ?_
 refine zac zak mixed (T:=Ty) (n:=39) Tryz.func116 (c:=Tryz.f116.body.getD .skip) rfl Tryz.results116 Tryz.ntmps116 Tryz.call116 ?_
 simp only[Tryz.f116,Option.getD]
 have hp:=zit l hs (by omega) c
 have hcn:=zgW l.length (zaF l) zai (by omega)
 obtain⟨x,hx⟩:=Option.isSome_iff_exists.1 hf
 obtain⟨⟨hi,he⟩,hc⟩:=zhE hs hx
 rw[hf]at hp
 have e2:decide (now<0)=false:=by simp;omega
 have e3:decide (now>2305843009213693952)=false:=by have:zbg=2305843009213693952:=rfl;simp;omega
 have hat:=zbv hi
 rw[he]at hat
 simp only[List.cons_append,List.nil_append]at hat
 have hat2:(zaF l).drop (zdR l c*3+2)=iD x.renewed::zaF (l.drop (zdR l c+1)):=by rw[←List.drop_drop,hat];rfl
 have hset:=zcx Sess.enc 3 (fun _=>rfl) hi (k:=2) (by decide) (iD (max x.renewed now)) ⟨x.client,x.num,max x.renewed now⟩ (by rw[he];rfl)
 have hr:zbf l c now=(l.set (zdR l c) ⟨x.client,x.num,max x.renewed now⟩,0):=by
  unfold zbf
  rw[if_neg (by simp;omega),hx]
 rw[hr]
 repeat'(first|refine zq (I @zai (I e2 (I e3 (I hat2 (I hset (I @zmd @List.map_cons.{0,0})))))) ?_|exact zd (I @zai (I e2 (I e3 (I hat2 (I hset (I @zmd @List.map_cons.{0,0}))))))|refine zc (hp) ?_|refine zg (hp) ?_|refine zc (hcn) ?_|refine zg (hcn) ?_|(refine zaa ?_ ?_<;>intro hb)|(refine And.intro ?_ ?_;exact zI)|(refine And.intro ?_ ?_<;>intro hg)|exact zC|fail)
 simp[zoz,zaA]
theorem zmx (l:List Sess) (hl:l.length<2^30):CallOK Tryz.prog 72 [.f (al l.length (zaF l))] (fun r o=>r=[rb (sessB l)]∧o=[]):=by
 refine zac zak mixed (T:=Ty) (n:=61) Tryz.func72 (c:=Tryz.f72.body.getD .skip) rfl Tryz.results72 Tryz.ntmps72 Tryz.call72 ?_
 simp only[Tryz.f72,Option.getD]
 cases h5:decide ((l.length:Int)>5)
 ·have hs:sessB l=zbx (zkF l) 0 l:=by rw[sessB,h5];rfl
  rw[hs]
  repeat'(first|refine zq (I h5 @zai) ?_|exact zd (I h5 @zai)|(refine zaa ?_ ?_<;>intro hb)|(refine And.intro ?_ ?_;exact zI)|(refine And.intro ?_ ?_<;>intro hg)|exact zC|fail)
  refine zam (τ:=Nat) (fun i=>⟨[al l.length (zaF l),dd,dd,dd,dd,dd,dd,dd,al l.length (zaF l),ai l.length,ai i,dd,dd,dd,dd,dd,dd,dd,dd,dd,dd,dd,dd,dd,dd,dd,dd,dd,dd,dd,dd,dd,dd,dd,dd,dd,dd,dd,dd,dd,dd,dd,dd,dd,dd,dd,dd,dd,dd,dd,dd,dd,dd,dd,dd,dd,dd,dd,dd,dd,dd],[(4,⟨2,[]⟩)]⟩)
   (fun i=>i≤l.length) (fun i=>zbx (zkF l) i (l.drop i)) (fun i=>l.length - i) 0
   (Gh.canon [] [4] [] zK rfl rfl) (Nat.zero_le _) ?_
  intro i hi0 hF K hK
  simp only[List.drop_zero]at hF hK⊢
  refine zw ?_
  refine zaa (fun hlt=> ?_) (fun hge=> ?_)
  ·have hi:i<l.length:=by simpa using hlt
   have hat:=zbv hi
   simp only[List.cons_append,List.nil_append]at hat
   have hw:=zal hi (by omega)
   rw[zaS hi]at hF
   have hcl:=zgr l[i].client
   have hnb:=zis (l.take i) (by rw[List.length_take];omega) l[i].num
   have hlt2:(l.take i).length=i:=by rw[List.length_take];omega
   have htk:(zaF l).take (i*3)=zaF (l.take i):=zdr Sess.enc 3 (fun _=>rfl) (by omega)
   rw[hlt2]at hnb
   cases e0:decide ((i:Int)>0)
   ·have hq:zkF l i l[i]=(!(!(decide (l[i].client≥0)&&decide (l[i].client<8))||decide (l[i].num<1)||decide (l[i].num>2305843009213693952)||decide (l[i].renewed<0)||decide (l[i].renewed>2305843009213693952))&& !(numbered (l.take i) l[i].num)):=by
     unfold zkF zhd isClient
     have:decide (i>0)=false:=by simpa using e0
     rw[this]
     simp only[Bool.not_or,Bool.not_not,Bool.false_and,Bool.false_or]
    have h0:i=0:=by simpa using e0
    have hp:(zaF l).drop ((IntKind.i64.wrap ((i:Int) - 1)).toNat*3)=l[i].enc++zaF (l.drop (i+1)):=by
     rw[←zbv hi,h0];rfl
    repeat'(first|refine zq (I hat (I hp (I htk (I e0 (I @zai zca))))) ?_|exact zd (I hat (I hp (I htk (I e0 (I @zai zca)))))|refine zc (hcl) ?_|refine zg (hcl) ?_|refine zc (hnb) ?_|refine zg (hnb) ?_|(refine zaa ?_ ?_<;>intro hb)|(refine And.intro ?_ ?_;exact zI)|(refine And.intro ?_ ?_<;>intro hg)|exact zC|fail)
    ·rw[hq,hb,if_neg (by simp)]at hF
     rw[←hF]
    ·rename_i ha
     rw[hq,ha,hb,if_neg (by simp)]at hF
     rw[←hF]
    ·rename_i ha
     exact hK _ (i+1) (Gh.canon [] [] [] (zk hw) rfl rfl) hi (by rw[zaS hi,hq,ha,hb];rfl) (by omega)
   ·have hq:zkF l i l[i]=(!(!(decide (l[i].client≥0)&&decide (l[i].client<8))||decide (l[i].num<1)||decide (l[i].num>2305843009213693952)||decide (l[i].renewed<0)||decide (l[i].renewed>2305843009213693952))&& !(decide ((l[i - 1]'(by omega)).client≥l[i].client)||numbered (l.take i) l[i].num)):=by
     unfold zkF zhd isClient zru
     have:decide (i>0)=true:=by simpa using e0
     rw[this,List.getElem?_eq_getElem (by omega)]
     simp only[Bool.not_or,Bool.not_not,Bool.true_and,Option.map_some,Option.getD_some]
    have h0:0<i:=by simpa using e0
    have hp:=zbv (show i - 1<l.length by omega)
    have hw1:IntKind.i64.wrap ((i:Int) - 1)=((i - 1:Nat):Int):=by rw[wrap64 (by omega) (by omega)];omega
    repeat'(first|refine zq (I hat (I hp (I hw1 (I htk (I e0 (I @zai zca)))))) ?_|exact zd (I hat (I hp (I hw1 (I htk (I e0 (I @zai zca))))))|refine zc (hcl) ?_|refine zg (hcl) ?_|refine zc (hnb) ?_|refine zg (hnb) ?_|(refine zaa ?_ ?_<;>intro hb)|(refine And.intro ?_ ?_;exact zI)|(refine And.intro ?_ ?_<;>intro hg)|exact zC|fail)
    ·rw[hq,hb,if_neg (by simp)]at hF
     rw[←hF]
    ·rename_i ha
     rw[hq,ha,hb,if_neg (by simp)]at hF
     rw[←hF]
    ·rename_i ha
     exact hK _ (i+1) (Gh.canon [] [] [] (zk hw) rfl rfl) hi (by rw[zaS hi,hq,ha,hb];rfl) (by omega)
  ·have hi:i=l.length:=by
    have:¬(i:Int)<l.length:=by simpa using hge
    omega
   rw[zdo hi]at hF
   rw[←hF]
   repeat'(first|refine zq0 ?_|exact zd0|(refine zaa ?_ ?_<;>intro hb)|(refine And.intro ?_ ?_;exact zI)|(refine And.intro ?_ ?_<;>intro hg)|exact zC|fail)
 ·have hs:sessB l=false:=by rw[sessB,h5];rfl
  rw[hs]
  repeat'(first|refine zq (I h5 @zai) ?_|exact zd (I h5 @zai)|(refine zaa ?_ ?_<;>intro hb)|(refine And.intro ?_ ?_;exact zI)|(refine And.intro ?_ ?_<;>intro hg)|exact zC|fail)
end Go.Proofs.YtbpmcjeeeiffhaaGreat
