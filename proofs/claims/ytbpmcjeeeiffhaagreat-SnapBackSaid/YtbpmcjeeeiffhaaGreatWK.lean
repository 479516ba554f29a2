import Derived.Test.YtbpmcjeeeiffhaaGreatK9
import Derived.JoinedOf
import Derived.Handed
import Derived.ProofKit
import Derived.Test.YtbpmcjeeeiffhaaGreatWJ
namespace Go.Proofs.YtbpmcjeeeiffhaaGreat
open Go.Pk
set_option maxRecDepth 100000
set_option linter.unusedSimpArgs false
set_option linter.unusedVariables false
def sameL {α:Type} (eq:α→α→Bool) (a b:List α):Bool:=(a.length==b.length)&&((a.zip b).all fun p=>eq p.1 p.2)
def zfr {α:Type} (eq:α→α→Bool) (a b:List α) (i:Nat):Bool:=((a.drop i).zip (b.drop i)).all fun p=>eq p.1 p.2
theorem zcl {α:Type} {eq:α→α→Bool} {a b:List α} {i:Nat} (ha:i<a.length) (hb:i<b.length):zfr eq a b i=(eq a[i] b[i]&&zfr eq a b (i+1)):=by
 unfold zfr
 rw[List.drop_eq_getElem_cons ha,List.drop_eq_getElem_cons hb,List.zip_cons_cons,List.all_cons]
theorem zcP {α:Type} {eq:α→α→Bool} {a b:List α} {i:Nat} (ha:i=a.length):zfr eq a b i=true:=by
 unfold zfr
 rw[List.drop_eq_nil_of_le (by omega)];simp
theorem zdi {α:Type} {eq:α→α→Bool} {a b:List α} (h:((a.length:Int) !=(b.length:Int))=true):sameL eq a b=false:=by
 unfold sameL
 simp at h
 simp;omega
theorem zdj {α:Type} {eq:α→α→Bool} {a b:List α} (h:((a.length:Int) !=(b.length:Int))=false):a.length=b.length∧sameL eq a b=zfr eq a b 0:=by
 have hl:a.length=b.length:=by simp at h;omega
 unfold sameL zfr
 simp[hl]
def zgU (a b:Int):Bool:=a==b
def zn4 (a b:Grant):Bool:=(a.name.toList==b.name.toList)&&(a.token==b.token)
def zlV (a b:Sess):Bool:=(a.client==b.client)&&((a.num==b.num)&&(a.renewed==b.renewed))
def eqLk (a b:Lk):Bool:=(a.name.toList==b.name.toList)&&(a.holder==b.holder)&&(a.token==b.token)&&sameL zgU a.line b.line
def eqRe (a b:Reply):Bool:=(a.code==b.code)&&(a.session==b.session)&&(a.ahead==b.ahead)&&sameL zn4 a.held b.held
def eqMe (a b:Memo):Bool:=(a.client==b.client)&&(a.seq==b.seq)&&(a.reply.code==b.reply.code)&&(a.reply.session==b.reply.session)&&(a.reply.ahead==b.reply.ahead)&&sameL zn4 a.reply.held b.reply.held
def zrN (a b:St):Bool:=(a.time==b.time)&&(a.num==b.num)&&(a.token==b.token)&&sameL zlV a.sess b.sess&&sameL eqLk a.locks b.locks&&sameL eqMe a.memos b.memos
theorem zrD {a b:List Int}:sameI a b=sameL zgU a b:=rfl
set_option maxHeartbeats 1000000 in
theorem zti (a b:List Int) (ha:a.length<2^30) (hb:b.length<2^30):CallOK Tryz.prog 48 [.f (al a.length (zaE a)), .f (al b.length (zaE b))] (fun r o=>r=[rb (sameL zgU a b)]∧o=[]):=by
 refine zac zas mixed (T:=Ty) (n:=26) Tryz.func48 (c:=Tryz.f48.body.getD .skip) rfl Tryz.results48 Tryz.ntmps48 Tryz.call48 ?_
 simp only[Tryz.f48,Option.getD]
 cases hl:((a.length:Int) !=(b.length:Int))
 ·obtain⟨hle,hsr⟩:=zdj (eq:=zgU) hl
  rw[hsr]
  repeat'(first|refine zq hl ?_|exact zd hl|(refine zaa ?_ ?_<;>intro hb)|(refine And.intro ?_ ?_;exact zI)|(refine And.intro ?_ ?_<;>intro hg)|exact zC|fail)
  refine zam (τ:=Nat) (fun i=>⟨[al a.length (zaE a),al b.length (zaE b),dd,dd,dd,dd,dd,dd,dd,dd,dd,dd,ai a.length,ai i,dd,dd,dd,dd,dd,dd,dd,dd,dd,dd,dd,dd],[]⟩)
   (fun i=>i≤a.length) (fun i=>zfr zgU a b i) (fun i=>a.length - i) 0
   (Gh.canon [] [] [] zK rfl rfl) (Nat.zero_le _) ?_
  intro i hi0 hF K hK
  refine zw ?_
  refine zaa (fun hlt=> ?_) (fun hge=> ?_)
  ·have hi:i<a.length:=by simpa using hlt
   have hi2:i<b.length:=by omega
   have hat:=zcp hi
   have hat2:=zcp hi2
   have hw:=zaq hi (by omega)
   have hlb:decide ((i:Int)<a.length)=true:=by simp;omega
   have hst:=zcl (eq:=zgU) hi hi2
   cases hq:zgU a[i] b[i]
   ·rw[hq]at hst
    have he:(a[i] !=b[i])=true:=by unfold zgU at hq;rw[bne,hq];rfl
    rw[←hF,hst]
    repeat'(first|refine zq (I hat (I hat2 (I hlb (I he (I @Bool.not_true (I @Bool.not_false (I @Bool.and_self (I @zak zca)))))))) ?_|exact zd (I hat (I hat2 (I hlb (I he (I @Bool.not_true (I @Bool.not_false (I @Bool.and_self (I @zak zca))))))))|(refine zaa ?_ ?_<;>intro hb)|(refine And.intro ?_ ?_;exact zI)|(refine And.intro ?_ ?_<;>intro hg)|exact zC|fail)
   ·rw[hq,Bool.true_and]at hst
    have he:(a[i] !=b[i])=false:=by unfold zgU at hq;rw[bne,hq];rfl
    repeat'(first|refine zq (I hat (I hat2 (I hlb (I he (I @Bool.not_true (I @Bool.not_false (I @Bool.and_self (I @zak zca)))))))) ?_|exact zd (I hat (I hat2 (I hlb (I he (I @Bool.not_true (I @Bool.not_false (I @Bool.and_self (I @zak zca))))))))|(refine zaa ?_ ?_<;>intro hb)|(refine And.intro ?_ ?_;exact zI)|(refine And.intro ?_ ?_<;>intro hg)|exact zC|fail)
    exact hK _ (i+1) (Gh.canon [] [] [] (zk hw) rfl rfl) hi hst.symm (by omega)
  ·have hi:i=a.length:=by
    have:¬(i:Int)<a.length:=by simpa using hge
    omega
   rw[←hF,zcP hi]
   repeat'(first|refine zq0 ?_|exact zd0|(refine zaa ?_ ?_<;>intro hb)|(refine And.intro ?_ ?_;exact zI)|(refine And.intro ?_ ?_<;>intro hg)|exact zC|fail)
 ·rw[zdi hl]
  repeat'(first|refine zq hl ?_|exact zd hl|(refine zaa ?_ ?_<;>intro hb)|(refine And.intro ?_ ?_;exact zI)|(refine And.intro ?_ ?_<;>intro hg)|exact zC|fail)
set_option maxHeartbeats 1000000 in
theorem zpd (a b:List Grant) (ha:a.length<2^30) (hb:b.length<2^30):CallOK Tryz.prog 51 [.f (al a.length (zaG a)), .f (al b.length (zaG b))] (fun r o=>r=[rb (sameL zn4 a b)]∧o=[]):=by
 refine zac zas mixed (T:=Ty) (n:=26) Tryz.func51 (c:=Tryz.f51.body.getD .skip) rfl Tryz.results51 Tryz.ntmps51 Tryz.call51 ?_
 simp only[Tryz.f51,Option.getD]
 cases hl:((a.length:Int) !=(b.length:Int))
 ·obtain⟨hle,hsr⟩:=zdj (eq:=zn4) hl
  rw[hsr]
  repeat'(first|refine zq hl ?_|exact zd hl|(refine zaa ?_ ?_<;>intro hb)|(refine And.intro ?_ ?_;exact zI)|(refine And.intro ?_ ?_<;>intro hg)|exact zC|fail)
  refine zam (τ:=Nat) (fun i=>⟨[al a.length (zaG a),al b.length (zaG b),dd,dd,dd,dd,dd,dd,dd,dd,dd,dd,ai a.length,ai i,dd,dd,dd,dd,dd,dd,dd,dd,dd,dd,dd,dd],[]⟩)
   (fun i=>i≤a.length) (fun i=>zfr zn4 a b i) (fun i=>a.length - i) 0
   (Gh.canon [] [] [] zK rfl rfl) (Nat.zero_le _) ?_
  intro i hi0 hF K hK
  refine zw ?_
  refine zaa (fun hlt=> ?_) (fun hge=> ?_)
  ·have hi:i<a.length:=by simpa using hlt
   have hi2:i<b.length:=by omega
   have hat:=zcb hi
   have hat2:=zcb hi2
   have hw:=zaq hi (by omega)
   have hlb:decide ((i:Int)<a.length)=true:=by simp;omega
   have hst:=zcl (eq:=zn4) hi hi2
   cases hq:zn4 a[i] b[i]
   ·rw[hq]at hst
    have he:((a[i].name.toList==b[i].name.toList)&&(a[i].token==b[i].token))=false:=by exact hq
    rw[←hF,hst]
    repeat'(first|refine zq (I hat (I hat2 (I hlb (I he (I @Bool.not_true (I @Bool.not_false (I @Bool.and_self (I @zay zca)))))))) ?_|exact zd (I hat (I hat2 (I hlb (I he (I @Bool.not_true (I @Bool.not_false (I @Bool.and_self (I @zay zca))))))))|(refine zaa ?_ ?_<;>intro hb)|(refine And.intro ?_ ?_;exact zI)|(refine And.intro ?_ ?_<;>intro hg)|exact zC|fail)
   ·rw[hq,Bool.true_and]at hst
    have he:((a[i].name.toList==b[i].name.toList)&&(a[i].token==b[i].token))=true:=by exact hq
    repeat'(first|refine zq (I hat (I hat2 (I hlb (I he (I @Bool.not_true (I @Bool.not_false (I @Bool.and_self (I @zay zca)))))))) ?_|exact zd (I hat (I hat2 (I hlb (I he (I @Bool.not_true (I @Bool.not_false (I @Bool.and_self (I @zay zca))))))))|(refine zaa ?_ ?_<;>intro hb)|(refine And.intro ?_ ?_;exact zI)|(refine And.intro ?_ ?_<;>intro hg)|exact zC|fail)
    exact hK _ (i+1) (Gh.canon [] [] [] (zk hw) rfl rfl) hi hst.symm (by omega)
  ·have hi:i=a.length:=by
    have:¬(i:Int)<a.length:=by simpa using hge
    omega
   rw[←hF,zcP hi]
   repeat'(first|refine zq0 ?_|exact zd0|(refine zaa ?_ ?_<;>intro hb)|(refine And.intro ?_ ?_;exact zI)|(refine And.intro ?_ ?_<;>intro hg)|exact zC|fail)
 ·rw[zdi hl]
  repeat'(first|refine zq hl ?_|exact zd hl|(refine zaa ?_ ?_<;>intro hb)|(refine And.intro ?_ ?_;exact zI)|(refine And.intro ?_ ?_<;>intro hg)|exact zC|fail)
set_option maxHeartbeats 1000000 in
theorem ztj (a b:List Sess) (ha:a.length<2^30) (hb:b.length<2^30):CallOK Tryz.prog 45 [.f (al a.length (zaJ a)), .f (al b.length (zaJ b))] (fun r o=>r=[rb (sameL zlV a b)]∧o=[]):=by
 refine zac zas mixed (T:=Ty) (n:=26) Tryz.func45 (c:=Tryz.f45.body.getD .skip) rfl Tryz.results45 Tryz.ntmps45 Tryz.call45 ?_
 simp only[Tryz.f45,Option.getD]
 cases hl:((a.length:Int) !=(b.length:Int))
 ·obtain⟨hle,hsr⟩:=zdj (eq:=zlV) hl
  rw[hsr]
  repeat'(first|refine zq hl ?_|exact zd hl|(refine zaa ?_ ?_<;>intro hb)|(refine And.intro ?_ ?_;exact zI)|(refine And.intro ?_ ?_<;>intro hg)|exact zC|fail)
  refine zam (τ:=Nat) (fun i=>⟨[al a.length (zaJ a),al b.length (zaJ b),dd,dd,dd,dd,dd,dd,dd,dd,dd,dd,ai a.length,ai i,dd,dd,dd,dd,dd,dd,dd,dd,dd,dd,dd,dd],[]⟩)
   (fun i=>i≤a.length) (fun i=>zfr zlV a b i) (fun i=>a.length - i) 0
   (Gh.canon [] [] [] zK rfl rfl) (Nat.zero_le _) ?_
  intro i hi0 hF K hK
  refine zw ?_
  refine zaa (fun hlt=> ?_) (fun hge=> ?_)
  ·have hi:i<a.length:=by simpa using hlt
   have hi2:i<b.length:=by omega
   have hat:=zbZ hi
   have hat2:=zbZ hi2
   have hw:=zaq hi (by omega)
   have hlb:decide ((i:Int)<a.length)=true:=by simp;omega
   have hst:=zcl (eq:=zlV) hi hi2
   cases hq:zlV a[i] b[i]
   ·rw[hq]at hst
    have he:((a[i].client==b[i].client)&&((a[i].num==b[i].num)&&(a[i].renewed==b[i].renewed)))=false:=by exact hq
    rw[←hF,hst]
    repeat'(first|refine zq (I hat (I hat2 (I hlb (I he (I @Bool.not_true (I @Bool.not_false (I @Bool.and_self (I @zau zca)))))))) ?_|exact zd (I hat (I hat2 (I hlb (I he (I @Bool.not_true (I @Bool.not_false (I @Bool.and_self (I @zau zca))))))))|(refine zaa ?_ ?_<;>intro hb)|(refine And.intro ?_ ?_;exact zI)|(refine And.intro ?_ ?_<;>intro hg)|exact zC|fail)
   ·rw[hq,Bool.true_and]at hst
    have he:((a[i].client==b[i].client)&&((a[i].num==b[i].num)&&(a[i].renewed==b[i].renewed)))=true:=by exact hq
    repeat'(first|refine zq (I hat (I hat2 (I hlb (I he (I @Bool.not_true (I @Bool.not_false (I @Bool.and_self (I @zau zca)))))))) ?_|exact zd (I hat (I hat2 (I hlb (I he (I @Bool.not_true (I @Bool.not_false (I @Bool.and_self (I @zau zca))))))))|(refine zaa ?_ ?_<;>intro hb)|(refine And.intro ?_ ?_;exact zI)|(refine And.intro ?_ ?_<;>intro hg)|exact zC|fail)
    exact hK _ (i+1) (Gh.canon [] [] [] (zk hw) rfl rfl) hi hst.symm (by omega)
  ·have hi:i=a.length:=by
    have:¬(i:Int)<a.length:=by simpa using hge
    omega
   rw[←hF,zcP hi]
   repeat'(first|refine zq0 ?_|exact zd0|(refine zaa ?_ ?_<;>intro hb)|(refine And.intro ?_ ?_;exact zI)|(refine And.intro ?_ ?_<;>intro hg)|exact zC|fail)
 ·rw[zdi hl]
  repeat'(first|refine zq hl ?_|exact zd hl|(refine zaa ?_ ?_<;>intro hb)|(refine And.intro ?_ ?_;exact zI)|(refine And.intro ?_ ?_<;>intro hg)|exact zC|fail)
theorem ztk (a b:Lk) (ha:a.line.length<2^30) (hb:b.line.length<2^30):CallOK Tryz.prog 47 [.f (.agg (a.enc.map C.d)), .f (.agg (b.enc.map C.d))] (fun r o=>r=[rb (eqLk a b)]∧o=[]):=by
 refine zac zas mixed (T:=Ty) (n:=31) Tryz.func47 (c:=Tryz.f47.body.getD .skip) rfl Tryz.results47 Tryz.ntmps47 Tryz.call47 ?_
 simp only[Tryz.f47,Option.getD]
 have hi:=zti a.line b.line ha hb
 repeat'(first|refine zq0 ?_|exact zd0|refine zc (hi) ?_|refine zg (hi) ?_|(refine zaa ?_ ?_<;>intro hb)|(refine And.intro ?_ ?_;exact zI)|(refine And.intro ?_ ?_<;>intro hg)|exact zC|fail)
 rfl
theorem ztl (a b:Memo) (ha:a.reply.held.length<2^30) (hb:b.reply.held.length<2^30):CallOK Tryz.prog 50 [.f (.agg (a.enc.map C.d)), .f (.agg (b.enc.map C.d))] (fun r o=>r=[rb (eqMe a b)]∧o=[]):=by
 refine zac zas mixed (T:=Ty) (n:=51) Tryz.func50 (c:=Tryz.f50.body.getD .skip) rfl Tryz.results50 Tryz.ntmps50 Tryz.call50 ?_
 simp only[Tryz.f50,Option.getD]
 have hi:=zpd a.reply.held b.reply.held ha hb
 repeat'(first|refine zq0 ?_|exact zd0|refine zc (hi) ?_|refine zg (hi) ?_|(refine zaa ?_ ?_<;>intro hb)|(refine And.intro ?_ ?_;exact zI)|(refine And.intro ?_ ?_<;>intro hg)|exact zC|fail)
 rfl
abbrev afn (n:Nat):AV:= .one (.d (.v (.func (.func n) #[] #[])))
set_option maxHeartbeats 1000000 in
theorem zrE (a b:List Lk) (ha:a.length<2^30) (hb:b.length<2^30) (hla:∀x∈a,x.line.length<2^30) (hlb2:∀x∈b,x.line.length<2^30):CallOK Tryz.prog 46 [.f (al a.length (zai a)), .f (al b.length (zai b)), .f (afn 47)] (fun r o=>r=[rb (sameL eqLk a b)]∧o=[]):=by
 refine zac zas mixed (T:=Ty) (n:=32) Tryz.func46 (c:=Tryz.f46.body.getD .skip) rfl Tryz.results46 Tryz.ntmps46 Tryz.call46 ?_
 simp only[Tryz.f46,Option.getD]
 have hfn:∀(Z:List Nat) (r:Rs) (xs ys:List AV),fgc Z r (afn 47::xs) (afn 47::ys)=fgc Z r xs ys:=fun Z r xs ys=>zjz rfl rfl
 cases hl:((a.length:Int) !=(b.length:Int))
 ·obtain⟨hle,hsr⟩:=zdj (eq:=eqLk) hl
  rw[hsr]
  repeat'(first|refine zq hl ?_|exact zd hl|(refine zaa ?_ ?_<;>intro hb)|(refine And.intro ?_ ?_;exact zI)|(refine And.intro ?_ ?_<;>intro hg)|exact zC|fail)
  refine zam (τ:=Nat) (fun i=>⟨[dd,al b.length (zai b),afn 47,dd,dd,dd,dd,dd,dd,dd,dd,dd,dd,dd,dd,al a.length (zai a),ai a.length,ai i,dd,dd,dd,dd,dd,dd,dd,dd,dd,dd,dd,dd,dd,dd],[(8,⟨2,[]⟩),(9,⟨2,[]⟩)]⟩)
   (fun i=>i≤a.length) (fun i=>zfr eqLk a b i) (fun i=>a.length - i) 0
   (Gh.canon [] [8,9] [] (zk hfn) rfl rfl) (Nat.zero_le _) ?_
  intro i hi0 hF K hK
  refine zw ?_
  refine zaa (fun hlt=> ?_) (fun hge=> ?_)
  ·have hi:i<a.length:=by simpa using hlt
   have hi2:i<b.length:=by omega
   have hat:=za0 hi
   have hat2:=za0 hi2
   have hw:=zaq hi (by omega)
   have hlb:decide ((i:Int)<a.length)=true:=by simp;omega
   have hst:=zcl (eq:=eqLk) hi hi2
   have hc:=ztk a[i] b[i] (hla _ (List.getElem_mem hi)) (hlb2 _ (List.getElem_mem hi2))
   cases hq:eqLk a[i] b[i]
   ·rw[hq]at hst
    have he:(!eqLk a[i] b[i])=true:=by rw[hq];rfl
    rw[←hF,hst]
    repeat'(first|refine zq (I hat (I hat2 (I hlb (I he (I @Bool.not_true (I @Bool.not_false (I @Bool.and_self (I @zae zca)))))))) ?_|exact zd (I hat (I hat2 (I hlb (I he (I @Bool.not_true (I @Bool.not_false (I @Bool.and_self (I @zae zca))))))))|refine zc (hc) ?_|refine zg (hc) ?_|(refine zaa ?_ ?_<;>intro hb)|(refine And.intro ?_ ?_;exact zI)|(refine And.intro ?_ ?_<;>intro hg)|exact zC|fail)
   ·rw[hq,Bool.true_and]at hst
    have he:(!eqLk a[i] b[i])=false:=by rw[hq];rfl
    repeat'(first|refine zq (I hat (I hat2 (I hlb (I he (I @Bool.not_true (I @Bool.not_false (I @Bool.and_self (I @zae zca)))))))) ?_|exact zd (I hat (I hat2 (I hlb (I he (I @Bool.not_true (I @Bool.not_false (I @Bool.and_self (I @zae zca))))))))|refine zc (hc) ?_|refine zg (hc) ?_|(refine zaa ?_ ?_<;>intro hb)|(refine And.intro ?_ ?_;exact zI)|(refine And.intro ?_ ?_<;>intro hg)|exact zC|fail)
    exact hK _ (i+1) (Gh.canon [] [] [] (zk (I hw hfn)) rfl rfl) hi hst.symm (by omega)
  ·have hi:i=a.length:=by
    have:¬(i:Int)<a.length:=by simpa using hge
    omega
   rw[←hF,zcP hi]
   repeat'(first|refine zq0 ?_|exact zd0|(refine zaa ?_ ?_<;>intro hb)|(refine And.intro ?_ ?_;exact zI)|(refine And.intro ?_ ?_<;>intro hg)|exact zC|fail)
 ·rw[zdi hl]
  repeat'(first|refine zq hl ?_|exact zd hl|(refine zaa ?_ ?_<;>intro hb)|(refine And.intro ?_ ?_;exact zI)|(refine And.intro ?_ ?_<;>intro hg)|exact zC|fail)
set_option maxHeartbeats 1000000 in
theorem zrF (a b:List Memo) (ha:a.length<2^30) (hb:b.length<2^30) (hla:∀x∈a,x.reply.held.length<2^30) (hlb2:∀x∈b,x.reply.held.length<2^30):CallOK Tryz.prog 49 [.f (al a.length (zaC a)), .f (al b.length (zaC b)), .f (afn 50)] (fun r o=>r=[rb (sameL eqMe a b)]∧o=[]):=by
 refine zac zas mixed (T:=Ty) (n:=32) Tryz.func49 (c:=Tryz.f49.body.getD .skip) rfl Tryz.results49 Tryz.ntmps49 Tryz.call49 ?_
 simp only[Tryz.f49,Option.getD]
 have hfn:∀(Z:List Nat) (r:Rs) (xs ys:List AV),fgc Z r (afn 50::xs) (afn 50::ys)=fgc Z r xs ys:=fun Z r xs ys=>zjz rfl rfl
 cases hl:((a.length:Int) !=(b.length:Int))
 ·obtain⟨hle,hsr⟩:=zdj (eq:=eqMe) hl
  rw[hsr]
  repeat'(first|refine zq hl ?_|exact zd hl|(refine zaa ?_ ?_<;>intro hb)|(refine And.intro ?_ ?_;exact zI)|(refine And.intro ?_ ?_<;>intro hg)|exact zC|fail)
  refine zam (τ:=Nat) (fun i=>⟨[dd,al b.length (zaC b),afn 50,dd,dd,dd,dd,dd,dd,dd,dd,dd,dd,dd,dd,al a.length (zaC a),ai a.length,ai i,dd,dd,dd,dd,dd,dd,dd,dd,dd,dd,dd,dd,dd,dd],[(8,⟨2,[]⟩),(9,⟨2,[]⟩)]⟩)
   (fun i=>i≤a.length) (fun i=>zfr eqMe a b i) (fun i=>a.length - i) 0
   (Gh.canon [] [8,9] [] (zk hfn) rfl rfl) (Nat.zero_le _) ?_
  intro i hi0 hF K hK
  refine zw ?_
  refine zaa (fun hlt=> ?_) (fun hge=> ?_)
  ·have hi:i<a.length:=by simpa using hlt
   have hi2:i<b.length:=by omega
   have hat:=zcY hi
   have hat2:=zcY hi2
   have hw:=zaq hi (by omega)
   have hlb:decide ((i:Int)<a.length)=true:=by simp;omega
   have hst:=zcl (eq:=eqMe) hi hi2
   have hc:=ztl a[i] b[i] (hla _ (List.getElem_mem hi)) (hlb2 _ (List.getElem_mem hi2))
   cases hq:eqMe a[i] b[i]
   ·rw[hq]at hst
    have he:(!eqMe a[i] b[i])=true:=by rw[hq];rfl
    rw[←hF,hst]
    repeat'(first|refine zq (I hat (I hat2 (I hlb (I he (I @Bool.not_true (I @Bool.not_false (I @Bool.and_self (I @zaD zca)))))))) ?_|exact zd (I hat (I hat2 (I hlb (I he (I @Bool.not_true (I @Bool.not_false (I @Bool.and_self (I @zaD zca))))))))|refine zc (hc) ?_|refine zg (hc) ?_|(refine zaa ?_ ?_<;>intro hb)|(refine And.intro ?_ ?_;exact zI)|(refine And.intro ?_ ?_<;>intro hg)|exact zC|fail)
   ·rw[hq,Bool.true_and]at hst
    have he:(!eqMe a[i] b[i])=false:=by rw[hq];rfl
    repeat'(first|refine zq (I hat (I hat2 (I hlb (I he (I @Bool.not_true (I @Bool.not_false (I @Bool.and_self (I @zaD zca)))))))) ?_|exact zd (I hat (I hat2 (I hlb (I he (I @Bool.not_true (I @Bool.not_false (I @Bool.and_self (I @zaD zca))))))))|refine zc (hc) ?_|refine zg (hc) ?_|(refine zaa ?_ ?_<;>intro hb)|(refine And.intro ?_ ?_;exact zI)|(refine And.intro ?_ ?_<;>intro hg)|exact zC|fail)
    exact hK _ (i+1) (Gh.canon [] [] [] (zk (I hw hfn)) rfl rfl) hi hst.symm (by omega)
  ·have hi:i=a.length:=by
    have:¬(i:Int)<a.length:=by simpa using hge
    omega
   rw[←hF,zcP hi]
   repeat'(first|refine zq0 ?_|exact zd0|(refine zaa ?_ ?_<;>intro hb)|(refine And.intro ?_ ?_;exact zI)|(refine And.intro ?_ ?_<;>intro hg)|exact zC|fail)
 ·rw[zdi hl]
  repeat'(first|refine zq hl ?_|exact zd hl|(refine zaa ?_ ?_<;>intro hb)|(refine And.intro ?_ ?_;exact zI)|(refine And.intro ?_ ?_<;>intro hg)|exact zC|fail)
theorem zyN {p q r s t u:Bool}:((!(!p|| !q|| !r|| !s))&&t&&u)=(p&&q&&r&&s&&t&&u):=by cases p<;>cases q<;>cases r<;>cases s<;>simp
set_option maxHeartbeats 1000000 in
theorem zku (a b:St) (ha:Small a) (hb:Small b):CallOK Tryz.prog 22 [.f (.agg a.lent), .f (.agg b.lent)] (fun r o=>r=[rb (zrN a b)]∧o=[]):=by
 refine zac zas mixed (T:=Ty) (n:=44) Tryz.func22 (c:=Tryz.f22.body.getD .skip) rfl Tryz.results22 Tryz.ntmps22 Tryz.call22 ?_
 simp only[Tryz.f22,Option.getD]
 have h1:=ztj a.sess b.sess ha.sess hb.sess
 have h2:=zrE a.locks b.locks ha.locks hb.locks (fun k hk=>(ha.line k hk).1) (fun k hk=>(hb.line k hk).1)
 have h3:=zrF a.memos b.memos ha.memos hb.memos (fun k hk=>(ha.held k hk).1) (fun k hk=>(hb.held k hk).1)
 cases hq:((((a.time !=b.time)||(a.num !=b.num))||(a.token !=b.token))|| !sameL zlV a.sess b.sess)
 ·have he:zrN a b=(sameL eqLk a.locks b.locks&&sameL eqMe a.memos b.memos):=by
   unfold zrN
   rw[←zyN,show(!(!(a.time==b.time)|| !(a.num==b.num)|| !(a.token==b.token)|| !sameL zlV a.sess b.sess))=true from by revert hq;simp only[bne];cases(a.time==b.time)<;>cases(a.num==b.num)<;>cases(a.token==b.token)<;>cases sameL zlV a.sess b.sess<;>simp]
   simp
  rw[he]
  repeat'(first|refine zq hq ?_|exact zd hq|refine zc (h1) ?_|refine zg (h1) ?_|refine zc (h2) ?_|refine zg (h2) ?_|refine zc (h3) ?_|refine zg (h3) ?_|(refine zaa ?_ ?_<;>intro hb)|(refine And.intro ?_ ?_;exact zI)|(refine And.intro ?_ ?_<;>intro hg)|exact zC|fail)
 ·have he:zrN a b=false:=by
   unfold zrN
   rw[←zyN,show(!(!(a.time==b.time)|| !(a.num==b.num)|| !(a.token==b.token)|| !sameL zlV a.sess b.sess))=false from by revert hq;simp only[bne];cases(a.time==b.time)<;>cases(a.num==b.num)<;>cases(a.token==b.token)<;>cases sameL zlV a.sess b.sess<;>simp]
   simp
  rw[he]
  repeat'(first|refine zq hq ?_|exact zd hq|refine zc (h1) ?_|refine zg (h1) ?_|refine zc (h2) ?_|refine zg (h2) ?_|refine zc (h3) ?_|refine zg (h3) ?_|(refine zaa ?_ ?_<;>intro hb)|(refine And.intro ?_ ?_;exact zI)|(refine And.intro ?_ ?_<;>intro hg)|exact zC|fail)
set_option maxHeartbeats 1000000 in
theorem zpe (a b:List Grant) (ha:a.length<2^30) (hb:b.length<2^30):CallOK Tryz.prog 68 [.f (al a.length (zaG a)), .f (al b.length (zaG b))] (fun r o=>r=[rb (sameL zn4 a b)]∧o=[]):=by
 refine zac zas mixed (T:=Ty) (n:=26) Tryz.func68 (c:=Tryz.f68.body.getD .skip) rfl Tryz.results68 Tryz.ntmps68 Tryz.call68 ?_
 simp only[Tryz.f68,Option.getD]
 cases hl:((a.length:Int) !=(b.length:Int))
 ·obtain⟨hle,hsr⟩:=zdj (eq:=zn4) hl
  rw[hsr]
  repeat'(first|refine zq hl ?_|exact zd hl|(refine zaa ?_ ?_<;>intro hb)|(refine And.intro ?_ ?_;exact zI)|(refine And.intro ?_ ?_<;>intro hg)|exact zC|fail)
  refine zam (τ:=Nat) (fun i=>⟨[al a.length (zaG a),al b.length (zaG b),dd,dd,dd,ai i,dd,dd,dd,dd,dd,dd,dd,dd,dd,dd,dd,dd,dd,dd,dd,dd,dd,dd,dd,dd],[]⟩)
   (fun i=>i≤a.length) (fun i=>zfr zn4 a b i) (fun i=>a.length - i) 0
   (Gh.canon [] [] [] zK rfl rfl) (Nat.zero_le _) ?_
  intro i hi0 hF K hK
  refine zw ?_
  refine zaa (fun hlt=> ?_) (fun hge=> ?_)
  ·have hi:i<a.length:=by simpa using hlt
   have hi2:i<b.length:=by omega
   have hat:=zcb hi
   have hat2:=zcb hi2
   have hw:=zaq hi (by omega)
   have hlb:decide ((i:Int)<a.length)=true:=by simp;omega
   have hst:=zcl (eq:=zn4) hi hi2
   cases hq:zn4 a[i] b[i]
   ·rw[hq]at hst
    have he:((a[i].name.toList==b[i].name.toList)&&(a[i].token==b[i].token))=false:=by exact hq
    rw[←hF,hst]
    repeat'(first|refine zq (I hat (I hat2 (I hlb (I he (I @Bool.not_true (I @Bool.not_false (I @Bool.and_self (I @zay zca)))))))) ?_|exact zd (I hat (I hat2 (I hlb (I he (I @Bool.not_true (I @Bool.not_false (I @Bool.and_self (I @zay zca))))))))|(refine zaa ?_ ?_<;>intro hb)|(refine And.intro ?_ ?_;exact zI)|(refine And.intro ?_ ?_<;>intro hg)|exact zC|fail)
   ·rw[hq,Bool.true_and]at hst
    have he:((a[i].name.toList==b[i].name.toList)&&(a[i].token==b[i].token))=true:=by exact hq
    repeat'(first|refine zq (I hat (I hat2 (I hlb (I he (I @Bool.not_true (I @Bool.not_false (I @Bool.and_self (I @zay zca)))))))) ?_|exact zd (I hat (I hat2 (I hlb (I he (I @Bool.not_true (I @Bool.not_false (I @Bool.and_self (I @zay zca))))))))|(refine zaa ?_ ?_<;>intro hb)|(refine And.intro ?_ ?_;exact zI)|(refine And.intro ?_ ?_<;>intro hg)|exact zC|fail)
    exact hK _ (i+1) (Gh.canon [] [] [] (zk hw) rfl rfl) hi hst.symm (by omega)
  ·have hi:i=a.length:=by
    have:¬(i:Int)<a.length:=by simpa using hge
    omega
   rw[←hF,zcP hi]
   repeat'(first|refine zq0 ?_|exact zd0|(refine zaa ?_ ?_<;>intro hb)|(refine And.intro ?_ ?_;exact zI)|(refine And.intro ?_ ?_<;>intro hg)|exact zC|fail)
 ·rw[zdi hl]
  repeat'(first|refine zq hl ?_|exact zd hl|(refine zaa ?_ ?_<;>intro hb)|(refine And.intro ?_ ?_;exact zI)|(refine And.intro ?_ ?_<;>intro hg)|exact zC|fail)
theorem zrG (a b:Reply) (ha:a.held.length<2^30) (hb:b.held.length<2^30):CallOK Tryz.prog 29 [.f (.agg a.lent), .f (.agg b.lent)] (fun r o=>r=[rb (eqRe a b)]∧o=[]):=by
 refine zac zas mixed (T:=Ty) (n:=31) Tryz.func29 (c:=Tryz.f29.body.getD .skip) rfl Tryz.results29 Tryz.ntmps29 Tryz.call29 ?_
 simp only[Tryz.f29,Option.getD]
 have hi:=zpe a.held b.held ha hb
 repeat'(first|refine zq0 ?_|exact zd0|refine zc (hi) ?_|refine zg (hi) ?_|(refine zaa ?_ ?_<;>intro hb)|(refine And.intro ?_ ?_;exact zI)|(refine And.intro ?_ ?_<;>intro hg)|exact zC|fail)
 rfl
set_option maxHeartbeats 1000000 in
theorem zrH (a b:List Sess) (ha:a.length<2^30) (hb:b.length<2^30):CallOK Tryz.prog 52 [.f (al a.length (zaJ a)), .f (al b.length (zaJ b))] (fun r o=>r=[rb (sameL zlV a b)]∧o=[]):=by
 refine zac zas mixed (T:=Ty) (n:=26) Tryz.func52 (c:=Tryz.f52.body.getD .skip) rfl Tryz.results52 Tryz.ntmps52 Tryz.call52 ?_
 simp only[Tryz.f52,Option.getD]
 cases hl:((a.length:Int) !=(b.length:Int))
 ·obtain⟨hle,hsr⟩:=zdj (eq:=zlV) hl
  rw[hsr]
  repeat'(first|refine zq hl ?_|exact zd hl|(refine zaa ?_ ?_<;>intro hb)|(refine And.intro ?_ ?_;exact zI)|(refine And.intro ?_ ?_<;>intro hg)|exact zC|fail)
  refine zam (τ:=Nat) (fun i=>⟨[al a.length (zaJ a),al b.length (zaJ b),dd,dd,dd,ai i,dd,dd,dd,dd,dd,dd,dd,dd,dd,dd,dd,dd,dd,dd,dd,dd,dd,dd,dd,dd],[]⟩)
   (fun i=>i≤a.length) (fun i=>zfr zlV a b i) (fun i=>a.length - i) 0
   (Gh.canon [] [] [] zK rfl rfl) (Nat.zero_le _) ?_
  intro i hi0 hF K hK
  refine zw ?_
  refine zaa (fun hlt=> ?_) (fun hge=> ?_)
  ·have hi:i<a.length:=by simpa using hlt
   have hi2:i<b.length:=by omega
   have hat:=zbZ hi
   have hat2:=zbZ hi2
   have hw:=zaq hi (by omega)
   have hlb:decide ((i:Int)<a.length)=true:=by simp;omega
   have hst:=zcl (eq:=zlV) hi hi2
   cases hq:zlV a[i] b[i]
   ·rw[hq]at hst
    have he:((a[i].client==b[i].client)&&((a[i].num==b[i].num)&&(a[i].renewed==b[i].renewed)))=false:=by exact hq
    rw[←hF,hst]
    repeat'(first|refine zq (I hat (I hat2 (I hlb (I he (I @Bool.not_true (I @Bool.not_false (I @Bool.and_self (I @zau zca)))))))) ?_|exact zd (I hat (I hat2 (I hlb (I he (I @Bool.not_true (I @Bool.not_false (I @Bool.and_self (I @zau zca))))))))|(refine zaa ?_ ?_<;>intro hb)|(refine And.intro ?_ ?_;exact zI)|(refine And.intro ?_ ?_<;>intro hg)|exact zC|fail)
   ·rw[hq,Bool.true_and]at hst
    have he:((a[i].client==b[i].client)&&((a[i].num==b[i].num)&&(a[i].renewed==b[i].renewed)))=true:=by exact hq
    repeat'(first|refine zq (I hat (I hat2 (I hlb (I he (I @Bool.not_true (I @Bool.not_false (I @Bool.and_self (I @zau zca)))))))) ?_|exact zd (I hat (I hat2 (I hlb (I he (I @Bool.not_true (I @Bool.not_false (I @Bool.and_self (I @zau zca))))))))|(refine zaa ?_ ?_<;>intro hb)|(refine And.intro ?_ ?_;exact zI)|(refine And.intro ?_ ?_<;>intro hg)|exact zC|fail)
    exact hK _ (i+1) (Gh.canon [] [] [] (zk hw) rfl rfl) hi hst.symm (by omega)
  ·have hi:i=a.length:=by
    have:¬(i:Int)<a.length:=by simpa using hge
    omega
   rw[←hF,zcP hi]
   repeat'(first|refine zq0 ?_|exact zd0|(refine zaa ?_ ?_<;>intro hb)|(refine And.intro ?_ ?_;exact zI)|(refine And.intro ?_ ?_<;>intro hg)|exact zC|fail)
 ·rw[zdi hl]
  repeat'(first|refine zq hl ?_|exact zd hl|(refine zaa ?_ ?_<;>intro hb)|(refine And.intro ?_ ?_;exact zI)|(refine And.intro ?_ ?_<;>intro hg)|exact zC|fail)
set_option maxHeartbeats 1000000 in
theorem zpf (a b:List Lk) (ha:a.length<2^30) (hb:b.length<2^30) (hla:∀x∈a,x.line.length<2^30) (hlb2:∀x∈b,x.line.length<2^30):CallOK Tryz.prog 53 [.f (al a.length (zai a)), .f (al b.length (zai b))] (fun r o=>r=[rb (sameL eqLk a b)]∧o=[]):=by
 refine zac zas mixed (T:=Ty) (n:=68) Tryz.func53 (c:=Tryz.f53.body.getD .skip) rfl Tryz.results53 Tryz.ntmps53 Tryz.call53 ?_
 simp only[Tryz.f53,Option.getD]
 cases hl:((a.length:Int) !=(b.length:Int))
 ·obtain⟨hle,hsr⟩:=zdj (eq:=eqLk) hl
  rw[hsr]
  repeat'(first|refine zq hl ?_|exact zd hl|(refine zaa ?_ ?_<;>intro hb)|(refine And.intro ?_ ?_;exact zI)|(refine And.intro ?_ ?_<;>intro hg)|exact zC|fail)
  refine zam (τ:=Nat) (fun i=>⟨[al a.length (zai a),al b.length (zai b),dd,dd,dd,ai i,dd,dd,dd,dd,dd,dd,dd,dd,dd,dd,dd,dd,dd,dd,dd,dd,dd,dd,dd,dd,dd,dd,dd,dd,dd,dd,dd,dd,dd,dd,dd,dd,dd,dd,dd,dd,dd,dd,dd,dd,dd,dd,dd,dd,dd,dd,dd,dd,dd,dd,dd,dd,dd,dd,dd,dd,dd,dd,dd,dd,dd,dd],[]⟩)
   (fun i=>i≤a.length) (fun i=>zfr eqLk a b i) (fun i=>a.length - i) 0
   (Gh.canon [] [] [] zK rfl rfl) (Nat.zero_le _) ?_
  intro i hi0 hF K hK
  refine zw ?_
  refine zaa (fun hlt=> ?_) (fun hge=> ?_)
  ·have hi:i<a.length:=by simpa using hlt
   have hi2:i<b.length:=by omega
   have hat:=za0 hi
   have hat2:=za0 hi2
   have hw:=zaq hi (by omega)
   have hlb:decide ((i:Int)<a.length)=true:=by simp;omega
   have hst:=zcl (eq:=eqLk) hi hi2
   have hd1:(zai a).drop (i*4+1)=iD a[i].holder::iD a[i].token:: .sl a[i].line.length (zaE a[i].line)::zai (a.drop (i+1)):=by rw[←List.drop_drop,hat];rfl
   have hd2:(zai b).drop (i*4+1)=iD b[i].holder::iD b[i].token:: .sl b[i].line.length (zaE b[i].line)::zai (b.drop (i+1)):=by rw[←List.drop_drop,hat2];rfl
   have hsi:=zmx a[i].line b[i].line (by have:=hla _ (List.getElem_mem hi);omega) (by have:=hlb2 _ (List.getElem_mem hi2);omega)
   cases hq:eqLk a[i] b[i]
   ·rw[hq]at hst
    have he:((((!(a[i].name.toList==b[i].name.toList))||(a[i].holder !=b[i].holder))||(a[i].token !=b[i].token))|| !sameI a[i].line b[i].line)=true:=by unfold eqLk at hq;rw[zrD];revert hq;cases sameL zgU a[i].line b[i].line<;>cases h1:(a[i].name.toList==b[i].name.toList)<;>cases h2:(a[i].holder==b[i].holder)<;>cases h3:(a[i].token==b[i].token)<;>simp[bne,h1,h2,h3]
    rw[←hF,hst]
    repeat'(first|refine zq (I hat (I hat2 (I hlb (I he (I @Bool.not_true (I @Bool.not_false (I @Bool.and_self (I hd1 (I hd2 (I @zae zca)))))))))) ?_|exact zd (I hat (I hat2 (I hlb (I he (I @Bool.not_true (I @Bool.not_false (I @Bool.and_self (I hd1 (I hd2 (I @zae zca))))))))))|refine zc (hsi) ?_|refine zg (hsi) ?_|(refine zaa ?_ ?_<;>intro hb)|(refine And.intro ?_ ?_;exact zI)|(refine And.intro ?_ ?_<;>intro hg)|exact zC|fail)
   ·rw[hq,Bool.true_and]at hst
    have he:((((!(a[i].name.toList==b[i].name.toList))||(a[i].holder !=b[i].holder))||(a[i].token !=b[i].token))|| !sameI a[i].line b[i].line)=false:=by unfold eqLk at hq;rw[zrD];revert hq;cases sameL zgU a[i].line b[i].line<;>cases h1:(a[i].name.toList==b[i].name.toList)<;>cases h2:(a[i].holder==b[i].holder)<;>cases h3:(a[i].token==b[i].token)<;>simp[bne,h1,h2,h3]
    repeat'(first|refine zq (I hat (I hat2 (I hlb (I he (I @Bool.not_true (I @Bool.not_false (I @Bool.and_self (I hd1 (I hd2 (I @zae zca)))))))))) ?_|exact zd (I hat (I hat2 (I hlb (I he (I @Bool.not_true (I @Bool.not_false (I @Bool.and_self (I hd1 (I hd2 (I @zae zca))))))))))|refine zc (hsi) ?_|refine zg (hsi) ?_|(refine zaa ?_ ?_<;>intro hb)|(refine And.intro ?_ ?_;exact zI)|(refine And.intro ?_ ?_<;>intro hg)|exact zC|fail)
    exact hK _ (i+1) (Gh.canon [] [] [] (zk hw) rfl rfl) hi hst.symm (by omega)
  ·have hi:i=a.length:=by
    have:¬(i:Int)<a.length:=by simpa using hge
    omega
   rw[←hF,zcP hi]
   repeat'(first|refine zq0 ?_|exact zd0|(refine zaa ?_ ?_<;>intro hb)|(refine And.intro ?_ ?_;exact zI)|(refine And.intro ?_ ?_<;>intro hg)|exact zC|fail)
 ·rw[zdi hl]
  repeat'(first|refine zq hl ?_|exact zd hl|(refine zaa ?_ ?_<;>intro hb)|(refine And.intro ?_ ?_;exact zI)|(refine And.intro ?_ ?_<;>intro hg)|exact zC|fail)
set_option maxHeartbeats 1000000 in
theorem zpg (a b:List Memo) (ha:a.length<2^30) (hb:b.length<2^30) (hla:∀x∈a,x.reply.held.length<2^30) (hlb2:∀x∈b,x.reply.held.length<2^30):CallOK Tryz.prog 54 [.f (al a.length (zaC a)), .f (al b.length (zaC b))] (fun r o=>r=[rb (sameL eqMe a b)]∧o=[]):=by
 refine zac zas mixed (T:=Ty) (n:=55) Tryz.func54 (c:=Tryz.f54.body.getD .skip) rfl Tryz.results54 Tryz.ntmps54 Tryz.call54 ?_
 simp only[Tryz.f54,Option.getD]
 cases hl:((a.length:Int) !=(b.length:Int))
 ·obtain⟨hle,hsr⟩:=zdj (eq:=eqMe) hl
  rw[hsr]
  repeat'(first|refine zq hl ?_|exact zd hl|(refine zaa ?_ ?_<;>intro hb)|(refine And.intro ?_ ?_;exact zI)|(refine And.intro ?_ ?_<;>intro hg)|exact zC|fail)
  refine zam (τ:=Nat) (fun i=>⟨[al a.length (zaC a),al b.length (zaC b),dd,dd,dd,ai i,dd,dd,dd,dd,dd,dd,dd,dd,dd,dd,dd,dd,dd,dd,dd,dd,dd,dd,dd,dd,dd,dd,dd,dd,dd,dd,dd,dd,dd,dd,dd,dd,dd,dd,dd,dd,dd,dd,dd,dd,dd,dd,dd,dd,dd,dd,dd,dd,dd],[]⟩)
   (fun i=>i≤a.length) (fun i=>zfr eqMe a b i) (fun i=>a.length - i) 0
   (Gh.canon [] [] [] zK rfl rfl) (Nat.zero_le _) ?_
  intro i hi0 hF K hK
  refine zw ?_
  refine zaa (fun hlt=> ?_) (fun hge=> ?_)
  ·have hi:i<a.length:=by simpa using hlt
   have hi2:i<b.length:=by omega
   have hat:=zcY hi
   have hat2:=zcY hi2
   have hw:=zaq hi (by omega)
   have hlb:decide ((i:Int)<a.length)=true:=by simp;omega
   have hst:=zcl (eq:=eqMe) hi hi2
   have hd1:(zaC a).drop (i*6+1)=iD a[i].seq::(a[i].reply.enc++zaC (a.drop (i+1))):=by rw[←List.drop_drop,hat];rfl
   have hd2:(zaC b).drop (i*6+1)=iD b[i].seq::(b[i].reply.enc++zaC (b.drop (i+1))):=by rw[←List.drop_drop,hat2];rfl
   have hsr:=zrG a[i].reply b[i].reply (hla _ (List.getElem_mem hi)) (hlb2 _ (List.getElem_mem hi2))
   have hme:eqMe a[i] b[i]=((a[i].client==b[i].client)&&(a[i].seq==b[i].seq)&&eqRe a[i].reply b[i].reply):=by unfold eqMe eqRe;simp only[Bool.and_assoc]
   cases hq:eqMe a[i] b[i]
   ·rw[hq]at hst
    have he:(((a[i].client !=b[i].client)||(a[i].seq !=b[i].seq))|| !eqRe a[i].reply b[i].reply)=true:=by rw[hme]at hq;revert hq;cases eqRe a[i].reply b[i].reply<;>cases h1:(a[i].client==b[i].client)<;>cases h2:(a[i].seq==b[i].seq)<;>simp[bne,h1,h2]
    rw[←hF,hst]
    repeat'(first|refine zq (I hat (I hat2 (I hlb (I he (I @Bool.not_true (I @Bool.not_false (I @Bool.and_self (I hd1 (I hd2 (I @zaD zca)))))))))) ?_|exact zd (I hat (I hat2 (I hlb (I he (I @Bool.not_true (I @Bool.not_false (I @Bool.and_self (I hd1 (I hd2 (I @zaD zca))))))))))|refine zc (hsr) ?_|refine zg (hsr) ?_|(refine zaa ?_ ?_<;>intro hb)|(refine And.intro ?_ ?_;exact zI)|(refine And.intro ?_ ?_<;>intro hg)|exact zC|fail)
   ·rw[hq,Bool.true_and]at hst
    have he:(((a[i].client !=b[i].client)||(a[i].seq !=b[i].seq))|| !eqRe a[i].reply b[i].reply)=false:=by rw[hme]at hq;revert hq;cases eqRe a[i].reply b[i].reply<;>cases h1:(a[i].client==b[i].client)<;>cases h2:(a[i].seq==b[i].seq)<;>simp[bne,h1,h2]
    repeat'(first|refine zq (I hat (I hat2 (I hlb (I he (I @Bool.not_true (I @Bool.not_false (I @Bool.and_self (I hd1 (I hd2 (I @zaD zca)))))))))) ?_|exact zd (I hat (I hat2 (I hlb (I he (I @Bool.not_true (I @Bool.not_false (I @Bool.and_self (I hd1 (I hd2 (I @zaD zca))))))))))|refine zc (hsr) ?_|refine zg (hsr) ?_|(refine zaa ?_ ?_<;>intro hb)|(refine And.intro ?_ ?_;exact zI)|(refine And.intro ?_ ?_<;>intro hg)|exact zC|fail)
    exact hK _ (i+1) (Gh.canon [] [] [] (zk hw) rfl rfl) hi hst.symm (by omega)
  ·have hi:i=a.length:=by
    have:¬(i:Int)<a.length:=by simpa using hge
    omega
   rw[←hF,zcP hi]
   repeat'(first|refine zq0 ?_|exact zd0|(refine zaa ?_ ?_<;>intro hb)|(refine And.intro ?_ ?_;exact zI)|(refine And.intro ?_ ?_<;>intro hg)|exact zC|fail)
 ·rw[zdi hl]
  repeat'(first|refine zq hl ?_|exact zd hl|(refine zaa ?_ ?_<;>intro hb)|(refine And.intro ?_ ?_;exact zI)|(refine And.intro ?_ ?_<;>intro hg)|exact zC|fail)
theorem zn5 (a b:St) (ha:Small a) (hb:Small b):CallOK Tryz.prog 23 [.f (.agg a.lent), .f (.agg b.lent)] (fun r o=>r=[rb (zrN a b)]∧o=[]):=by
 refine zac zas mixed (T:=Ty) (n:=45) Tryz.func23 (c:=Tryz.f23.body.getD .skip) rfl Tryz.results23 Tryz.ntmps23 Tryz.call23 ?_
 simp only[Tryz.f23,Option.getD]
 have h1:=zrH a.sess b.sess ha.sess hb.sess
 have h2:=zpf a.locks b.locks ha.locks hb.locks (fun k hk=>(ha.line k hk).1) (fun k hk=>(hb.line k hk).1)
 have h3:=zpg a.memos b.memos ha.memos hb.memos (fun k hk=>(ha.held k hk).1) (fun k hk=>(hb.held k hk).1)
 repeat'(first|refine zq0 ?_|exact zd0|refine zc (h1) ?_|refine zg (h1) ?_|refine zc (h2) ?_|refine zg (h2) ?_|refine zc (h3) ?_|refine zg (h3) ?_|(refine zaa ?_ ?_<;>intro hb)|(refine And.intro ?_ ?_;exact zI)|(refine And.intro ?_ ?_<;>intro hg)|exact zC|fail)
 rfl
theorem zrB (acts:List Act) (hl:acts.length<2^60) (ha:∀a∈acts,zmy a) (d v s:Int) (hd:zaK d) (hv:zaK v) (hs:zaK s):
  CallOK Tryz.prog 8 [.f (al acts.length (zlo acts)), .f (au d), .f (au v), .f (au s)] (fun r o=>r=[zyL ⟨d,v,s,zox acts⟩]∧o=[]):=by
 refine zac zas mixed (T:=Ty) (n:=19) Tryz.func8 (c:=Tryz.f8.body.getD .skip) rfl Tryz.results8 Tryz.ntmps8 Tryz.call8 ?_
 simp only[Tryz.f8,Option.getD]
 have hm:=zuY acts hl ha
 have w1:=zcG hd
 have w2:=zcG hv
 have w3:=zcG hs
 repeat'(first|refine zq (I w1 (I w2 w3)) ?_|exact zd (I w1 (I w2 w3))|refine zc (hm) ?_|refine zg (hm) ?_|(refine zaa ?_ ?_<;>intro hb)|(refine And.intro ?_ ?_;exact zI)|(refine And.intro ?_ ?_<;>intro hg)|exact zC|fail)
 rfl
def zwE (a b:Sn):Bool:=(a.done==b.done)&&((a.view==b.view)&&(a.slot==b.slot))&&zrN a.st b.st
theorem zmZ (a b:Sn) (ha:Small a.st) (hb:Small b.st):CallOK Tryz.prog 24 [.f (.agg a.lent), .f (.agg b.lent)] (fun r o=>r=[rb (zwE a b)]∧o=[]):=by
 refine zac zas mixed (T:=Ty) (n:=24) Tryz.func24 (c:=Tryz.f24.body.getD .skip) rfl Tryz.results24 Tryz.ntmps24 Tryz.call24 ?_
 simp only[Tryz.f24,Option.getD]
 have hs:=zn5 a.st b.st ha hb
 repeat'(first|refine zq0 ?_|exact zd0|refine zc (hs) ?_|refine zg (hs) ?_|(refine zaa ?_ ?_<;>intro hb)|(refine And.intro ?_ ?_;exact zI)|(refine And.intro ?_ ?_<;>intro hg)|exact zC|fail)
 rfl
theorem zeY {α:Type} {eq:α→α→Bool} (h:∀a,eq a a=true) (l:List α):sameL eq l l=true:=by
 unfold sameL
 simp only[beq_self_eq_true,Bool.true_and,List.all_eq_true]
 intro p hp
 obtain⟨j,h1,h2⟩:=List.getElem_of_mem hp
 rw[←h2,List.getElem_zip]
 exact h _
theorem zpb (l:List Int):sameL zgU l l=true:=zeY (fun x=>by simp[zgU]) l
theorem zrC (l:List Grant):sameL zn4 l l=true:=zeY (fun x=>by simp[zn4]) l
theorem zhw (s:St):zrN s s=true:=by
 unfold zrN
 rw[zeY (fun a=>by simp[zlV]),zeY (fun a=>by simp[eqLk,zpb]),zeY (fun a=>by simp[eqMe,zrC])]
 simp
theorem zth (s:Sn):zwE s s=true:=by simp[zwE,zhw]
abbrev Z27:List Int:=List.replicate 27 0
theorem zkt:zbM st0=Z27:=by kernel_rfl
theorem st0_small:Small st0:=zb1 zeT
theorem zwe:BsOk Z27:=⟨by decide,by intro x hx;rw[List.mem_replicate]at hx;rw[hx.2];exact⟨by decide,by decide⟩⟩
theorem zwF:dSt Z27 0=(st0,27,0):=by
 have h:=zlM (bs:=Z27) (p:=0) (s:=st0) (rest:=[]) (by rw[zkt];rfl) zeT
 rw[zkt]at h
 have h:zdC Z27 0= .ok (st0,((0+27:Nat):Int)):=h
 unfold dSt
 rw[h]
 rfl
set_option maxHeartbeats 2000000 in
theorem zpc:CallOK Tryz.prog 12 [] (fun r o=>r=[rb true]∧o=[]):=by
 refine zac zas mixed (T:=Ty) (n:=50) Tryz.func12 (c:=Tryz.f12.body.getD .skip) rfl Tryz.results12 Tryz.ntmps12 Tryz.call12 ?_
 simp only[Tryz.f12,Option.getD]
 have hp:=zgR st0 zeT
 rw[zkt]at hp
 have hp:CallOK Tryz.prog 14 [.f (.agg [di 0,di 0,di 0, .lent 0 [], .lent 0 [], .lent 0 []])] (fun r o=>r=[.one (.own 1 27 (zaf Z27) false),ri 0]∧o=[]):=hp
 have hg:=zoX Z27 0 zwe (by unfold i64;omega)
 rw[zwF]at hg
 have hg:CallOK Tryz.prog 16 [.f (asl 27 (zaf Z27)), .f (ai 0)] (fun r o=>r=[.agg [.d (iD 0), .d (iD 0), .d (iD 0), .d (.sl 0 []), .d (.sl 0 []), .d (.sl 0 [])],ri 27,ri 0]∧o=[]):=hg
 have hs:=zn5 st0 st0 st0_small st0_small
 rw[zhw]at hs
 have hs:CallOK Tryz.prog 23 [.f (.agg [di 0,di 0,di 0, .lent 0 [], .lent 0 [], .lent 0 []]), .f (.agg [di 0,di 0,di 0, .lent 0 [], .lent 0 [], .lent 0 []])] (fun r o=>r=[rb true]∧o=[]):=hs
 have hq:=zku st0 st0 st0_small st0_small
 rw[zhw]at hq
 have hq:CallOK Tryz.prog 22 [.f (.agg [di 0,di 0,di 0, .lent 0 [], .lent 0 [], .lent 0 []]), .f (.agg [di 0,di 0,di 0, .lent 0 [], .lent 0 [], .lent 0 []])] (fun r o=>r=[rb true]∧o=[]):=hq
 have hq1:=zku st0 {st0 with num:=1} st0_small ⟨st0_small.sess,st0_small.locks,st0_small.memos,st0_small.line,st0_small.held⟩
 rw[show zrN st0 {st0 with num:=1}=false from rfl]at hq1
 have hq1:CallOK Tryz.prog 22 [.f (.agg [di 0,di 0,di 0, .lent 0 [], .lent 0 [], .lent 0 []]), .f (.agg [di 0,di 1,di 0, .lent 0 [], .lent 0 [], .lent 0 []])] (fun r o=>r=[rb false]∧o=[]):=hq1
 repeat'(first|(with_reducible first|refine za6 2 ?_|refine zaL 2 ?_|refine zaM 2 ?_)|refine zu0 ?_|exact zd0|(with_reducible first|refine zad _ _ ?_)|refine zc (hp) ?_|refine zg (hp) ?_|(refine zaa ?_ ?_<;>intro hb)|(refine And.intro ?_ ?_;exact zI)|(refine And.intro ?_ ?_<;>intro hg)|exact zC|fail)
 refine za2 (za1 (Gh.sealV 1 (x:= .own ⟨1,1,0⟩ 0 27) (d:= .sl 27 (zaf Z27)) rfl (by simp only[zY,Nat.reduceSub,Nat.reduceEqDiff,Nat.reduceAdd,Nat.reduceMul,Nat.reduceLeDiff,Nat.reduceLT,Nat.reduceBEq,reduceCtorEq];rfl)) ?_)
 have hz1:bytesOf (zaf Z27)=some (List.replicate 27 0):=rfl
 have hz2:bytesOf (zdN [.int .u8 0] 27)=some [UInt8.ofNat 0,UInt8.ofNat 0,UInt8.ofNat 0,UInt8.ofNat 0,UInt8.ofNat 0,UInt8.ofNat 0,UInt8.ofNat 0,UInt8.ofNat 0,UInt8.ofNat 0,UInt8.ofNat 0,UInt8.ofNat 0,UInt8.ofNat 0,UInt8.ofNat 0,UInt8.ofNat 0,UInt8.ofNat 0,UInt8.ofNat 0,UInt8.ofNat 0,UInt8.ofNat 0,UInt8.ofNat 0,UInt8.ofNat 0,UInt8.ofNat 0,UInt8.ofNat 0,UInt8.ofNat 0,UInt8.ofNat 0,UInt8.ofNat 0,UInt8.ofNat 0,UInt8.ofNat 0]:=rfl
 have hz6:Int.toNat 27=27:=rfl
 have hz3:(zdN [.int .u8 0] 27).take 27=zdN [.int .u8 0] 27:=rfl
 have hz4:(zdN [.int .u8 0] 27).length=27:=rfl
 have hz5:(zaf Z27).length=27:=rfl
 repeat'(first|refine zq (I hz1 (I hz2 (I hz3 (I hz4 (I hz5 hz6))))) ?_|exact zd (I hz1 (I hz2 (I hz3 (I hz4 (I hz5 hz6)))))|refine zc (hg) ?_|refine zg (hg) ?_|refine zc (hs) ?_|refine zg (hs) ?_|refine zc (hq) ?_|refine zg (hq) ?_|refine zc (hq1) ?_|refine zg (hq1) ?_|(refine zaa ?_ ?_<;>intro hb)|(refine And.intro ?_ ?_;exact zI)|(refine And.intro ?_ ?_<;>intro hg)|exact zC|fail)
theorem zfQ {n:Int} (h:zaK n):within n=true:=by
 unfold zaK at h
 rw[zc3]
 simp;omega
theorem ztg (acts:List Act) {d v s:Int} (hd:zaK d) (hv:zaK v) (hs:zaK s):zbx ⟨d,v,s,zox acts⟩=true:=by
 simp only[zbx,zfQ hd,zfQ hv,zfQ hs,zdn.2 (znI acts).rt,Bool.and_self]
def zz:ByteArray:=⟨#[122,122]⟩
theorem zs3 {r:Reply} (h:zbL r=true):∀x∈zb6 r,zaK x:=by
 obtain⟨f1,f2,f3,f4,f5⟩:=zcA h
 have hg:=zcN h
 intro x hx
 simp only[zb6,List.mem_append,List.mem_cons,List.not_mem_nil,or_false]at hx
 rcases hx with rfl|hx|(rfl|rfl)|hx
 ·unfold zaK;omega
 ·exact zer _ x hx
 ·unfold zaK;omega
 ·unfold zaK;omega
 ·obtain⟨g,hgm,hx⟩:=List.mem_flatMap.1 hx
  have:=hg g hgm
  rcases List.mem_append.1 hx with hx|hx
  ·exact zrs _ (by omega) x hx
  ·exact zer _ x hx
theorem zrl {m:Memo} (h:answerB m=true):∀x∈zbn m,zaK x:=by
 obtain⟨f1,f2,f3⟩:=zcj h
 intro x hx
 simp only[zbn,List.mem_append,List.mem_cons,List.not_mem_nil,or_false]at hx
 rcases hx with rfl|hx|hx
 ·unfold zaK;omega
 ·exact zer _ x hx
 ·exact zs3 f3 x hx
theorem znU {s:St} (h:RightS s):∀x∈zbM s,zaK x:=by
 have h1:=h.sl
 have h2:=h.ll
 have h3:=zgx h
 intro x hx
 simp only[zbM,sb3,sb2,sb1,zik,List.take_length,List.mem_append,List.mem_cons,List.not_mem_nil,or_false]at hx
 rcases hx with(((((hx|hx|hx|rfl)|hx)|rfl)|hx)|rfl)|hx
 ·exact zer _ x hx
 ·exact zer _ x hx
 ·exact zer _ x hx
 ·unfold zaK;omega
 ·obtain⟨g,hg,hx⟩:=List.mem_flatMap.1 hx
  obtain⟨f1,_,_⟩:=zb7.1 (h.sok g hg).1
  simp only[isClient,Bool.and_eq_true,decide_eq_true_eq]at f1
  simp only[zhe,List.mem_cons,List.mem_append]at hx
  rcases hx with rfl|hx|hx
  ·unfold zaK;omega
  ·exact zer _ x hx
  ·exact zer _ x hx
 ·unfold zaK;omega
 ·obtain⟨k,hk,hx⟩:=List.mem_flatMap.1 hx
  obtain⟨q0,q1,q2,q3,q4,q5⟩:=zfj h hk
  simp only[zgQ,lk0,List.mem_append,List.mem_cons,List.not_mem_nil,or_false]at hx
  rcases hx with(hx|rfl|hx|rfl)|hx
  ·exact zrs _ (by omega) x hx
  ·unfold zaK;omega
  ·exact zer _ x hx
  ·unfold zaK;omega
  ·have:=q5 x hx;unfold zaK;omega
 ·unfold zaK;omega
 ·obtain⟨m,hm,hx⟩:=List.mem_flatMap.1 hx
  exact zrl (h.mok m hm) x hx
theorem zs4 {s:St} (h:RightS s):(zbM s).length≤1100:=by
 have h1:=zmU h s.memos.length
 have h2:=zgx h
 unfold zbM
 omega
theorem zwm {n:Int} (h:(Lit.int .u8 n).wf=true):zaK n:=by
 have h2:(decide (IntKind.u8.min≤n)&&decide (n≤IntKind.u8.max))=true:=h
 have e1:IntKind.u8.min=0:=by decide
 have e2:IntKind.u8.max=255:=by decide
 rw[e1,e2]at h2
 simp only[Bool.and_eq_true,decide_eq_true_eq]at h2
 unfold zaK
 omega
theorem zl5 {α:Type} {enc:α→List D} {ok:α→Prop} {s:Sh} (h:∀ds,ShD s ds→∃x,ds=enc x∧ok x):∀xs:List (List D),(∀x∈xs,ShD s x)→∃l:List α,l.length=xs.length∧xs.flatten=l.flatMap enc∧∀x∈l,ok x
 |[],_=>⟨[],rfl,rfl,fun x hx=>by cases hx⟩
 |x::xs,hx=>by
  obtain⟨a,ha1,ha2⟩:=h x (hx x (by simp))
  obtain⟨l,h1,h2,h3⟩:=zl5 h xs fun y hy=>hx y (by simp[hy])
  refine⟨a::l,by simp[h1], ?_,fun y hy=> ?_⟩
  ·rw[List.flatten_cons,List.flatMap_cons,h2,ha1]
  ·rcases List.mem_cons.1 hy with rfl|hy
   ·exact ha2
   ·exact h3 y hy
theorem zpj:reachBytes<2^60:=by decide
theorem byte_of (ds:List D) (h:ShD (.int .u8) ds):∃x:Int,ds=[uD x]∧zaK x:=by
 simp only[ShD]at h
 obtain⟨n,rfl,hn⟩:=h
 exact⟨n,rfl,zwm hn⟩
abbrev zpk:Sh:= .struct [.int .u8, .int .u8, .int .u8, .int .u8, .int .u8, .int .u8]
theorem zvt (ds:List D) (h:ShD zpk ds):∃a:Act,ds=a.enc∧zmy a:=by
 rw[ShD]at h
 simp only[ShDs]at h
 obtain⟨_,_,rfl,h1,_,_,rfl,h2,_,_,rfl,h3,_,_,rfl,h4,_,_,rfl,h5,_,_,rfl,h6,rfl⟩:=h
 obtain⟨a,rfl,ha⟩:=byte_of _ h1
 obtain⟨b,rfl,hb⟩:=byte_of _ h2
 obtain⟨c,rfl,hc⟩:=byte_of _ h3
 obtain⟨d,rfl,hd⟩:=byte_of _ h4
 obtain⟨e,rfl,he⟩:=byte_of _ h5
 obtain⟨f,rfl,hf⟩:=byte_of _ h6
 exact⟨⟨a,b,c,d,e,f⟩,rfl,ha,hb,hc,hd,he,hf⟩
theorem zua (ds:List D) (h:ShD (.slice 6 zpk) ds):∃l:List Act,ds=[.sl l.length (zlo l)]∧l.length<2^60∧∀x∈l,zmy x:=by
 rw[ShD]at h
 obtain⟨xs,rfl,hx1,hx2⟩:=h
 obtain⟨l,l1,l2,l3⟩:=zl5 zvt xs hx2
 have:=zpj
 exact⟨l,by rw[←l1,l2],by omega,l3⟩
theorem zl6 (l:List Int):(l.flatMap fun n=>[uD n])=zaf l:=by
 induction l with
 |nil=>rfl
 |cons a l ih=>simp[List.flatMap_cons,ih]
theorem zwn (ds:List D) (h:ShD (.slice 1 (.int .u8)) ds):∃l:List Int,ds=[.sl l.length (zaf l)]∧l.length<2^60∧∀x∈l,zaK x:=by
 rw[ShD]at h
 obtain⟨xs,rfl,hx1,hx2⟩:=h
 obtain⟨l,l1,l2,l3⟩:=zl5 byte_of xs hx2
 have:=zpj
 rw[zl6]at l2
 exact⟨l,by rw[←l1,l2],by omega,l3⟩
def zn8 (n:Int):Prop:=0≤n∧n<65536
abbrev wD (n:Int):D:= .v (.int .u16 n)
abbrev aw (n:Int):AV:= .one (.d (wD n))
theorem zvu {n:Int} (h:(Lit.int .u16 n).wf=true):zn8 n:=by
 have h2:(decide (IntKind.u16.min≤n)&&decide (n≤IntKind.u16.max))=true:=h
 have e1:IntKind.u16.min=0:=by decide
 have e2:IntKind.u16.max=65535:=by decide
 rw[e1,e2]at h2
 simp only[Bool.and_eq_true,decide_eq_true_eq]at h2
 unfold zn8
 omega
theorem zue (ds:List D) (h:ShD (.int .u16) ds):∃x:Int,ds=[wD x]∧zn8 x:=by
 simp only[ShD]at h
 obtain⟨n,rfl,hn⟩:=h
 exact⟨n,rfl,zvu hn⟩
theorem zwa {s:Sn} (h:RightS s.st):∀x∈snI s,zaK x:=by
 intro x hx
 unfold snI at hx
 simp only[List.mem_append]at hx
 rcases hx with hx|hx|hx|hx
 ·exact zer _ x hx
 ·exact zer _ x hx
 ·exact zer _ x hx
 ·exact znU h x hx
theorem zvh {ah:List Int} {a:Sn} {k:Nat} (hb:BsOk (ah++snI a)) (hs:zbx a=true) (hk:k<(snI a).length):dSn ((ah++snI a).take (ah.length+k)) ah.length=(sn0,0,2):=by
 have h:=znW (bs:=ah++snI a) (p:=ah.length) (s:=a) (rest:=[]) (by simp) hs
 obtain⟨h1,h2,h3⟩:=ztp (m:=ah.length+k) (by rw[List.length_append];omega) hb _ h
 unfold dSn
 rw[h3 (by omega) (by simp only;omega)]
theorem zvi {ah:List Int} {a:Sn} {rest:List Int} (hs:zbx a=true):dSn (ah++(snI a++rest)) ah.length=(a,((ah.length+(snI a).length:Nat):Int),0):=by
 have h:=znW (bs:=ah++(snI a++rest)) (p:=ah.length) (s:=a) (rest:=rest) (by simp) hs
 unfold dSn
 rw[h]
set_option maxHeartbeats 8000000 in
theorem zmL (acts:List Act) (hl:acts.length<2^60) (ha:∀a∈acts,zmy a) (d v s:Int) (hd:zaK d) (hv:zaK v) (hs:zaK s) (ah:List Int) (hal:ah.length<2^60) (hab:∀x∈ah,zaK x) (cut:Int) (hcut:zn8 cut):
  CallOK Tryz.prog 6 [.f (al acts.length (zlo acts)), .f (au d), .f (au v), .f (au s), .f (asl ah.length (zaf ah)), .f (aw cut)] (fun r o=>r=[rb true]∧o=[]):=by
 refine zac zas mixed (T:=Ty) (n:=133) Tryz.func6 (c:=Tryz.f6.body.getD .skip) rfl Tryz.results6 Tryz.ntmps6 Tryz.call6 ?_
 simp only[Tryz.f6,Option.getD]
 have haw:=zpc
 cases hg:decide ((ah.length:Int)>100)
 case true=>repeat'(first|(with_reducible first|refine zad _ _ ?_|refine zaS ?_|refine zaT ?_)|rw[zaI]|simp only[hg,zY,Int.reduceEq,Int.reduceBEq,Int.reduceBNe,Nat.reduceSub,Nat.reduceEqDiff,Nat.reduceAdd,Nat.reduceMul,Nat.reduceLeDiff,Nat.reduceLT,Nat.reduceBEq,reduceCtorEq]|((first|((try refine zaV ?_);apply za9)|(apply zbc;intro _));(solve|exact(haw)|(refine CallOK.le (haw) ?_;exact zM)|fail);try case hn=>rfl)|refine zax ?_|refine zaa (fun hb=> ?_) (fun hb=> ?_)|(refine And.intro ?_ ?_;exact zI)|refine And.intro (fun hg=> ?_) (fun hg=> ?_)|exact zC|fail)
 have hg1:ah.length≤100:=by simp at hg;omega
 have hmd:=zrB acts hl ha d v s hd hv hs
 have hmm:=ztg acts hd hv hs
 have hrt:=(znI acts).rt
 obtain⟨a,hA⟩:∃a:Sn,a=⟨d,v,s,zox acts⟩:=⟨_,rfl⟩
 rw[←hA]at hmd hmm
 have hrt:RightS a.st:=by rw[hA];exact hrt
 have hsm:=zb1 hrt
 have p3:=zoV a hmm
 have p4:=zgO a hsm
 rw[hmm]at p4
 have p5:=zgR a.st hrt
 have hln:(snI a).length=24+(zbM a.st).length:=by simp[snI,zaW];omega
 have hsl:=zs4 hrt
 have hb:=zwa hrt
 have hsb:=znU hrt
 have hge:27≤(zbM a.st).length:=by simp[zbM,sb3,sb2,sb1,zik,zaW];omega
 have k5:=zmZ a a hsm hsm
 rw[zth]at k5
 have k6:=zku a.st a.st hsm hsm
 rw[zhw]at k6
 obtain⟨k,hk,hkl⟩:∃k:Nat,cut.tmod ((snI a).length:Int)=(k:Int)∧k<(snI a).length:=by
  unfold zn8 at hcut
  refine⟨(cut.tmod ((snI a).length:Int)).toNat, ?_, ?_⟩
  ·rw[Int.toNat_of_nonneg (Int.tmod_nonneg _ hcut.1)]
  ·have:=Int.tmod_lt_of_pos cut (b:=((snI a).length:Int)) (by omega)
   have:=Int.tmod_nonneg ((snI a).length:Int) hcut.1
   omega
 have hw16:IntKind.i64.wrap cut=cut:=by unfold zn8 at hcut;exact wrap64 (by omega) (by omega)
 have hBo:BsOk (ah++snI a):=⟨by rw[List.length_append];omega,fun x hx=>(List.mem_append.1 hx).elim (hab x) (hb x)⟩
 have hBo9:BsOk (ah++(snI a++[9])):=⟨by simp only[List.length_append,List.length_singleton];omega,fun x hx=>by
  simp only[List.mem_append,List.mem_singleton]at hx
  rcases hx with hx|hx|rfl
  ·exact hab x hx
  ·exact hb x hx
  ·exact⟨by decide,by decide⟩⟩
 have hBot:BsOk ((ah++snI a).take (ah.length+k)):=⟨by rw[List.length_take,List.length_append];omega,fun x hx=>hBo.b x (List.mem_of_mem_take hx)⟩
 have hz:i64 ah.length:=by unfold i64;omega
 have q3:=zfA (ah++(snI a++[9])) ah.length hBo9 hz
 rw[zvi hmm]at q3
 have q4:=zfA ((ah++snI a).take (ah.length+k)) ah.length hBot hz
 rw[zvh hBo hmm hkl]at q4
 have u1:(ah++(snI a++[9])).length=ah.length+(snI a).length+1:=by simp;omega
 have u2:zaf (ah++(snI a++[9]))=zaf (ah++snI a)++[uD 9]:=by simp[zaf]
 rw[u1,u2]at q3
 have u3:((ah++snI a).take (ah.length+k)).length=ah.length+k:=by rw[List.length_take,List.length_append];omega
 have u4:zaf ((ah++snI a).take (ah.length+k))=(zaf (ah++snI a)).take (ah.length+k):=by simp only[zaf,List.map_take]
 rw[u3,u4]at q4
 have hpre:snI a=(zbV a.done++(zbV a.view++zbV a.slot))++zbM a.st:=by simp[snI]
 have hd24:(zaf (snI a)).drop 24=zaf (zbM a.st):=by
  rw[hpre]
  simp only[zaf,List.map_append]
  rw[List.drop_append_of_le_length (by simp[zaW]),List.drop_eq_nil_of_le (by simp[zaW]),List.nil_append]
 obtain⟨M,hM⟩:∃M,bytesOf (zaf (zbM a.st))=some M:=⟨_,zdh _⟩
 have ht1:(zaf (snI a)).take (snI a).length=zaf (snI a):=zaP
 have ht2:(zaf (zbM a.st)).take (zbM a.st).length=zaf (zbM a.st):=zaP
 have hNl:(zaf (ah++snI a)).length=ah.length+(snI a).length:=by simp
 have ht3:(zaf (ah++snI a)).take (ah.length+(snI a).length)=zaf (ah++snI a):=List.take_of_length_le (by rw[hNl];exact Nat.le_refl _)
 have hmap:zaf ah++zaf (snI a)=zaf (ah++snI a):=by simp[zaf]
 have ht4:(zaf ah).take ah.length=zaf ah:=zaP
 clear hpre
 generalize snI a=B at*
 have hlt51:decide ((B.length:Int)<51)=false:=by simp;omega
 have hle1:(ah.length≤2^47)=True:=eq_true (by omega)
 have hle2:(ah.length+B.length≤2^47)=True:=eq_true (by omega)
 have hN1:(ah.length+B.length+1≤ah.length+B.length)=False:=eq_false (by omega)
 have hle3:(ah.length+B.length+1≤2^47)=True:=eq_true (by omega)
 repeat'(first|(with_reducible first|refine za6 8 ?_|refine zaL 8 ?_|refine zaM 8 ?_)|(with_reducible first|refine zad _ _ ?_|refine zaS ?_|refine zaT ?_)|rw[zaI]|simp only[hg,hlt51,hle1,hle2,ht1,ht4,List.nil_append,Nat.zero_add,List.length_map,zY,Int.reduceEq,Int.reduceBEq,Int.reduceBNe,Nat.reduceSub,Nat.reduceEqDiff,Nat.reduceAdd,Nat.reduceMul,Nat.reduceLeDiff,Nat.reduceLT,Nat.reduceBEq,reduceCtorEq]|((first|((try refine zaV ?_);apply za9)|(apply zbc;intro _));(solve|exact(haw)|exact(hmd)|exact(p3)|exact(p4)|(refine CallOK.le (haw) ?_;exact zM)|(refine CallOK.le (hmd) ?_;exact zM)|(refine CallOK.le (p3) ?_;exact zM)|(refine CallOK.le (p4) ?_;exact zM)|fail);try case hn=>rfl)|refine zax ?_|refine zaa (fun hb=> ?_) (fun hb=> ?_)|(refine And.intro ?_ ?_;exact zI)|refine And.intro (fun hg=> ?_) (fun hg=> ?_)|exact zC|fail)
 rw[hmap]
 generalize ah++B=X at*
 refine za2 (zdG _ _ (zrO zas mixed 5 (d:=62) (n:=ah.length+B.length) (hd:=⟨16,1,0⟩) (v1:= ?v1) (r1:= ?r1) (r2:= ?r2) (ds:=zaf X) (res:= ?res) (ei:= ?ei) (te:= ?te) (k1:= ?k1) (k2:= ?k2) rfl rfl rfl rfl ?h1 ?s1 ?s2 ?s3 ?e1 ?e2 ?e3 ?he ?hs ?hr ?hf ?hds ?h2))
 case h1=>
  intro K hK
  repeat'(first|(with_reducible first|refine zad _ _ ?_|refine zaS ?_|refine zaT ?_)|rw[zaI]|simp only[List.take_succ_cons,List.take_zero,zY,Int.reduceEq,Int.reduceBEq,Int.reduceBNe,Nat.reduceSub,Nat.reduceEqDiff,Nat.reduceAdd,Nat.reduceMul,Nat.reduceLeDiff,Nat.reduceLT,Nat.reduceBEq,reduceCtorEq]|refine zax ?_|refine zaa (fun hb=> ?_) (fun hb=> ?_)|(refine And.intro ?_ ?_;exact zI)|refine And.intro (fun hg=> ?_) (fun hg=> ?_)|exact zC|fail)
  exact hK
 case s1=>exact trivial
 case s2=>exact trivial
 case s3=>exact trivial
 case e1=>rfl
 case e2=>rfl
 case e3=>rfl
 case he=>simp only[zY,Nat.reduceSub,Nat.reduceEqDiff,Nat.reduceAdd,Nat.reduceMul,Nat.reduceLeDiff,Nat.reduceLT,Nat.reduceBEq,reduceCtorEq];rfl
 case hs=>simp only[zY,ht3,hNl,Nat.reduceSub,Nat.reduceEqDiff,Nat.reduceAdd,Nat.reduceMul,Nat.reduceLeDiff,Nat.reduceLT,Nat.reduceBEq,reduceCtorEq];rfl
 case hr=>rfl
 case hf=>rfl
 case hds=>simp only[zY,ht3,Nat.reduceSub,Nat.reduceEqDiff,Nat.reduceAdd,Nat.reduceMul,Nat.reduceLeDiff,Nat.reduceLT,Nat.reduceBEq,reduceCtorEq]
 have hl0:((B.length:Int)=0)=False:=eq_false (by omega)
 have hwk:IntKind.i64.wrap ((ah.length:Int)+(k:Int))=((ah.length+k:Nat):Int):=by rw[wrap64 (by omega) (by omega)];omega
 have hkn:(ah.length+k≤ah.length+B.length)=True:=eq_true (by omega)
 have ht5:(zaf X++[uD 9]).take (ah.length+B.length+1)=zaf X++[uD 9]:=List.take_of_length_le (by rw[List.length_append,hNl];exact Nat.le_refl _)
 repeat'(first|(with_reducible first|refine zad _ _ ?_|refine zaS ?_|refine zaT ?_)|rw[zaI]|simp only[ht5,List.drop_succ_cons,List.drop_zero,hN1,hle3,hNl,ht3,hl0,hw16,hk,hwk,hkn,hd24,hM,ht1,ht2,Int.toNat_natCast,List.nil_append,bne_self_eq_false,beq_self_eq_true,zY,Int.reduceEq,Int.reduceBEq,Int.reduceBNe,Nat.reduceSub,Nat.reduceEqDiff,Nat.reduceAdd,Nat.reduceMul,Nat.reduceLeDiff,Nat.reduceLT,Nat.reduceBEq,reduceCtorEq]|((first|((try refine zaV ?_);apply za9)|(apply zbc;intro _));(solve|exact(haw)|(refine CallOK.le (haw) ?_;exact zM)|fail);try case hn=>rfl)|refine zax ?_|refine zaa (fun hb=> ?_) (fun hb=> ?_)|(refine And.intro ?_ ?_;exact zI)|refine And.intro (fun hg=> ?_) (fun hg=> ?_)|exact zC|fail)
 refine zkJ 64 (r':= ?r5) (h:=⟨64,1,0⟩) (lo:=0) (n:=ah.length+B.length+1) (k:=ah.length+B.length+1) (ds:=zaf X++[uD 9]) rfl rfl (Gh.sealV 64 rfl ?hw1) trivial ⟨trivial,trivial,trivial⟩ ?hc q3 ?_
 case hw1=>simp only[zY,ht5,Nat.reduceSub,Nat.reduceEqDiff,Nat.reduceAdd,Nat.reduceMul,Nat.reduceLeDiff,Nat.reduceLT,Nat.reduceBEq,reduceCtorEq];rfl
 case hc=>simp only[zY,Nat.reduceSub,Nat.reduceEqDiff,Nat.reduceAdd,Nat.reduceMul,Nat.reduceLeDiff,Nat.reduceLT,Nat.reduceBEq,reduceCtorEq]
 repeat'(first|(with_reducible first|refine zad _ _ ?_|refine zaS ?_|refine zaT ?_)|rw[zaI]|simp only[ht5,List.drop_succ_cons,List.drop_zero,hN1,hle3,hNl,ht3,hl0,hw16,hk,hwk,hkn,hd24,hM,ht1,ht2,Int.toNat_natCast,List.nil_append,bne_self_eq_false,beq_self_eq_true,zY,Int.reduceEq,Int.reduceBEq,Int.reduceBNe,Nat.reduceSub,Nat.reduceEqDiff,Nat.reduceAdd,Nat.reduceMul,Nat.reduceLeDiff,Nat.reduceLT,Nat.reduceBEq,reduceCtorEq]|((first|((try refine zaV ?_);apply za9)|(apply zbc;intro _));(solve|exact(haw)|exact(p5)|exact(k5)|exact(k6)|(refine CallOK.le (haw) ?_;exact zM)|(refine CallOK.le (p5) ?_;exact zM)|(refine CallOK.le (k5) ?_;exact zM)|(refine CallOK.le (k6) ?_;exact zM)|fail);try case hn=>rfl)|refine zax ?_|refine zaa (fun hb=> ?_) (fun hb=> ?_)|(refine And.intro ?_ ?_;exact zI)|refine And.intro (fun hg=> ?_) (fun hg=> ?_)|exact zC|fail)
 refine zkJ 81 (r':= ?r6) (h:=⟨16,1,0⟩) (lo:=0) (n:=ah.length+k) (k:=ah.length+k) (ds:=(zaf X).take (ah.length+k)) rfl rfl (Gh.sealV 81 rfl ?hw2) trivial ⟨trivial,trivial,trivial⟩ ?hc2 q4 ?_
 case hw2=>simp only[zY,Nat.reduceSub,Nat.reduceEqDiff,Nat.reduceAdd,Nat.reduceMul,Nat.reduceLeDiff,Nat.reduceLT,Nat.reduceBEq,reduceCtorEq];rfl
 case hc2=>simp only[zY,Nat.reduceSub,Nat.reduceEqDiff,Nat.reduceAdd,Nat.reduceMul,Nat.reduceLeDiff,Nat.reduceLT,Nat.reduceBEq,reduceCtorEq]
 have hz24:Int.toNat 24=24:=rfl
 have h24:B.length - 24=(zbM a.st).length:=by omega
 have h241:decide ((24:Int)≤(B.length:Int))=true:=by simp;omega
 have h242:((24:Int)≤(B.length:Int))=True:=eq_true (by omega)
 repeat'(first|(with_reducible first|refine zad _ _ ?_|refine zaS ?_|refine zaT ?_)|rw[zaI]|simp only[hz24,h24,h241,h242,ht5,List.drop_succ_cons,List.drop_zero,hN1,hle3,hNl,ht3,hl0,hw16,hk,hwk,hkn,hd24,hM,ht1,ht2,Int.toNat_natCast,List.nil_append,bne_self_eq_false,beq_self_eq_true,zY,Int.reduceEq,Int.reduceBEq,Int.reduceBNe,Nat.reduceSub,Nat.reduceEqDiff,Nat.reduceAdd,Nat.reduceMul,Nat.reduceLeDiff,Nat.reduceLT,Nat.reduceBEq,reduceCtorEq]|((first|((try refine zaV ?_);apply za9)|(apply zbc;intro _));(solve|exact(haw)|exact(p5)|exact(k5)|exact(k6)|(refine CallOK.le (haw) ?_;exact zM)|(refine CallOK.le (p5) ?_;exact zM)|(refine CallOK.le (k5) ?_;exact zM)|(refine CallOK.le (k6) ?_;exact zM)|fail);try case hn=>rfl)|refine zax ?_|refine zaa (fun hb=> ?_) (fun hb=> ?_)|(refine And.intro ?_ ?_;exact zI)|refine And.intro (fun hg=> ?_) (fun hg=> ?_)|exact zC|fail)
end Go.Proofs.YtbpmcjeeeiffhaaGreat
