import Derived.Test.YtbpmcjeeeiffhaaGreatK8
import Derived.JoinedOf
import Derived.Handed
import Derived.ProofKit
import Derived.Test.YtbpmcjeeeiffhaaGreatVJ
namespace Go.Proofs.YtbpmcjeeeiffhaaGreat
open Go.Pk
set_option maxRecDepth 100000
set_option linter.unusedSimpArgs false
set_option linter.unusedVariables false
def sameL {α:Type} (eq:α→α→Bool) (a b:List α):Bool:=(a.length==b.length)&&((a.zip b).all fun p=>eq p.1 p.2)
def zfx {α:Type} (eq:α→α→Bool) (a b:List α) (i:Nat):Bool:=((a.drop i).zip (b.drop i)).all fun p=>eq p.1 p.2
theorem zcm {α:Type} {eq:α→α→Bool} {a b:List α} {i:Nat} (ha:i<a.length) (hb:i<b.length):zfx eq a b i=(eq a[i] b[i]&&zfx eq a b (i+1)):=by
 unfold zfx
 rw[List.drop_eq_getElem_cons ha,List.drop_eq_getElem_cons hb,List.zip_cons_cons,List.all_cons]
theorem zcR {α:Type} {eq:α→α→Bool} {a b:List α} {i:Nat} (ha:i=a.length):zfx eq a b i=true:=by
 unfold zfx
 rw[List.drop_eq_nil_of_le (by omega)];simp
theorem zdj {α:Type} {eq:α→α→Bool} {a b:List α} (h:((a.length:Int) !=(b.length:Int))=true):sameL eq a b=false:=by
 unfold sameL
 simp at h
 simp;omega
theorem zdk {α:Type} {eq:α→α→Bool} {a b:List α} (h:((a.length:Int) !=(b.length:Int))=false):a.length=b.length∧sameL eq a b=zfx eq a b 0:=by
 have hl:a.length=b.length:=by simp at h;omega
 unfold sameL zfx
 simp[hl]
def zg5 (a b:Int):Bool:=a==b
def zoN (a b:Grant):Bool:=(a.name.toList==b.name.toList)&&(a.token==b.token)
def zmQ (a b:Sess):Bool:=(a.client==b.client)&&((a.num==b.num)&&(a.renewed==b.renewed))
def eqLk (a b:Lk):Bool:=(a.name.toList==b.name.toList)&&(a.holder==b.holder)&&(a.token==b.token)&&sameL zg5 a.line b.line
def eqRe (a b:Reply):Bool:=(a.code==b.code)&&(a.session==b.session)&&(a.ahead==b.ahead)&&sameL zoN a.held b.held
def eqMe (a b:Memo):Bool:=(a.client==b.client)&&(a.seq==b.seq)&&(a.reply.code==b.reply.code)&&(a.reply.session==b.reply.session)&&(a.reply.ahead==b.reply.ahead)&&sameL zoN a.reply.held b.reply.held
def zsr (a b:St):Bool:=(a.time==b.time)&&(a.num==b.num)&&(a.token==b.token)&&sameL zmQ a.sess b.sess&&sameL eqLk a.locks b.locks&&sameL eqMe a.memos b.memos
theorem zsi {a b:List Int}:sameI a b=sameL zg5 a b:=rfl
set_option maxHeartbeats 1000000 in
theorem ztV (a b:List Int) (ha:a.length<2^30) (hb:b.length<2^30):CallOK Tryz.prog 48 [.f (al a.length (zaw a)), .f (al b.length (zaw b))] (fun r o=>r=[rb (sameL zg5 a b)]∧o=[]):=by
 refine zac zak mixed (T:=Ty) (n:=26) Tryz.func48 (c:=Tryz.f48.body.getD .skip) rfl Tryz.results48 Tryz.ntmps48 Tryz.call48 ?_
 simp only[Tryz.f48,Option.getD]
 cases hl:((a.length:Int) !=(b.length:Int))
 ·obtain⟨hle,hsr⟩:=zdk (eq:=zg5) hl
  rw[hsr]
  repeat'(first|refine zq hl ?_|exact zd hl|(refine zaa ?_ ?_<;>intro hb)|(refine And.intro ?_ ?_;exact zI)|(refine And.intro ?_ ?_<;>intro hg)|exact zC|fail)
  refine zam (τ:=Nat) (fun i=>⟨[al a.length (zaw a),al b.length (zaw b),dd,dd,dd,dd,dd,dd,dd,dd,dd,dd,ai a.length,ai i,dd,dd,dd,dd,dd,dd,dd,dd,dd,dd,dd,dd],[]⟩)
   (fun i=>i≤a.length) (fun i=>zfx zg5 a b i) (fun i=>a.length - i) 0
   (Gh.canon [] [] [] zK rfl rfl) (Nat.zero_le _) ?_
  intro i hi0 hF K hK
  refine zw ?_
  refine zaa (fun hlt=> ?_) (fun hge=> ?_)
  ·have hi:i<a.length:=by simpa using hlt
   have hi2:i<b.length:=by omega
   have hat:=zce hi
   have hat2:=zce hi2
   have hw:=zal hi (by omega)
   have hlb:decide ((i:Int)<a.length)=true:=by simp;omega
   have hst:=zcm (eq:=zg5) hi hi2
   cases hq:zg5 a[i] b[i]
   ·rw[hq]at hst
    have he:(a[i] !=b[i])=true:=by unfold zg5 at hq;rw[bne,hq];rfl
    rw[←hF,hst]
    repeat'(first|refine zq (I hat (I hat2 (I hlb (I he (I @Bool.not_true (I @Bool.not_false (I @Bool.and_self (I @zaf zca)))))))) ?_|exact zd (I hat (I hat2 (I hlb (I he (I @Bool.not_true (I @Bool.not_false (I @Bool.and_self (I @zaf zca))))))))|(refine zaa ?_ ?_<;>intro hb)|(refine And.intro ?_ ?_;exact zI)|(refine And.intro ?_ ?_<;>intro hg)|exact zC|fail)
   ·rw[hq,Bool.true_and]at hst
    have he:(a[i] !=b[i])=false:=by unfold zg5 at hq;rw[bne,hq];rfl
    repeat'(first|refine zq (I hat (I hat2 (I hlb (I he (I @Bool.not_true (I @Bool.not_false (I @Bool.and_self (I @zaf zca)))))))) ?_|exact zd (I hat (I hat2 (I hlb (I he (I @Bool.not_true (I @Bool.not_false (I @Bool.and_self (I @zaf zca))))))))|(refine zaa ?_ ?_<;>intro hb)|(refine And.intro ?_ ?_;exact zI)|(refine And.intro ?_ ?_<;>intro hg)|exact zC|fail)
    exact hK _ (i+1) (Gh.canon [] [] [] (zk hw) rfl rfl) hi hst.symm (by omega)
  ·have hi:i=a.length:=by
    have:¬(i:Int)<a.length:=by simpa using hge
    omega
   rw[←hF,zcR hi]
   repeat'(first|refine zq0 ?_|exact zd0|(refine zaa ?_ ?_<;>intro hb)|(refine And.intro ?_ ?_;exact zI)|(refine And.intro ?_ ?_<;>intro hg)|exact zC|fail)
 ·rw[zdj hl]
  repeat'(first|refine zq hl ?_|exact zd hl|(refine zaa ?_ ?_<;>intro hb)|(refine And.intro ?_ ?_;exact zI)|(refine And.intro ?_ ?_<;>intro hg)|exact zC|fail)
set_option maxHeartbeats 1000000 in
theorem zpU (a b:List Grant) (ha:a.length<2^30) (hb:b.length<2^30):CallOK Tryz.prog 51 [.f (al a.length (zaD a)), .f (al b.length (zaD b))] (fun r o=>r=[rb (sameL zoN a b)]∧o=[]):=by
 refine zac zak mixed (T:=Ty) (n:=26) Tryz.func51 (c:=Tryz.f51.body.getD .skip) rfl Tryz.results51 Tryz.ntmps51 Tryz.call51 ?_
 simp only[Tryz.f51,Option.getD]
 cases hl:((a.length:Int) !=(b.length:Int))
 ·obtain⟨hle,hsr⟩:=zdk (eq:=zoN) hl
  rw[hsr]
  repeat'(first|refine zq hl ?_|exact zd hl|(refine zaa ?_ ?_<;>intro hb)|(refine And.intro ?_ ?_;exact zI)|(refine And.intro ?_ ?_<;>intro hg)|exact zC|fail)
  refine zam (τ:=Nat) (fun i=>⟨[al a.length (zaD a),al b.length (zaD b),dd,dd,dd,dd,dd,dd,dd,dd,dd,dd,ai a.length,ai i,dd,dd,dd,dd,dd,dd,dd,dd,dd,dd,dd,dd],[]⟩)
   (fun i=>i≤a.length) (fun i=>zfx zoN a b i) (fun i=>a.length - i) 0
   (Gh.canon [] [] [] zK rfl rfl) (Nat.zero_le _) ?_
  intro i hi0 hF K hK
  refine zw ?_
  refine zaa (fun hlt=> ?_) (fun hge=> ?_)
  ·have hi:i<a.length:=by simpa using hlt
   have hi2:i<b.length:=by omega
   have hat:=zb3 hi
   have hat2:=zb3 hi2
   have hw:=zal hi (by omega)
   have hlb:decide ((i:Int)<a.length)=true:=by simp;omega
   have hst:=zcm (eq:=zoN) hi hi2
   cases hq:zoN a[i] b[i]
   ·rw[hq]at hst
    have he:((a[i].name.toList==b[i].name.toList)&&(a[i].token==b[i].token))=false:=by exact hq
    rw[←hF,hst]
    repeat'(first|refine zq (I hat (I hat2 (I hlb (I he (I @Bool.not_true (I @Bool.not_false (I @Bool.and_self (I @zaC zca)))))))) ?_|exact zd (I hat (I hat2 (I hlb (I he (I @Bool.not_true (I @Bool.not_false (I @Bool.and_self (I @zaC zca))))))))|(refine zaa ?_ ?_<;>intro hb)|(refine And.intro ?_ ?_;exact zI)|(refine And.intro ?_ ?_<;>intro hg)|exact zC|fail)
   ·rw[hq,Bool.true_and]at hst
    have he:((a[i].name.toList==b[i].name.toList)&&(a[i].token==b[i].token))=true:=by exact hq
    repeat'(first|refine zq (I hat (I hat2 (I hlb (I he (I @Bool.not_true (I @Bool.not_false (I @Bool.and_self (I @zaC zca)))))))) ?_|exact zd (I hat (I hat2 (I hlb (I he (I @Bool.not_true (I @Bool.not_false (I @Bool.and_self (I @zaC zca))))))))|(refine zaa ?_ ?_<;>intro hb)|(refine And.intro ?_ ?_;exact zI)|(refine And.intro ?_ ?_<;>intro hg)|exact zC|fail)
    exact hK _ (i+1) (Gh.canon [] [] [] (zk hw) rfl rfl) hi hst.symm (by omega)
  ·have hi:i=a.length:=by
    have:¬(i:Int)<a.length:=by simpa using hge
    omega
   rw[←hF,zcR hi]
   repeat'(first|refine zq0 ?_|exact zd0|(refine zaa ?_ ?_<;>intro hb)|(refine And.intro ?_ ?_;exact zI)|(refine And.intro ?_ ?_<;>intro hg)|exact zC|fail)
 ·rw[zdj hl]
  repeat'(first|refine zq hl ?_|exact zd hl|(refine zaa ?_ ?_<;>intro hb)|(refine And.intro ?_ ?_;exact zI)|(refine And.intro ?_ ?_<;>intro hg)|exact zC|fail)
set_option maxHeartbeats 1000000 in
theorem ztW (a b:List Sess) (ha:a.length<2^30) (hb:b.length<2^30):CallOK Tryz.prog 45 [.f (al a.length (zaF a)), .f (al b.length (zaF b))] (fun r o=>r=[rb (sameL zmQ a b)]∧o=[]):=by
 refine zac zak mixed (T:=Ty) (n:=26) Tryz.func45 (c:=Tryz.f45.body.getD .skip) rfl Tryz.results45 Tryz.ntmps45 Tryz.call45 ?_
 simp only[Tryz.f45,Option.getD]
 cases hl:((a.length:Int) !=(b.length:Int))
 ·obtain⟨hle,hsr⟩:=zdk (eq:=zmQ) hl
  rw[hsr]
  repeat'(first|refine zq hl ?_|exact zd hl|(refine zaa ?_ ?_<;>intro hb)|(refine And.intro ?_ ?_;exact zI)|(refine And.intro ?_ ?_<;>intro hg)|exact zC|fail)
  refine zam (τ:=Nat) (fun i=>⟨[al a.length (zaF a),al b.length (zaF b),dd,dd,dd,dd,dd,dd,dd,dd,dd,dd,ai a.length,ai i,dd,dd,dd,dd,dd,dd,dd,dd,dd,dd,dd,dd],[]⟩)
   (fun i=>i≤a.length) (fun i=>zfx zmQ a b i) (fun i=>a.length - i) 0
   (Gh.canon [] [] [] zK rfl rfl) (Nat.zero_le _) ?_
  intro i hi0 hF K hK
  refine zw ?_
  refine zaa (fun hlt=> ?_) (fun hge=> ?_)
  ·have hi:i<a.length:=by simpa using hlt
   have hi2:i<b.length:=by omega
   have hat:=zbv hi
   have hat2:=zbv hi2
   have hw:=zal hi (by omega)
   have hlb:decide ((i:Int)<a.length)=true:=by simp;omega
   have hst:=zcm (eq:=zmQ) hi hi2
   cases hq:zmQ a[i] b[i]
   ·rw[hq]at hst
    have he:((a[i].client==b[i].client)&&((a[i].num==b[i].num)&&(a[i].renewed==b[i].renewed)))=false:=by exact hq
    rw[←hF,hst]
    repeat'(first|refine zq (I hat (I hat2 (I hlb (I he (I @Bool.not_true (I @Bool.not_false (I @Bool.and_self (I @zai zca)))))))) ?_|exact zd (I hat (I hat2 (I hlb (I he (I @Bool.not_true (I @Bool.not_false (I @Bool.and_self (I @zai zca))))))))|(refine zaa ?_ ?_<;>intro hb)|(refine And.intro ?_ ?_;exact zI)|(refine And.intro ?_ ?_<;>intro hg)|exact zC|fail)
   ·rw[hq,Bool.true_and]at hst
    have he:((a[i].client==b[i].client)&&((a[i].num==b[i].num)&&(a[i].renewed==b[i].renewed)))=true:=by exact hq
    repeat'(first|refine zq (I hat (I hat2 (I hlb (I he (I @Bool.not_true (I @Bool.not_false (I @Bool.and_self (I @zai zca)))))))) ?_|exact zd (I hat (I hat2 (I hlb (I he (I @Bool.not_true (I @Bool.not_false (I @Bool.and_self (I @zai zca))))))))|(refine zaa ?_ ?_<;>intro hb)|(refine And.intro ?_ ?_;exact zI)|(refine And.intro ?_ ?_<;>intro hg)|exact zC|fail)
    exact hK _ (i+1) (Gh.canon [] [] [] (zk hw) rfl rfl) hi hst.symm (by omega)
  ·have hi:i=a.length:=by
    have:¬(i:Int)<a.length:=by simpa using hge
    omega
   rw[←hF,zcR hi]
   repeat'(first|refine zq0 ?_|exact zd0|(refine zaa ?_ ?_<;>intro hb)|(refine And.intro ?_ ?_;exact zI)|(refine And.intro ?_ ?_<;>intro hg)|exact zC|fail)
 ·rw[zdj hl]
  repeat'(first|refine zq hl ?_|exact zd hl|(refine zaa ?_ ?_<;>intro hb)|(refine And.intro ?_ ?_;exact zI)|(refine And.intro ?_ ?_<;>intro hg)|exact zC|fail)
theorem ztX (a b:Lk) (ha:a.line.length<2^30) (hb:b.line.length<2^30):CallOK Tryz.prog 47 [.f (.agg (a.enc.map C.d)), .f (.agg (b.enc.map C.d))] (fun r o=>r=[rb (eqLk a b)]∧o=[]):=by
 refine zac zak mixed (T:=Ty) (n:=31) Tryz.func47 (c:=Tryz.f47.body.getD .skip) rfl Tryz.results47 Tryz.ntmps47 Tryz.call47 ?_
 simp only[Tryz.f47,Option.getD]
 have hi:=ztV a.line b.line ha hb
 repeat'(first|refine zq0 ?_|exact zd0|refine zc (hi) ?_|refine zg (hi) ?_|(refine zaa ?_ ?_<;>intro hb)|(refine And.intro ?_ ?_;exact zI)|(refine And.intro ?_ ?_<;>intro hg)|exact zC|fail)
 rfl
theorem ztY (a b:Memo) (ha:a.reply.held.length<2^30) (hb:b.reply.held.length<2^30):CallOK Tryz.prog 50 [.f (.agg (a.enc.map C.d)), .f (.agg (b.enc.map C.d))] (fun r o=>r=[rb (eqMe a b)]∧o=[]):=by
 refine zac zak mixed (T:=Ty) (n:=51) Tryz.func50 (c:=Tryz.f50.body.getD .skip) rfl Tryz.results50 Tryz.ntmps50 Tryz.call50 ?_
 simp only[Tryz.f50,Option.getD]
 have hi:=zpU a.reply.held b.reply.held ha hb
 repeat'(first|refine zq0 ?_|exact zd0|refine zc (hi) ?_|refine zg (hi) ?_|(refine zaa ?_ ?_<;>intro hb)|(refine And.intro ?_ ?_;exact zI)|(refine And.intro ?_ ?_<;>intro hg)|exact zC|fail)
 rfl
abbrev afn (n:Nat):AV:= .one (.d (.v (.func (.func n) #[] #[])))
set_option maxHeartbeats 1000000 in
theorem zsj (a b:List Lk) (ha:a.length<2^30) (hb:b.length<2^30) (hla:∀x∈a,x.line.length<2^30) (hlb2:∀x∈b,x.line.length<2^30):CallOK Tryz.prog 46 [.f (al a.length (zah a)), .f (al b.length (zah b)), .f (afn 47)] (fun r o=>r=[rb (sameL eqLk a b)]∧o=[]):=by
 refine zac zak mixed (T:=Ty) (n:=32) Tryz.func46 (c:=Tryz.f46.body.getD .skip) rfl Tryz.results46 Tryz.ntmps46 Tryz.call46 ?_
 simp only[Tryz.f46,Option.getD]
 have hfn:∀(Z:List Nat) (r:Rs) (xs ys:List AV),fgc Z r (afn 47::xs) (afn 47::ys)=fgc Z r xs ys:=fun Z r xs ys=>zht rfl rfl
 cases hl:((a.length:Int) !=(b.length:Int))
 ·obtain⟨hle,hsr⟩:=zdk (eq:=eqLk) hl
  rw[hsr]
  repeat'(first|refine zq hl ?_|exact zd hl|(refine zaa ?_ ?_<;>intro hb)|(refine And.intro ?_ ?_;exact zI)|(refine And.intro ?_ ?_<;>intro hg)|exact zC|fail)
  refine zam (τ:=Nat) (fun i=>⟨[dd,al b.length (zah b),afn 47,dd,dd,dd,dd,dd,dd,dd,dd,dd,dd,dd,dd,al a.length (zah a),ai a.length,ai i,dd,dd,dd,dd,dd,dd,dd,dd,dd,dd,dd,dd,dd,dd],[(8,⟨2,[]⟩),(9,⟨2,[]⟩)]⟩)
   (fun i=>i≤a.length) (fun i=>zfx eqLk a b i) (fun i=>a.length - i) 0
   (Gh.canon [] [8,9] [] (zk hfn) rfl rfl) (Nat.zero_le _) ?_
  intro i hi0 hF K hK
  refine zw ?_
  refine zaa (fun hlt=> ?_) (fun hge=> ?_)
  ·have hi:i<a.length:=by simpa using hlt
   have hi2:i<b.length:=by omega
   have hat:=zaK hi
   have hat2:=zaK hi2
   have hw:=zal hi (by omega)
   have hlb:decide ((i:Int)<a.length)=true:=by simp;omega
   have hst:=zcm (eq:=eqLk) hi hi2
   have hc:=ztX a[i] b[i] (hla _ (List.getElem_mem hi)) (hlb2 _ (List.getElem_mem hi2))
   cases hq:eqLk a[i] b[i]
   ·rw[hq]at hst
    have he:(!eqLk a[i] b[i])=true:=by rw[hq];rfl
    rw[←hF,hst]
    repeat'(first|refine zq (I hat (I hat2 (I hlb (I he (I @Bool.not_true (I @Bool.not_false (I @Bool.and_self (I @zad zca)))))))) ?_|exact zd (I hat (I hat2 (I hlb (I he (I @Bool.not_true (I @Bool.not_false (I @Bool.and_self (I @zad zca))))))))|refine zc (hc) ?_|refine zg (hc) ?_|(refine zaa ?_ ?_<;>intro hb)|(refine And.intro ?_ ?_;exact zI)|(refine And.intro ?_ ?_<;>intro hg)|exact zC|fail)
   ·rw[hq,Bool.true_and]at hst
    have he:(!eqLk a[i] b[i])=false:=by rw[hq];rfl
    repeat'(first|refine zq (I hat (I hat2 (I hlb (I he (I @Bool.not_true (I @Bool.not_false (I @Bool.and_self (I @zad zca)))))))) ?_|exact zd (I hat (I hat2 (I hlb (I he (I @Bool.not_true (I @Bool.not_false (I @Bool.and_self (I @zad zca))))))))|refine zc (hc) ?_|refine zg (hc) ?_|(refine zaa ?_ ?_<;>intro hb)|(refine And.intro ?_ ?_;exact zI)|(refine And.intro ?_ ?_<;>intro hg)|exact zC|fail)
    exact hK _ (i+1) (Gh.canon [] [] [] (zk (I hw hfn)) rfl rfl) hi hst.symm (by omega)
  ·have hi:i=a.length:=by
    have:¬(i:Int)<a.length:=by simpa using hge
    omega
   rw[←hF,zcR hi]
   repeat'(first|refine zq0 ?_|exact zd0|(refine zaa ?_ ?_<;>intro hb)|(refine And.intro ?_ ?_;exact zI)|(refine And.intro ?_ ?_<;>intro hg)|exact zC|fail)
 ·rw[zdj hl]
  repeat'(first|refine zq hl ?_|exact zd hl|(refine zaa ?_ ?_<;>intro hb)|(refine And.intro ?_ ?_;exact zI)|(refine And.intro ?_ ?_<;>intro hg)|exact zC|fail)
set_option maxHeartbeats 1000000 in
theorem zsk (a b:List Memo) (ha:a.length<2^30) (hb:b.length<2^30) (hla:∀x∈a,x.reply.held.length<2^30) (hlb2:∀x∈b,x.reply.held.length<2^30):CallOK Tryz.prog 49 [.f (al a.length (zaz a)), .f (al b.length (zaz b)), .f (afn 50)] (fun r o=>r=[rb (sameL eqMe a b)]∧o=[]):=by
 refine zac zak mixed (T:=Ty) (n:=32) Tryz.func49 (c:=Tryz.f49.body.getD .skip) rfl Tryz.results49 Tryz.ntmps49 Tryz.call49 ?_
 simp only[Tryz.f49,Option.getD]
 have hfn:∀(Z:List Nat) (r:Rs) (xs ys:List AV),fgc Z r (afn 50::xs) (afn 50::ys)=fgc Z r xs ys:=fun Z r xs ys=>zht rfl rfl
 cases hl:((a.length:Int) !=(b.length:Int))
 ·obtain⟨hle,hsr⟩:=zdk (eq:=eqMe) hl
  rw[hsr]
  repeat'(first|refine zq hl ?_|exact zd hl|(refine zaa ?_ ?_<;>intro hb)|(refine And.intro ?_ ?_;exact zI)|(refine And.intro ?_ ?_<;>intro hg)|exact zC|fail)
  refine zam (τ:=Nat) (fun i=>⟨[dd,al b.length (zaz b),afn 50,dd,dd,dd,dd,dd,dd,dd,dd,dd,dd,dd,dd,al a.length (zaz a),ai a.length,ai i,dd,dd,dd,dd,dd,dd,dd,dd,dd,dd,dd,dd,dd,dd],[(8,⟨2,[]⟩),(9,⟨2,[]⟩)]⟩)
   (fun i=>i≤a.length) (fun i=>zfx eqMe a b i) (fun i=>a.length - i) 0
   (Gh.canon [] [8,9] [] (zk hfn) rfl rfl) (Nat.zero_le _) ?_
  intro i hi0 hF K hK
  refine zw ?_
  refine zaa (fun hlt=> ?_) (fun hge=> ?_)
  ·have hi:i<a.length:=by simpa using hlt
   have hi2:i<b.length:=by omega
   have hat:=zbB hi
   have hat2:=zbB hi2
   have hw:=zal hi (by omega)
   have hlb:decide ((i:Int)<a.length)=true:=by simp;omega
   have hst:=zcm (eq:=eqMe) hi hi2
   have hc:=ztY a[i] b[i] (hla _ (List.getElem_mem hi)) (hlb2 _ (List.getElem_mem hi2))
   cases hq:eqMe a[i] b[i]
   ·rw[hq]at hst
    have he:(!eqMe a[i] b[i])=true:=by rw[hq];rfl
    rw[←hF,hst]
    repeat'(first|refine zq (I hat (I hat2 (I hlb (I he (I @Bool.not_true (I @Bool.not_false (I @Bool.and_self (I @zan zca)))))))) ?_|exact zd (I hat (I hat2 (I hlb (I he (I @Bool.not_true (I @Bool.not_false (I @Bool.and_self (I @zan zca))))))))|refine zc (hc) ?_|refine zg (hc) ?_|(refine zaa ?_ ?_<;>intro hb)|(refine And.intro ?_ ?_;exact zI)|(refine And.intro ?_ ?_<;>intro hg)|exact zC|fail)
   ·rw[hq,Bool.true_and]at hst
    have he:(!eqMe a[i] b[i])=false:=by rw[hq];rfl
    repeat'(first|refine zq (I hat (I hat2 (I hlb (I he (I @Bool.not_true (I @Bool.not_false (I @Bool.and_self (I @zan zca)))))))) ?_|exact zd (I hat (I hat2 (I hlb (I he (I @Bool.not_true (I @Bool.not_false (I @Bool.and_self (I @zan zca))))))))|refine zc (hc) ?_|refine zg (hc) ?_|(refine zaa ?_ ?_<;>intro hb)|(refine And.intro ?_ ?_;exact zI)|(refine And.intro ?_ ?_<;>intro hg)|exact zC|fail)
    exact hK _ (i+1) (Gh.canon [] [] [] (zk (I hw hfn)) rfl rfl) hi hst.symm (by omega)
  ·have hi:i=a.length:=by
    have:¬(i:Int)<a.length:=by simpa using hge
    omega
   rw[←hF,zcR hi]
   repeat'(first|refine zq0 ?_|exact zd0|(refine zaa ?_ ?_<;>intro hb)|(refine And.intro ?_ ?_;exact zI)|(refine And.intro ?_ ?_<;>intro hg)|exact zC|fail)
 ·rw[zdj hl]
  repeat'(first|refine zq hl ?_|exact zd hl|(refine zaa ?_ ?_<;>intro hb)|(refine And.intro ?_ ?_;exact zI)|(refine And.intro ?_ ?_<;>intro hg)|exact zC|fail)
theorem zzg {p q r s t u:Bool}:((!(!p|| !q|| !r|| !s))&&t&&u)=(p&&q&&r&&s&&t&&u):=by cases p<;>cases q<;>cases r<;>cases s<;>simp
set_option maxHeartbeats 1000000 in
theorem zk7 (a b:St) (ha:Small a) (hb:Small b):CallOK Tryz.prog 22 [.f (.agg a.lent), .f (.agg b.lent)] (fun r o=>r=[rb (zsr a b)]∧o=[]):=by
 refine zac zak mixed (T:=Ty) (n:=44) Tryz.func22 (c:=Tryz.f22.body.getD .skip) rfl Tryz.results22 Tryz.ntmps22 Tryz.call22 ?_
 simp only[Tryz.f22,Option.getD]
 have h1:=ztW a.sess b.sess ha.sess hb.sess
 have h2:=zsj a.locks b.locks ha.locks hb.locks (fun k hk=>(ha.line k hk).1) (fun k hk=>(hb.line k hk).1)
 have h3:=zsk a.memos b.memos ha.memos hb.memos (fun k hk=>(ha.held k hk).1) (fun k hk=>(hb.held k hk).1)
 cases hq:((((a.time !=b.time)||(a.num !=b.num))||(a.token !=b.token))|| !sameL zmQ a.sess b.sess)
 ·have he:zsr a b=(sameL eqLk a.locks b.locks&&sameL eqMe a.memos b.memos):=by
   unfold zsr
   rw[←zzg,show(!(!(a.time==b.time)|| !(a.num==b.num)|| !(a.token==b.token)|| !sameL zmQ a.sess b.sess))=true from by revert hq;simp only[bne];cases(a.time==b.time)<;>cases(a.num==b.num)<;>cases(a.token==b.token)<;>cases sameL zmQ a.sess b.sess<;>simp]
   simp
  rw[he]
  repeat'(first|refine zq hq ?_|exact zd hq|refine zc (h1) ?_|refine zg (h1) ?_|refine zc (h2) ?_|refine zg (h2) ?_|refine zc (h3) ?_|refine zg (h3) ?_|(refine zaa ?_ ?_<;>intro hb)|(refine And.intro ?_ ?_;exact zI)|(refine And.intro ?_ ?_<;>intro hg)|exact zC|fail)
 ·have he:zsr a b=false:=by
   unfold zsr
   rw[←zzg,show(!(!(a.time==b.time)|| !(a.num==b.num)|| !(a.token==b.token)|| !sameL zmQ a.sess b.sess))=false from by revert hq;simp only[bne];cases(a.time==b.time)<;>cases(a.num==b.num)<;>cases(a.token==b.token)<;>cases sameL zmQ a.sess b.sess<;>simp]
   simp
  rw[he]
  repeat'(first|refine zq hq ?_|exact zd hq|refine zc (h1) ?_|refine zg (h1) ?_|refine zc (h2) ?_|refine zg (h2) ?_|refine zc (h3) ?_|refine zg (h3) ?_|(refine zaa ?_ ?_<;>intro hb)|(refine And.intro ?_ ?_;exact zI)|(refine And.intro ?_ ?_<;>intro hg)|exact zC|fail)
set_option maxHeartbeats 1000000 in
theorem zpV (a b:List Grant) (ha:a.length<2^30) (hb:b.length<2^30):CallOK Tryz.prog 68 [.f (al a.length (zaD a)), .f (al b.length (zaD b))] (fun r o=>r=[rb (sameL zoN a b)]∧o=[]):=by
 refine zac zak mixed (T:=Ty) (n:=26) Tryz.func68 (c:=Tryz.f68.body.getD .skip) rfl Tryz.results68 Tryz.ntmps68 Tryz.call68 ?_
 simp only[Tryz.f68,Option.getD]
 cases hl:((a.length:Int) !=(b.length:Int))
 ·obtain⟨hle,hsr⟩:=zdk (eq:=zoN) hl
  rw[hsr]
  repeat'(first|refine zq hl ?_|exact zd hl|(refine zaa ?_ ?_<;>intro hb)|(refine And.intro ?_ ?_;exact zI)|(refine And.intro ?_ ?_<;>intro hg)|exact zC|fail)
  refine zam (τ:=Nat) (fun i=>⟨[al a.length (zaD a),al b.length (zaD b),dd,dd,dd,ai i,dd,dd,dd,dd,dd,dd,dd,dd,dd,dd,dd,dd,dd,dd,dd,dd,dd,dd,dd,dd],[]⟩)
   (fun i=>i≤a.length) (fun i=>zfx zoN a b i) (fun i=>a.length - i) 0
   (Gh.canon [] [] [] zK rfl rfl) (Nat.zero_le _) ?_
  intro i hi0 hF K hK
  refine zw ?_
  refine zaa (fun hlt=> ?_) (fun hge=> ?_)
  ·have hi:i<a.length:=by simpa using hlt
   have hi2:i<b.length:=by omega
   have hat:=zb3 hi
   have hat2:=zb3 hi2
   have hw:=zal hi (by omega)
   have hlb:decide ((i:Int)<a.length)=true:=by simp;omega
   have hst:=zcm (eq:=zoN) hi hi2
   cases hq:zoN a[i] b[i]
   ·rw[hq]at hst
    have he:((a[i].name.toList==b[i].name.toList)&&(a[i].token==b[i].token))=false:=by exact hq
    rw[←hF,hst]
    repeat'(first|refine zq (I hat (I hat2 (I hlb (I he (I @Bool.not_true (I @Bool.not_false (I @Bool.and_self (I @zaC zca)))))))) ?_|exact zd (I hat (I hat2 (I hlb (I he (I @Bool.not_true (I @Bool.not_false (I @Bool.and_self (I @zaC zca))))))))|(refine zaa ?_ ?_<;>intro hb)|(refine And.intro ?_ ?_;exact zI)|(refine And.intro ?_ ?_<;>intro hg)|exact zC|fail)
   ·rw[hq,Bool.true_and]at hst
    have he:((a[i].name.toList==b[i].name.toList)&&(a[i].token==b[i].token))=true:=by exact hq
    repeat'(first|refine zq (I hat (I hat2 (I hlb (I he (I @Bool.not_true (I @Bool.not_false (I @Bool.and_self (I @zaC zca)))))))) ?_|exact zd (I hat (I hat2 (I hlb (I he (I @Bool.not_true (I @Bool.not_false (I @Bool.and_self (I @zaC zca))))))))|(refine zaa ?_ ?_<;>intro hb)|(refine And.intro ?_ ?_;exact zI)|(refine And.intro ?_ ?_<;>intro hg)|exact zC|fail)
    exact hK _ (i+1) (Gh.canon [] [] [] (zk hw) rfl rfl) hi hst.symm (by omega)
  ·have hi:i=a.length:=by
    have:¬(i:Int)<a.length:=by simpa using hge
    omega
   rw[←hF,zcR hi]
   repeat'(first|refine zq0 ?_|exact zd0|(refine zaa ?_ ?_<;>intro hb)|(refine And.intro ?_ ?_;exact zI)|(refine And.intro ?_ ?_<;>intro hg)|exact zC|fail)
 ·rw[zdj hl]
  repeat'(first|refine zq hl ?_|exact zd hl|(refine zaa ?_ ?_<;>intro hb)|(refine And.intro ?_ ?_;exact zI)|(refine And.intro ?_ ?_<;>intro hg)|exact zC|fail)
theorem zsl (a b:Reply) (ha:a.held.length<2^30) (hb:b.held.length<2^30):CallOK Tryz.prog 29 [.f (.agg a.lent), .f (.agg b.lent)] (fun r o=>r=[rb (eqRe a b)]∧o=[]):=by
 refine zac zak mixed (T:=Ty) (n:=31) Tryz.func29 (c:=Tryz.f29.body.getD .skip) rfl Tryz.results29 Tryz.ntmps29 Tryz.call29 ?_
 simp only[Tryz.f29,Option.getD]
 have hi:=zpV a.held b.held ha hb
 repeat'(first|refine zq0 ?_|exact zd0|refine zc (hi) ?_|refine zg (hi) ?_|(refine zaa ?_ ?_<;>intro hb)|(refine And.intro ?_ ?_;exact zI)|(refine And.intro ?_ ?_<;>intro hg)|exact zC|fail)
 rfl
set_option maxHeartbeats 1000000 in
theorem zsm (a b:List Sess) (ha:a.length<2^30) (hb:b.length<2^30):CallOK Tryz.prog 52 [.f (al a.length (zaF a)), .f (al b.length (zaF b))] (fun r o=>r=[rb (sameL zmQ a b)]∧o=[]):=by
 refine zac zak mixed (T:=Ty) (n:=26) Tryz.func52 (c:=Tryz.f52.body.getD .skip) rfl Tryz.results52 Tryz.ntmps52 Tryz.call52 ?_
 simp only[Tryz.f52,Option.getD]
 cases hl:((a.length:Int) !=(b.length:Int))
 ·obtain⟨hle,hsr⟩:=zdk (eq:=zmQ) hl
  rw[hsr]
  repeat'(first|refine zq hl ?_|exact zd hl|(refine zaa ?_ ?_<;>intro hb)|(refine And.intro ?_ ?_;exact zI)|(refine And.intro ?_ ?_<;>intro hg)|exact zC|fail)
  refine zam (τ:=Nat) (fun i=>⟨[al a.length (zaF a),al b.length (zaF b),dd,dd,dd,ai i,dd,dd,dd,dd,dd,dd,dd,dd,dd,dd,dd,dd,dd,dd,dd,dd,dd,dd,dd,dd],[]⟩)
   (fun i=>i≤a.length) (fun i=>zfx zmQ a b i) (fun i=>a.length - i) 0
   (Gh.canon [] [] [] zK rfl rfl) (Nat.zero_le _) ?_
  intro i hi0 hF K hK
  refine zw ?_
  refine zaa (fun hlt=> ?_) (fun hge=> ?_)
  ·have hi:i<a.length:=by simpa using hlt
   have hi2:i<b.length:=by omega
   have hat:=zbv hi
   have hat2:=zbv hi2
   have hw:=zal hi (by omega)
   have hlb:decide ((i:Int)<a.length)=true:=by simp;omega
   have hst:=zcm (eq:=zmQ) hi hi2
   cases hq:zmQ a[i] b[i]
   ·rw[hq]at hst
    have he:((a[i].client==b[i].client)&&((a[i].num==b[i].num)&&(a[i].renewed==b[i].renewed)))=false:=by exact hq
    rw[←hF,hst]
    repeat'(first|refine zq (I hat (I hat2 (I hlb (I he (I @Bool.not_true (I @Bool.not_false (I @Bool.and_self (I @zai zca)))))))) ?_|exact zd (I hat (I hat2 (I hlb (I he (I @Bool.not_true (I @Bool.not_false (I @Bool.and_self (I @zai zca))))))))|(refine zaa ?_ ?_<;>intro hb)|(refine And.intro ?_ ?_;exact zI)|(refine And.intro ?_ ?_<;>intro hg)|exact zC|fail)
   ·rw[hq,Bool.true_and]at hst
    have he:((a[i].client==b[i].client)&&((a[i].num==b[i].num)&&(a[i].renewed==b[i].renewed)))=true:=by exact hq
    repeat'(first|refine zq (I hat (I hat2 (I hlb (I he (I @Bool.not_true (I @Bool.not_false (I @Bool.and_self (I @zai zca)))))))) ?_|exact zd (I hat (I hat2 (I hlb (I he (I @Bool.not_true (I @Bool.not_false (I @Bool.and_self (I @zai zca))))))))|(refine zaa ?_ ?_<;>intro hb)|(refine And.intro ?_ ?_;exact zI)|(refine And.intro ?_ ?_<;>intro hg)|exact zC|fail)
    exact hK _ (i+1) (Gh.canon [] [] [] (zk hw) rfl rfl) hi hst.symm (by omega)
  ·have hi:i=a.length:=by
    have:¬(i:Int)<a.length:=by simpa using hge
    omega
   rw[←hF,zcR hi]
   repeat'(first|refine zq0 ?_|exact zd0|(refine zaa ?_ ?_<;>intro hb)|(refine And.intro ?_ ?_;exact zI)|(refine And.intro ?_ ?_<;>intro hg)|exact zC|fail)
 ·rw[zdj hl]
  repeat'(first|refine zq hl ?_|exact zd hl|(refine zaa ?_ ?_<;>intro hb)|(refine And.intro ?_ ?_;exact zI)|(refine And.intro ?_ ?_<;>intro hg)|exact zC|fail)
set_option maxHeartbeats 1000000 in
theorem zpW (a b:List Lk) (ha:a.length<2^30) (hb:b.length<2^30) (hla:∀x∈a,x.line.length<2^30) (hlb2:∀x∈b,x.line.length<2^30):CallOK Tryz.prog 53 [.f (al a.length (zah a)), .f (al b.length (zah b))] (fun r o=>r=[rb (sameL eqLk a b)]∧o=[]):=by
 refine zac zak mixed (T:=Ty) (n:=68) Tryz.func53 (c:=Tryz.f53.body.getD .skip) rfl Tryz.results53 Tryz.ntmps53 Tryz.call53 ?_
 simp only[Tryz.f53,Option.getD]
 cases hl:((a.length:Int) !=(b.length:Int))
 ·obtain⟨hle,hsr⟩:=zdk (eq:=eqLk) hl
  rw[hsr]
  repeat'(first|refine zq hl ?_|exact zd hl|(refine zaa ?_ ?_<;>intro hb)|(refine And.intro ?_ ?_;exact zI)|(refine And.intro ?_ ?_<;>intro hg)|exact zC|fail)
  refine zam (τ:=Nat) (fun i=>⟨[al a.length (zah a),al b.length (zah b),dd,dd,dd,ai i,dd,dd,dd,dd,dd,dd,dd,dd,dd,dd,dd,dd,dd,dd,dd,dd,dd,dd,dd,dd,dd,dd,dd,dd,dd,dd,dd,dd,dd,dd,dd,dd,dd,dd,dd,dd,dd,dd,dd,dd,dd,dd,dd,dd,dd,dd,dd,dd,dd,dd,dd,dd,dd,dd,dd,dd,dd,dd,dd,dd,dd,dd],[]⟩)
   (fun i=>i≤a.length) (fun i=>zfx eqLk a b i) (fun i=>a.length - i) 0
   (Gh.canon [] [] [] zK rfl rfl) (Nat.zero_le _) ?_
  intro i hi0 hF K hK
  refine zw ?_
  refine zaa (fun hlt=> ?_) (fun hge=> ?_)
  ·have hi:i<a.length:=by simpa using hlt
   have hi2:i<b.length:=by omega
   have hat:=zaK hi
   have hat2:=zaK hi2
   have hw:=zal hi (by omega)
   have hlb:decide ((i:Int)<a.length)=true:=by simp;omega
   have hst:=zcm (eq:=eqLk) hi hi2
   have hd1:(zah a).drop (i*4+1)=iD a[i].holder::iD a[i].token:: .sl a[i].line.length (zaw a[i].line)::zah (a.drop (i+1)):=by rw[←List.drop_drop,hat];rfl
   have hd2:(zah b).drop (i*4+1)=iD b[i].holder::iD b[i].token:: .sl b[i].line.length (zaw b[i].line)::zah (b.drop (i+1)):=by rw[←List.drop_drop,hat2];rfl
   have hsi:=znh a[i].line b[i].line (by have:=hla _ (List.getElem_mem hi);omega) (by have:=hlb2 _ (List.getElem_mem hi2);omega)
   cases hq:eqLk a[i] b[i]
   ·rw[hq]at hst
    have he:((((!(a[i].name.toList==b[i].name.toList))||(a[i].holder !=b[i].holder))||(a[i].token !=b[i].token))|| !sameI a[i].line b[i].line)=true:=by unfold eqLk at hq;rw[zsi];revert hq;cases sameL zg5 a[i].line b[i].line<;>cases h1:(a[i].name.toList==b[i].name.toList)<;>cases h2:(a[i].holder==b[i].holder)<;>cases h3:(a[i].token==b[i].token)<;>simp[bne,h1,h2,h3]
    rw[←hF,hst]
    repeat'(first|refine zq (I hat (I hat2 (I hlb (I he (I @Bool.not_true (I @Bool.not_false (I @Bool.and_self (I hd1 (I hd2 (I @zad zca)))))))))) ?_|exact zd (I hat (I hat2 (I hlb (I he (I @Bool.not_true (I @Bool.not_false (I @Bool.and_self (I hd1 (I hd2 (I @zad zca))))))))))|refine zc (hsi) ?_|refine zg (hsi) ?_|(refine zaa ?_ ?_<;>intro hb)|(refine And.intro ?_ ?_;exact zI)|(refine And.intro ?_ ?_<;>intro hg)|exact zC|fail)
   ·rw[hq,Bool.true_and]at hst
    have he:((((!(a[i].name.toList==b[i].name.toList))||(a[i].holder !=b[i].holder))||(a[i].token !=b[i].token))|| !sameI a[i].line b[i].line)=false:=by unfold eqLk at hq;rw[zsi];revert hq;cases sameL zg5 a[i].line b[i].line<;>cases h1:(a[i].name.toList==b[i].name.toList)<;>cases h2:(a[i].holder==b[i].holder)<;>cases h3:(a[i].token==b[i].token)<;>simp[bne,h1,h2,h3]
    repeat'(first|refine zq (I hat (I hat2 (I hlb (I he (I @Bool.not_true (I @Bool.not_false (I @Bool.and_self (I hd1 (I hd2 (I @zad zca)))))))))) ?_|exact zd (I hat (I hat2 (I hlb (I he (I @Bool.not_true (I @Bool.not_false (I @Bool.and_self (I hd1 (I hd2 (I @zad zca))))))))))|refine zc (hsi) ?_|refine zg (hsi) ?_|(refine zaa ?_ ?_<;>intro hb)|(refine And.intro ?_ ?_;exact zI)|(refine And.intro ?_ ?_<;>intro hg)|exact zC|fail)
    exact hK _ (i+1) (Gh.canon [] [] [] (zk hw) rfl rfl) hi hst.symm (by omega)
  ·have hi:i=a.length:=by
    have:¬(i:Int)<a.length:=by simpa using hge
    omega
   rw[←hF,zcR hi]
   repeat'(first|refine zq0 ?_|exact zd0|(refine zaa ?_ ?_<;>intro hb)|(refine And.intro ?_ ?_;exact zI)|(refine And.intro ?_ ?_<;>intro hg)|exact zC|fail)
 ·rw[zdj hl]
  repeat'(first|refine zq hl ?_|exact zd hl|(refine zaa ?_ ?_<;>intro hb)|(refine And.intro ?_ ?_;exact zI)|(refine And.intro ?_ ?_<;>intro hg)|exact zC|fail)
set_option maxHeartbeats 1000000 in
theorem zpX (a b:List Memo) (ha:a.length<2^30) (hb:b.length<2^30) (hla:∀x∈a,x.reply.held.length<2^30) (hlb2:∀x∈b,x.reply.held.length<2^30):CallOK Tryz.prog 54 [.f (al a.length (zaz a)), .f (al b.length (zaz b))] (fun r o=>r=[rb (sameL eqMe a b)]∧o=[]):=by
 refine zac zak mixed (T:=Ty) (n:=55) Tryz.func54 (c:=Tryz.f54.body.getD .skip) rfl Tryz.results54 Tryz.ntmps54 Tryz.call54 ?_
 simp only[Tryz.f54,Option.getD]
 cases hl:((a.length:Int) !=(b.length:Int))
 ·obtain⟨hle,hsr⟩:=zdk (eq:=eqMe) hl
  rw[hsr]
  repeat'(first|refine zq hl ?_|exact zd hl|(refine zaa ?_ ?_<;>intro hb)|(refine And.intro ?_ ?_;exact zI)|(refine And.intro ?_ ?_<;>intro hg)|exact zC|fail)
  refine zam (τ:=Nat) (fun i=>⟨[al a.length (zaz a),al b.length (zaz b),dd,dd,dd,ai i,dd,dd,dd,dd,dd,dd,dd,dd,dd,dd,dd,dd,dd,dd,dd,dd,dd,dd,dd,dd,dd,dd,dd,dd,dd,dd,dd,dd,dd,dd,dd,dd,dd,dd,dd,dd,dd,dd,dd,dd,dd,dd,dd,dd,dd,dd,dd,dd,dd],[]⟩)
   (fun i=>i≤a.length) (fun i=>zfx eqMe a b i) (fun i=>a.length - i) 0
   (Gh.canon [] [] [] zK rfl rfl) (Nat.zero_le _) ?_
  intro i hi0 hF K hK
  refine zw ?_
  refine zaa (fun hlt=> ?_) (fun hge=> ?_)
  ·have hi:i<a.length:=by simpa using hlt
   have hi2:i<b.length:=by omega
   have hat:=zbB hi
   have hat2:=zbB hi2
   have hw:=zal hi (by omega)
   have hlb:decide ((i:Int)<a.length)=true:=by simp;omega
   have hst:=zcm (eq:=eqMe) hi hi2
   have hd1:(zaz a).drop (i*6+1)=iD a[i].seq::(a[i].reply.enc++zaz (a.drop (i+1))):=by rw[←List.drop_drop,hat];rfl
   have hd2:(zaz b).drop (i*6+1)=iD b[i].seq::(b[i].reply.enc++zaz (b.drop (i+1))):=by rw[←List.drop_drop,hat2];rfl
   have hsr:=zsl a[i].reply b[i].reply (hla _ (List.getElem_mem hi)) (hlb2 _ (List.getElem_mem hi2))
   have hme:eqMe a[i] b[i]=((a[i].client==b[i].client)&&(a[i].seq==b[i].seq)&&eqRe a[i].reply b[i].reply):=by unfold eqMe eqRe;simp only[Bool.and_assoc]
   cases hq:eqMe a[i] b[i]
   ·rw[hq]at hst
    have he:(((a[i].client !=b[i].client)||(a[i].seq !=b[i].seq))|| !eqRe a[i].reply b[i].reply)=true:=by rw[hme]at hq;revert hq;cases eqRe a[i].reply b[i].reply<;>cases h1:(a[i].client==b[i].client)<;>cases h2:(a[i].seq==b[i].seq)<;>simp[bne,h1,h2]
    rw[←hF,hst]
    repeat'(first|refine zq (I hat (I hat2 (I hlb (I he (I @Bool.not_true (I @Bool.not_false (I @Bool.and_self (I hd1 (I hd2 (I @zan zca)))))))))) ?_|exact zd (I hat (I hat2 (I hlb (I he (I @Bool.not_true (I @Bool.not_false (I @Bool.and_self (I hd1 (I hd2 (I @zan zca))))))))))|refine zc (hsr) ?_|refine zg (hsr) ?_|(refine zaa ?_ ?_<;>intro hb)|(refine And.intro ?_ ?_;exact zI)|(refine And.intro ?_ ?_<;>intro hg)|exact zC|fail)
   ·rw[hq,Bool.true_and]at hst
    have he:(((a[i].client !=b[i].client)||(a[i].seq !=b[i].seq))|| !eqRe a[i].reply b[i].reply)=false:=by rw[hme]at hq;revert hq;cases eqRe a[i].reply b[i].reply<;>cases h1:(a[i].client==b[i].client)<;>cases h2:(a[i].seq==b[i].seq)<;>simp[bne,h1,h2]
    repeat'(first|refine zq (I hat (I hat2 (I hlb (I he (I @Bool.not_true (I @Bool.not_false (I @Bool.and_self (I hd1 (I hd2 (I @zan zca)))))))))) ?_|exact zd (I hat (I hat2 (I hlb (I he (I @Bool.not_true (I @Bool.not_false (I @Bool.and_self (I hd1 (I hd2 (I @zan zca))))))))))|refine zc (hsr) ?_|refine zg (hsr) ?_|(refine zaa ?_ ?_<;>intro hb)|(refine And.intro ?_ ?_;exact zI)|(refine And.intro ?_ ?_<;>intro hg)|exact zC|fail)
    exact hK _ (i+1) (Gh.canon [] [] [] (zk hw) rfl rfl) hi hst.symm (by omega)
  ·have hi:i=a.length:=by
    have:¬(i:Int)<a.length:=by simpa using hge
    omega
   rw[←hF,zcR hi]
   repeat'(first|refine zq0 ?_|exact zd0|(refine zaa ?_ ?_<;>intro hb)|(refine And.intro ?_ ?_;exact zI)|(refine And.intro ?_ ?_<;>intro hg)|exact zC|fail)
 ·rw[zdj hl]
  repeat'(first|refine zq hl ?_|exact zd hl|(refine zaa ?_ ?_<;>intro hb)|(refine And.intro ?_ ?_;exact zI)|(refine And.intro ?_ ?_<;>intro hg)|exact zC|fail)
theorem ztZ (a b:St) (ha:Small a) (hb:Small b):CallOK Tryz.prog 23 [.f (.agg a.lent), .f (.agg b.lent)] (fun r o=>r=[rb (zsr a b)]∧o=[]):=by
 refine zac zak mixed (T:=Ty) (n:=45) Tryz.func23 (c:=Tryz.f23.body.getD .skip) rfl Tryz.results23 Tryz.ntmps23 Tryz.call23 ?_
 simp only[Tryz.f23,Option.getD]
 have h1:=zsm a.sess b.sess ha.sess hb.sess
 have h2:=zpW a.locks b.locks ha.locks hb.locks (fun k hk=>(ha.line k hk).1) (fun k hk=>(hb.line k hk).1)
 have h3:=zpX a.memos b.memos ha.memos hb.memos (fun k hk=>(ha.held k hk).1) (fun k hk=>(hb.held k hk).1)
 repeat'(first|refine zq0 ?_|exact zd0|refine zc (h1) ?_|refine zg (h1) ?_|refine zc (h2) ?_|refine zg (h2) ?_|refine zc (h3) ?_|refine zg (h3) ?_|(refine zaa ?_ ?_<;>intro hb)|(refine And.intro ?_ ?_;exact zI)|(refine And.intro ?_ ?_<;>intro hg)|exact zC|fail)
 rfl
def zzs (a b:Sn):Bool:=(a.done==b.done)&&((a.view==b.view)&&(a.slot==b.slot))&&zsr a.st b.st
theorem ze4 {α:Type} {eq:α→α→Bool} (h:∀a,eq a a=true) (l:List α):sameL eq l l=true:=by
 unfold sameL
 simp only[beq_self_eq_true,Bool.true_and,List.all_eq_true]
 intro p hp
 obtain⟨j,h1,h2⟩:=List.getElem_of_mem hp
 rw[←h2,List.getElem_zip]
 exact h _
theorem zpS (l:List Int):sameL zg5 l l=true:=ze4 (fun x=>by simp[zg5]) l
theorem zsh (l:List Grant):sameL zoN l l=true:=ze4 (fun x=>by simp[zoN]) l
theorem zk5 (s:St):zsr s s=true:=by
 unfold zsr
 rw[ze4 (fun a=>by simp[zmQ]),ze4 (fun a=>by simp[eqLk,zpS]),ze4 (fun a=>by simp[eqMe,zsh])]
 simp
abbrev Z27:List Int:=List.replicate 27 0
theorem zk6:zb6 st0=Z27:=by kernel_rfl
theorem st0_small:Small st0:=zb0 zeZ
theorem zwO:BsOk Z27:=⟨by decide,by intro x hx;rw[List.mem_replicate]at hx;rw[hx.2];exact⟨by decide,by decide⟩⟩
theorem zxb:dSt Z27 0=(st0,27,0):=by
 have h:=zmH (bs:=Z27) (p:=0) (s:=st0) (rest:=[]) (by rw[zk6];rfl) zeZ
 rw[zk6]at h
 have h:zgy Z27 0= .ok (st0,((0+27:Nat):Int)):=h
 unfold dSt
 rw[h]
 rfl
set_option maxHeartbeats 2000000 in
theorem zpT:CallOK Tryz.prog 12 [] (fun r o=>r=[rb true]∧o=[]):=by
 refine zac zak mixed (T:=Ty) (n:=50) Tryz.func12 (c:=Tryz.f12.body.getD .skip) rfl Tryz.results12 Tryz.ntmps12 Tryz.call12 ?_
 simp only[Tryz.f12,Option.getD]
 have hp:=zjN st0 zeZ
 rw[zk6]at hp
 have hp:CallOK Tryz.prog 14 [.f (.agg [di 0,di 0,di 0, .lent 0 [], .lent 0 [], .lent 0 []])] (fun r o=>r=[.one (.own 1 27 (zao Z27) false),ri 0]∧o=[]):=hp
 have hg:=zjK Z27 0 zwO (by unfold i64;omega)
 rw[zxb]at hg
 have hg:CallOK Tryz.prog 16 [.f (asl 27 (zao Z27)), .f (ai 0)] (fun r o=>r=[.agg [.d (iD 0), .d (iD 0), .d (iD 0), .d (.sl 0 []), .d (.sl 0 []), .d (.sl 0 [])],ri 27,ri 0]∧o=[]):=hg
 have hs:=ztZ st0 st0 st0_small st0_small
 rw[zk5]at hs
 have hs:CallOK Tryz.prog 23 [.f (.agg [di 0,di 0,di 0, .lent 0 [], .lent 0 [], .lent 0 []]), .f (.agg [di 0,di 0,di 0, .lent 0 [], .lent 0 [], .lent 0 []])] (fun r o=>r=[rb true]∧o=[]):=hs
 have hq:=zk7 st0 st0 st0_small st0_small
 rw[zk5]at hq
 have hq:CallOK Tryz.prog 22 [.f (.agg [di 0,di 0,di 0, .lent 0 [], .lent 0 [], .lent 0 []]), .f (.agg [di 0,di 0,di 0, .lent 0 [], .lent 0 [], .lent 0 []])] (fun r o=>r=[rb true]∧o=[]):=hq
 have hq1:=zk7 st0 {st0 with num:=1} st0_small ⟨st0_small.sess,st0_small.locks,st0_small.memos,st0_small.line,st0_small.held⟩
 rw[show zsr st0 {st0 with num:=1}=false from rfl]at hq1
 have hq1:CallOK Tryz.prog 22 [.f (.agg [di 0,di 0,di 0, .lent 0 [], .lent 0 [], .lent 0 []]), .f (.agg [di 0,di 1,di 0, .lent 0 [], .lent 0 [], .lent 0 []])] (fun r o=>r=[rb false]∧o=[]):=hq1
 repeat'(first|(with_reducible first|refine za0 2 ?_|refine zaN 2 ?_|refine zaO 2 ?_)|refine zu0 ?_|exact zd0|(with_reducible first|refine zab _ _ ?_)|refine zc (hp) ?_|refine zg (hp) ?_|(refine zaa ?_ ?_<;>intro hb)|(refine And.intro ?_ ?_;exact zI)|(refine And.intro ?_ ?_<;>intro hg)|exact zC|fail)
 refine zaZ (zaQ (Gh.sealV 1 (x:= .own ⟨1,1,0⟩ 0 27) (d:= .sl 27 (zao Z27)) rfl (by simp only[zY,Nat.reduceSub,Nat.reduceEqDiff,Nat.reduceAdd,Nat.reduceMul,Nat.reduceLeDiff,Nat.reduceLT,Nat.reduceBEq,reduceCtorEq];rfl)) ?_)
 have hz1:bytesOf (zao Z27)=some (List.replicate 27 0):=rfl
 have hz2:bytesOf (zcU [.int .u8 0] 27)=some [UInt8.ofNat 0,UInt8.ofNat 0,UInt8.ofNat 0,UInt8.ofNat 0,UInt8.ofNat 0,UInt8.ofNat 0,UInt8.ofNat 0,UInt8.ofNat 0,UInt8.ofNat 0,UInt8.ofNat 0,UInt8.ofNat 0,UInt8.ofNat 0,UInt8.ofNat 0,UInt8.ofNat 0,UInt8.ofNat 0,UInt8.ofNat 0,UInt8.ofNat 0,UInt8.ofNat 0,UInt8.ofNat 0,UInt8.ofNat 0,UInt8.ofNat 0,UInt8.ofNat 0,UInt8.ofNat 0,UInt8.ofNat 0,UInt8.ofNat 0,UInt8.ofNat 0,UInt8.ofNat 0]:=rfl
 have hz6:Int.toNat 27=27:=rfl
 have hz3:(zcU [.int .u8 0] 27).take 27=zcU [.int .u8 0] 27:=rfl
 have hz4:(zcU [.int .u8 0] 27).length=27:=rfl
 have hz5:(zao Z27).length=27:=rfl
 repeat'(first|refine zq (I hz1 (I hz2 (I hz3 (I hz4 (I hz5 hz6))))) ?_|exact zd (I hz1 (I hz2 (I hz3 (I hz4 (I hz5 hz6)))))|refine zc (hg) ?_|refine zg (hg) ?_|refine zc (hs) ?_|refine zg (hs) ?_|refine zc (hq) ?_|refine zg (hq) ?_|refine zc (hq1) ?_|refine zg (hq1) ?_|(refine zaa ?_ ?_<;>intro hb)|(refine And.intro ?_ ?_;exact zI)|(refine And.intro ?_ ?_<;>intro hg)|exact zC|fail)
theorem ztF {r:Reply} (h:zbV r=true):∀x∈zb7 r,za6 x:=by
 obtain⟨f1,f2,f3,f4,f5⟩:=zcB h
 have hg:=zcQ h
 intro x hx
 simp only[zb7,List.mem_append,List.mem_cons,List.not_mem_nil,or_false]at hx
 rcases hx with rfl|hx|(rfl|rfl)|hx
 ·unfold za6;omega
 ·exact zgC _ x hx
 ·unfold za6;omega
 ·unfold za6;omega
 ·obtain⟨g,hgm,hx⟩:=List.mem_flatMap.1 hx
  have:=hg g hgm
  rcases List.mem_append.1 hx with hx|hx
  ·exact zr8 _ (by omega) x hx
  ·exact zgC _ x hx
theorem zrZ {m:Memo} (h:answerB m=true):∀x∈zbm m,za6 x:=by
 obtain⟨f1,f2,f3⟩:=zcl h
 intro x hx
 simp only[zbm,List.mem_append,List.mem_cons,List.not_mem_nil,or_false]at hx
 rcases hx with rfl|hx|hx
 ·unfold za6;omega
 ·exact zgC _ x hx
 ·exact ztF f3 x hx
theorem ztG {s:St} (h:RightS s):∀x∈zb6 s,za6 x:=by
 have h1:=h.sl
 have h2:=h.ll
 have h3:=zhJ h
 intro x hx
 simp only[zb6,sb3,sb2,sb1,ziT,List.take_length,List.mem_append,List.mem_cons,List.not_mem_nil,or_false]at hx
 rcases hx with(((((hx|hx|hx|rfl)|hx)|rfl)|hx)|rfl)|hx
 ·exact zgC _ x hx
 ·exact zgC _ x hx
 ·exact zgC _ x hx
 ·unfold za6;omega
 ·obtain⟨g,hg,hx⟩:=List.mem_flatMap.1 hx
  obtain⟨f1,_,_⟩:=zbU.1 (h.sok g hg).1
  simp only[isClient,Bool.and_eq_true,decide_eq_true_eq]at f1
  simp only[zhq,List.mem_cons,List.mem_append]at hx
  rcases hx with rfl|hx|hx
  ·unfold za6;omega
  ·exact zgC _ x hx
  ·exact zgC _ x hx
 ·unfold za6;omega
 ·obtain⟨k,hk,hx⟩:=List.mem_flatMap.1 hx
  obtain⟨q0,q1,q2,q3,q4,q5⟩:=zft h hk
  simp only[zg2,lk0,List.mem_append,List.mem_cons,List.not_mem_nil,or_false]at hx
  rcases hx with(hx|rfl|hx|rfl)|hx
  ·exact zr8 _ (by omega) x hx
  ·unfold za6;omega
  ·exact zgC _ x hx
  ·unfold za6;omega
  ·have:=q5 x hx;unfold za6;omega
 ·unfold za6;omega
 ·obtain⟨m,hm,hx⟩:=List.mem_flatMap.1 hx
  exact zrZ (h.mok m hm) x hx
theorem ztH {s:St} (h:RightS s):(zb6 s).length≤1100:=by
 have h1:=zr6 h s.memos.length
 have h2:=zhJ h
 unfold zb6
 omega
theorem zr0 {s:St} (h:RightS s):BsOk (zb6 s):=⟨by have:=ztH h;omega,ztG h⟩
theorem zpE {s:St} (hr:RightS s) (h:Small s) {q:Req} (hN:s.num+1≤zbg) (hT:s.token+4≤zbg):(zbN s q).2.1.held.length<2^30:=by
 unfold zbN
 split
 ·simp
 ·rename_i hm
  split
  ·simp
  ·split
   ·cases hf:zbc s.memos q.client with
    |none=>simp
    |some m=>exact(h.held m (List.mem_of_find?_eq_some hf)).1
   ·exact(zgQ hr (by simpa using hm) hN hT).1
theorem ztE {s:St} {i:Nat} (h:Mk s i) (hi:i≤1000) (time lease:Int) (r:Req):Mk (zbN (zbl s time lease) r).1 (i+1):=by
 have hH:zbg=2305843009213693952:=rfl
 obtain⟨h1,h2,h3⟩:=h
 obtain⟨r1,r2,r3,r4,r5⟩:=zdh h1 time lease (by omega)
 obtain⟨d1,d2,d3,d4,d5⟩:=zie r1 r (by omega) (by omega)
 exact⟨d1,by omega,by omega⟩
theorem zvT (s:St) (h:RightS s):∃n:Nat,CallOK Tryz.prog 14 [.f (.agg s.lent)] (fun r o=>r=[.one (.own 1 n (zao (zb6 s)) false),ri 0]∧o=[])∧
  CallOK Tryz.prog 16 [.f (asl n (zao (zb6 s))), .f (ai 0)] (fun r o=>r=[zpZ s,ri n,ri 0]∧o=[])∧(zao (zb6 s)).take n=zao (zb6 s):=by
 have hb:BsOk (zb6 s):=zr0 h
 have hg:=zjK (zb6 s) 0 hb (by unfold i64;omega)
 have ha:=zmH (bs:=zb6 s) (p:=0) (s:=s) (rest:=[]) (by simp) h
 have hd:dSt (zb6 s) 0=(s,(((zb6 s).length:Nat):Int),0):=by
  unfold dSt
  have ha:zgy (zb6 s) 0= .ok (s,((0+(zb6 s).length:Nat):Int)):=ha
  rw[ha,Nat.zero_add]
 rw[hd]at hg
 exact⟨_,zjN s h,hg,zbe⟩
set_option maxHeartbeats 8000000 in
theorem zkX (acts:List Act) (hl:acts.length<2^60) (ha:∀a∈acts,zni a) (more:List Act) (hml:more.length<2^60) (hma:∀a∈more,zni a):
  CallOK Tryz.prog 7 [.f (al acts.length (zkB acts)), .f (al more.length (zkB more))] (fun r o=>r=[rb true]∧o=[]):=by
 refine zac zak mixed (T:=Ty) (n:=105) Tryz.func7 (c:=Tryz.f7.body.getD .skip) rfl Tryz.results7 Tryz.ntmps7 Tryz.call7 ?_
 simp only[Tryz.f7,Option.getD]
 have haw:=zpT
 have hH:zbg=2305843009213693952:=rfl
 cases hg:decide ((more.length:Int)>20)
 ·have hl20:more.length≤20:=by simp at hg;omega
  have hmd:=zvy acts hl ha
  have hmk:=ztm acts
  generalize ztl acts=s at*
  obtain⟨n,h1,h2,h3⟩:=zvT s hmk.rt
  repeat'(first|(with_reducible first|refine za0 5 ?_|refine zaN 5 ?_|refine zaO 5 ?_)|refine zu (I hg (I @zb4 (I @zas @zbt))) ?_|exact zd (I hg (I @zb4 (I @zas @zbt)))|(with_reducible first|refine zab _ _ ?_)|refine zc (hmd) ?_|refine zg (hmd) ?_|refine zc (h1) ?_|refine zg (h1) ?_|(refine zaa ?_ ?_<;>intro hb)|(refine And.intro ?_ ?_;exact zI)|(refine And.intro ?_ ?_<;>intro hg)|exact zC|fail)
  refine zaZ (zaQ (Gh.sealV 6 (x:= .own ⟨6,1,0⟩ 0 n) (d:= .sl n (zao (zb6 s))) rfl (by simp only[zY,h3,Nat.reduceSub,Nat.reduceEqDiff,Nat.reduceAdd,Nat.reduceMul,Nat.reduceLeDiff,Nat.reduceLT,Nat.reduceBEq,reduceCtorEq];rfl)) ?_)
  repeat'(first|refine zq (I hg (I @zb4 (I @zas @zbt))) ?_|exact zd (I hg (I @zb4 (I @zas @zbt)))|refine zc (h2) ?_|refine zg (h2) ?_|(refine zaa ?_ ?_<;>intro hb)|(refine And.intro ?_ ?_;exact zI)|(refine And.intro ?_ ?_<;>intro hg)|exact zC|fail)
  refine zam (τ:=Nat×St) (fun q=>⟨[dd,al more.length (zkB more),dd,dd,dd, .one (.ptr ⟨5,0,1⟩ 0),dd,dd, .one (.ptr ⟨8,0,1⟩ 0),dd,dd,ai q.1,dd,dd,dd,dd,dd,dd,dd,dd,dd,dd,dd,dd,dd,dd,dd,dd,dd,dd,dd,dd,dd,dd,dd,dd,dd,dd,dd,dd,dd,dd,dd,dd,dd,dd,dd,dd,dd,dd,dd,dd,dd,dd,dd,dd,dd,dd,dd,dd,dd,dd,dd,dd,dd,dd,dd,dd,dd,dd,dd,dd,dd,dd,dd,dd,dd,dd,dd,dd,dd,dd,dd,dd,dd,dd,dd,dd,dd,dd,dd,dd,dd,dd,dd,dd,dd,dd,dd,dd,dd,dd,dd,dd,dd],[(5,{next:=2,l:=[some {e:=1,var:=true,fz:=false,sz:=0,cells:=[di q.2.time,di q.2.num,di q.2.token, .d (.sl q.2.sess.length (zaF q.2.sess)), .d (.sl q.2.locks.length (zah q.2.locks)), .d (.sl q.2.memos.length (zaz q.2.memos))]},none,none,none,none,none,none]}),(30,⟨2,[]⟩),(6,⟨2,[]⟩),(8,{next:=2,l:=[some {e:=1,var:=true,fz:=false,sz:=0,cells:=[di q.2.time,di q.2.num,di q.2.token, .d (.sl q.2.sess.length (zaF q.2.sess)), .d (.sl q.2.locks.length (zah q.2.locks)), .d (.sl q.2.memos.length (zaz q.2.memos))]},none,none,none,none,none,none]}),(13,⟨2,[]⟩),(14,⟨2,[]⟩),(15,⟨2,[]⟩),(16,⟨2,[]⟩),(17,⟨2,[]⟩),(19,⟨2,[]⟩),(20,⟨2,[]⟩),(63,⟨2,[]⟩),(66,⟨2,[]⟩),(76,⟨2,[]⟩),(83,⟨2,[]⟩)]⟩)
   (fun q=>q.1≤more.length∧Mk q.2 (60+q.1)) (fun _=>()) (fun q=>more.length - q.1) (0,s)
   (Gh.canon [5,8] [13,14,15,16,17,19,20,63,66,76,83] [] zK rfl rfl) ⟨Nat.zero_le _,hmk⟩ ?_
  clear h1 h2 h3 hmd hmk
  intro⟨i,s⟩ ⟨j1,j2⟩ _ K hK
  simp only at j1 j2 hK⊢
  refine zw ?_
  refine zaa (fun hlt=> ?_) (fun hge=> ?_)
  ·have hi:i<more.length:=by simpa using hlt
   have hat:=zrj hi
   have hw:=zal hi (by omega)
   have hao:=hma _ (List.getElem_mem hi)
   have hwt:=zdC hao.1
   have htm:=zc8 hao.1.1 16
   have hrt:=j2.rt.time
   have hnu:=j2.num
   have htk:=j2.tok
   have hsm:=zb0 j2.rt
   have hwa:IntKind.i64.wrap (s.time+more[i].time % 16)=s.time+more[i].time % 16:=wrap64 (by omega) (by omega)
   have had:=zpg s hsm j2.rt (s.time+more[i].time % 16) 60
   obtain⟨r1,r2,r3,r4,r5⟩:=zdh j2.rt (s.time+more[i].time % 16) 60 (by omega)
   have hmk:=fun r=>ztE j2 (by omega) (s.time+more[i].time % 16) 60 r
   generalize zbl s (s.time+more[i].time % 16) 60=t at*
   have hts:=zb0 r1
   have hrq:=zjv t hts r1 more[i] hao
   have hro:=zre r1 hao
   generalize zrk t more[i]=q at*
   have hap:=ztn t hts r1 q hro (fun hm=>zgQ r1 hm (by omega) (by omega))
   have hmk:=hmk q
   have hrx:=zpE r1 hts (q:=q) (by omega) (by omega)
   generalize zbN t q=U at*
   have hus:=zb0 hmk.rt
   have hsu:=zk7 U.1 U.1 hus hus
   rw[zk5]at hsu
   have hsr:=zpY U.2.1 hrx
   repeat'(first|refine zq (I hat (I hwt (I htm (I hwa (I @zhC (I @bne_self_eq_false.{0} zca)))))) ?_|exact zd (I hat (I hwt (I htm (I hwa (I @zhC (I @bne_self_eq_false.{0} zca))))))|refine zc (had) ?_|refine zg (had) ?_|refine zc (hrq) ?_|refine zg (hrq) ?_|refine zc (hap) ?_|refine zg (hap) ?_|refine zc (hsu) ?_|refine zg (hsu) ?_|refine zc (hsr) ?_|refine zg (hsr) ?_|(refine zaa ?_ ?_<;>intro hb)|(refine And.intro ?_ ?_;exact zI)|(refine And.intro ?_ ?_<;>intro hg)|exact zC|fail)
   exact hK _ (i+1,U.1) (Gh.canon [5,8] [] [] (zk hw) rfl rfl) ⟨hi,by rw[←Nat.add_assoc];exact hmk⟩ trivial (by simp only;omega)
  ·repeat'(first|refine zq0 ?_|exact zd0|refine zc (haw) ?_|refine zg (haw) ?_|(refine zaa ?_ ?_<;>intro hb)|(refine And.intro ?_ ?_;exact zI)|(refine And.intro ?_ ?_<;>intro hg)|exact zC|fail)
 ·repeat'(first|refine zq hg ?_|exact zd hg|refine zc (haw) ?_|refine zg (haw) ?_|(refine zaa ?_ ?_<;>intro hb)|(refine And.intro ?_ ?_;exact zI)|(refine And.intro ?_ ?_<;>intro hg)|exact zC|fail)
theorem zwV {n:Int} (h:(Lit.int .u8 n).wf=true):za6 n:=by
 have h2:(decide (IntKind.u8.min≤n)&&decide (n≤IntKind.u8.max))=true:=h
 have e1:IntKind.u8.min=0:=by decide
 have e2:IntKind.u8.max=255:=by decide
 rw[e1,e2]at h2
 simp only[Bool.and_eq_true,decide_eq_true_eq]at h2
 unfold za6
 omega
theorem zp2 {α:Type} {enc:α→List D} {ok:α→Prop} {s:Sh} (h:∀ds,ShD s ds→∃x,ds=enc x∧ok x):∀xs:List (List D),(∀x∈xs,ShD s x)→∃l:List α,l.length=xs.length∧xs.flatten=l.flatMap enc∧∀x∈l,ok x
 |[],_=>⟨[],rfl,rfl,fun x hx=>by cases hx⟩
 |x::xs,hx=>by
  obtain⟨a,ha1,ha2⟩:=h x (hx x (by simp))
  obtain⟨l,h1,h2,h3⟩:=zp2 h xs fun y hy=>hx y (by simp[hy])
  refine⟨a::l,by simp[h1], ?_,fun y hy=> ?_⟩
  ·rw[List.flatten_cons,List.flatMap_cons,h2,ha1]
  ·rcases List.mem_cons.1 hy with rfl|hy
   ·exact ha2
   ·exact h3 y hy
theorem zuM:reachBytes<2^60:=by decide
theorem byte_of (ds:List D) (h:ShD (.int .u8) ds):∃x:Int,ds=[uD x]∧za6 x:=by
 simp only[ShD]at h
 obtain⟨n,rfl,hn⟩:=h
 exact⟨n,rfl,zwV hn⟩
abbrev zlb:Sh:= .struct [.int .u8, .int .u8, .int .u8, .int .u8, .int .u8, .int .u8]
theorem zv3 (ds:List D) (h:ShD zlb ds):∃a:Act,ds=a.enc∧zni a:=by
 rw[ShD]at h
 simp only[ShDs]at h
 obtain⟨_,_,rfl,h1,_,_,rfl,h2,_,_,rfl,h3,_,_,rfl,h4,_,_,rfl,h5,_,_,rfl,h6,rfl⟩:=h
 obtain⟨a,rfl,ha⟩:=byte_of _ h1
 obtain⟨b,rfl,hb⟩:=byte_of _ h2
 obtain⟨c,rfl,hc⟩:=byte_of _ h3
 obtain⟨d,rfl,hd⟩:=byte_of _ h4
 obtain⟨e,rfl,he⟩:=byte_of _ h5
 obtain⟨f,rfl,hf⟩:=byte_of _ h6
 exact⟨⟨a,b,c,d,e,f⟩,rfl,ha,hb,hc,hd,he,hf⟩
theorem zp3 (ds:List D) (h:ShD (.slice 6 zlb) ds):∃l:List Act,ds=[.sl l.length (zkB l)]∧l.length<2^60∧∀x∈l,zni x:=by
 rw[ShD]at h
 obtain⟨xs,rfl,hx1,hx2⟩:=h
 obtain⟨l,l1,l2,l3⟩:=zp2 zv3 xs hx2
 have:=zuM
 exact⟨l,by rw[←l1,l2],by omega,l3⟩
def zzh (n:Int):Prop:=0≤n∧n<65536
abbrev wD (n:Int):D:= .v (.int .u16 n)
abbrev aw (n:Int):AV:= .one (.d (wD n))
end Go.Proofs.YtbpmcjeeeiffhaaGreat
