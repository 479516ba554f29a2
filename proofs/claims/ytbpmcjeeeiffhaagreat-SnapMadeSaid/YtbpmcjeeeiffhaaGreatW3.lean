import Derived.Test.YtbpmcjeeeiffhaaGreatM8
namespace Go.Proofs.YtbpmcjeeeiffhaaGreat
open Go.Pk
set_option maxRecDepth 100000
set_option linter.unusedSimpArgs false
set_option linter.unusedVariables false
def sameL {α:Type} (eq:α→α→Bool) (a b:List α):Bool:=(a.length==b.length)&&((a.zip b).all fun p=>eq p.1 p.2)
def zf4 {α:Type} (eq:α→α→Bool) (a b:List α) (i:Nat):Bool:=((a.drop i).zip (b.drop i)).all fun p=>eq p.1 p.2
theorem zcy {α:Type} {eq:α→α→Bool} {a b:List α} {i:Nat} (ha:i<a.length) (hb:i<b.length):zf4 eq a b i=(eq a[i] b[i]&&zf4 eq a b (i+1)):=by
 unfold zf4
 rw[List.drop_eq_getElem_cons ha,List.drop_eq_getElem_cons hb,List.zip_cons_cons,List.all_cons]
theorem zc6 {α:Type} {eq:α→α→Bool} {a b:List α} {i:Nat} (ha:i=a.length):zf4 eq a b i=true:=by
 unfold zf4
 rw[List.drop_eq_nil_of_le (by omega)];simp
theorem zdH {α:Type} {eq:α→α→Bool} {a b:List α} (h:((a.length:Int) !=(b.length:Int))=true):sameL eq a b=false:=by
 unfold sameL
 simp at h
 simp;omega
theorem zdI {α:Type} {eq:α→α→Bool} {a b:List α} (h:((a.length:Int) !=(b.length:Int))=false):a.length=b.length∧sameL eq a b=zf4 eq a b 0:=by
 have hl:a.length=b.length:=by simp at h;omega
 unfold sameL zf4
 simp[hl]
def zhF (a b:Int):Bool:=a==b
def zoP (a b:Grant):Bool:=(a.name.toList==b.name.toList)&&(a.token==b.token)
def zmJ (a b:Sess):Bool:=(a.client==b.client)&&((a.num==b.num)&&(a.renewed==b.renewed))
def eqLk (a b:Lk):Bool:=(a.name.toList==b.name.toList)&&(a.holder==b.holder)&&(a.token==b.token)&&sameL zhF a.line b.line
def eqRe (a b:Reply):Bool:=(a.code==b.code)&&(a.session==b.session)&&(a.ahead==b.ahead)&&sameL zoP a.held b.held
def eqMe (a b:Memo):Bool:=(a.client==b.client)&&(a.seq==b.seq)&&(a.reply.code==b.reply.code)&&(a.reply.session==b.reply.session)&&(a.reply.ahead==b.reply.ahead)&&sameL zoP a.reply.held b.reply.held
def zsJ (a b:St):Bool:=(a.time==b.time)&&(a.num==b.num)&&(a.token==b.token)&&sameL zmJ a.sess b.sess&&sameL eqLk a.locks b.locks&&sameL eqMe a.memos b.memos
theorem zsq {a b:List Int}:sameI a b=sameL zhF a b:=rfl
set_option maxHeartbeats 1000000 in
theorem zuh (a b:List Int) (ha:a.length<2^30) (hb:b.length<2^30):CallOK Tryz.prog 48 [.f (al a.length (zaJ a)), .f (al b.length (zaJ b))] (fun r o=>r=[rb (sameL zhF a b)]∧o=[]):=by
 refine zac zao mixed (T:=Ty) (n:=26) Tryz.func48 (c:=Tryz.f48.body.getD .skip) rfl Tryz.results48 Tryz.ntmps48 Tryz.call48 ?_
 simp only[Tryz.f48,Option.getD]
 cases hl:((a.length:Int) !=(b.length:Int))
 ·obtain⟨hle,hsr⟩:=zdI (eq:=zhF) hl
  rw[hsr]
  repeat'(first|refine zq hl ?_|exact zd hl|(refine zaa ?_ ?_<;>intro hb)|(refine And.intro ?_ ?_;exact zI)|(refine And.intro ?_ ?_<;>intro hg)|exact zC|fail)
  refine zai (τ:=Nat) (fun i=>⟨[al a.length (zaJ a),al b.length (zaJ b),dd,dd,dd,dd,dd,dd,dd,dd,dd,dd,ai a.length,ai i,dd,dd,dd,dd,dd,dd,dd,dd,dd,dd,dd,dd],[]⟩)
   (fun i=>i≤a.length) (fun i=>zf4 zhF a b i) (fun i=>a.length - i) 0
   (Gh.canon [] [] [] zK rfl rfl) (Nat.zero_le _) ?_
  intro i hi0 hF K hK
  refine zw ?_
  refine zaa (fun hlt=> ?_) (fun hge=> ?_)
  ·have hi:i<a.length:=by simpa using hlt
   have hi2:i<b.length:=by omega
   have hat:=zb7 hi
   have hat2:=zb7 hi2
   have hw:=zak hi (by omega)
   have hlb:decide ((i:Int)<a.length)=true:=by simp;omega
   have hst:=zcy (eq:=zhF) hi hi2
   cases hq:zhF a[i] b[i]
   ·rw[hq]at hst
    have he:(a[i] !=b[i])=true:=by unfold zhF at hq;rw[bne,hq];rfl
    rw[←hF,hst]
    repeat'(first|refine zq (I hat (I hat2 (I hlb (I he (I @Bool.not_true (I @Bool.not_false (I @Bool.and_self (I @zah zca)))))))) ?_|exact zd (I hat (I hat2 (I hlb (I he (I @Bool.not_true (I @Bool.not_false (I @Bool.and_self (I @zah zca))))))))|(refine zaa ?_ ?_<;>intro hb)|(refine And.intro ?_ ?_;exact zI)|(refine And.intro ?_ ?_<;>intro hg)|exact zC|fail)
   ·rw[hq,Bool.true_and]at hst
    have he:(a[i] !=b[i])=false:=by unfold zhF at hq;rw[bne,hq];rfl
    repeat'(first|refine zq (I hat (I hat2 (I hlb (I he (I @Bool.not_true (I @Bool.not_false (I @Bool.and_self (I @zah zca)))))))) ?_|exact zd (I hat (I hat2 (I hlb (I he (I @Bool.not_true (I @Bool.not_false (I @Bool.and_self (I @zah zca))))))))|(refine zaa ?_ ?_<;>intro hb)|(refine And.intro ?_ ?_;exact zI)|(refine And.intro ?_ ?_<;>intro hg)|exact zC|fail)
    exact hK _ (i+1) (Gh.canon [] [] [] (zk hw) rfl rfl) hi hst.symm (by omega)
  ·have hi:i=a.length:=by
    have:¬(i:Int)<a.length:=by simpa using hge
    omega
   rw[←hF,zc6 hi]
   repeat'(first|refine zq0 ?_|exact zd0|(refine zaa ?_ ?_<;>intro hb)|(refine And.intro ?_ ?_;exact zI)|(refine And.intro ?_ ?_<;>intro hg)|exact zC|fail)
 ·rw[zdH hl]
  repeat'(first|refine zq hl ?_|exact zd hl|(refine zaa ?_ ?_<;>intro hb)|(refine And.intro ?_ ?_;exact zI)|(refine And.intro ?_ ?_<;>intro hg)|exact zC|fail)
set_option maxHeartbeats 1000000 in
theorem zp2 (a b:List Grant) (ha:a.length<2^30) (hb:b.length<2^30):CallOK Tryz.prog 51 [.f (al a.length (zaL a)), .f (al b.length (zaL b))] (fun r o=>r=[rb (sameL zoP a b)]∧o=[]):=by
 refine zac zao mixed (T:=Ty) (n:=26) Tryz.func51 (c:=Tryz.f51.body.getD .skip) rfl Tryz.results51 Tryz.ntmps51 Tryz.call51 ?_
 simp only[Tryz.f51,Option.getD]
 cases hl:((a.length:Int) !=(b.length:Int))
 ·obtain⟨hle,hsr⟩:=zdI (eq:=zoP) hl
  rw[hsr]
  repeat'(first|refine zq hl ?_|exact zd hl|(refine zaa ?_ ?_<;>intro hb)|(refine And.intro ?_ ?_;exact zI)|(refine And.intro ?_ ?_<;>intro hg)|exact zC|fail)
  refine zai (τ:=Nat) (fun i=>⟨[al a.length (zaL a),al b.length (zaL b),dd,dd,dd,dd,dd,dd,dd,dd,dd,dd,ai a.length,ai i,dd,dd,dd,dd,dd,dd,dd,dd,dd,dd,dd,dd],[]⟩)
   (fun i=>i≤a.length) (fun i=>zf4 zoP a b i) (fun i=>a.length - i) 0
   (Gh.canon [] [] [] zK rfl rfl) (Nat.zero_le _) ?_
  intro i hi0 hF K hK
  refine zw ?_
  refine zaa (fun hlt=> ?_) (fun hge=> ?_)
  ·have hi:i<a.length:=by simpa using hlt
   have hi2:i<b.length:=by omega
   have hat:=zce hi
   have hat2:=zce hi2
   have hw:=zak hi (by omega)
   have hlb:decide ((i:Int)<a.length)=true:=by simp;omega
   have hst:=zcy (eq:=zoP) hi hi2
   cases hq:zoP a[i] b[i]
   ·rw[hq]at hst
    have he:((a[i].name.toList==b[i].name.toList)&&(a[i].token==b[i].token))=false:=by exact hq
    rw[←hF,hst]
    repeat'(first|refine zq (I hat (I hat2 (I hlb (I he (I @Bool.not_true (I @Bool.not_false (I @Bool.and_self (I @zaB zca)))))))) ?_|exact zd (I hat (I hat2 (I hlb (I he (I @Bool.not_true (I @Bool.not_false (I @Bool.and_self (I @zaB zca))))))))|(refine zaa ?_ ?_<;>intro hb)|(refine And.intro ?_ ?_;exact zI)|(refine And.intro ?_ ?_<;>intro hg)|exact zC|fail)
   ·rw[hq,Bool.true_and]at hst
    have he:((a[i].name.toList==b[i].name.toList)&&(a[i].token==b[i].token))=true:=by exact hq
    repeat'(first|refine zq (I hat (I hat2 (I hlb (I he (I @Bool.not_true (I @Bool.not_false (I @Bool.and_self (I @zaB zca)))))))) ?_|exact zd (I hat (I hat2 (I hlb (I he (I @Bool.not_true (I @Bool.not_false (I @Bool.and_self (I @zaB zca))))))))|(refine zaa ?_ ?_<;>intro hb)|(refine And.intro ?_ ?_;exact zI)|(refine And.intro ?_ ?_<;>intro hg)|exact zC|fail)
    exact hK _ (i+1) (Gh.canon [] [] [] (zk hw) rfl rfl) hi hst.symm (by omega)
  ·have hi:i=a.length:=by
    have:¬(i:Int)<a.length:=by simpa using hge
    omega
   rw[←hF,zc6 hi]
   repeat'(first|refine zq0 ?_|exact zd0|(refine zaa ?_ ?_<;>intro hb)|(refine And.intro ?_ ?_;exact zI)|(refine And.intro ?_ ?_<;>intro hg)|exact zC|fail)
 ·rw[zdH hl]
  repeat'(first|refine zq hl ?_|exact zd hl|(refine zaa ?_ ?_<;>intro hb)|(refine And.intro ?_ ?_;exact zI)|(refine And.intro ?_ ?_<;>intro hg)|exact zC|fail)
set_option maxHeartbeats 1000000 in
theorem zui (a b:List Sess) (ha:a.length<2^30) (hb:b.length<2^30):CallOK Tryz.prog 45 [.f (al a.length (zaK a)), .f (al b.length (zaK b))] (fun r o=>r=[rb (sameL zmJ a b)]∧o=[]):=by
 refine zac zao mixed (T:=Ty) (n:=26) Tryz.func45 (c:=Tryz.f45.body.getD .skip) rfl Tryz.results45 Tryz.ntmps45 Tryz.call45 ?_
 simp only[Tryz.f45,Option.getD]
 cases hl:((a.length:Int) !=(b.length:Int))
 ·obtain⟨hle,hsr⟩:=zdI (eq:=zmJ) hl
  rw[hsr]
  repeat'(first|refine zq hl ?_|exact zd hl|(refine zaa ?_ ?_<;>intro hb)|(refine And.intro ?_ ?_;exact zI)|(refine And.intro ?_ ?_<;>intro hg)|exact zC|fail)
  refine zai (τ:=Nat) (fun i=>⟨[al a.length (zaK a),al b.length (zaK b),dd,dd,dd,dd,dd,dd,dd,dd,dd,dd,ai a.length,ai i,dd,dd,dd,dd,dd,dd,dd,dd,dd,dd,dd,dd],[]⟩)
   (fun i=>i≤a.length) (fun i=>zf4 zmJ a b i) (fun i=>a.length - i) 0
   (Gh.canon [] [] [] zK rfl rfl) (Nat.zero_le _) ?_
  intro i hi0 hF K hK
  refine zw ?_
  refine zaa (fun hlt=> ?_) (fun hge=> ?_)
  ·have hi:i<a.length:=by simpa using hlt
   have hi2:i<b.length:=by omega
   have hat:=zbf hi
   have hat2:=zbf hi2
   have hw:=zak hi (by omega)
   have hlb:decide ((i:Int)<a.length)=true:=by simp;omega
   have hst:=zcy (eq:=zmJ) hi hi2
   cases hq:zmJ a[i] b[i]
   ·rw[hq]at hst
    have he:((a[i].client==b[i].client)&&((a[i].num==b[i].num)&&(a[i].renewed==b[i].renewed)))=false:=by exact hq
    rw[←hF,hst]
    repeat'(first|refine zq (I hat (I hat2 (I hlb (I he (I @Bool.not_true (I @Bool.not_false (I @Bool.and_self (I @zaq zca)))))))) ?_|exact zd (I hat (I hat2 (I hlb (I he (I @Bool.not_true (I @Bool.not_false (I @Bool.and_self (I @zaq zca))))))))|(refine zaa ?_ ?_<;>intro hb)|(refine And.intro ?_ ?_;exact zI)|(refine And.intro ?_ ?_<;>intro hg)|exact zC|fail)
   ·rw[hq,Bool.true_and]at hst
    have he:((a[i].client==b[i].client)&&((a[i].num==b[i].num)&&(a[i].renewed==b[i].renewed)))=true:=by exact hq
    repeat'(first|refine zq (I hat (I hat2 (I hlb (I he (I @Bool.not_true (I @Bool.not_false (I @Bool.and_self (I @zaq zca)))))))) ?_|exact zd (I hat (I hat2 (I hlb (I he (I @Bool.not_true (I @Bool.not_false (I @Bool.and_self (I @zaq zca))))))))|(refine zaa ?_ ?_<;>intro hb)|(refine And.intro ?_ ?_;exact zI)|(refine And.intro ?_ ?_<;>intro hg)|exact zC|fail)
    exact hK _ (i+1) (Gh.canon [] [] [] (zk hw) rfl rfl) hi hst.symm (by omega)
  ·have hi:i=a.length:=by
    have:¬(i:Int)<a.length:=by simpa using hge
    omega
   rw[←hF,zc6 hi]
   repeat'(first|refine zq0 ?_|exact zd0|(refine zaa ?_ ?_<;>intro hb)|(refine And.intro ?_ ?_;exact zI)|(refine And.intro ?_ ?_<;>intro hg)|exact zC|fail)
 ·rw[zdH hl]
  repeat'(first|refine zq hl ?_|exact zd hl|(refine zaa ?_ ?_<;>intro hb)|(refine And.intro ?_ ?_;exact zI)|(refine And.intro ?_ ?_<;>intro hg)|exact zC|fail)
theorem zuj (a b:Lk) (ha:a.line.length<2^30) (hb:b.line.length<2^30):CallOK Tryz.prog 47 [.f (.agg (a.enc.map C.d)), .f (.agg (b.enc.map C.d))] (fun r o=>r=[rb (eqLk a b)]∧o=[]):=by
 refine zac zao mixed (T:=Ty) (n:=31) Tryz.func47 (c:=Tryz.f47.body.getD .skip) rfl Tryz.results47 Tryz.ntmps47 Tryz.call47 ?_
 simp only[Tryz.f47,Option.getD]
 have hi:=zuh a.line b.line ha hb
 repeat'(first|refine zq0 ?_|exact zd0|refine zc (hi) ?_|refine zg (hi) ?_|(refine zaa ?_ ?_<;>intro hb)|(refine And.intro ?_ ?_;exact zI)|(refine And.intro ?_ ?_<;>intro hg)|exact zC|fail)
 rfl
theorem zuk (a b:Memo) (ha:a.reply.held.length<2^30) (hb:b.reply.held.length<2^30):CallOK Tryz.prog 50 [.f (.agg (a.enc.map C.d)), .f (.agg (b.enc.map C.d))] (fun r o=>r=[rb (eqMe a b)]∧o=[]):=by
 refine zac zao mixed (T:=Ty) (n:=51) Tryz.func50 (c:=Tryz.f50.body.getD .skip) rfl Tryz.results50 Tryz.ntmps50 Tryz.call50 ?_
 simp only[Tryz.f50,Option.getD]
 have hi:=zp2 a.reply.held b.reply.held ha hb
 repeat'(first|refine zq0 ?_|exact zd0|refine zc (hi) ?_|refine zg (hi) ?_|(refine zaa ?_ ?_<;>intro hb)|(refine And.intro ?_ ?_;exact zI)|(refine And.intro ?_ ?_<;>intro hg)|exact zC|fail)
 rfl
abbrev afn (n:Nat):AV:= .one (.d (.v (.func (.func n) #[] #[])))
set_option maxHeartbeats 1000000 in
theorem zsr (a b:List Lk) (ha:a.length<2^30) (hb:b.length<2^30) (hla:∀x∈a,x.line.length<2^30) (hlb2:∀x∈b,x.line.length<2^30):CallOK Tryz.prog 46 [.f (al a.length (zaj a)), .f (al b.length (zaj b)), .f (afn 47)] (fun r o=>r=[rb (sameL eqLk a b)]∧o=[]):=by
 refine zac zao mixed (T:=Ty) (n:=32) Tryz.func46 (c:=Tryz.f46.body.getD .skip) rfl Tryz.results46 Tryz.ntmps46 Tryz.call46 ?_
 simp only[Tryz.f46,Option.getD]
 have hfn:∀(Z:List Nat) (r:Rs) (xs ys:List AV),fgc Z r (afn 47::xs) (afn 47::ys)=fgc Z r xs ys:=fun Z r xs ys=>zks rfl rfl
 cases hl:((a.length:Int) !=(b.length:Int))
 ·obtain⟨hle,hsr⟩:=zdI (eq:=eqLk) hl
  rw[hsr]
  repeat'(first|refine zq hl ?_|exact zd hl|(refine zaa ?_ ?_<;>intro hb)|(refine And.intro ?_ ?_;exact zI)|(refine And.intro ?_ ?_<;>intro hg)|exact zC|fail)
  refine zai (τ:=Nat) (fun i=>⟨[dd,al b.length (zaj b),afn 47,dd,dd,dd,dd,dd,dd,dd,dd,dd,dd,dd,dd,al a.length (zaj a),ai a.length,ai i,dd,dd,dd,dd,dd,dd,dd,dd,dd,dd,dd,dd,dd,dd],[(8,⟨2,[]⟩),(9,⟨2,[]⟩)]⟩)
   (fun i=>i≤a.length) (fun i=>zf4 eqLk a b i) (fun i=>a.length - i) 0
   (Gh.canon [] [8,9] [] (zk hfn) rfl rfl) (Nat.zero_le _) ?_
  intro i hi0 hF K hK
  refine zw ?_
  refine zaa (fun hlt=> ?_) (fun hge=> ?_)
  ·have hi:i<a.length:=by simpa using hlt
   have hi2:i<b.length:=by omega
   have hat:=zaP hi
   have hat2:=zaP hi2
   have hw:=zak hi (by omega)
   have hlb:decide ((i:Int)<a.length)=true:=by simp;omega
   have hst:=zcy (eq:=eqLk) hi hi2
   have hc:=zuj a[i] b[i] (hla _ (List.getElem_mem hi)) (hlb2 _ (List.getElem_mem hi2))
   cases hq:eqLk a[i] b[i]
   ·rw[hq]at hst
    have he:(!eqLk a[i] b[i])=true:=by rw[hq];rfl
    rw[←hF,hst]
    repeat'(first|refine zq (I hat (I hat2 (I hlb (I he (I @Bool.not_true (I @Bool.not_false (I @Bool.and_self (I @zaf zca)))))))) ?_|exact zd (I hat (I hat2 (I hlb (I he (I @Bool.not_true (I @Bool.not_false (I @Bool.and_self (I @zaf zca))))))))|refine zc (hc) ?_|refine zg (hc) ?_|(refine zaa ?_ ?_<;>intro hb)|(refine And.intro ?_ ?_;exact zI)|(refine And.intro ?_ ?_<;>intro hg)|exact zC|fail)
   ·rw[hq,Bool.true_and]at hst
    have he:(!eqLk a[i] b[i])=false:=by rw[hq];rfl
    repeat'(first|refine zq (I hat (I hat2 (I hlb (I he (I @Bool.not_true (I @Bool.not_false (I @Bool.and_self (I @zaf zca)))))))) ?_|exact zd (I hat (I hat2 (I hlb (I he (I @Bool.not_true (I @Bool.not_false (I @Bool.and_self (I @zaf zca))))))))|refine zc (hc) ?_|refine zg (hc) ?_|(refine zaa ?_ ?_<;>intro hb)|(refine And.intro ?_ ?_;exact zI)|(refine And.intro ?_ ?_<;>intro hg)|exact zC|fail)
    exact hK _ (i+1) (Gh.canon [] [] [] (zk (I hw hfn)) rfl rfl) hi hst.symm (by omega)
  ·have hi:i=a.length:=by
    have:¬(i:Int)<a.length:=by simpa using hge
    omega
   rw[←hF,zc6 hi]
   repeat'(first|refine zq0 ?_|exact zd0|(refine zaa ?_ ?_<;>intro hb)|(refine And.intro ?_ ?_;exact zI)|(refine And.intro ?_ ?_<;>intro hg)|exact zC|fail)
 ·rw[zdH hl]
  repeat'(first|refine zq hl ?_|exact zd hl|(refine zaa ?_ ?_<;>intro hb)|(refine And.intro ?_ ?_;exact zI)|(refine And.intro ?_ ?_<;>intro hg)|exact zC|fail)
set_option maxHeartbeats 1000000 in
theorem zss (a b:List Memo) (ha:a.length<2^30) (hb:b.length<2^30) (hla:∀x∈a,x.reply.held.length<2^30) (hlb2:∀x∈b,x.reply.held.length<2^30):CallOK Tryz.prog 49 [.f (al a.length (zaD a)), .f (al b.length (zaD b)), .f (afn 50)] (fun r o=>r=[rb (sameL eqMe a b)]∧o=[]):=by
 refine zac zao mixed (T:=Ty) (n:=32) Tryz.func49 (c:=Tryz.f49.body.getD .skip) rfl Tryz.results49 Tryz.ntmps49 Tryz.call49 ?_
 simp only[Tryz.f49,Option.getD]
 have hfn:∀(Z:List Nat) (r:Rs) (xs ys:List AV),fgc Z r (afn 50::xs) (afn 50::ys)=fgc Z r xs ys:=fun Z r xs ys=>zks rfl rfl
 cases hl:((a.length:Int) !=(b.length:Int))
 ·obtain⟨hle,hsr⟩:=zdI (eq:=eqMe) hl
  rw[hsr]
  repeat'(first|refine zq hl ?_|exact zd hl|(refine zaa ?_ ?_<;>intro hb)|(refine And.intro ?_ ?_;exact zI)|(refine And.intro ?_ ?_<;>intro hg)|exact zC|fail)
  refine zai (τ:=Nat) (fun i=>⟨[dd,al b.length (zaD b),afn 50,dd,dd,dd,dd,dd,dd,dd,dd,dd,dd,dd,dd,al a.length (zaD a),ai a.length,ai i,dd,dd,dd,dd,dd,dd,dd,dd,dd,dd,dd,dd,dd,dd],[(8,⟨2,[]⟩),(9,⟨2,[]⟩)]⟩)
   (fun i=>i≤a.length) (fun i=>zf4 eqMe a b i) (fun i=>a.length - i) 0
   (Gh.canon [] [8,9] [] (zk hfn) rfl rfl) (Nat.zero_le _) ?_
  intro i hi0 hF K hK
  refine zw ?_
  refine zaa (fun hlt=> ?_) (fun hge=> ?_)
  ·have hi:i<a.length:=by simpa using hlt
   have hi2:i<b.length:=by omega
   have hat:=zcl hi
   have hat2:=zcl hi2
   have hw:=zak hi (by omega)
   have hlb:decide ((i:Int)<a.length)=true:=by simp;omega
   have hst:=zcy (eq:=eqMe) hi hi2
   have hc:=zuk a[i] b[i] (hla _ (List.getElem_mem hi)) (hlb2 _ (List.getElem_mem hi2))
   cases hq:eqMe a[i] b[i]
   ·rw[hq]at hst
    have he:(!eqMe a[i] b[i])=true:=by rw[hq];rfl
    rw[←hF,hst]
    repeat'(first|refine zq (I hat (I hat2 (I hlb (I he (I @Bool.not_true (I @Bool.not_false (I @Bool.and_self (I @zaA zca)))))))) ?_|exact zd (I hat (I hat2 (I hlb (I he (I @Bool.not_true (I @Bool.not_false (I @Bool.and_self (I @zaA zca))))))))|refine zc (hc) ?_|refine zg (hc) ?_|(refine zaa ?_ ?_<;>intro hb)|(refine And.intro ?_ ?_;exact zI)|(refine And.intro ?_ ?_<;>intro hg)|exact zC|fail)
   ·rw[hq,Bool.true_and]at hst
    have he:(!eqMe a[i] b[i])=false:=by rw[hq];rfl
    repeat'(first|refine zq (I hat (I hat2 (I hlb (I he (I @Bool.not_true (I @Bool.not_false (I @Bool.and_self (I @zaA zca)))))))) ?_|exact zd (I hat (I hat2 (I hlb (I he (I @Bool.not_true (I @Bool.not_false (I @Bool.and_self (I @zaA zca))))))))|refine zc (hc) ?_|refine zg (hc) ?_|(refine zaa ?_ ?_<;>intro hb)|(refine And.intro ?_ ?_;exact zI)|(refine And.intro ?_ ?_<;>intro hg)|exact zC|fail)
    exact hK _ (i+1) (Gh.canon [] [] [] (zk (I hw hfn)) rfl rfl) hi hst.symm (by omega)
  ·have hi:i=a.length:=by
    have:¬(i:Int)<a.length:=by simpa using hge
    omega
   rw[←hF,zc6 hi]
   repeat'(first|refine zq0 ?_|exact zd0|(refine zaa ?_ ?_<;>intro hb)|(refine And.intro ?_ ?_;exact zI)|(refine And.intro ?_ ?_<;>intro hg)|exact zC|fail)
 ·rw[zdH hl]
  repeat'(first|refine zq hl ?_|exact zd hl|(refine zaa ?_ ?_<;>intro hb)|(refine And.intro ?_ ?_;exact zI)|(refine And.intro ?_ ?_<;>intro hg)|exact zC|fail)
theorem zzO {p q r s t u:Bool}:((!(!p|| !q|| !r|| !s))&&t&&u)=(p&&q&&r&&s&&t&&u):=by cases p<;>cases q<;>cases r<;>cases s<;>simp
set_option maxHeartbeats 1000000 in
theorem zoQ (a b:St) (ha:Small a) (hb:Small b):CallOK Tryz.prog 22 [.f (.agg a.lent), .f (.agg b.lent)] (fun r o=>r=[rb (zsJ a b)]∧o=[]):=by
 refine zac zao mixed (T:=Ty) (n:=44) Tryz.func22 (c:=Tryz.f22.body.getD .skip) rfl Tryz.results22 Tryz.ntmps22 Tryz.call22 ?_
 simp only[Tryz.f22,Option.getD]
 have h1:=zui a.sess b.sess ha.sess hb.sess
 have h2:=zsr a.locks b.locks ha.locks hb.locks (fun k hk=>(ha.line k hk).1) (fun k hk=>(hb.line k hk).1)
 have h3:=zss a.memos b.memos ha.memos hb.memos (fun k hk=>(ha.held k hk).1) (fun k hk=>(hb.held k hk).1)
 cases hq:((((a.time !=b.time)||(a.num !=b.num))||(a.token !=b.token))|| !sameL zmJ a.sess b.sess)
 ·have he:zsJ a b=(sameL eqLk a.locks b.locks&&sameL eqMe a.memos b.memos):=by
   unfold zsJ
   rw[←zzO,show(!(!(a.time==b.time)|| !(a.num==b.num)|| !(a.token==b.token)|| !sameL zmJ a.sess b.sess))=true from by revert hq;simp only[bne];cases(a.time==b.time)<;>cases(a.num==b.num)<;>cases(a.token==b.token)<;>cases sameL zmJ a.sess b.sess<;>simp]
   simp
  rw[he]
  repeat'(first|refine zq hq ?_|exact zd hq|refine zc (h1) ?_|refine zg (h1) ?_|refine zc (h2) ?_|refine zg (h2) ?_|refine zc (h3) ?_|refine zg (h3) ?_|(refine zaa ?_ ?_<;>intro hb)|(refine And.intro ?_ ?_;exact zI)|(refine And.intro ?_ ?_<;>intro hg)|exact zC|fail)
 ·have he:zsJ a b=false:=by
   unfold zsJ
   rw[←zzO,show(!(!(a.time==b.time)|| !(a.num==b.num)|| !(a.token==b.token)|| !sameL zmJ a.sess b.sess))=false from by revert hq;simp only[bne];cases(a.time==b.time)<;>cases(a.num==b.num)<;>cases(a.token==b.token)<;>cases sameL zmJ a.sess b.sess<;>simp]
   simp
  rw[he]
  repeat'(first|refine zq hq ?_|exact zd hq|refine zc (h1) ?_|refine zg (h1) ?_|refine zc (h2) ?_|refine zg (h2) ?_|refine zc (h3) ?_|refine zg (h3) ?_|(refine zaa ?_ ?_<;>intro hb)|(refine And.intro ?_ ?_;exact zI)|(refine And.intro ?_ ?_<;>intro hg)|exact zC|fail)
set_option maxHeartbeats 1000000 in
theorem zp3 (a b:List Grant) (ha:a.length<2^30) (hb:b.length<2^30):CallOK Tryz.prog 68 [.f (al a.length (zaL a)), .f (al b.length (zaL b))] (fun r o=>r=[rb (sameL zoP a b)]∧o=[]):=by
 refine zac zao mixed (T:=Ty) (n:=26) Tryz.func68 (c:=Tryz.f68.body.getD .skip) rfl Tryz.results68 Tryz.ntmps68 Tryz.call68 ?_
 simp only[Tryz.f68,Option.getD]
 cases hl:((a.length:Int) !=(b.length:Int))
 ·obtain⟨hle,hsr⟩:=zdI (eq:=zoP) hl
  rw[hsr]
  repeat'(first|refine zq hl ?_|exact zd hl|(refine zaa ?_ ?_<;>intro hb)|(refine And.intro ?_ ?_;exact zI)|(refine And.intro ?_ ?_<;>intro hg)|exact zC|fail)
  refine zai (τ:=Nat) (fun i=>⟨[al a.length (zaL a),al b.length (zaL b),dd,dd,dd,ai i,dd,dd,dd,dd,dd,dd,dd,dd,dd,dd,dd,dd,dd,dd,dd,dd,dd,dd,dd,dd],[]⟩)
   (fun i=>i≤a.length) (fun i=>zf4 zoP a b i) (fun i=>a.length - i) 0
   (Gh.canon [] [] [] zK rfl rfl) (Nat.zero_le _) ?_
  intro i hi0 hF K hK
  refine zw ?_
  refine zaa (fun hlt=> ?_) (fun hge=> ?_)
  ·have hi:i<a.length:=by simpa using hlt
   have hi2:i<b.length:=by omega
   have hat:=zce hi
   have hat2:=zce hi2
   have hw:=zak hi (by omega)
   have hlb:decide ((i:Int)<a.length)=true:=by simp;omega
   have hst:=zcy (eq:=zoP) hi hi2
   cases hq:zoP a[i] b[i]
   ·rw[hq]at hst
    have he:((a[i].name.toList==b[i].name.toList)&&(a[i].token==b[i].token))=false:=by exact hq
    rw[←hF,hst]
    repeat'(first|refine zq (I hat (I hat2 (I hlb (I he (I @Bool.not_true (I @Bool.not_false (I @Bool.and_self (I @zaB zca)))))))) ?_|exact zd (I hat (I hat2 (I hlb (I he (I @Bool.not_true (I @Bool.not_false (I @Bool.and_self (I @zaB zca))))))))|(refine zaa ?_ ?_<;>intro hb)|(refine And.intro ?_ ?_;exact zI)|(refine And.intro ?_ ?_<;>intro hg)|exact zC|fail)
   ·rw[hq,Bool.true_and]at hst
    have he:((a[i].name.toList==b[i].name.toList)&&(a[i].token==b[i].token))=true:=by exact hq
    repeat'(first|refine zq (I hat (I hat2 (I hlb (I he (I @Bool.not_true (I @Bool.not_false (I @Bool.and_self (I @zaB zca)))))))) ?_|exact zd (I hat (I hat2 (I hlb (I he (I @Bool.not_true (I @Bool.not_false (I @Bool.and_self (I @zaB zca))))))))|(refine zaa ?_ ?_<;>intro hb)|(refine And.intro ?_ ?_;exact zI)|(refine And.intro ?_ ?_<;>intro hg)|exact zC|fail)
    exact hK _ (i+1) (Gh.canon [] [] [] (zk hw) rfl rfl) hi hst.symm (by omega)
  ·have hi:i=a.length:=by
    have:¬(i:Int)<a.length:=by simpa using hge
    omega
   rw[←hF,zc6 hi]
   repeat'(first|refine zq0 ?_|exact zd0|(refine zaa ?_ ?_<;>intro hb)|(refine And.intro ?_ ?_;exact zI)|(refine And.intro ?_ ?_<;>intro hg)|exact zC|fail)
 ·rw[zdH hl]
  repeat'(first|refine zq hl ?_|exact zd hl|(refine zaa ?_ ?_<;>intro hb)|(refine And.intro ?_ ?_;exact zI)|(refine And.intro ?_ ?_<;>intro hg)|exact zC|fail)
theorem zst (a b:Reply) (ha:a.held.length<2^30) (hb:b.held.length<2^30):CallOK Tryz.prog 29 [.f (.agg a.lent), .f (.agg b.lent)] (fun r o=>r=[rb (eqRe a b)]∧o=[]):=by
 refine zac zao mixed (T:=Ty) (n:=31) Tryz.func29 (c:=Tryz.f29.body.getD .skip) rfl Tryz.results29 Tryz.ntmps29 Tryz.call29 ?_
 simp only[Tryz.f29,Option.getD]
 have hi:=zp3 a.held b.held ha hb
 repeat'(first|refine zq0 ?_|exact zd0|refine zc (hi) ?_|refine zg (hi) ?_|(refine zaa ?_ ?_<;>intro hb)|(refine And.intro ?_ ?_;exact zI)|(refine And.intro ?_ ?_<;>intro hg)|exact zC|fail)
 rfl
set_option maxHeartbeats 1000000 in
theorem zsu (a b:List Sess) (ha:a.length<2^30) (hb:b.length<2^30):CallOK Tryz.prog 52 [.f (al a.length (zaK a)), .f (al b.length (zaK b))] (fun r o=>r=[rb (sameL zmJ a b)]∧o=[]):=by
 refine zac zao mixed (T:=Ty) (n:=26) Tryz.func52 (c:=Tryz.f52.body.getD .skip) rfl Tryz.results52 Tryz.ntmps52 Tryz.call52 ?_
 simp only[Tryz.f52,Option.getD]
 cases hl:((a.length:Int) !=(b.length:Int))
 ·obtain⟨hle,hsr⟩:=zdI (eq:=zmJ) hl
  rw[hsr]
  repeat'(first|refine zq hl ?_|exact zd hl|(refine zaa ?_ ?_<;>intro hb)|(refine And.intro ?_ ?_;exact zI)|(refine And.intro ?_ ?_<;>intro hg)|exact zC|fail)
  refine zai (τ:=Nat) (fun i=>⟨[al a.length (zaK a),al b.length (zaK b),dd,dd,dd,ai i,dd,dd,dd,dd,dd,dd,dd,dd,dd,dd,dd,dd,dd,dd,dd,dd,dd,dd,dd,dd],[]⟩)
   (fun i=>i≤a.length) (fun i=>zf4 zmJ a b i) (fun i=>a.length - i) 0
   (Gh.canon [] [] [] zK rfl rfl) (Nat.zero_le _) ?_
  intro i hi0 hF K hK
  refine zw ?_
  refine zaa (fun hlt=> ?_) (fun hge=> ?_)
  ·have hi:i<a.length:=by simpa using hlt
   have hi2:i<b.length:=by omega
   have hat:=zbf hi
   have hat2:=zbf hi2
   have hw:=zak hi (by omega)
   have hlb:decide ((i:Int)<a.length)=true:=by simp;omega
   have hst:=zcy (eq:=zmJ) hi hi2
   cases hq:zmJ a[i] b[i]
   ·rw[hq]at hst
    have he:((a[i].client==b[i].client)&&((a[i].num==b[i].num)&&(a[i].renewed==b[i].renewed)))=false:=by exact hq
    rw[←hF,hst]
    repeat'(first|refine zq (I hat (I hat2 (I hlb (I he (I @Bool.not_true (I @Bool.not_false (I @Bool.and_self (I @zaq zca)))))))) ?_|exact zd (I hat (I hat2 (I hlb (I he (I @Bool.not_true (I @Bool.not_false (I @Bool.and_self (I @zaq zca))))))))|(refine zaa ?_ ?_<;>intro hb)|(refine And.intro ?_ ?_;exact zI)|(refine And.intro ?_ ?_<;>intro hg)|exact zC|fail)
   ·rw[hq,Bool.true_and]at hst
    have he:((a[i].client==b[i].client)&&((a[i].num==b[i].num)&&(a[i].renewed==b[i].renewed)))=true:=by exact hq
    repeat'(first|refine zq (I hat (I hat2 (I hlb (I he (I @Bool.not_true (I @Bool.not_false (I @Bool.and_self (I @zaq zca)))))))) ?_|exact zd (I hat (I hat2 (I hlb (I he (I @Bool.not_true (I @Bool.not_false (I @Bool.and_self (I @zaq zca))))))))|(refine zaa ?_ ?_<;>intro hb)|(refine And.intro ?_ ?_;exact zI)|(refine And.intro ?_ ?_<;>intro hg)|exact zC|fail)
    exact hK _ (i+1) (Gh.canon [] [] [] (zk hw) rfl rfl) hi hst.symm (by omega)
  ·have hi:i=a.length:=by
    have:¬(i:Int)<a.length:=by simpa using hge
    omega
   rw[←hF,zc6 hi]
   repeat'(first|refine zq0 ?_|exact zd0|(refine zaa ?_ ?_<;>intro hb)|(refine And.intro ?_ ?_;exact zI)|(refine And.intro ?_ ?_<;>intro hg)|exact zC|fail)
 ·rw[zdH hl]
  repeat'(first|refine zq hl ?_|exact zd hl|(refine zaa ?_ ?_<;>intro hb)|(refine And.intro ?_ ?_;exact zI)|(refine And.intro ?_ ?_<;>intro hg)|exact zC|fail)
set_option maxHeartbeats 1000000 in
theorem zp4 (a b:List Lk) (ha:a.length<2^30) (hb:b.length<2^30) (hla:∀x∈a,x.line.length<2^30) (hlb2:∀x∈b,x.line.length<2^30):CallOK Tryz.prog 53 [.f (al a.length (zaj a)), .f (al b.length (zaj b))] (fun r o=>r=[rb (sameL eqLk a b)]∧o=[]):=by
 refine zac zao mixed (T:=Ty) (n:=68) Tryz.func53 (c:=Tryz.f53.body.getD .skip) rfl Tryz.results53 Tryz.ntmps53 Tryz.call53 ?_
 simp only[Tryz.f53,Option.getD]
 cases hl:((a.length:Int) !=(b.length:Int))
 ·obtain⟨hle,hsr⟩:=zdI (eq:=eqLk) hl
  rw[hsr]
  repeat'(first|refine zq hl ?_|exact zd hl|(refine zaa ?_ ?_<;>intro hb)|(refine And.intro ?_ ?_;exact zI)|(refine And.intro ?_ ?_<;>intro hg)|exact zC|fail)
  refine zai (τ:=Nat) (fun i=>⟨[al a.length (zaj a),al b.length (zaj b),dd,dd,dd,ai i,dd,dd,dd,dd,dd,dd,dd,dd,dd,dd,dd,dd,dd,dd,dd,dd,dd,dd,dd,dd,dd,dd,dd,dd,dd,dd,dd,dd,dd,dd,dd,dd,dd,dd,dd,dd,dd,dd,dd,dd,dd,dd,dd,dd,dd,dd,dd,dd,dd,dd,dd,dd,dd,dd,dd,dd,dd,dd,dd,dd,dd,dd],[]⟩)
   (fun i=>i≤a.length) (fun i=>zf4 eqLk a b i) (fun i=>a.length - i) 0
   (Gh.canon [] [] [] zK rfl rfl) (Nat.zero_le _) ?_
  intro i hi0 hF K hK
  refine zw ?_
  refine zaa (fun hlt=> ?_) (fun hge=> ?_)
  ·have hi:i<a.length:=by simpa using hlt
   have hi2:i<b.length:=by omega
   have hat:=zaP hi
   have hat2:=zaP hi2
   have hw:=zak hi (by omega)
   have hlb:decide ((i:Int)<a.length)=true:=by simp;omega
   have hst:=zcy (eq:=eqLk) hi hi2
   have hd1:(zaj a).drop (i*4+1)=iD a[i].holder::iD a[i].token:: .sl a[i].line.length (zaJ a[i].line)::zaj (a.drop (i+1)):=by rw[←List.drop_drop,hat];rfl
   have hd2:(zaj b).drop (i*4+1)=iD b[i].holder::iD b[i].token:: .sl b[i].line.length (zaJ b[i].line)::zaj (b.drop (i+1)):=by rw[←List.drop_drop,hat2];rfl
   have hsi:=zno a[i].line b[i].line (by have:=hla _ (List.getElem_mem hi);omega) (by have:=hlb2 _ (List.getElem_mem hi2);omega)
   cases hq:eqLk a[i] b[i]
   ·rw[hq]at hst
    have he:((((!(a[i].name.toList==b[i].name.toList))||(a[i].holder !=b[i].holder))||(a[i].token !=b[i].token))|| !sameI a[i].line b[i].line)=true:=by unfold eqLk at hq;rw[zsq];revert hq;cases sameL zhF a[i].line b[i].line<;>cases h1:(a[i].name.toList==b[i].name.toList)<;>cases h2:(a[i].holder==b[i].holder)<;>cases h3:(a[i].token==b[i].token)<;>simp[bne,h1,h2,h3]
    rw[←hF,hst]
    repeat'(first|refine zq (I hat (I hat2 (I hlb (I he (I @Bool.not_true (I @Bool.not_false (I @Bool.and_self (I hd1 (I hd2 (I @zaf zca)))))))))) ?_|exact zd (I hat (I hat2 (I hlb (I he (I @Bool.not_true (I @Bool.not_false (I @Bool.and_self (I hd1 (I hd2 (I @zaf zca))))))))))|refine zc (hsi) ?_|refine zg (hsi) ?_|(refine zaa ?_ ?_<;>intro hb)|(refine And.intro ?_ ?_;exact zI)|(refine And.intro ?_ ?_<;>intro hg)|exact zC|fail)
   ·rw[hq,Bool.true_and]at hst
    have he:((((!(a[i].name.toList==b[i].name.toList))||(a[i].holder !=b[i].holder))||(a[i].token !=b[i].token))|| !sameI a[i].line b[i].line)=false:=by unfold eqLk at hq;rw[zsq];revert hq;cases sameL zhF a[i].line b[i].line<;>cases h1:(a[i].name.toList==b[i].name.toList)<;>cases h2:(a[i].holder==b[i].holder)<;>cases h3:(a[i].token==b[i].token)<;>simp[bne,h1,h2,h3]
    repeat'(first|refine zq (I hat (I hat2 (I hlb (I he (I @Bool.not_true (I @Bool.not_false (I @Bool.and_self (I hd1 (I hd2 (I @zaf zca)))))))))) ?_|exact zd (I hat (I hat2 (I hlb (I he (I @Bool.not_true (I @Bool.not_false (I @Bool.and_self (I hd1 (I hd2 (I @zaf zca))))))))))|refine zc (hsi) ?_|refine zg (hsi) ?_|(refine zaa ?_ ?_<;>intro hb)|(refine And.intro ?_ ?_;exact zI)|(refine And.intro ?_ ?_<;>intro hg)|exact zC|fail)
    exact hK _ (i+1) (Gh.canon [] [] [] (zk hw) rfl rfl) hi hst.symm (by omega)
  ·have hi:i=a.length:=by
    have:¬(i:Int)<a.length:=by simpa using hge
    omega
   rw[←hF,zc6 hi]
   repeat'(first|refine zq0 ?_|exact zd0|(refine zaa ?_ ?_<;>intro hb)|(refine And.intro ?_ ?_;exact zI)|(refine And.intro ?_ ?_<;>intro hg)|exact zC|fail)
 ·rw[zdH hl]
  repeat'(first|refine zq hl ?_|exact zd hl|(refine zaa ?_ ?_<;>intro hb)|(refine And.intro ?_ ?_;exact zI)|(refine And.intro ?_ ?_<;>intro hg)|exact zC|fail)
set_option maxHeartbeats 1000000 in
theorem zp5 (a b:List Memo) (ha:a.length<2^30) (hb:b.length<2^30) (hla:∀x∈a,x.reply.held.length<2^30) (hlb2:∀x∈b,x.reply.held.length<2^30):CallOK Tryz.prog 54 [.f (al a.length (zaD a)), .f (al b.length (zaD b))] (fun r o=>r=[rb (sameL eqMe a b)]∧o=[]):=by
 refine zac zao mixed (T:=Ty) (n:=55) Tryz.func54 (c:=Tryz.f54.body.getD .skip) rfl Tryz.results54 Tryz.ntmps54 Tryz.call54 ?_
 simp only[Tryz.f54,Option.getD]
 cases hl:((a.length:Int) !=(b.length:Int))
 ·obtain⟨hle,hsr⟩:=zdI (eq:=eqMe) hl
  rw[hsr]
  repeat'(first|refine zq hl ?_|exact zd hl|(refine zaa ?_ ?_<;>intro hb)|(refine And.intro ?_ ?_;exact zI)|(refine And.intro ?_ ?_<;>intro hg)|exact zC|fail)
  refine zai (τ:=Nat) (fun i=>⟨[al a.length (zaD a),al b.length (zaD b),dd,dd,dd,ai i,dd,dd,dd,dd,dd,dd,dd,dd,dd,dd,dd,dd,dd,dd,dd,dd,dd,dd,dd,dd,dd,dd,dd,dd,dd,dd,dd,dd,dd,dd,dd,dd,dd,dd,dd,dd,dd,dd,dd,dd,dd,dd,dd,dd,dd,dd,dd,dd,dd],[]⟩)
   (fun i=>i≤a.length) (fun i=>zf4 eqMe a b i) (fun i=>a.length - i) 0
   (Gh.canon [] [] [] zK rfl rfl) (Nat.zero_le _) ?_
  intro i hi0 hF K hK
  refine zw ?_
  refine zaa (fun hlt=> ?_) (fun hge=> ?_)
  ·have hi:i<a.length:=by simpa using hlt
   have hi2:i<b.length:=by omega
   have hat:=zcl hi
   have hat2:=zcl hi2
   have hw:=zak hi (by omega)
   have hlb:decide ((i:Int)<a.length)=true:=by simp;omega
   have hst:=zcy (eq:=eqMe) hi hi2
   have hd1:(zaD a).drop (i*6+1)=iD a[i].seq::(a[i].reply.enc++zaD (a.drop (i+1))):=by rw[←List.drop_drop,hat];rfl
   have hd2:(zaD b).drop (i*6+1)=iD b[i].seq::(b[i].reply.enc++zaD (b.drop (i+1))):=by rw[←List.drop_drop,hat2];rfl
   have hsr:=zst a[i].reply b[i].reply (hla _ (List.getElem_mem hi)) (hlb2 _ (List.getElem_mem hi2))
   have hme:eqMe a[i] b[i]=((a[i].client==b[i].client)&&(a[i].seq==b[i].seq)&&eqRe a[i].reply b[i].reply):=by unfold eqMe eqRe;simp only[Bool.and_assoc]
   cases hq:eqMe a[i] b[i]
   ·rw[hq]at hst
    have he:(((a[i].client !=b[i].client)||(a[i].seq !=b[i].seq))|| !eqRe a[i].reply b[i].reply)=true:=by rw[hme]at hq;revert hq;cases eqRe a[i].reply b[i].reply<;>cases h1:(a[i].client==b[i].client)<;>cases h2:(a[i].seq==b[i].seq)<;>simp[bne,h1,h2]
    rw[←hF,hst]
    repeat'(first|refine zq (I hat (I hat2 (I hlb (I he (I @Bool.not_true (I @Bool.not_false (I @Bool.and_self (I hd1 (I hd2 (I @zaA zca)))))))))) ?_|exact zd (I hat (I hat2 (I hlb (I he (I @Bool.not_true (I @Bool.not_false (I @Bool.and_self (I hd1 (I hd2 (I @zaA zca))))))))))|refine zc (hsr) ?_|refine zg (hsr) ?_|(refine zaa ?_ ?_<;>intro hb)|(refine And.intro ?_ ?_;exact zI)|(refine And.intro ?_ ?_<;>intro hg)|exact zC|fail)
   ·rw[hq,Bool.true_and]at hst
    have he:(((a[i].client !=b[i].client)||(a[i].seq !=b[i].seq))|| !eqRe a[i].reply b[i].reply)=false:=by rw[hme]at hq;revert hq;cases eqRe a[i].reply b[i].reply<;>cases h1:(a[i].client==b[i].client)<;>cases h2:(a[i].seq==b[i].seq)<;>simp[bne,h1,h2]
    repeat'(first|refine zq (I hat (I hat2 (I hlb (I he (I @Bool.not_true (I @Bool.not_false (I @Bool.and_self (I hd1 (I hd2 (I @zaA zca)))))))))) ?_|exact zd (I hat (I hat2 (I hlb (I he (I @Bool.not_true (I @Bool.not_false (I @Bool.and_self (I hd1 (I hd2 (I @zaA zca))))))))))|refine zc (hsr) ?_|refine zg (hsr) ?_|(refine zaa ?_ ?_<;>intro hb)|(refine And.intro ?_ ?_;exact zI)|(refine And.intro ?_ ?_<;>intro hg)|exact zC|fail)
    exact hK _ (i+1) (Gh.canon [] [] [] (zk hw) rfl rfl) hi hst.symm (by omega)
  ·have hi:i=a.length:=by
    have:¬(i:Int)<a.length:=by simpa using hge
    omega
   rw[←hF,zc6 hi]
   repeat'(first|refine zq0 ?_|exact zd0|(refine zaa ?_ ?_<;>intro hb)|(refine And.intro ?_ ?_;exact zI)|(refine And.intro ?_ ?_<;>intro hg)|exact zC|fail)
 ·rw[zdH hl]
  repeat'(first|refine zq hl ?_|exact zd hl|(refine zaa ?_ ?_<;>intro hb)|(refine And.intro ?_ ?_;exact zI)|(refine And.intro ?_ ?_<;>intro hg)|exact zC|fail)
theorem zoR (a b:St) (ha:Small a) (hb:Small b):CallOK Tryz.prog 23 [.f (.agg a.lent), .f (.agg b.lent)] (fun r o=>r=[rb (zsJ a b)]∧o=[]):=by
 refine zac zao mixed (T:=Ty) (n:=45) Tryz.func23 (c:=Tryz.f23.body.getD .skip) rfl Tryz.results23 Tryz.ntmps23 Tryz.call23 ?_
 simp only[Tryz.f23,Option.getD]
 have h1:=zsu a.sess b.sess ha.sess hb.sess
 have h2:=zp4 a.locks b.locks ha.locks hb.locks (fun k hk=>(ha.line k hk).1) (fun k hk=>(hb.line k hk).1)
 have h3:=zp5 a.memos b.memos ha.memos hb.memos (fun k hk=>(ha.held k hk).1) (fun k hk=>(hb.held k hk).1)
 repeat'(first|refine zq0 ?_|exact zd0|refine zc (h1) ?_|refine zg (h1) ?_|refine zc (h2) ?_|refine zg (h2) ?_|refine zc (h3) ?_|refine zg (h3) ?_|(refine zaa ?_ ?_<;>intro hb)|(refine And.intro ?_ ?_;exact zI)|(refine And.intro ?_ ?_<;>intro hg)|exact zC|fail)
 rfl
theorem znR (n:Nat) (ds:List D) (p k:Int) (hn:n<2^60) (hp:i64 p):
  CallOK Tryz.prog 143 [.f (al n ds), .f (ai p), .f (ai k)] (fun r o=>r=[rb (!shortP n p k)]∧o=[]):=by
 refine zac zao mixed (T:=Ty) (n:=23) Tryz.func143 (c:=Tryz.f143.body.getD .skip) rfl Tryz.results143 Tryz.ntmps143 Tryz.call143 ?_
 simp only[Tryz.f143,Option.getD]
 cases h1:decide (p≥0)
 ·have hs:shortP n p k=true:=by unfold shortP;simp at h1⊢;omega
  rw[hs]
  repeat'(first|refine zq (I h1 @Bool.not_true) ?_|exact zd (I h1 @Bool.not_true)|(refine zaa ?_ ?_<;>intro hb)|(refine And.intro ?_ ?_;exact zI)|(refine And.intro ?_ ?_<;>intro hg)|exact zC|fail)
 ·cases h2:decide (p≤(n:Int))
  ·have hs:shortP n p k=true:=by unfold shortP;simp at h1 h2⊢;omega
   rw[hs]
   repeat'(first|refine zq (I h1 (I h2 @Bool.not_true)) ?_|exact zd (I h1 (I h2 @Bool.not_true))|(refine zaa ?_ ?_<;>intro hb)|(refine And.intro ?_ ?_;exact zI)|(refine And.intro ?_ ?_<;>intro hg)|exact zC|fail)
  ·have h3:IntKind.i64.wrap ((n:Int) - p)=(n:Int) - p:=by simp at h1 h2;exact wrap64 (by omega) (by omega)
   have hs:(!shortP n p k)=decide ((n:Int) - p≥k):=by
    simp at h1 h2
    unfold shortP
    rw[show decide (p<0)=false from by simp;omega,show decide (p>(n:Int))=false from by simp;omega]
    by_cases h:(n:Int) - p<k
    ·simp[h]
    ·simp[h];omega
   rw[hs]
   repeat'(first|refine zq (I h1 (I h2 h3)) ?_|exact zd (I h1 (I h2 h3))|(refine zaa ?_ ?_<;>intro hb)|(refine And.intro ?_ ?_;exact zI)|(refine And.intro ?_ ?_<;>intro hg)|exact zC|fail)
theorem zf3 (bs:List Int) (p:Int) (h:BsOk bs) (hp:i64 p):
  CallOK Tryz.prog 138 [.f (al bs.length (zad bs)), .f (ai p)] (fun r o=>r=[ri (zaY bs p).1,ri (zaY bs p).2.1,ri (zaY bs p).2.2]∧o=[]):=by
 refine zac zao mixed (T:=Ty) (n:=18) Tryz.func138 (c:=Tryz.f138.body.getD .skip) rfl Tryz.results138 Tryz.ntmps138 Tryz.call138 ?_
 simp only[Tryz.f138,Option.getD]
 have hr:=znR bs.length (zad bs) p 1 h.l hp
 unfold zaY
 cases hs:shortP bs.length p 1
 ·rw[hs]at hr
  obtain⟨g1,g2,g3⟩:=zcx hs
  obtain⟨q,rfl⟩:=Int.eq_ofNat_of_zero_le g1
  have hq:q<bs.length:=by omega
  have hat:=zew hq
  have hb:=zea hq h.b
  unfold zaN at hb
  have hw:IntKind.i64.wrap (bs.getD q 0)=bs.getD q 0:=wrap64 (by omega) (by omega)
  have hw2:IntKind.i64.wrap ((q:Int)+1)=(q:Int)+1:=wrap64 (by omega) (by have:=h.l;omega)
  rw[if_neg (by simp),Int.toNat_natCast]
  repeat'(first|refine zq (I hat (I hw (I hw2 (I @zaH (I @Bool.not_false (I @Bool.not_true @Int.toNat_natCast)))))) ?_|exact zd (I hat (I hw (I hw2 (I @zaH (I @Bool.not_false (I @Bool.not_true @Int.toNat_natCast))))))|refine zc (hr) ?_|refine zg (hr) ?_|(refine zaa ?_ ?_<;>intro hb)|(refine And.intro ?_ ?_;exact zI)|(refine And.intro ?_ ?_<;>intro hg)|exact zC|fail)
 ·rw[hs]at hr
  rw[if_pos rfl]
  repeat'(first|refine zq (I @Bool.not_true @Bool.not_false) ?_|exact zd (I @Bool.not_true @Bool.not_false)|refine zc (hr) ?_|refine zg (hr) ?_|(refine zaa ?_ ?_<;>intro hb)|(refine And.intro ?_ ?_;exact zI)|(refine And.intro ?_ ?_<;>intro hg)|exact zC|fail)
theorem zoW:∀{l:List Int} {a:Int},(∀c∈l,zaN c)→a*256^l.length≤l.foldl (fun u c=>u*256+c) a
 |[],a,_=>by simp
 |c::l,a,h=>by
  have h2:=h c (by simp)
  unfold zaN at h2
  have h3:=zoW (l:=l) (a:=a*256+c) fun x hx=>h x (by simp[hx])
  refine Int.le_trans ?_ h3
  rw[List.length_cons,Int.pow_succ,Int.mul_comm (256^l.length) 256,←Int.mul_assoc]
  exact Int.mul_le_mul_of_nonneg_right (by omega) (Int.pow_nonneg (by decide))
theorem zsG {c:List Int} (h8:c.length=8) (h:∀x∈c,zaN x):decide (c.getD 0 0≥64)= !decide (ze0 c<4611686018427387904):=by
 match c,h8 with
 |a::l,h8=>
  have hl:l.length=7:=by simpa using h8
  have ha:=h a (by simp)
  unfold zaN at ha
  have h1:=zoW (l:=l) (a:=a) fun x hx=>h x (by simp[hx])
  have h2:=(zfZ (l:=l) (a:=a) ha.1 fun x hx=>h x (by simp[hx])).2
  have e:ze0 (a::l)=l.foldl (fun u c=>u*256+c) a:=by
   unfold ze0;rw[List.foldl_cons];congr 1;omega
  rw[hl]at h1 h2
  rw[e]
  simp only[List.getD_cons_zero]
  have h7:(256:Int)^7=72057594037927936:=by decide
  rw[h7]at h1 h2
  by_cases hc:a≥64
  ·have:¬l.foldl (fun u c=>u*256+c) a<4611686018427387904:=by omega
   simp[hc,this]
  ·have:l.foldl (fun u c=>u*256+c) a<4611686018427387904:=by omega
   simp[hc,this]
theorem zwq {u c:Int} (hu:0≤u∧u<18014398509481984) (hc:0≤c∧c≤255):
  IntKind.i64.wrap (BitVec.ofInt IntKind.i64.bits (u*256)|||BitVec.ofInt IntKind.i64.bits c).toNat=u*256+c:=by
 have h:=zu8 (u:=u) (c:=c) ⟨hu.1,by omega⟩ hc
 have e1:(BitVec.ofInt IntKind.u64.bits (u*256)|||BitVec.ofInt IntKind.u64.bits c).toNat<2^64:=(BitVec.ofInt IntKind.u64.bits (u*256)|||BitVec.ofInt IntKind.u64.bits c).isLt
 have hb:IntKind.i64.bits=IntKind.u64.bits:=rfl
 rw[hb]
 generalize (BitVec.ofInt IntKind.u64.bits (u*256)|||BitVec.ofInt IntKind.u64.bits c).toNat=x at*
 rw[zt9 (by omega) (by omega)]at h
 rw[h]
 exact wrap64 (by omega) (by omega)
theorem zwr {c:List Int} (h8:c.length=8) (h:∀x∈c,zaN x) (h0:c.getD 0 0<64) {i:Nat} (hi:i<8):ze0 (c.take i)<18014398509481984:=by
 match c,h8 with
 |a::l,h8=>
  have ha:=h a (by simp)
  unfold zaN at ha
  simp only[List.getD_cons_zero]at h0
  cases i with
  |zero=>rw[List.take_zero];decide
  |succ i=>
   rw[List.take_succ_cons]
   have h2:=(zfZ (l:=l.take i) (a:=a) ha.1 fun x hx=>h x (by simp[List.mem_of_mem_take hx])).2
   have e:ze0 (a::l.take i)=(l.take i).foldl (fun u c=>u*256+c) a:=by
    unfold ze0;rw[List.foldl_cons];congr 1;omega
   rw[e]
   refine Int.lt_of_lt_of_le h2 ?_
   have hl:(l.take i).length≤6:=by rw[List.length_take];omega
   have hp:(256:Int)^(l.take i).length≤281474976710656:=by
    rcases(show(l.take i).length=0∨(l.take i).length=1∨(l.take i).length=2∨(l.take i).length=3∨(l.take i).length=4∨(l.take i).length=5∨(l.take i).length=6 by omega)with h|h|h|h|h|h|h<;>rw[h]<;>decide
   have hq:(0:Int)≤256^(l.take i).length:=Int.pow_nonneg (by decide)
   calc (a+1)*256^(l.take i).length≤64*256^(l.take i).length:=Int.mul_le_mul_of_nonneg_right (by omega) hq
    _≤18014398509481984:=by omega
set_option maxHeartbeats 1000000 in
theorem zin (bs:List Int) (p:Int) (h:BsOk bs) (hp:i64 p):
  CallOK Tryz.prog 94 [.f (al bs.length (zad bs)), .f (ai p)] (fun r o=>r=[ri (zc8 bs p).1,ri (zc8 bs p).2.1,ri (zc8 bs p).2.2]∧o=[]):=by
 refine zac zao mixed (T:=Ty) (n:=35) Tryz.func94 (c:=Tryz.f94.body.getD .skip) rfl Tryz.results94 Tryz.ntmps94 Tryz.call94 ?_
 simp only[Tryz.f94,Option.getD]
 have hr:=znR bs.length (zad bs) p 8 h.l hp
 unfold zc8
 cases hs:shortP bs.length p 8
 ·rw[hs]at hr
  obtain⟨g1,g2,g3⟩:=zcx hs
  obtain⟨q,rfl⟩:=Int.eq_ofNat_of_zero_le g1
  have hq:q+8≤bs.length:=by omega
  have hat:=zew (l:=bs) (i:=q) (by omega)
  rw[if_neg (by simp),Int.toNat_natCast]
  obtain⟨c,hc⟩:∃c,c=(bs.drop q).take 8:=⟨_,rfl⟩
  have hc8:c.length=8:=by rw[hc,List.length_take,List.length_drop];omega
  have hcb:∀x∈c,zaN x:=fun x hx=>by rw[hc]at hx;exact h.b x (List.mem_of_mem_drop (List.mem_of_mem_take hx))
  have hcd:∀i,i<8→bs.getD (q+i) 0=c.getD i 0:=fun i hi=>by
   rw[hc,List.getD_eq_getElem?_getD,List.getD_eq_getElem?_getD,List.getElem?_take,if_pos hi,List.getElem?_drop]
  have hfi:=zsG hc8 hcb
  have h0:=hcd 0 (by omega)
  rw[Nat.add_zero]at h0
  rw[←hc]
  have hbl:=h.l
  have w9:IntKind.i64.wrap ((q:Int)+8)=(q:Int)+8:=wrap64 (by omega) (by omega)
  cases hlt:decide (ze0 c<4611686018427387904)
  ·rw[hlt]at hfi
   have hfi:decide (c.getD 0 0≥64)=true:=hfi
   rw[if_neg (by simpa using hlt)]
   repeat'(first|refine zq (I hat (I h0 (I hfi (I @zaH (I @Bool.not_false (I @Bool.not_true @Int.toNat_natCast)))))) ?_|exact zd (I hat (I h0 (I hfi (I @zaH (I @Bool.not_false (I @Bool.not_true @Int.toNat_natCast))))))|refine zc (hr) ?_|refine zg (hr) ?_|(refine zaa ?_ ?_<;>intro hb)|(refine And.intro ?_ ?_;exact zI)|(refine And.intro ?_ ?_<;>intro hg)|exact zC|fail)
  ·rw[hlt]at hfi
   have hfi:decide (c.getD 0 0≥64)=false:=hfi
   rw[if_pos (by simpa using hlt)]
   repeat'(first|refine zq (I hat (I h0 (I hfi (I @zaH (I @Bool.not_false (I @Bool.not_true @Int.toNat_natCast)))))) ?_|exact zd (I hat (I h0 (I hfi (I @zaH (I @Bool.not_false (I @Bool.not_true @Int.toNat_natCast))))))|refine zc (hr) ?_|refine zg (hr) ?_|(refine zaa ?_ ?_<;>intro hb)|(refine And.intro ?_ ?_;exact zI)|(refine And.intro ?_ ?_<;>intro hg)|exact zC|fail)
   have hc64:c.getD 0 0<64:=by have:=of_decide_eq_false hfi;omega
   refine zgU Ty Tryz.prog (τ:=Nat) (fun i=>⟨[al bs.length (zad bs),ai q,dd,dd,dd,dd,dd,ai (ze0 (c.take i)),ai i,dd,dd,dd,dd,dd,dd,dd,dd,dd,dd,dd,dd,dd,dd,dd,dd,dd,dd,dd,dd,dd,dd,dd,dd,dd,dd],[]⟩)
    (fun i=>i≤8) (fun i=>8 - i) 0 (Gh.canon [] [] [] zK rfl rfl) (Nat.zero_le _) ?_
   intro i hi0 K hK
   refine zw ?_
   refine zaa (fun hlt2=> ?_) (fun hge=> ?_)
   ·have hi:i<8:=by simp at hlt2;omega
    have hi2:i<c.length:=by omega
    have hat2:=zew (l:=bs) (i:=q+i) (by omega)
    rw[hcd i hi]at hat2
    have hw:=zak (i:=i) (n:=8) hi (by omega)
    have hx:=zea hi2 hcb
    unfold zaN at hx
    have hbi:=(zhD (l:=c.take i) fun x hx=>hcb x (List.mem_of_mem_take hx)).1
    have hpr:=zwr hc8 hcb hc64 hi
    have w0:IntKind.i64.wrap ((q:Int)+i)=((q+i:Nat):Int):=by rw[wrap64 (by omega) (by omega)];omega
    have w1:min (Int.toNat 8) IntKind.i64.bits=8:=by decide
    have w2:IntKind.i64.wrap (ze0 (c.take i)*2^8)=ze0 (c.take i)*256:=wrap64 (by omega) (by omega)
    have w3:IntKind.i64.wrap (c.getD i 0)=c.getD i 0:=wrap64 (by omega) (by omega)
    have w4:=zwq (u:=ze0 (c.take i)) (c:=c.getD i 0) ⟨hbi,hpr⟩ ⟨hx.1,by omega⟩
    have w5:=zmH hi2
    have w6:¬((8:Int)<0):=by decide
    repeat'(first|(with_reducible first|refine zab _ _ ?_|refine zaF ?_|refine zaG ?_)|rw[zay]|simp only[hat2,zaH,w0,w1,w2,w3,w4,if_neg w6,Int.toNat_natCast,zY,Int.reduceEq,Int.reduceBEq,Int.reduceBNe,Nat.reduceSub,Nat.reduceEqDiff,Nat.reduceAdd,Nat.reduceMul,Nat.reduceLeDiff,Nat.reduceLT,Nat.reduceBEq,reduceCtorEq]|refine zav ?_|refine zaa (fun hb=> ?_) (fun hb=> ?_)|(refine And.intro ?_ ?_;exact zI)|refine And.intro (fun hg=> ?_) (fun hg=> ?_)|exact zC|fail)
    exact hK _ (i+1) (Gh.canon [] [] [] (zk (I hw w5)) rfl rfl) hi (by omega)
   ·have hi:i=8:=by
     have:¬(i:Int)<8:=by simpa using hge
     omega
    subst hi
    have ht:c.take 8=c:=List.take_of_length_le (by omega)
    repeat'(first|refine zq (I ht w9) ?_|exact zd (I ht w9)|(refine zaa ?_ ?_<;>intro hb)|(refine And.intro ?_ ?_;exact zI)|(refine And.intro ?_ ?_<;>intro hg)|exact zC|fail)
 ·rw[hs]at hr
  rw[if_pos rfl]
  repeat'(first|refine zq (I @Bool.not_true @Bool.not_false) ?_|exact zd (I @Bool.not_true @Bool.not_false)|refine zc (hr) ?_|refine zg (hr) ?_|(refine zaa ?_ ?_<;>intro hb)|(refine And.intro ?_ ?_;exact zI)|(refine And.intro ?_ ?_<;>intro hg)|exact zC|fail)
theorem zmT (bs:List Int) (p:Int) (h:BsOk bs) (hp:i64 p):
  CallOK Tryz.prog 139 [.f (al bs.length (zad bs)), .f (ai p), .f (ai 12)] (fun r o=>r=[.one (.d (sD (zbw bs p 12).1)),ri (zbw bs p 12).2.1,ri (zbw bs p 12).2.2]∧o=[]):=by
 refine zac zao mixed (T:=Ty) (n:=40) Tryz.func139 (c:=Tryz.f139.body.getD .skip) rfl Tryz.results139 Tryz.ntmps139 Tryz.call139 ?_
 simp only[Tryz.f139,Option.getD]
 have hb:=zf3 bs p h hp
 have hbl:=h.l
 unfold zbw
 unfold zaY at hb
 cases hs:shortP bs.length p 1
 ·rw[hs,if_neg (by simp)]at hb
  rw[if_neg (by simp)]
  obtain⟨g1,g2,g3⟩:=zcx hs
  obtain⟨q,rfl⟩:=Int.eq_ofNat_of_zero_le g1
  have hx:=zea (l:=bs) (i:=q) (by omega) h.b
  unfold zaN at hx
  rw[Int.toNat_natCast]at*
  have hr:=znR bs.length (zad bs) ((q:Int)+1) (bs.getD q 0) h.l (by unfold i64;omega)
  cases hm:decide (bs.getD q 0>12)
  ·rw[if_neg (by simpa using hm)]
   cases hs2:shortP bs.length ((q:Int)+1) (bs.getD q 0)
   ·rw[hs2]at hr
    rw[if_neg (by simp)]
    obtain⟨k1,k2,k3⟩:=zcx hs2
    obtain⟨x,hxe⟩:=Int.eq_ofNat_of_zero_le hx.1
    simp only[hxe]at hr hm hx k3 hb⊢
    have w1:IntKind.i64.wrap ((q:Int)+1+(x:Int))=((q+1+x:Nat):Int):=by rw[wrap64 (by omega) (by omega)];omega
    have hq1:((q:Int)+1)=((q+1:Nat):Int):=by omega
    have hsub:q+1+x - (q+1)=x:=by omega
    have hbo:bytesOf (((zad bs).drop (q+1)).take x)=some ((((bs.drop (q+1)).take x)).map fun n=>UInt8.ofNat n.toNat):=by
     rw[←List.map_drop,←List.map_take];exact zc5 _
    have hln:(((zad bs).drop (q+1)).take x).length=x:=by rw[List.length_take,List.length_drop,zaH];omega
    simp only[hq1]at hr hb k1 k2 k3 w1⊢
    simp only[Int.toNat_natCast]
    repeat'(first|refine zq (I hm (I w1 (I hsub (I hbo (I hln (I @zaH (I @Bool.not_false (I @Bool.not_true @Int.toNat_natCast)))))))) ?_|exact zd (I hm (I w1 (I hsub (I hbo (I hln (I @zaH (I @Bool.not_false (I @Bool.not_true @Int.toNat_natCast))))))))|refine zc (hb) ?_|refine zg (hb) ?_|refine zc (hr) ?_|refine zg (hr) ?_|(refine zaa ?_ ?_<;>intro hb)|(refine And.intro ?_ ?_;exact zI)|(refine And.intro ?_ ?_<;>intro hg)|exact zC|fail)
    rfl
   ·rw[hs2]at hr
    rw[if_pos rfl]
    repeat'(first|refine zq (I hm (I @Bool.not_false @Bool.not_true)) ?_|exact zd (I hm (I @Bool.not_false @Bool.not_true))|refine zc (hb) ?_|refine zg (hb) ?_|refine zc (hr) ?_|refine zg (hr) ?_|(refine zaa ?_ ?_<;>intro hb)|(refine And.intro ?_ ?_;exact zI)|(refine And.intro ?_ ?_<;>intro hg)|exact zC|fail)
    rfl
  ·rw[if_pos (by simpa using hm)]
   repeat'(first|refine zq hm ?_|exact zd hm|refine zc (hb) ?_|refine zg (hb) ?_|(refine zaa ?_ ?_<;>intro hb)|(refine And.intro ?_ ?_;exact zI)|(refine And.intro ?_ ?_<;>intro hg)|exact zC|fail)
   rfl
 ·rw[hs,if_pos rfl]at hb
  rw[if_pos rfl]
  repeat'(first|refine zq0 ?_|exact zd0|refine zc (hb) ?_|refine zg (hb) ?_|(refine zaa ?_ ?_<;>intro hb)|(refine And.intro ?_ ?_;exact zI)|(refine And.intro ?_ ?_<;>intro hg)|exact zC|fail)
  rfl
set_option maxHeartbeats 4000000 in
theorem zmS (bs:List Int) (p:Int) (h:BsOk bs) (hp:i64 p):
  CallOK Tryz.prog 140 [.f (al bs.length (zad bs)), .f (ai p)] (fun r o=>r=[znB (zdp bs p).1,ri (zdp bs p).2.1,ri (zdp bs p).2.2]∧o=[]):=by
 refine CallOK.nil ?_
 refine zac zao mixed (T:=Ty) (n:=113) Tryz.func140 (c:=Tryz.f140.body.getD .skip) rfl Tryz.results140 Tryz.ntmps140 Tryz.call140 ?_
 simp only[Tryz.f140,Option.getD]
 have hl:=h.l
 have h1:=zf3 bs p h hp
 have h2:=zin bs (zaY bs p).2.1 h (zcn h.l zb4)
 have h3:=zf3 bs (zc8 bs (zaY bs p).2.1).2.1 h (zcn h.l zc4)
 have h4:=zf3 bs (zaY bs (zc8 bs (zaY bs p).2.1).2.1).2.1 h (zcn h.l zb4)
 unfold zdp
 simp only
 obtain⟨b,hb⟩:∃b,b=zaY bs p:=⟨_,rfl⟩
 rw[←hb]at h1 h2 h3 h4⊢
 obtain⟨s,hs⟩:∃s,s=zc8 bs b.2.1:=⟨_,rfl⟩
 rw[←hs]at h2 h3 h4⊢
 obtain⟨a,ha⟩:∃a,a=zaY bs s.2.1:=⟨_,rfl⟩
 rw[←ha]at h3 h4⊢
 obtain⟨n,hn⟩:∃n,n=zaY bs a.2.1:=⟨_,rfl⟩
 rw[←hn]at h4⊢
 have hnv:zaN n.1:=by rw[hn];exact zeD h
 have hnn:i64 n.2.1:=by rw[hn];exact zcn h.l zb4
 have hbv:zaN b.1:=by rw[hb];exact zeD h
 unfold zaN at hnv hbv
 cases e1:(b.2.2 !=0)
 case true=>
  rw[if_pos (by simpa using e1)]
  repeat'(first|refine zq e1 ?_|exact zd e1|refine zc (h1) ?_|refine zg (h1) ?_|(refine zaa ?_ ?_<;>intro hb)|(refine And.intro ?_ ?_;exact zI)|(refine And.intro ?_ ?_<;>intro hg)|exact zC|fail)
  show(zar _ _∧zar _ _∧zar _ _∧zar _ _∧True)∧zar _ _∧zar _ _∧True
  simp[zar]
 rw[if_neg (by simpa using e1)]
 cases e2:(s.2.2 !=0)
 case true=>
  rw[if_pos (by simpa using e2)]
  repeat'(first|refine zq (I e1 e2) ?_|exact zd (I e1 e2)|refine zc (h1) ?_|refine zg (h1) ?_|refine zc (h2) ?_|refine zg (h2) ?_|(refine zaa ?_ ?_<;>intro hb)|(refine And.intro ?_ ?_;exact zI)|(refine And.intro ?_ ?_<;>intro hg)|exact zC|fail)
  show(zar _ _∧zar _ _∧zar _ _∧zar _ _∧True)∧zar _ _∧zar _ _∧True
  simp[zar]
 rw[if_neg (by simpa using e2)]
 cases e3:(a.2.2 !=0)
 case true=>
  rw[if_pos (by simpa using e3)]
  repeat'(first|refine zq (I e1 (I e2 e3)) ?_|exact zd (I e1 (I e2 e3))|refine zc (h1) ?_|refine zg (h1) ?_|refine zc (h2) ?_|refine zg (h2) ?_|refine zc (h3) ?_|refine zg (h3) ?_|(refine zaa ?_ ?_<;>intro hb)|(refine And.intro ?_ ?_;exact zI)|(refine And.intro ?_ ?_<;>intro hg)|exact zC|fail)
  show(zar _ _∧zar _ _∧zar _ _∧zar _ _∧True)∧zar _ _∧zar _ _∧True
  simp[zar]
 rw[if_neg (by simpa using e3)]
 cases e4:(n.2.2 !=0)
 case true=>
  rw[if_pos (by simpa using e4)]
  repeat'(first|refine zq (I e1 (I e2 (I e3 e4))) ?_|exact zd (I e1 (I e2 (I e3 e4)))|refine zc (h1) ?_|refine zg (h1) ?_|refine zc (h2) ?_|refine zg (h2) ?_|refine zc (h3) ?_|refine zg (h3) ?_|refine zc (h4) ?_|refine zg (h4) ?_|(refine zaa ?_ ?_<;>intro hb)|(refine And.intro ?_ ?_;exact zI)|(refine And.intro ?_ ?_<;>intro hg)|exact zC|fail)
  show(zar _ _∧zar _ _∧zar _ _∧zar _ _∧True)∧zar _ _∧zar _ _∧True
  simp[zar]
 rw[if_neg (by simpa using e4)]
 cases e5:decide (n.1>4)
 case true=>
  rw[if_pos (by simpa using e5)]
  repeat'(first|refine zq (I e1 (I e2 (I e3 (I e4 e5)))) ?_|exact zd (I e1 (I e2 (I e3 (I e4 e5))))|refine zc (h1) ?_|refine zg (h1) ?_|refine zc (h2) ?_|refine zg (h2) ?_|refine zc (h3) ?_|refine zg (h3) ?_|refine zc (h4) ?_|refine zg (h4) ?_|(refine zaa ?_ ?_<;>intro hb)|(refine And.intro ?_ ?_;exact zI)|(refine And.intro ?_ ?_<;>intro hg)|exact zC|fail)
  show(zar _ _∧zar _ _∧zar _ _∧zar _ _∧True)∧zar _ _∧zar _ _∧True
  simp[zar]
 rw[if_neg (by simpa using e5)]
 have hn4:n.1≤4:=by simpa using e5
 have hgk:=zfW (bs:=bs) (n:=n.1.toNat) (p:=n.2.1) (acc:=[]) (by simp)
 obtain⟨g,hg⟩:∃g,g=zbH bs n.1.toNat n.2.1 []:=⟨_,rfl⟩
 rw[←hg]at hgk⊢
 have h6:=zd6 ⟨b.1,s.1,a.1,g.1⟩ ⟨by have:=hgk.1;simp only[List.length_nil]at this;simp only;omega,fun x hx=>by have:=hgk.2 x hx;omega⟩
 clear hgk
 repeat'(first|refine zq (I e1 (I e2 (I e3 (I e4 e5)))) ?_|exact zd (I e1 (I e2 (I e3 (I e4 e5))))|refine zc (h1) ?_|refine zg (h1) ?_|refine zc (h2) ?_|refine zg (h2) ?_|refine zc (h3) ?_|refine zg (h3) ?_|refine zc (h4) ?_|refine zg (h4) ?_|(refine zaa ?_ ?_<;>intro hb)|(refine And.intro ?_ ?_;exact zI)|(refine And.intro ?_ ?_<;>intro hg)|exact zC|fail)
 refine zai (τ:=Nat×Int×List Grant) (fun t=>⟨[al bs.length (zad bs),ai t.2.1,dd,dd, .one (.ptr ⟨4,0,1⟩ 0),dd,dd,dd,dd,dd,dd,ai n.1, .one (.ptr ⟨12,0,1⟩ 0),ai t.1,dd,dd,dd,dd,dd,dd,dd,dd,dd,dd,dd,dd,dd,dd,dd,dd,dd,dd,dd,dd,dd,dd,dd,dd,dd,dd,dd,dd,dd,dd,dd,dd,dd,dd,dd,dd,dd,dd,dd,dd,dd,dd,dd,dd,dd,dd,dd,dd,dd,dd,dd,dd,dd,dd,dd,dd,dd,dd,dd,dd,dd,dd,dd,dd,dd,dd,dd,dd,dd,dd,dd,dd,dd,dd,dd,dd,dd,dd,dd,dd,dd,dd,dd,dd,dd,dd,dd,dd,dd,dd,dd,dd,dd,dd,dd,dd,dd,dd,dd],[(4,{next:=2,l:=[some {e:=1,var:=true,fz:=false,sz:=0,cells:=[di 0,di 0,di 0, .d (.v (.slice none 0 0))]},none,none,none,none]}),(12,{next:=2,l:=[some {e:=1,var:=true,fz:=false,sz:=0,cells:=[di b.1,di s.1,di a.1, .own ⟨12,4,1⟩ 0 t.2.2.length]},none,none,none,some {e:=1,var:=false,fz:=false,sz:=2,cells:=(zaL t.2.2).map C.d}]}),(103,⟨2,[]⟩),(104,⟨2,[]⟩)]⟩)
  (fun t=>t.1≤n.1.toNat∧i64 t.2.1∧t.2.2.length=t.1) (fun t=>zbH bs (n.1.toNat - t.1) t.2.1 t.2.2) (fun t=>n.1.toNat - t.1) (0,n.2.1,[])
  ((Gh.nilF 12 3 2 rfl).trans (Gh.canon [4,12] [103,104] [] zK rfl rfl)) ⟨Nat.zero_le _,hnn,rfl⟩ ?_
 intro⟨i,q,acc⟩ ⟨hi0,hq,hac⟩ hF K hK
 simp only[Nat.sub_zero]at hi0 hq hac hF hK⊢
 rw[←hg]at hF
 refine zw ?_
 refine zaa (fun hlt=> ?_) (fun hge=> ?_)
 ·have hi:i<n.1.toNat:=by simp at hlt;omega
  have hw:=zak hi (by omega)
  have ht:=zmT bs q h hq
  have hm:=zin bs (zbw bs q 12).2.1 h (zcn h.l (zfY h))
  have hst:n.1.toNat - i=(n.1.toNat - (i+1))+1:=by omega
  have hF2:=hF
  rw[hst,zbH]at hF2
  cases g1:((zbw bs q 12).2.2 !=0)
  ·have g1':(zbw bs q 12).2.2=0:=by simpa using g1
   rw[if_neg (by simp[g1'])]at hF2
   cases g2:((zc8 bs (zbw bs q 12).2.1).2.2 !=0)
   ·have g2':(zc8 bs (zbw bs q 12).2.1).2.2=0:=by simpa using g2
    rw[if_neg (by simp[g2'])]at hF2
    repeat'(first|refine zq (I g1 (I g2 @zaB)) ?_|exact zd (I g1 (I g2 @zaB))|refine zc (ht) ?_|refine zg (ht) ?_|refine zc (hm) ?_|refine zg (hm) ?_|(refine zaa ?_ ?_<;>intro hb)|(refine And.intro ?_ ?_;exact zI)|(refine And.intro ?_ ?_<;>intro hg)|exact zC|fail)
    refine hK _ (i+1,(zc8 bs (zbw bs q 12).2.1).2.1,acc++[⟨(zbw bs q 12).1,(zc8 bs (zbw bs q 12).2.1).1⟩]) (Gh.canon [4,12] [] [] (zk (I hw (I @List.length_append.{0} @List.length_singleton.{0}))) rfl (by simp only[List.length_append,List.length_singleton];rw[ze3];rfl)) ⟨hi,zcn h.l zc4,by simp only[List.length_append,List.length_singleton];omega⟩ ?_ (by simp only;omega)
    simp only
    rw[hF2,hF]
   ·have g2':(zc8 bs (zbw bs q 12).2.1).2.2≠0:=by simpa using g2
    rw[if_pos g2']at hF2
    rw[←hF2,if_pos g2']
    repeat'(first|refine zq (I g1 g2) ?_|exact zd (I g1 g2)|refine zc (ht) ?_|refine zg (ht) ?_|refine zc (hm) ?_|refine zg (hm) ?_|(refine zaa ?_ ?_<;>intro hb)|(refine And.intro ?_ ?_;exact zI)|(refine And.intro ?_ ?_<;>intro hg)|exact zC|fail)
    show(zar _ _∧zar _ _∧zar _ _∧zar _ _∧True)∧zar _ _∧zar _ _∧True
    simp[zar]
  ·have g1':(zbw bs q 12).2.2≠0:=by simpa using g1
   rw[if_pos g1']at hF2
   rw[←hF2,if_pos g1']
   repeat'(first|refine zq g1 ?_|exact zd g1|refine zc (ht) ?_|refine zg (ht) ?_|(refine zaa ?_ ?_<;>intro hb)|(refine And.intro ?_ ?_;exact zI)|(refine And.intro ?_ ?_<;>intro hg)|exact zC|fail)
   show(zar _ _∧zar _ _∧zar _ _∧zar _ _∧True)∧zar _ _∧zar _ _∧True
   simp[zar]
 ·have hi:i=n.1.toNat:=by
   have:¬(i:Int)<n.1:=by simpa using hge
   omega
  rw[hi,Nat.sub_self,zbH]at hF
  rw[←hF]at h6⊢
  rw[if_neg (by simp)]
  cases e7:zbI ⟨b.1,s.1,a.1,acc⟩
  ·rw[e7]at h6
   rw[if_pos rfl]
   repeat'(first|refine zq @zda ?_|exact zd @zda|refine zc (h6) ?_|refine zg (h6) ?_|(refine zaa ?_ ?_<;>intro hb)|(refine And.intro ?_ ?_;exact zI)|(refine And.intro ?_ ?_<;>intro hg)|exact zC|fail)
   show(zar _ _∧zar _ _∧zar _ _∧zar _ _∧True)∧zar _ _∧zar _ _∧True
   simp[zar]
  ·rw[e7]at h6
   rw[if_neg (by simp)]
   repeat'(first|refine zq @zda ?_|exact zd @zda|refine zc (h6) ?_|refine zg (h6) ?_|(refine zaa ?_ ?_<;>intro hb)|(refine And.intro ?_ ?_;exact zI)|(refine And.intro ?_ ?_<;>intro hg)|exact zC|fail)
   show(zar _ _∧zar _ _∧zar _ _∧zar _ _∧True)∧zar _ _∧zar _ _∧True
   simp[zar, -List.length_flatMap,zaB]
end Go.Proofs.YtbpmcjeeeiffhaaGreat
