import Derived.Test.YtliimajkpggbhaaGreatM8
namespace Go.Proofs.YtliimajkpggbhaaGreat
open Go.Pk
set_option maxRecDepth 100000
set_option linter.unusedSimpArgs false
set_option linter.unusedVariables false
def sameL {α:Type} (eq:α→α→Bool) (a b:List α):Bool:=(a.length==b.length)&&((a.zip b).all fun p=>eq p.1 p.2)
def ze1 {α:Type} (eq:α→α→Bool) (a b:List α) (i:Nat):Bool:=((a.drop i).zip (b.drop i)).all fun p=>eq p.1 p.2
theorem zbG {α:Type} {eq:α→α→Bool} {a b:List α} {i:Nat} (ha:i<a.length) (hb:i<b.length):ze1 eq a b i=(eq a[i] b[i]&&ze1 eq a b (i+1)):=by
 unfold ze1
 rw[List.drop_eq_getElem_cons ha,List.drop_eq_getElem_cons hb,List.zip_cons_cons,List.all_cons]
theorem zcj {α:Type} {eq:α→α→Bool} {a b:List α} {i:Nat} (ha:i=a.length):ze1 eq a b i=true:=by
 unfold ze1
 rw[List.drop_eq_nil_of_le (by omega)];simp
theorem zcP {α:Type} {eq:α→α→Bool} {a b:List α} (h:((a.length:Int) !=(b.length:Int))=true):sameL eq a b=false:=by
 unfold sameL
 simp at h
 simp;omega
theorem zcQ {α:Type} {eq:α→α→Bool} {a b:List α} (h:((a.length:Int) !=(b.length:Int))=false):a.length=b.length∧sameL eq a b=ze1 eq a b 0:=by
 have hl:a.length=b.length:=by simp at h;omega
 unfold sameL ze1
 simp[hl]
def zjJ (a b:Int):Bool:=a==b
def zri (a b:Grant):Bool:=(a.name.toList==b.name.toList)&&(a.token==b.token)
def znO (a b:Sess):Bool:=(a.client==b.client)&&((a.num==b.num)&&(a.renewed==b.renewed))
def eqLk (a b:Lk):Bool:=(a.name.toList==b.name.toList)&&(a.holder==b.holder)&&(a.token==b.token)&&sameL zjJ a.line b.line
def eqRe (a b:Reply):Bool:=(a.code==b.code)&&(a.session==b.session)&&(a.ahead==b.ahead)&&sameL zri a.held b.held
def eqMe (a b:Memo):Bool:=(a.client==b.client)&&(a.seq==b.seq)&&(a.reply.code==b.reply.code)&&(a.reply.session==b.reply.session)&&(a.reply.ahead==b.reply.ahead)&&sameL zri a.reply.held b.reply.held
def zwQ (a b:St):Bool:=(a.time==b.time)&&(a.num==b.num)&&(a.token==b.token)&&sameL znO a.sess b.sess&&sameL eqLk a.locks b.locks&&sameL eqMe a.memos b.memos
theorem ztZ {a b:List Int}:sameI a b=sameL zjJ a b:=rfl
set_option maxHeartbeats 1000000 in
theorem zvV (a b:List Int) (ha:a.length<2^30) (hb:b.length<2^30):CallOK Tryz.prog 128 [.f (al a.length (zaB a)), .f (al b.length (zaB b))] (fun r o=>r=[rb (sameL zjJ a b)]∧o=[]):=by
 refine zh Tryz.func128 Tryz.results128 Tryz.ntmps128 Tryz.call128 ?_
 simp only[Tryz.f128,Option.getD]
 cases hl:((a.length:Int) !=(b.length:Int))
 ·obtain⟨hle,hsr⟩:=zcQ (eq:=zjJ) hl
  rw[hsr]
  repeat'(first|exact zC|refine zq hl ?_|(apply zaa<;>intro hb)|(apply I;exact zI)|(apply I<;>intro hg))
  refine zaf (τ:=Nat) (fun i=>⟨(al a.length (zaB a)::al b.length (zaB b)::znW (ai a.length::ai i::zrf [])),[]⟩)
   (fun i=>i≤a.length) (fun i=>ze1 zjJ a b i) (fun i=>a.length - i) 0
   (Gh.canon [] [] [] zK rfl rfl) (Nat.zero_le _) ?_
  intro i hi0 hF K hK
  refine zw ?_
  refine zaa (fun hlt=> ?_) (fun hge=> ?_)
  ·have hi:i<a.length:=by simpa using hlt
   have hi2:i<b.length:=by omega
   have hat:=zcu hi
   have hat2:=zcu hi2
   have hw:=zai hi (by omega)
   have hlb:decide ((i:Int)<a.length)=true:=by simp;omega
   have hst:=zbG (eq:=zjJ) hi hi2
   cases hq:zjJ a[i] b[i]
   ·rw[hq]at hst
    have he:(a[i] !=b[i])=true:=by unfold zjJ at hq;rw[bne,hq];rfl
    rw[←hF,hst]
    repeat'(first|exact zC|refine zq (I hat (I hat2 (I hlb (I he (I @Bool.not_true (I @Bool.not_false (I @Bool.and_self (I @zaA zca)))))))) ?_|(apply zaa<;>intro hb)|(apply I;exact zI)|(apply I<;>intro hg))
   ·rw[hq,Bool.true_and]at hst
    have he:(a[i] !=b[i])=false:=by unfold zjJ at hq;rw[bne,hq];rfl
    repeat'(first|exact zC|refine zq (I hat (I hat2 (I hlb (I he (I @Bool.not_true (I @Bool.not_false (I @Bool.and_self (I @zaA zca)))))))) ?_|(apply zaa<;>intro hb)|(apply I;exact zI)|(apply I<;>intro hg))
    exact hK _ (i+1) (Gh.canon [] [] [] (zk hw) rfl rfl) hi hst.symm (by omega)
  ·have hi:i=a.length:=by
    have:¬(i:Int)<a.length:=by simpa using hge
    omega
   rw[←hF,zcj hi]
   repeat'(first|exact zC|refine zq0 ?_|(apply zaa<;>intro hb)|(apply I;exact zI)|(apply I<;>intro hg))
 ·rw[zcP hl]
  repeat'(first|exact zC|refine zq hl ?_|(apply zaa<;>intro hb)|(apply I;exact zI)|(apply I<;>intro hg))
set_option maxHeartbeats 1000000 in
theorem zq7 (a b:List Grant) (ha:a.length<2^30) (hb:b.length<2^30):CallOK Tryz.prog 131 [.f (al a.length (zaE a)), .f (al b.length (zaE b))] (fun r o=>r=[rb (sameL zri a b)]∧o=[]):=by
 refine zh Tryz.func131 Tryz.results131 Tryz.ntmps131 Tryz.call131 ?_
 simp only[Tryz.f131,Option.getD]
 cases hl:((a.length:Int) !=(b.length:Int))
 ·obtain⟨hle,hsr⟩:=zcQ (eq:=zri) hl
  rw[hsr]
  repeat'(first|exact zC|refine zq hl ?_|(apply zaa<;>intro hb)|(apply I;exact zI)|(apply I<;>intro hg))
  refine zaf (τ:=Nat) (fun i=>⟨(al a.length (zaE a)::al b.length (zaE b)::znW (ai a.length::ai i::zrf [])),[]⟩)
   (fun i=>i≤a.length) (fun i=>ze1 zri a b i) (fun i=>a.length - i) 0
   (Gh.canon [] [] [] zK rfl rfl) (Nat.zero_le _) ?_
  intro i hi0 hF K hK
  refine zw ?_
  refine zaa (fun hlt=> ?_) (fun hge=> ?_)
  ·have hi:i<a.length:=by simpa using hlt
   have hi2:i<b.length:=by omega
   have hat:=zco hi
   have hat2:=zco hi2
   have hw:=zai hi (by omega)
   have hlb:decide ((i:Int)<a.length)=true:=by simp;omega
   have hst:=zbG (eq:=zri) hi hi2
   cases hq:zri a[i] b[i]
   ·rw[hq]at hst
    have he:((a[i].name.toList==b[i].name.toList)&&(a[i].token==b[i].token))=false:=by exact hq
    rw[←hF,hst]
    repeat'(first|exact zC|refine zq (I hat (I hat2 (I hlb (I he (I @Bool.not_true (I @Bool.not_false (I @Bool.and_self (I @zaq zca)))))))) ?_|(apply zaa<;>intro hb)|(apply I;exact zI)|(apply I<;>intro hg))
   ·rw[hq,Bool.true_and]at hst
    have he:((a[i].name.toList==b[i].name.toList)&&(a[i].token==b[i].token))=true:=by exact hq
    repeat'(first|exact zC|refine zq (I hat (I hat2 (I hlb (I he (I @Bool.not_true (I @Bool.not_false (I @Bool.and_self (I @zaq zca)))))))) ?_|(apply zaa<;>intro hb)|(apply I;exact zI)|(apply I<;>intro hg))
    exact hK _ (i+1) (Gh.canon [] [] [] (zk hw) rfl rfl) hi hst.symm (by omega)
  ·have hi:i=a.length:=by
    have:¬(i:Int)<a.length:=by simpa using hge
    omega
   rw[←hF,zcj hi]
   repeat'(first|exact zC|refine zq0 ?_|(apply zaa<;>intro hb)|(apply I;exact zI)|(apply I<;>intro hg))
 ·rw[zcP hl]
  repeat'(first|exact zC|refine zq hl ?_|(apply zaa<;>intro hb)|(apply I;exact zI)|(apply I<;>intro hg))
set_option maxHeartbeats 1000000 in
theorem zvW (a b:List Sess) (ha:a.length<2^30) (hb:b.length<2^30):CallOK Tryz.prog 125 [.f (al a.length (zaQ a)), .f (al b.length (zaQ b))] (fun r o=>r=[rb (sameL znO a b)]∧o=[]):=by
 refine zh Tryz.func125 Tryz.results125 Tryz.ntmps125 Tryz.call125 ?_
 simp only[Tryz.f125,Option.getD]
 cases hl:((a.length:Int) !=(b.length:Int))
 ·obtain⟨hle,hsr⟩:=zcQ (eq:=znO) hl
  rw[hsr]
  repeat'(first|exact zC|refine zq hl ?_|(apply zaa<;>intro hb)|(apply I;exact zI)|(apply I<;>intro hg))
  refine zaf (τ:=Nat) (fun i=>⟨(al a.length (zaQ a)::al b.length (zaQ b)::znW (ai a.length::ai i::zrf [])),[]⟩)
   (fun i=>i≤a.length) (fun i=>ze1 znO a b i) (fun i=>a.length - i) 0
   (Gh.canon [] [] [] zK rfl rfl) (Nat.zero_le _) ?_
  intro i hi0 hF K hK
  refine zw ?_
  refine zaa (fun hlt=> ?_) (fun hge=> ?_)
  ·have hi:i<a.length:=by simpa using hlt
   have hi2:i<b.length:=by omega
   have hat:=zcb hi
   have hat2:=zcb hi2
   have hw:=zai hi (by omega)
   have hlb:decide ((i:Int)<a.length)=true:=by simp;omega
   have hst:=zbG (eq:=znO) hi hi2
   cases hq:znO a[i] b[i]
   ·rw[hq]at hst
    have he:((a[i].client==b[i].client)&&((a[i].num==b[i].num)&&(a[i].renewed==b[i].renewed)))=false:=by exact hq
    rw[←hF,hst]
    repeat'(first|exact zC|refine zq (I hat (I hat2 (I hlb (I he (I @Bool.not_true (I @Bool.not_false (I @Bool.and_self (I @zat zca)))))))) ?_|(apply zaa<;>intro hb)|(apply I;exact zI)|(apply I<;>intro hg))
   ·rw[hq,Bool.true_and]at hst
    have he:((a[i].client==b[i].client)&&((a[i].num==b[i].num)&&(a[i].renewed==b[i].renewed)))=true:=by exact hq
    repeat'(first|exact zC|refine zq (I hat (I hat2 (I hlb (I he (I @Bool.not_true (I @Bool.not_false (I @Bool.and_self (I @zat zca)))))))) ?_|(apply zaa<;>intro hb)|(apply I;exact zI)|(apply I<;>intro hg))
    exact hK _ (i+1) (Gh.canon [] [] [] (zk hw) rfl rfl) hi hst.symm (by omega)
  ·have hi:i=a.length:=by
    have:¬(i:Int)<a.length:=by simpa using hge
    omega
   rw[←hF,zcj hi]
   repeat'(first|exact zC|refine zq0 ?_|(apply zaa<;>intro hb)|(apply I;exact zI)|(apply I<;>intro hg))
 ·rw[zcP hl]
  repeat'(first|exact zC|refine zq hl ?_|(apply zaa<;>intro hb)|(apply I;exact zI)|(apply I<;>intro hg))
theorem zvX (a b:Lk) (ha:a.line.length<2^30) (hb:b.line.length<2^30):CallOK Tryz.prog 127 [.f (.agg (a.enc.map C.d)), .f (.agg (b.enc.map C.d))] (fun r o=>r=[rb (eqLk a b)]∧o=[]):=by
 refine zh Tryz.func127 Tryz.results127 Tryz.ntmps127 Tryz.call127 ?_
 simp only[Tryz.f127,Option.getD]
 have hi:=zvV a.line b.line ha hb
 repeat'(first|exact zC|refine zq0 ?_|refine zx (hi) ?_|(apply zaa<;>intro hb)|(apply I;exact zI)|(apply I<;>intro hg))
 rfl
theorem zvY (a b:Memo) (ha:a.reply.held.length<2^30) (hb:b.reply.held.length<2^30):CallOK Tryz.prog 130 [.f (.agg (a.enc.map C.d)), .f (.agg (b.enc.map C.d))] (fun r o=>r=[rb (eqMe a b)]∧o=[]):=by
 refine zh Tryz.func130 Tryz.results130 Tryz.ntmps130 Tryz.call130 ?_
 simp only[Tryz.f130,Option.getD]
 have hi:=zq7 a.reply.held b.reply.held ha hb
 repeat'(first|exact zC|refine zq0 ?_|refine zx (hi) ?_|(apply zaa<;>intro hb)|(apply I;exact zI)|(apply I<;>intro hg))
 rfl
abbrev afn (n:Nat):AV:= .one (.d (.v (.func (.func n) #[] #[])))
set_option maxHeartbeats 1000000 in
theorem zt1 (a b:List Lk) (ha:a.length<2^30) (hb:b.length<2^30) (hla:∀x∈a,x.line.length<2^30) (hlb2:∀x∈b,x.line.length<2^30):CallOK Tryz.prog 126 [.f (al a.length (zaj a)), .f (al b.length (zaj b)), .f (afn 127)] (fun r o=>r=[rb (sameL eqLk a b)]∧o=[]):=by
 refine zh Tryz.func126 Tryz.results126 Tryz.ntmps126 Tryz.call126 ?_
 simp only[Tryz.f126,Option.getD]
 have hfn:∀(Z:List Nat) (r:Rs) (xs ys:List AV),fgc Z r (afn 127::xs) (afn 127::ys)=fgc Z r xs ys:=fun Z r xs ys=>zik rfl rfl
 cases hl:((a.length:Int) !=(b.length:Int))
 ·obtain⟨hle,hsr⟩:=zcQ (eq:=eqLk) hl
  rw[hsr]
  repeat'(first|exact zC|refine zq hl ?_|(apply zaa<;>intro hb)|(apply I;exact zI)|(apply I<;>intro hg))
  refine zaf (τ:=Nat) (fun i=>⟨(dd::al b.length (zaj b)::afn 127::zrf (al a.length (zaj a)::ai a.length::ai i::zw0 [])),[(8,⟨2,[]⟩),(9,⟨2,[]⟩)]⟩)
   (fun i=>i≤a.length) (fun i=>ze1 eqLk a b i) (fun i=>a.length - i) 0
   (Gh.canon [] [8,9] [] (zk hfn) rfl rfl) (Nat.zero_le _) ?_
  intro i hi0 hF K hK
  refine zw ?_
  refine zaa (fun hlt=> ?_) (fun hge=> ?_)
  ·have hi:i<a.length:=by simpa using hlt
   have hi2:i<b.length:=by omega
   have hat:=za9 hi
   have hat2:=za9 hi2
   have hw:=zai hi (by omega)
   have hlb:decide ((i:Int)<a.length)=true:=by simp;omega
   have hst:=zbG (eq:=eqLk) hi hi2
   have hc:=zvX a[i] b[i] (hla _ (List.getElem_mem hi)) (hlb2 _ (List.getElem_mem hi2))
   cases hq:eqLk a[i] b[i]
   ·rw[hq]at hst
    have he:(!eqLk a[i] b[i])=true:=by rw[hq];rfl
    rw[←hF,hst]
    repeat'(first|exact zC|refine zq (I hat (I hat2 (I hlb (I he (I @Bool.not_true (I @Bool.not_false (I @Bool.and_self (I @zah zca)))))))) ?_|refine zx (hc) ?_|(apply zaa<;>intro hb)|(apply I;exact zI)|(apply I<;>intro hg))
   ·rw[hq,Bool.true_and]at hst
    have he:(!eqLk a[i] b[i])=false:=by rw[hq];rfl
    repeat'(first|exact zC|refine zq (I hat (I hat2 (I hlb (I he (I @Bool.not_true (I @Bool.not_false (I @Bool.and_self (I @zah zca)))))))) ?_|refine zx (hc) ?_|(apply zaa<;>intro hb)|(apply I;exact zI)|(apply I<;>intro hg))
    exact hK _ (i+1) (Gh.canon [] [] [] (zk (I hw hfn)) rfl rfl) hi hst.symm (by omega)
  ·have hi:i=a.length:=by
    have:¬(i:Int)<a.length:=by simpa using hge
    omega
   rw[←hF,zcj hi]
   repeat'(first|exact zC|refine zq0 ?_|(apply zaa<;>intro hb)|(apply I;exact zI)|(apply I<;>intro hg))
 ·rw[zcP hl]
  repeat'(first|exact zC|refine zq hl ?_|(apply zaa<;>intro hb)|(apply I;exact zI)|(apply I<;>intro hg))
set_option maxHeartbeats 1000000 in
theorem zt2 (a b:List Memo) (ha:a.length<2^30) (hb:b.length<2^30) (hla:∀x∈a,x.reply.held.length<2^30) (hlb2:∀x∈b,x.reply.held.length<2^30):CallOK Tryz.prog 129 [.f (al a.length (zaF a)), .f (al b.length (zaF b)), .f (afn 130)] (fun r o=>r=[rb (sameL eqMe a b)]∧o=[]):=by
 refine zh Tryz.func129 Tryz.results129 Tryz.ntmps129 Tryz.call129 ?_
 simp only[Tryz.f129,Option.getD]
 have hfn:∀(Z:List Nat) (r:Rs) (xs ys:List AV),fgc Z r (afn 130::xs) (afn 130::ys)=fgc Z r xs ys:=fun Z r xs ys=>zik rfl rfl
 cases hl:((a.length:Int) !=(b.length:Int))
 ·obtain⟨hle,hsr⟩:=zcQ (eq:=eqMe) hl
  rw[hsr]
  repeat'(first|exact zC|refine zq hl ?_|(apply zaa<;>intro hb)|(apply I;exact zI)|(apply I<;>intro hg))
  refine zaf (τ:=Nat) (fun i=>⟨(dd::al b.length (zaF b)::afn 130::zrf (al a.length (zaF a)::ai a.length::ai i::zw0 [])),[(8,⟨2,[]⟩),(9,⟨2,[]⟩)]⟩)
   (fun i=>i≤a.length) (fun i=>ze1 eqMe a b i) (fun i=>a.length - i) 0
   (Gh.canon [] [8,9] [] (zk hfn) rfl rfl) (Nat.zero_le _) ?_
  intro i hi0 hF K hK
  refine zw ?_
  refine zaa (fun hlt=> ?_) (fun hge=> ?_)
  ·have hi:i<a.length:=by simpa using hlt
   have hi2:i<b.length:=by omega
   have hat:=zdp hi
   have hat2:=zdp hi2
   have hw:=zai hi (by omega)
   have hlb:decide ((i:Int)<a.length)=true:=by simp;omega
   have hst:=zbG (eq:=eqMe) hi hi2
   have hc:=zvY a[i] b[i] (hla _ (List.getElem_mem hi)) (hlb2 _ (List.getElem_mem hi2))
   cases hq:eqMe a[i] b[i]
   ·rw[hq]at hst
    have he:(!eqMe a[i] b[i])=true:=by rw[hq];rfl
    rw[←hF,hst]
    repeat'(first|exact zC|refine zq (I hat (I hat2 (I hlb (I he (I @Bool.not_true (I @Bool.not_false (I @Bool.and_self (I @zaz zca)))))))) ?_|refine zx (hc) ?_|(apply zaa<;>intro hb)|(apply I;exact zI)|(apply I<;>intro hg))
   ·rw[hq,Bool.true_and]at hst
    have he:(!eqMe a[i] b[i])=false:=by rw[hq];rfl
    repeat'(first|exact zC|refine zq (I hat (I hat2 (I hlb (I he (I @Bool.not_true (I @Bool.not_false (I @Bool.and_self (I @zaz zca)))))))) ?_|refine zx (hc) ?_|(apply zaa<;>intro hb)|(apply I;exact zI)|(apply I<;>intro hg))
    exact hK _ (i+1) (Gh.canon [] [] [] (zk (I hw hfn)) rfl rfl) hi hst.symm (by omega)
  ·have hi:i=a.length:=by
    have:¬(i:Int)<a.length:=by simpa using hge
    omega
   rw[←hF,zcj hi]
   repeat'(first|exact zC|refine zq0 ?_|(apply zaa<;>intro hb)|(apply I;exact zI)|(apply I<;>intro hg))
 ·rw[zcP hl]
  repeat'(first|exact zC|refine zq hl ?_|(apply zaa<;>intro hb)|(apply I;exact zI)|(apply I<;>intro hg))
theorem zCU {p q r s t u:Bool}:((!(!p|| !q|| !r|| !s))&&t&&u)=(p&&q&&r&&s&&t&&u):=by cases p<;>cases q<;>cases r<;>cases s<;>simp
set_option maxHeartbeats 1000000 in
theorem zvZ (a b:St) (ha:Small a) (hb:Small b):CallOK Tryz.prog 81 [.f (.agg a.lent), .f (.agg b.lent)] (fun r o=>r=[rb (zwQ a b)]∧o=[]):=by
 refine zh Tryz.func81 Tryz.results81 Tryz.ntmps81 Tryz.call81 ?_
 simp only[Tryz.f81,Option.getD]
 have h1:=zvW a.sess b.sess ha.sess hb.sess
 have h2:=zt1 a.locks b.locks ha.locks hb.locks (fun k hk=>(ha.line k hk).1) (fun k hk=>(hb.line k hk).1)
 have h3:=zt2 a.memos b.memos ha.memos hb.memos (fun k hk=>(ha.held k hk).1) (fun k hk=>(hb.held k hk).1)
 cases hq:((((a.time !=b.time)||(a.num !=b.num))||(a.token !=b.token))|| !sameL znO a.sess b.sess)
 ·have he:zwQ a b=(sameL eqLk a.locks b.locks&&sameL eqMe a.memos b.memos):=by
   unfold zwQ
   rw[←zCU,show(!(!(a.time==b.time)|| !(a.num==b.num)|| !(a.token==b.token)|| !sameL znO a.sess b.sess))=true from by revert hq;simp only[bne];cases(a.time==b.time)<;>cases(a.num==b.num)<;>cases(a.token==b.token)<;>cases sameL znO a.sess b.sess<;>simp]
   simp
  rw[he]
  repeat'(first|exact zC|refine zq hq ?_|refine zx (h1) ?_|refine zx (h2) ?_|refine zx (h3) ?_|(apply zaa<;>intro hb)|(apply I;exact zI)|(apply I<;>intro hg))
 ·have he:zwQ a b=false:=by
   unfold zwQ
   rw[←zCU,show(!(!(a.time==b.time)|| !(a.num==b.num)|| !(a.token==b.token)|| !sameL znO a.sess b.sess))=false from by revert hq;simp only[bne];cases(a.time==b.time)<;>cases(a.num==b.num)<;>cases(a.token==b.token)<;>cases sameL znO a.sess b.sess<;>simp]
   simp
  rw[he]
  repeat'(first|exact zC|refine zq hq ?_|refine zx (h1) ?_|refine zx (h2) ?_|refine zx (h3) ?_|(apply zaa<;>intro hb)|(apply I;exact zI)|(apply I<;>intro hg))
set_option maxHeartbeats 1000000 in
theorem zq8 (a b:List Grant) (ha:a.length<2^30) (hb:b.length<2^30):CallOK Tryz.prog 153 [.f (al a.length (zaE a)), .f (al b.length (zaE b))] (fun r o=>r=[rb (sameL zri a b)]∧o=[]):=by
 refine zh Tryz.func153 Tryz.results153 Tryz.ntmps153 Tryz.call153 ?_
 simp only[Tryz.f153,Option.getD]
 cases hl:((a.length:Int) !=(b.length:Int))
 ·obtain⟨hle,hsr⟩:=zcQ (eq:=zri) hl
  rw[hsr]
  repeat'(first|exact zC|refine zq hl ?_|(apply zaa<;>intro hb)|(apply I;exact zI)|(apply I<;>intro hg))
  refine zaf (τ:=Nat) (fun i=>⟨(al a.length (zaE a)::al b.length (zaE b)::dq3 (ai i::zry [])),[]⟩)
   (fun i=>i≤a.length) (fun i=>ze1 zri a b i) (fun i=>a.length - i) 0
   (Gh.canon [] [] [] zK rfl rfl) (Nat.zero_le _) ?_
  intro i hi0 hF K hK
  refine zw ?_
  refine zaa (fun hlt=> ?_) (fun hge=> ?_)
  ·have hi:i<a.length:=by simpa using hlt
   have hi2:i<b.length:=by omega
   have hat:=zco hi
   have hat2:=zco hi2
   have hw:=zai hi (by omega)
   have hlb:decide ((i:Int)<a.length)=true:=by simp;omega
   have hst:=zbG (eq:=zri) hi hi2
   cases hq:zri a[i] b[i]
   ·rw[hq]at hst
    have he:((a[i].name.toList==b[i].name.toList)&&(a[i].token==b[i].token))=false:=by exact hq
    rw[←hF,hst]
    repeat'(first|exact zC|refine zq (I hat (I hat2 (I hlb (I he (I @Bool.not_true (I @Bool.not_false (I @Bool.and_self (I @zaq zca)))))))) ?_|(apply zaa<;>intro hb)|(apply I;exact zI)|(apply I<;>intro hg))
   ·rw[hq,Bool.true_and]at hst
    have he:((a[i].name.toList==b[i].name.toList)&&(a[i].token==b[i].token))=true:=by exact hq
    repeat'(first|exact zC|refine zq (I hat (I hat2 (I hlb (I he (I @Bool.not_true (I @Bool.not_false (I @Bool.and_self (I @zaq zca)))))))) ?_|(apply zaa<;>intro hb)|(apply I;exact zI)|(apply I<;>intro hg))
    exact hK _ (i+1) (Gh.canon [] [] [] (zk hw) rfl rfl) hi hst.symm (by omega)
  ·have hi:i=a.length:=by
    have:¬(i:Int)<a.length:=by simpa using hge
    omega
   rw[←hF,zcj hi]
   repeat'(first|exact zC|refine zq0 ?_|(apply zaa<;>intro hb)|(apply I;exact zI)|(apply I<;>intro hg))
 ·rw[zcP hl]
  repeat'(first|exact zC|refine zq hl ?_|(apply zaa<;>intro hb)|(apply I;exact zI)|(apply I<;>intro hg))
theorem znF (a b:Reply) (ha:a.held.length<2^30) (hb:b.held.length<2^30):CallOK Tryz.prog 104 [.f (.agg a.lent), .f (.agg b.lent)] (fun r o=>r=[rb (eqRe a b)]∧o=[]):=by
 refine zh Tryz.func104 Tryz.results104 Tryz.ntmps104 Tryz.call104 ?_
 simp only[Tryz.f104,Option.getD]
 have hi:=zq8 a.held b.held ha hb
 repeat'(first|exact zC|refine zq0 ?_|refine zx (hi) ?_|(apply zaa<;>intro hb)|(apply I;exact zI)|(apply I<;>intro hg))
 rfl
set_option maxHeartbeats 1000000 in
theorem zt3 (a b:List Sess) (ha:a.length<2^30) (hb:b.length<2^30):CallOK Tryz.prog 154 [.f (al a.length (zaQ a)), .f (al b.length (zaQ b))] (fun r o=>r=[rb (sameL znO a b)]∧o=[]):=by
 refine zh Tryz.func154 Tryz.results154 Tryz.ntmps154 Tryz.call154 ?_
 simp only[Tryz.f154,Option.getD]
 cases hl:((a.length:Int) !=(b.length:Int))
 ·obtain⟨hle,hsr⟩:=zcQ (eq:=znO) hl
  rw[hsr]
  repeat'(first|exact zC|refine zq hl ?_|(apply zaa<;>intro hb)|(apply I;exact zI)|(apply I<;>intro hg))
  refine zaf (τ:=Nat) (fun i=>⟨(al a.length (zaQ a)::al b.length (zaQ b)::dq3 (ai i::zry [])),[]⟩)
   (fun i=>i≤a.length) (fun i=>ze1 znO a b i) (fun i=>a.length - i) 0
   (Gh.canon [] [] [] zK rfl rfl) (Nat.zero_le _) ?_
  intro i hi0 hF K hK
  refine zw ?_
  refine zaa (fun hlt=> ?_) (fun hge=> ?_)
  ·have hi:i<a.length:=by simpa using hlt
   have hi2:i<b.length:=by omega
   have hat:=zcb hi
   have hat2:=zcb hi2
   have hw:=zai hi (by omega)
   have hlb:decide ((i:Int)<a.length)=true:=by simp;omega
   have hst:=zbG (eq:=znO) hi hi2
   cases hq:znO a[i] b[i]
   ·rw[hq]at hst
    have he:((a[i].client==b[i].client)&&((a[i].num==b[i].num)&&(a[i].renewed==b[i].renewed)))=false:=by exact hq
    rw[←hF,hst]
    repeat'(first|exact zC|refine zq (I hat (I hat2 (I hlb (I he (I @Bool.not_true (I @Bool.not_false (I @Bool.and_self (I @zat zca)))))))) ?_|(apply zaa<;>intro hb)|(apply I;exact zI)|(apply I<;>intro hg))
   ·rw[hq,Bool.true_and]at hst
    have he:((a[i].client==b[i].client)&&((a[i].num==b[i].num)&&(a[i].renewed==b[i].renewed)))=true:=by exact hq
    repeat'(first|exact zC|refine zq (I hat (I hat2 (I hlb (I he (I @Bool.not_true (I @Bool.not_false (I @Bool.and_self (I @zat zca)))))))) ?_|(apply zaa<;>intro hb)|(apply I;exact zI)|(apply I<;>intro hg))
    exact hK _ (i+1) (Gh.canon [] [] [] (zk hw) rfl rfl) hi hst.symm (by omega)
  ·have hi:i=a.length:=by
    have:¬(i:Int)<a.length:=by simpa using hge
    omega
   rw[←hF,zcj hi]
   repeat'(first|exact zC|refine zq0 ?_|(apply zaa<;>intro hb)|(apply I;exact zI)|(apply I<;>intro hg))
 ·rw[zcP hl]
  repeat'(first|exact zC|refine zq hl ?_|(apply zaa<;>intro hb)|(apply I;exact zI)|(apply I<;>intro hg))
set_option maxHeartbeats 1000000 in
theorem zq9 (a b:List Lk) (ha:a.length<2^30) (hb:b.length<2^30) (hla:∀x∈a,x.line.length<2^30) (hlb2:∀x∈b,x.line.length<2^30):CallOK Tryz.prog 155 [.f (al a.length (zaj a)), .f (al b.length (zaj b))] (fun r o=>r=[rb (sameL eqLk a b)]∧o=[]):=by
 refine zh Tryz.func155 Tryz.results155 Tryz.ntmps155 Tryz.call155 ?_
 simp only[Tryz.f155,Option.getD]
 cases hl:((a.length:Int) !=(b.length:Int))
 ·obtain⟨hle,hsr⟩:=zcQ (eq:=eqLk) hl
  rw[hsr]
  repeat'(first|exact zC|refine zq hl ?_|(apply zaa<;>intro hb)|(apply I;exact zI)|(apply I<;>intro hg))
  refine zaf (τ:=Nat) (fun i=>⟨(al a.length (zaj a)::al b.length (zaj b)::dq3 (ai i::zw3 (zdP []))),[]⟩)
   (fun i=>i≤a.length) (fun i=>ze1 eqLk a b i) (fun i=>a.length - i) 0
   (Gh.canon [] [] [] zK rfl rfl) (Nat.zero_le _) ?_
  intro i hi0 hF K hK
  refine zw ?_
  refine zaa (fun hlt=> ?_) (fun hge=> ?_)
  ·have hi:i<a.length:=by simpa using hlt
   have hi2:i<b.length:=by omega
   have hat:=za9 hi
   have hat2:=za9 hi2
   have hw:=zai hi (by omega)
   have hlb:decide ((i:Int)<a.length)=true:=by simp;omega
   have hst:=zbG (eq:=eqLk) hi hi2
   have hd1:(zaj a).drop (i*4+1)=iD a[i].holder::iD a[i].token:: .sl a[i].line.length (zaB a[i].line)::zaj (a.drop (i+1)):=by rw[←List.drop_drop,hat];rfl
   have hd2:(zaj b).drop (i*4+1)=iD b[i].holder::iD b[i].token:: .sl b[i].line.length (zaB b[i].line)::zaj (b.drop (i+1)):=by rw[←List.drop_drop,hat2];rfl
   have hsi:=zom a[i].line b[i].line (by have:=hla _ (List.getElem_mem hi);omega) (by have:=hlb2 _ (List.getElem_mem hi2);omega)
   cases hq:eqLk a[i] b[i]
   ·rw[hq]at hst
    have he:((((!(a[i].name.toList==b[i].name.toList))||(a[i].holder !=b[i].holder))||(a[i].token !=b[i].token))|| !sameI a[i].line b[i].line)=true:=by unfold eqLk at hq;rw[ztZ];revert hq;cases sameL zjJ a[i].line b[i].line<;>cases h1:(a[i].name.toList==b[i].name.toList)<;>cases h2:(a[i].holder==b[i].holder)<;>cases h3:(a[i].token==b[i].token)<;>simp[bne,h1,h2,h3]
    rw[←hF,hst]
    repeat'(first|exact zC|refine zq (I hat (I hat2 (I hlb (I he (I @Bool.not_true (I @Bool.not_false (I @Bool.and_self (I hd1 (I hd2 (I @zah zca)))))))))) ?_|refine zx (hsi) ?_|(apply zaa<;>intro hb)|(apply I;exact zI)|(apply I<;>intro hg))
   ·rw[hq,Bool.true_and]at hst
    have he:((((!(a[i].name.toList==b[i].name.toList))||(a[i].holder !=b[i].holder))||(a[i].token !=b[i].token))|| !sameI a[i].line b[i].line)=false:=by unfold eqLk at hq;rw[ztZ];revert hq;cases sameL zjJ a[i].line b[i].line<;>cases h1:(a[i].name.toList==b[i].name.toList)<;>cases h2:(a[i].holder==b[i].holder)<;>cases h3:(a[i].token==b[i].token)<;>simp[bne,h1,h2,h3]
    repeat'(first|exact zC|refine zq (I hat (I hat2 (I hlb (I he (I @Bool.not_true (I @Bool.not_false (I @Bool.and_self (I hd1 (I hd2 (I @zah zca)))))))))) ?_|refine zx (hsi) ?_|(apply zaa<;>intro hb)|(apply I;exact zI)|(apply I<;>intro hg))
    exact hK _ (i+1) (Gh.canon [] [] [] (zk hw) rfl rfl) hi hst.symm (by omega)
  ·have hi:i=a.length:=by
    have:¬(i:Int)<a.length:=by simpa using hge
    omega
   rw[←hF,zcj hi]
   repeat'(first|exact zC|refine zq0 ?_|(apply zaa<;>intro hb)|(apply I;exact zI)|(apply I<;>intro hg))
 ·rw[zcP hl]
  repeat'(first|exact zC|refine zq hl ?_|(apply zaa<;>intro hb)|(apply I;exact zI)|(apply I<;>intro hg))
set_option maxHeartbeats 1000000 in
theorem zra (a b:List Memo) (ha:a.length<2^30) (hb:b.length<2^30) (hla:∀x∈a,x.reply.held.length<2^30) (hlb2:∀x∈b,x.reply.held.length<2^30):CallOK Tryz.prog 156 [.f (al a.length (zaF a)), .f (al b.length (zaF b))] (fun r o=>r=[rb (sameL eqMe a b)]∧o=[]):=by
 refine zh Tryz.func156 Tryz.results156 Tryz.ntmps156 Tryz.call156 ?_
 simp only[Tryz.f156,Option.getD]
 cases hl:((a.length:Int) !=(b.length:Int))
 ·obtain⟨hle,hsr⟩:=zcQ (eq:=eqMe) hl
  rw[hsr]
  repeat'(first|exact zC|refine zq hl ?_|(apply zaa<;>intro hb)|(apply I;exact zI)|(apply I<;>intro hg))
  refine zaf (τ:=Nat) (fun i=>⟨(al a.length (zaF a)::al b.length (zaF b)::dq3 (ai i::dq9 (zdP []))),[]⟩)
   (fun i=>i≤a.length) (fun i=>ze1 eqMe a b i) (fun i=>a.length - i) 0
   (Gh.canon [] [] [] zK rfl rfl) (Nat.zero_le _) ?_
  intro i hi0 hF K hK
  refine zw ?_
  refine zaa (fun hlt=> ?_) (fun hge=> ?_)
  ·have hi:i<a.length:=by simpa using hlt
   have hi2:i<b.length:=by omega
   have hat:=zdp hi
   have hat2:=zdp hi2
   have hw:=zai hi (by omega)
   have hlb:decide ((i:Int)<a.length)=true:=by simp;omega
   have hst:=zbG (eq:=eqMe) hi hi2
   have hd1:(zaF a).drop (i*6+1)=iD a[i].seq::(a[i].reply.enc++zaF (a.drop (i+1))):=by rw[←List.drop_drop,hat];rfl
   have hd2:(zaF b).drop (i*6+1)=iD b[i].seq::(b[i].reply.enc++zaF (b.drop (i+1))):=by rw[←List.drop_drop,hat2];rfl
   have hsr:=znF a[i].reply b[i].reply (hla _ (List.getElem_mem hi)) (hlb2 _ (List.getElem_mem hi2))
   have hme:eqMe a[i] b[i]=((a[i].client==b[i].client)&&(a[i].seq==b[i].seq)&&eqRe a[i].reply b[i].reply):=by unfold eqMe eqRe;simp only[Bool.and_assoc]
   cases hq:eqMe a[i] b[i]
   ·rw[hq]at hst
    have he:(((a[i].client !=b[i].client)||(a[i].seq !=b[i].seq))|| !eqRe a[i].reply b[i].reply)=true:=by rw[hme]at hq;revert hq;cases eqRe a[i].reply b[i].reply<;>cases h1:(a[i].client==b[i].client)<;>cases h2:(a[i].seq==b[i].seq)<;>simp[bne,h1,h2]
    rw[←hF,hst]
    repeat'(first|exact zC|refine zq (I hat (I hat2 (I hlb (I he (I @Bool.not_true (I @Bool.not_false (I @Bool.and_self (I hd1 (I hd2 (I @zaz zca)))))))))) ?_|refine zx (hsr) ?_|(apply zaa<;>intro hb)|(apply I;exact zI)|(apply I<;>intro hg))
   ·rw[hq,Bool.true_and]at hst
    have he:(((a[i].client !=b[i].client)||(a[i].seq !=b[i].seq))|| !eqRe a[i].reply b[i].reply)=false:=by rw[hme]at hq;revert hq;cases eqRe a[i].reply b[i].reply<;>cases h1:(a[i].client==b[i].client)<;>cases h2:(a[i].seq==b[i].seq)<;>simp[bne,h1,h2]
    repeat'(first|exact zC|refine zq (I hat (I hat2 (I hlb (I he (I @Bool.not_true (I @Bool.not_false (I @Bool.and_self (I hd1 (I hd2 (I @zaz zca)))))))))) ?_|refine zx (hsr) ?_|(apply zaa<;>intro hb)|(apply I;exact zI)|(apply I<;>intro hg))
    exact hK _ (i+1) (Gh.canon [] [] [] (zk hw) rfl rfl) hi hst.symm (by omega)
  ·have hi:i=a.length:=by
    have:¬(i:Int)<a.length:=by simpa using hge
    omega
   rw[←hF,zcj hi]
   repeat'(first|exact zC|refine zq0 ?_|(apply zaa<;>intro hb)|(apply I;exact zI)|(apply I<;>intro hg))
 ·rw[zcP hl]
  repeat'(first|exact zC|refine zq hl ?_|(apply zaa<;>intro hb)|(apply I;exact zI)|(apply I<;>intro hg))
theorem zv0 (a b:St) (ha:Small a) (hb:Small b):CallOK Tryz.prog 107 [.f (.agg a.lent), .f (.agg b.lent)] (fun r o=>r=[rb (zwQ a b)]∧o=[]):=by
 refine zh Tryz.func107 Tryz.results107 Tryz.ntmps107 Tryz.call107 ?_
 simp only[Tryz.f107,Option.getD]
 have h1:=zt3 a.sess b.sess ha.sess hb.sess
 have h2:=zq9 a.locks b.locks ha.locks hb.locks (fun k hk=>(ha.line k hk).1) (fun k hk=>(hb.line k hk).1)
 have h3:=zra a.memos b.memos ha.memos hb.memos (fun k hk=>(ha.held k hk).1) (fun k hk=>(hb.held k hk).1)
 repeat'(first|exact zC|refine zq0 ?_|refine zx (h1) ?_|refine zx (h2) ?_|refine zx (h3) ?_|(apply zaa<;>intro hb)|(apply I;exact zI)|(apply I<;>intro hg))
 rfl
theorem ztY (acts:List Act) (hl:acts.length<2^60) (ha:∀a∈acts,zon a) (d v s:Int) (hd:zaN d) (hv:zaN v) (hs:zaN s):
  CallOK Tryz.prog 62 [.f (al acts.length (zlu acts)), .f (au d), .f (au v), .f (au s)] (fun r o=>r=[zAg ⟨d,v,s,zm5 acts⟩]∧o=[]):=by
 refine zh Tryz.func62 Tryz.results62 Tryz.ntmps62 Tryz.call62 ?_
 simp only[Tryz.f62,Option.getD]
 have hm:=zxU acts hl ha
 have w1:=zc9 hd
 have w2:=zc9 hv
 have w3:=zc9 hs
 repeat'(first|exact zC|refine zq (I w1 (I w2 w3)) ?_|refine zx (hm) ?_|(apply zaa<;>intro hb)|(apply I;exact zI)|(apply I<;>intro hg))
 rfl
def zCT (a b:Sn):Bool:=(a.done==b.done)&&((a.view==b.view)&&(a.slot==b.slot))&&zwQ a.st b.st
theorem zoG (a b:Sn) (ha:Small a.st) (hb:Small b.st):CallOK Tryz.prog 56 [.f (.agg a.lent), .f (.agg b.lent)] (fun r o=>r=[rb (zCT a b)]∧o=[]):=by
 refine zh Tryz.func56 Tryz.results56 Tryz.ntmps56 Tryz.call56 ?_
 simp only[Tryz.f56,Option.getD]
 have hs:=zv0 a.st b.st ha hb
 repeat'(first|exact zC|refine zq0 ?_|refine zx (hs) ?_|(apply zaa<;>intro hb)|(apply I;exact zI)|(apply I<;>intro hg))
 rfl
abbrev Z27:List Int:=List.replicate 27 0
def zoF (a b:Req):Bool:=(a.client==b.client)&&((a.seq==b.seq)&&((a.kind==b.kind)&&((a.session==b.session)&&(a.name.toList==b.name.toList))))
def eqBa (a b:Batch):Bool:=(a.fill==b.fill)&&(a.view==b.view)&&((a.tip.view==b.tip.view)&&(a.tip.slot==b.tip.slot))&&(a.time==b.time)&&sameL zoF a.reqs b.reqs
def zyg (a b:Vote):Bool:=(a.slot==b.slot)&&(a.ballot==b.ballot)&&eqBa a.batch b.batch
def zCR (a b:Prom):Bool:=(a.src==b.src)&&(a.done==b.done)&&((a.tip.view==b.tip.view)&&(a.tip.slot==b.tip.slot))&&(a.time==b.time)&&sameL zyg a.votes b.votes
set_option maxHeartbeats 1000000 in
theorem zvS (a b:List Req) (ha:a.length<2^30) (hb:b.length<2^30):CallOK Tryz.prog 124 [.f (al a.length (zbI a)), .f (al b.length (zbI b))] (fun r o=>r=[rb (sameL zoF a b)]∧o=[]):=by
 refine zh Tryz.func124 Tryz.results124 Tryz.ntmps124 Tryz.call124 ?_
 simp only[Tryz.f124,Option.getD]
 cases hl:((a.length:Int) !=(b.length:Int))
 ·obtain⟨hle,hsr⟩:=zcQ (eq:=zoF) hl
  rw[hsr]
  repeat'(first|exact zC|refine zq hl ?_|(apply zaa<;>intro hb)|(apply I;exact zI)|(apply I<;>intro hg))
  refine zaf (τ:=Nat) (fun i=>⟨(al a.length (zbI a)::al b.length (zbI b)::znW (ai a.length::ai i::zrf [])),[]⟩)
   (fun i=>i≤a.length) (fun i=>ze1 zoF a b i) (fun i=>a.length - i) 0
   (Gh.canon [] [] [] zK rfl rfl) (Nat.zero_le _) ?_
  intro i hi0 hF K hK
  refine zw ?_
  refine zaa (fun hlt=> ?_) (fun hge=> ?_)
  ·have hi:i<a.length:=by simpa using hlt
   have hi2:i<b.length:=by omega
   have hat:=zfc hi
   have hat2:=zfc hi2
   have hw:=zai hi (by omega)
   have hlb:decide ((i:Int)<a.length)=true:=by simp;omega
   have hst:=zbG (eq:=zoF) hi hi2
   cases hq:zoF a[i] b[i]
   ·rw[hq]at hst
    have he:((a[i].client==b[i].client)&&((a[i].seq==b[i].seq)&&((a[i].kind==b[i].kind)&&((a[i].session==b[i].session)&&(a[i].name.toList==b[i].name.toList)))))=false:=by exact hq
    rw[←hF,hst]
    repeat'(first|exact zC|refine zq (I hat (I hat2 (I hlb (I he (I @Bool.not_true (I @Bool.not_false (I @Bool.and_self (I @zaJ zca)))))))) ?_|(apply zaa<;>intro hb)|(apply I;exact zI)|(apply I<;>intro hg))
   ·rw[hq,Bool.true_and]at hst
    have he:((a[i].client==b[i].client)&&((a[i].seq==b[i].seq)&&((a[i].kind==b[i].kind)&&((a[i].session==b[i].session)&&(a[i].name.toList==b[i].name.toList)))))=true:=by exact hq
    repeat'(first|exact zC|refine zq (I hat (I hat2 (I hlb (I he (I @Bool.not_true (I @Bool.not_false (I @Bool.and_self (I @zaJ zca)))))))) ?_|(apply zaa<;>intro hb)|(apply I;exact zI)|(apply I<;>intro hg))
    exact hK _ (i+1) (Gh.canon [] [] [] (zk hw) rfl rfl) hi hst.symm (by omega)
  ·have hi:i=a.length:=by
    have:¬(i:Int)<a.length:=by simpa using hge
    omega
   rw[←hF,zcj hi]
   repeat'(first|exact zC|refine zq0 ?_|(apply zaa<;>intro hb)|(apply I;exact zI)|(apply I<;>intro hg))
 ·rw[zcP hl]
  repeat'(first|exact zC|refine zq hl ?_|(apply zaa<;>intro hb)|(apply I;exact zI)|(apply I<;>intro hg))
set_option maxHeartbeats 1000000 in
theorem zvT (a b:List Req) (ha:a.length<2^30) (hb:b.length<2^30):CallOK Tryz.prog 105 [.f (al a.length (zbI a)), .f (al b.length (zbI b))] (fun r o=>r=[rb (sameL zoF a b)]∧o=[]):=by
 refine zh Tryz.func105 Tryz.results105 Tryz.ntmps105 Tryz.call105 ?_
 simp only[Tryz.f105,Option.getD]
 cases hl:((a.length:Int) !=(b.length:Int))
 ·obtain⟨hle,hsr⟩:=zcQ (eq:=zoF) hl
  rw[hsr]
  repeat'(first|exact zC|refine zq hl ?_|(apply zaa<;>intro hb)|(apply I;exact zI)|(apply I<;>intro hg))
  refine zaf (τ:=Nat) (fun i=>⟨(al a.length (zbI a)::al b.length (zbI b)::dq3 (ai i::zry [])),[]⟩)
   (fun i=>i≤a.length) (fun i=>ze1 zoF a b i) (fun i=>a.length - i) 0
   (Gh.canon [] [] [] zK rfl rfl) (Nat.zero_le _) ?_
  intro i hi0 hF K hK
  refine zw ?_
  refine zaa (fun hlt=> ?_) (fun hge=> ?_)
  ·have hi:i<a.length:=by simpa using hlt
   have hi2:i<b.length:=by omega
   have hat:=zfc hi
   have hat2:=zfc hi2
   have hw:=zai hi (by omega)
   have hlb:decide ((i:Int)<a.length)=true:=by simp;omega
   have hst:=zbG (eq:=zoF) hi hi2
   cases hq:zoF a[i] b[i]
   ·rw[hq]at hst
    have he:((a[i].client==b[i].client)&&((a[i].seq==b[i].seq)&&((a[i].kind==b[i].kind)&&((a[i].session==b[i].session)&&(a[i].name.toList==b[i].name.toList)))))=false:=by exact hq
    rw[←hF,hst]
    repeat'(first|exact zC|refine zq (I hat (I hat2 (I hlb (I he (I @Bool.not_true (I @Bool.not_false (I @Bool.and_self (I @zaJ zca)))))))) ?_|(apply zaa<;>intro hb)|(apply I;exact zI)|(apply I<;>intro hg))
   ·rw[hq,Bool.true_and]at hst
    have he:((a[i].client==b[i].client)&&((a[i].seq==b[i].seq)&&((a[i].kind==b[i].kind)&&((a[i].session==b[i].session)&&(a[i].name.toList==b[i].name.toList)))))=true:=by exact hq
    repeat'(first|exact zC|refine zq (I hat (I hat2 (I hlb (I he (I @Bool.not_true (I @Bool.not_false (I @Bool.and_self (I @zaJ zca)))))))) ?_|(apply zaa<;>intro hb)|(apply I;exact zI)|(apply I<;>intro hg))
    exact hK _ (i+1) (Gh.canon [] [] [] (zk hw) rfl rfl) hi hst.symm (by omega)
  ·have hi:i=a.length:=by
    have:¬(i:Int)<a.length:=by simpa using hge
    omega
   rw[←hF,zcj hi]
   repeat'(first|exact zC|refine zq0 ?_|(apply zaa<;>intro hb)|(apply I;exact zI)|(apply I<;>intro hg))
 ·rw[zcP hl]
  repeat'(first|exact zC|refine zq hl ?_|(apply zaa<;>intro hb)|(apply I;exact zI)|(apply I<;>intro hg))
theorem ztW (a b:Batch) (ha:a.reqs.length<2^30) (hb:b.reqs.length<2^30):CallOK Tryz.prog 80 [.f (.agg a.lent), .f (.agg b.lent)] (fun r o=>r=[rb (eqBa a b)]∧o=[]):=by
 refine zh Tryz.func80 Tryz.results80 Tryz.ntmps80 Tryz.call80 ?_
 simp only[Tryz.f80,Option.getD]
 have hi:=zvS a.reqs b.reqs ha hb
 repeat'(first|exact zC|refine zq0 ?_|refine zx (hi) ?_|(apply zaa<;>intro hb)|(apply I;exact zI)|(apply I<;>intro hg))
 rfl
theorem znE (a b:Batch) (ha:a.reqs.length<2^30) (hb:b.reqs.length<2^30):CallOK Tryz.prog 54 [.f (.agg a.lent), .f (.agg b.lent)] (fun r o=>r=[rb (eqBa a b)]∧o=[]):=by
 refine zh Tryz.func54 Tryz.results54 Tryz.ntmps54 Tryz.call54 ?_
 simp only[Tryz.f54,Option.getD]
 have hi:=zvT a.reqs b.reqs ha hb
 repeat'(first|exact zC|refine zq0 ?_|refine zx (hi) ?_|(apply zaa<;>intro hb)|(apply I;exact zI)|(apply I<;>intro hg))
 rfl
set_option maxHeartbeats 1000000 in
theorem ztX (a b:List Vote) (ha:a.length<2^30) (hb:b.length<2^30) (hla:∀x∈a,x.batch.reqs.length<2^30) (hlb2:∀x∈b,x.batch.reqs.length<2^30):CallOK Tryz.prog 106 [.f (al a.length (zbh a)), .f (al b.length (zbh b))] (fun r o=>r=[rb (sameL zyg a b)]∧o=[]):=by
 refine zh Tryz.func106 Tryz.results106 Tryz.ntmps106 Tryz.call106 ?_
 simp only[Tryz.f106,Option.getD]
 cases hl:((a.length:Int) !=(b.length:Int))
 ·obtain⟨hle,hsr⟩:=zcQ (eq:=zyg) hl
  rw[hsr]
  repeat'(first|exact zC|refine zq hl ?_|(apply zaa<;>intro hb)|(apply I;exact zI)|(apply I<;>intro hg))
  refine zaf (τ:=Nat) (fun i=>⟨(al a.length (zbh a)::al b.length (zbh b)::dq3 (ai i::dq9 (zdP []))),[]⟩)
   (fun i=>i≤a.length) (fun i=>ze1 zyg a b i) (fun i=>a.length - i) 0
   (Gh.canon [] [] [] zK rfl rfl) (Nat.zero_le _) ?_
  intro i hi0 hF K hK
  refine zw ?_
  refine zaa (fun hlt=> ?_) (fun hge=> ?_)
  ·have hi:i<a.length:=by simpa using hlt
   have hi2:i<b.length:=by omega
   have hat:=zil hi
   have hat2:=zil hi2
   have hw:=zai hi (by omega)
   have hlb:decide ((i:Int)<a.length)=true:=by simp;omega
   have hst:=zbG (eq:=zyg) hi hi2
   have hd1:(zbh a).drop (i*8+1)=iD a[i].ballot::(a[i].batch.enc++zbh (a.drop (i+1))):=by rw[←List.drop_drop,hat];rfl
   have hd2:(zbh b).drop (i*8+1)=iD b[i].ballot::(b[i].batch.enc++zbh (b.drop (i+1))):=by rw[←List.drop_drop,hat2];rfl
   have hd3:(zbh a).drop (i*8+2)=a[i].batch.enc++zbh (a.drop (i+1)):=by rw[←List.drop_drop,hat];rfl
   have hd4:(zbh b).drop (i*8+2)=b[i].batch.enc++zbh (b.drop (i+1)):=by rw[←List.drop_drop,hat2];rfl
   have hsr:=znE a[i].batch b[i].batch (hla _ (List.getElem_mem hi)) (hlb2 _ (List.getElem_mem hi2))
   have hme:zyg a[i] b[i]=((a[i].slot==b[i].slot)&&(a[i].ballot==b[i].ballot)&&eqBa a[i].batch b[i].batch):=rfl
   cases hq:zyg a[i] b[i]
   ·rw[hq]at hst
    have he:(((a[i].slot !=b[i].slot)||(a[i].ballot !=b[i].ballot))|| !eqBa a[i].batch b[i].batch)=true:=by rw[hme]at hq;revert hq;cases eqBa a[i].batch b[i].batch<;>cases h1:(a[i].slot==b[i].slot)<;>cases h2:(a[i].ballot==b[i].ballot)<;>simp[bne,h1,h2]
    rw[←hF,hst]
    repeat'(first|exact zC|refine zq (I hat (I hat2 (I hlb (I he (I @Bool.not_true (I @Bool.not_false (I @Bool.and_self (I hd1 (I hd2 (I hd3 (I hd4 (I @zaI zca)))))))))))) ?_|refine zx (hsr) ?_|(apply zaa<;>intro hb)|(apply I;exact zI)|(apply I<;>intro hg))
   ·rw[hq,Bool.true_and]at hst
    have he:(((a[i].slot !=b[i].slot)||(a[i].ballot !=b[i].ballot))|| !eqBa a[i].batch b[i].batch)=false:=by rw[hme]at hq;revert hq;cases eqBa a[i].batch b[i].batch<;>cases h1:(a[i].slot==b[i].slot)<;>cases h2:(a[i].ballot==b[i].ballot)<;>simp[bne,h1,h2]
    repeat'(first|exact zC|refine zq (I hat (I hat2 (I hlb (I he (I @Bool.not_true (I @Bool.not_false (I @Bool.and_self (I hd1 (I hd2 (I hd3 (I hd4 (I @zaI zca)))))))))))) ?_|refine zx (hsr) ?_|(apply zaa<;>intro hb)|(apply I;exact zI)|(apply I<;>intro hg))
    exact hK _ (i+1) (Gh.canon [] [] [] (zk hw) rfl rfl) hi hst.symm (by omega)
  ·have hi:i=a.length:=by
    have:¬(i:Int)<a.length:=by simpa using hge
    omega
   rw[←hF,zcj hi]
   repeat'(first|exact zC|refine zq0 ?_|(apply zaa<;>intro hb)|(apply I;exact zI)|(apply I<;>intro hg))
 ·rw[zcP hl]
  repeat'(first|exact zC|refine zq hl ?_|(apply zaa<;>intro hb)|(apply I;exact zI)|(apply I<;>intro hg))
theorem zvU (a b:Prom) (ha:a.votes.length<2^30) (hb:b.votes.length<2^30) (hla:∀x∈a.votes,x.batch.reqs.length<2^30) (hlb2:∀x∈b.votes,x.batch.reqs.length<2^30):CallOK Tryz.prog 55 [.f (.agg a.lent), .f (.agg b.lent)] (fun r o=>r=[rb (zCR a b)]∧o=[]):=by
 refine zh Tryz.func55 Tryz.results55 Tryz.ntmps55 Tryz.call55 ?_
 simp only[Tryz.f55,Option.getD]
 have hi:=ztX a.votes b.votes ha hb hla hlb2
 repeat'(first|exact zC|refine zq0 ?_|refine zx (hi) ?_|(apply zaa<;>intro hb)|(apply I;exact zI)|(apply I<;>intro hg))
 rfl
theorem zyh (a b:Memo):((a.client==b.client)&&(a.seq==b.seq)&&eqRe a.reply b.reply)=eqMe a b:=by unfold eqMe eqRe;simp only[Bool.and_assoc]
theorem zq6 (a b:Memo) (ha:a.reply.held.length<2^30) (hb:b.reply.held.length<2^30):CallOK Tryz.prog 53 [.f (.agg a.lent), .f (.agg b.lent)] (fun r o=>r=[rb (eqMe a b)]∧o=[]):=by
 refine zh Tryz.func53 Tryz.results53 Tryz.ntmps53 Tryz.call53 ?_
 simp only[Tryz.f53,Option.getD]
 have h:=znF a.reply b.reply ha hb
 repeat'(first|exact zC|refine zq0 ?_|refine zx (h) ?_|(apply zaa<;>intro hb)|(apply I;exact zI)|(apply I<;>intro hg))
 rw[←zyh]
structure Pkt where
 kind:Int
 ballot:Int
 slot:Int
 done:Int
 req:Req
 ans:Memo
 bat:Batch
 prom:Prom
 snap:Sn
abbrev snE (s:Sn):List D:=iD s.done::iD s.view::iD s.slot::stE s.st
abbrev Pkt.enc (p:Pkt):List D:=iD p.kind::iD p.ballot::iD p.slot::iD p.done::(p.req.enc++(p.ans.enc++(p.bat.enc++(p.prom.enc++snE p.snap))))
abbrev Pkt.lent (p:Pkt):List C:=di p.kind::di p.ballot::di p.slot::di p.done::(p.req.enc.map C.d++(p.ans.lent++(p.bat.lent++(p.prom.lent++p.snap.lent))))
structure Pkt.ok (p:Pkt):Prop where
 k:i64 p.kind
 b:i64 p.ballot
 s:i64 p.slot
 d:i64 p.done
 req:p.req.ok
 ans:zcf p.ans.reply
 bat:p.bat.ok
 bl:p.bat.reqs.length<2^30
 prom:p.prom.ok
 pl:p.prom.votes.length<2^30
 vl:∀x∈p.prom.votes,x.batch.reqs.length<2^30
 snap:Small p.snap.st
def zCS (a b:Pkt):Bool:=(a.kind==b.kind)&&(a.ballot==b.ballot)&&(a.slot==b.slot)&&(a.done==b.done)&&zoF a.req b.req&&eqMe a.ans b.ans&&eqBa a.bat b.bat&&zCR a.prom b.prom&&zCT a.snap b.snap
theorem zyi (a b:Pkt) (ha:a.ok) (hb:b.ok):CallOK Tryz.prog 17 [.f (.agg a.lent), .f (.agg b.lent)] (fun r o=>r=[rb (zCS a b)]∧o=[]):=by
 refine zh Tryz.func17 Tryz.results17 Tryz.ntmps17 Tryz.call17 ?_
 simp only[Tryz.f17,Option.getD]
 have h1:=zq6 a.ans b.ans (by have:=ha.ans.1;omega) (by have:=hb.ans.1;omega)
 have h2:=znE a.bat b.bat ha.bl hb.bl
 have h3:=zvU a.prom b.prom ha.pl hb.pl ha.vl hb.vl
 have h4:=zoG a.snap b.snap ha.snap hb.snap
 repeat'(first|exact zC|refine zq0 ?_|refine zx (h1) ?_|refine zx (h2) ?_|refine zx (h3) ?_|refine zx (h4) ?_|(apply zaa<;>intro hb)|(apply I;exact zI)|(apply I<;>intro hg))
 rfl
abbrev zyC:St:=⟨0,0,0,[],[],[]⟩
abbrev bat00:Batch:=⟨false,0,⟨0,0⟩,0,[]⟩
def zcB (p:Pkt):Bool:=p.ballot==0&&p.slot==0&&p.done==0&&zoF p.req ⟨0,0,0,0, .empty⟩&&p.ans.client==0&&p.ans.seq==0&&p.ans.reply.code==0&&p.ans.reply.session==0&&p.ans.reply.ahead==0&&(p.ans.reply.held.length:Int)==0&&
 eqBa p.bat bat00&&p.prom.src==0&&p.prom.done==0&&((p.prom.tip.view==0)&&(p.prom.tip.slot==0))&&p.prom.time==0&&(p.prom.votes.length:Int)==0&&p.snap.done==0&&((p.snap.view==0)&&(p.snap.slot==0))&&zwQ p.snap.st zyC
theorem zhU (v a:Int):CallOK Tryz.prog 36 [.f (ai v), .f (ai a)] (fun r o=>r=[rb (decide (v≥a)&&decide (v≤2305843009213693952))]∧o=[]):=by
 refine zh Tryz.func36 Tryz.results36 Tryz.ntmps36 Tryz.call36 ?_
 simp only[Tryz.f36,Option.getD]
 repeat'(first|exact zC|refine zq0 ?_|(apply zaa<;>intro hb)|(apply I;exact zI)|(apply I<;>intro hg))
set_option maxHeartbeats 2000000 in
theorem zcJ (p:Pkt) (h:p.ok):CallOK Tryz.prog 40 [.f (.agg p.lent)] (fun r o=>r=[rb (zcB p)]∧o=[]):=by
 refine zh Tryz.func40 Tryz.results40 Tryz.ntmps40 Tryz.call40 ?_
 simp only[Tryz.f40,Option.getD]
 have h1:=ztW p.bat bat00 h.bl (by simp)
 have h2:=zvZ p.snap.st zyC h.snap ⟨by simp,by simp,by simp,by simp,by simp⟩
 repeat'(first|exact zC|refine zq0 ?_|refine zx (h1) ?_|refine zx (h2) ?_|(apply zaa<;>intro hb)|(apply I;exact zI)|(apply I<;>intro hg))
 rfl
abbrev inW (v a:Int):Bool:=decide (v≥a)&&decide (v≤2305843009213693952)
def zyf (p:Pkt):Pkt:=if p.kind=1 then {p with req:=⟨0,0,0,0, .empty⟩}else if p.kind=2 then {p with ans:=⟨0,0,⟨0,0,0,[]⟩⟩}else if p.kind=3 then {p with ballot:=0}else if p.kind=4 then {p with ballot:=0,prom:=⟨0,0,⟨0,0⟩,0,[]⟩}else if p.kind=5 then {p with ballot:=0,slot:=0,bat:=bat00}else if p.kind=6 then {p with ballot:=0,slot:=0,bat:=bat00}else if p.kind=7 then {p with ballot:=0,done:=0}else if p.kind=8 then {p with done:=0}else if p.kind=9 then {p with snap:=⟨0,0,0,zyC⟩}else p
def okP (p:Pkt):Bool:=if p.kind=1 then Req.may p.req else if p.kind=2 then answerB p.ans else if p.kind=3 then inW p.ballot 0 else if p.kind=4 then inW p.ballot 0&&Prom.may p.prom else if p.kind=5 then inW p.ballot 0&&inW p.slot 1&&Batch.may p.bat else if p.kind=6 then inW p.ballot 0&&inW p.slot 1&&Batch.may p.bat else if p.kind=7 then inW p.ballot 0&&inW p.done 0 else if p.kind=8 then inW p.done 0 else if p.kind=9 then zbq p.snap else false
def ziA (p:Pkt):Bool:=okP p&&zcB (zyf p)
theorem kinds (k:Int):k=1∨k=2∨k=3∨k=4∨k=5∨k=6∨k=7∨k=8∨k=9∨((k==1)=false∧(k==2)=false∧(k==3)=false∧(k==4)=false∧(k==5)=false∧(k==6)=false∧(k==7)=false∧(k==8)=false∧(k==9)=false):=by
 simp only[beq_eq_false_iff_ne,ne_eq];omega
theorem ztV:Small zyC:=⟨by simp,by simp,by simp,by simp,by simp⟩
theorem zdh:i64 0:=by unfold i64;omega
theorem zwP:bat00.ok:=⟨zdh,zdh,zdh,zdh,by simp,by simp⟩
set_option maxHeartbeats 4000000 in
theorem zct (p:Pkt) (h:p.ok):CallOK Tryz.prog 13 [.f (.agg p.lent)] (fun r o=>r=[rb (ziA p)]∧o=[]):=by
 refine zh Tryz.func13 Tryz.results13 Tryz.ntmps13 Tryz.call13 ?_
 simp only[Tryz.f13,Option.getD]
 obtain⟨kind,ballot,slot,done,req,ans,bat,prom,snap⟩:=p
 obtain⟨hk,hb,hs,hd,hreq,hans,hbat,hbl,hprom,hpl,hvl,hsn⟩:=h
 simp only at hk hb hs hd hreq hans hbat hbl hprom hpl hvl hsn
 have w1:=zhU ballot 0
 have w2:=zhU slot 1
 have w3:=zhU done 0
 rcases kinds kind with rfl|rfl|rfl|rfl|rfl|rfl|rfl|rfl|rfl|⟨k1,k2,k3,k4,k5,k6,k7,k8,k9⟩
 ·have he:=zcJ ⟨1,ballot,slot,done,⟨0,0,0,0, .empty⟩,ans,bat,prom,snap⟩ ⟨hk,hb,hs,hd,⟨zdh,zdh,zdh,zdh,(by show(ByteArray.empty).size<2^62;decide)⟩,hans,hbat,hbl,hprom,hpl,hvl,hsn⟩
  have hm:=zfD req hreq
  repeat'(first|exact zC|refine zq0 ?_|refine zx (hm) ?_|refine zx (he) ?_|(apply zaa<;>intro hb)|(apply I;exact zI)|(apply I<;>intro hg))
  rfl
 ·have he:=zcJ ⟨2,ballot,slot,done,req,⟨0,0,⟨0,0,0,[]⟩⟩,bat,prom,snap⟩ ⟨hk,hb,hs,hd,hreq,⟨by simp,by simp⟩,hbat,hbl,hprom,hpl,hvl,hsn⟩
  have hm:=zel ans hans
  repeat'(first|exact zC|refine zq0 ?_|refine zx (hm) ?_|refine zx (he) ?_|(apply zaa<;>intro hb)|(apply I;exact zI)|(apply I<;>intro hg))
  rfl
 ·have he:=zcJ ⟨3,0,slot,done,req,ans,bat,prom,snap⟩ ⟨hk,zdh,hs,hd,hreq,hans,hbat,hbl,hprom,hpl,hvl,hsn⟩
  repeat'(first|exact zC|refine zq0 ?_|refine zx (w1) ?_|refine zx (he) ?_|(apply zaa<;>intro hb)|(apply I;exact zI)|(apply I<;>intro hg))
  rfl
 ·have he:=zcJ ⟨4,0,slot,done,req,ans,bat,⟨0,0,⟨0,0⟩,0,[]⟩,snap⟩ ⟨hk,zdh,hs,hd,hreq,hans,hbat,hbl,⟨zdh,zdh,zdh,zdh,zdh,by simp,by simp⟩,by simp,by simp,hsn⟩
  have hm:=zrd prom hprom
  repeat'(first|exact zC|refine zq0 ?_|refine zx (hm) ?_|refine zx (w1) ?_|refine zx (he) ?_|(apply zaa<;>intro hb)|(apply I;exact zI)|(apply I<;>intro hg))
  rfl
 ·have he:=zcJ ⟨5,0,0,done,req,ans,bat00,prom,snap⟩ ⟨hk,zdh,zdh,hd,hreq,hans,zwP,by simp,hprom,hpl,hvl,hsn⟩
  have hm:=zdo bat hbat
  repeat'(first|exact zC|refine zq0 ?_|refine zx (hm) ?_|refine zx (w1) ?_|refine zx (w2) ?_|refine zx (he) ?_|(apply zaa<;>intro hb)|(apply I;exact zI)|(apply I<;>intro hg))
  rfl
 ·have he:=zcJ ⟨6,0,0,done,req,ans,bat00,prom,snap⟩ ⟨hk,zdh,zdh,hd,hreq,hans,zwP,by simp,hprom,hpl,hvl,hsn⟩
  have hm:=zdo bat hbat
  repeat'(first|exact zC|refine zq0 ?_|refine zx (hm) ?_|refine zx (w1) ?_|refine zx (w2) ?_|refine zx (he) ?_|(apply zaa<;>intro hb)|(apply I;exact zI)|(apply I<;>intro hg))
  rfl
 ·have he:=zcJ ⟨7,0,slot,0,req,ans,bat,prom,snap⟩ ⟨hk,zdh,hs,zdh,hreq,hans,hbat,hbl,hprom,hpl,hvl,hsn⟩
  repeat'(first|exact zC|refine zq0 ?_|refine zx (w1) ?_|refine zx (w3) ?_|refine zx (he) ?_|(apply zaa<;>intro hb)|(apply I;exact zI)|(apply I<;>intro hg))
  rfl
 ·have he:=zcJ ⟨8,ballot,slot,0,req,ans,bat,prom,snap⟩ ⟨hk,hb,hs,zdh,hreq,hans,hbat,hbl,hprom,hpl,hvl,hsn⟩
  repeat'(first|exact zC|refine zq0 ?_|refine zx (w3) ?_|refine zx (he) ?_|(apply zaa<;>intro hb)|(apply I;exact zI)|(apply I<;>intro hg))
  rfl
 ·have he:=zcJ ⟨9,ballot,slot,done,req,ans,bat,prom,⟨0,0,0,zyC⟩⟩ ⟨hk,hb,hs,hd,hreq,hans,hbat,hbl,hprom,hpl,hvl,ztV⟩
  have hm:=zhw snap hsn
  repeat'(first|exact zC|refine zq0 ?_|refine zx (hm) ?_|refine zx (he) ?_|(apply zaa<;>intro hb)|(apply I;exact zI)|(apply I<;>intro hg))
  rfl
 ·have he:=zcJ ⟨kind,ballot,slot,done,req,ans,bat,prom,snap⟩ ⟨hk,hb,hs,hd,hreq,hans,hbat,hbl,hprom,hpl,hvl,hsn⟩
  have hz:ziA ⟨kind,ballot,slot,done,req,ans,bat,prom,snap⟩=false:=by
   simp only[beq_eq_false_iff_ne,ne_eq]at k1 k2 k3 k4 k5 k6 k7 k8 k9
   unfold ziA okP
   simp only[k1,k2,k3,k4,k5,k6,k7,k8,k9,if_false,Bool.false_and]
  rw[hz]
  repeat'(first|exact zC|refine zq (I k1 (I k2 (I k3 (I k4 (I k5 (I k6 (I k7 (I k8 k9)))))))) ?_|refine zx (he) ?_|(apply zaa<;>intro hb)|(apply I;exact zI)|(apply I<;>intro hg))
def zq4 (v:Vote):List Int:=za4 [v.slot,v.ballot]++zhq v.batch
abbrev znD (p:Prom):List Int:=[p.done,p.tip.view,p.tip.slot,p.time]
def pr0 (p:Prom):List Int:=[p.src]++(za4 (znD p)++[(p.votes.length:Int)])
def pr1 (p:Prom) (i:Nat):List Int:=pr0 p++(p.votes.take i).flatMap zq4
def zhT (p:Prom):List Int:=pr1 p p.votes.length
theorem zpZ {p:Prom}:pr1 p 0=pr0 p:=by simp[pr1]
theorem zye (p:Prom):(pr0 p).length=34:=by simp[pr0,zci]
theorem ziz {b:Batch} (h:Batch.may b=true):(zhq b).length≤127:=by
 unfold zhq
 split
 ·simp
 ·obtain⟨h1,h2⟩:=zfE h
  have:=ztM h2 b.reqs.length
  omega
theorem ztR {v:Vote} (h:Batch.may v.batch=true):(zq4 v).length≤143:=by
 have:=ziz h
 rw[zq4,List.length_append,zci]
 simp only[List.length_cons,List.length_nil]
 omega
theorem zvR {p:Prom} {i:Nat} (hi:i<p.votes.length):pr1 p (i+1)=pr1 p i++zq4 p.votes[i]:=by
 rw[pr1,zcV _ hi,pr1,List.append_assoc]
theorem ztS {p:Prom} (h:∀v∈p.votes,Batch.may v.batch=true) (i:Nat):(pr1 p i).length≤34+i*143:=by
 have:=zdT zq4 (l:=p.votes.take i) (k:=143) fun v hv=>ztR (h v (List.mem_of_mem_take hv))
 have h2:(p.votes.take i).length*143≤i*143:=Nat.mul_le_mul_right _ (by rw[List.length_take];omega)
 rw[pr1,List.length_append,zye]
 omega
theorem ztT {p:Prom} (m:MayP p):∀v∈znD p,0≤v∧v<4611686018427387904:=by
 intro v hv
 have:=m.done
 have:=m.view
 have:=m.slot
 have:=m.time
 simp only[znD,List.mem_cons,List.not_mem_nil,or_false]at hv
 rcases hv with rfl|rfl|rfl|rfl<;>omega
theorem ztU {p:Prom} (m:MayP p) {v:Vote} (hv:v∈p.votes):(∀x∈[v.slot,v.ballot],0≤x∧x<4611686018427387904)∧Batch.may v.batch=true:=by
 obtain⟨_,_,h1,h2,h3⟩:=m.votes v hv
 have:=bad_false h1
 have:=bad_false h2
 refine⟨fun x hx=> ?_,h3⟩
 simp only[List.mem_cons,List.not_mem_nil,or_false]at hx
 rcases hx with rfl|rfl<;>omega
set_option maxHeartbeats 2000000 in
theorem zq5 (p:Prom) (m:MayP p):CallOK Tryz.prog 25 [.f (.agg p.lent)] (fun x o=>x=[.one (.own 1 (zhT p).length (zad (zhT p)) false)]∧o=[]):=by
 refine zh Tryz.func25 Tryz.results25 Tryz.ntmps25 Tryz.call25 ?_
 simp only[Tryz.f25,Option.getD]
 have hsrc:=m.src
 have hvl:=m.len
 have hmay:∀v∈p.votes,Batch.may v.batch=true:=fun v hv=>(m.votes v hv).2.2.2.2
 have w1:IntKind.u8.wrap p.src=p.src:=zdF (by omega) (by omega)
 have w2:IntKind.u8.wrap (p.votes.length:Int)=p.votes.length:=zdF (by omega) (by omega)
 have hpn:=zfG (znD p) (by simp) (ztT m)
 have hcc:CallOK Tryz.prog 66 [.f (al 3 [.sl 1 (zad [p.src]), .sl (za4 (znD p)).length (zad (za4 (znD p))), .sl 1 (zad [(p.votes.length:Int)])])] (fun x o=>x=[.one (.own 1 (pr0 p).length (zad (pr0 p)) false)]∧o=[]):=by
  have hc:=zfA [[p.src],za4 (znD p),[(p.votes.length:Int)]] (by simp) (fun l hl=>by
   simp only[List.mem_cons,List.not_mem_nil,or_false]at hl
   rcases hl with rfl|rfl|rfl
   ·simp
   ·rw[zci];simp
   ·simp)
  rw[show [[p.src],za4 (znD p),[(p.votes.length:Int)]].flatten=pr0 p from by simp[pr0]]at hc
  exact hc
 have t1:∀x:Int,toDs (sub 0 1 1 [C.d (uD x)])=some [uD x]:=fun _=>rfl
 have t4:∀a b c d:Int,toDs (sub 0 4 1 [di a,di b,di c,di d])=some [iD a,iD b,iD c,iD d]:=fun _ _ _ _=>rfl
 repeat'(first|exact zC|refine zq (I t1 (I t4 (I w1 (I w2 @zav)))) ?_|refine zx (hpn) ?_|refine zx (hcc) ?_|(apply zaa<;>intro hb)|(apply I;exact zI)|(apply I<;>intro hg))
 refine zaf (τ:=Nat) (fun i=>⟨(dq3 (.one (.own ⟨3,1,1⟩ 0 (pr1 p i).length)::zuu (al p.votes.length (zbh p.votes)::ai p.votes.length::ai i::znX []))),[(1,⟨2,[]⟩),(11,⟨2,[]⟩),(22,⟨2,[]⟩),(23,⟨2,[]⟩),(28,⟨2,[]⟩),(29,⟨2,[]⟩),(30,⟨2,[]⟩),(3,⟨2,[none,roq 1 1 (zad (pr1 p i))]⟩),(5,⟨2,[]⟩),(6,⟨2,[]⟩),(41,⟨2,[]⟩),(49,⟨2,[]⟩),(50,⟨2,[]⟩),(52,⟨2,[]⟩),(53,⟨2,[]⟩)]⟩)
  (fun i=>i≤p.votes.length) (fun _=>()) (fun i=>p.votes.length - i) 0
  (Gh.canon [3] [5,6,41,49,50,52,53] [] (zk @zpZ) rfl (by rw[zpZ];rfl)) (Nat.zero_le _) ?_
 intro i hi0 hF K hK
 refine zw ?_
 refine zaa (fun hlt=> ?_) (fun hge=> ?_)
 ·have hi:i<p.votes.length:=by simpa using hlt
  have hat:=zil hi
  have hw:=zai hi (by omega)
  obtain⟨vn,vm⟩:=ztU m (List.getElem_mem hi)
  have hb:=zjG p.votes[i].batch vm
  have hn:=zfG [p.votes[i].slot,p.votes[i].ballot] (by simp) vn
  have hl0:=ztS hmay i
  have hl1:=ziz vm
  have hsl:=zvR hi
  have hcc:CallOK Tryz.prog 66 [.f (al 3 [.sl (pr1 p i).length (zad (pr1 p i)), .sl (za4 [p.votes[i].slot,p.votes[i].ballot]).length (zad (za4 [p.votes[i].slot,p.votes[i].ballot])), .sl (zhq p.votes[i].batch).length (zad (zhq p.votes[i].batch))])] (fun x o=>x=[.one (.own 1 (pr1 p (i+1)).length (zad (pr1 p (i+1))) false)]∧o=[]):=by
   have hc:=zfA [pr1 p i,za4 [p.votes[i].slot,p.votes[i].ballot],zhq p.votes[i].batch] (by simp) (fun l hl=>by
    simp only[List.mem_cons,List.not_mem_nil,or_false]at hl
    rcases hl with rfl|rfl|rfl
    ·omega
    ·rw[zci];simp
    ·omega)
   rw[show [pr1 p i,za4 [p.votes[i].slot,p.votes[i].ballot],zhq p.votes[i].batch].flatten=pr1 p (i+1) from by rw[hsl];simp[zq4]]at hc
   exact hc
  have t2:∀a b:Int,toDs (sub 0 2 1 [di a,di b])=some [iD a,iD b]:=fun _ _=>rfl
  repeat'(first|exact zC|refine zq (I hat (I @zaI (I t2 (I @zav zca)))) ?_|refine zx (hb) ?_|refine zx (hn) ?_|refine zx (hcc) ?_|(apply zaa<;>intro hb)|(apply I;exact zI)|(apply I<;>intro hg))
  exact hK _ (i+1) (Gh.canon [3] [] [] (zk hw) rfl rfl) hi rfl (by omega)
 ·have hi:i=p.votes.length:=by
   have:¬(i:Int)<p.votes.length:=by simpa using hge
   omega
  subst hi
  repeat'(first|exact zC|refine zq0 ?_|(apply zaa<;>intro hb)|(apply I;exact zI)|(apply I<;>intro hg))
  rfl
end Go.Proofs.YtliimajkpggbhaaGreat
