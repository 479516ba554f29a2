import Derived.Test.YtliimajkpggbhaaGreatM8
namespace Go.Proofs.YtliimajkpggbhaaGreat
open Go.Pk Tryz
set_option maxRecDepth 100000
set_option linter.unusedSimpArgs false
set_option linter.unusedVariables false
def sameL {α:Type} (eq:α→α→Bool) (a b:List α):Bool:=(a.length==b.length)&&((a.zip b).all fun p=>eq p.1 p.2)
def zeh {α:Type} (eq:α→α→Bool) (a b:List α) (i:Nat):Bool:=((a.drop i).zip (b.drop i)).all fun p=>eq p.1 p.2
theorem zbC {α:Type} {eq:α→α→Bool} {a b:List α} {i:Nat} (ha:i<a.length) (hb:i<b.length):zeh eq a b i=(eq a[i] b[i]&&zeh eq a b (i+1)):=by
 unfold zeh
 rw[List.drop_eq_getElem_cons ha,List.drop_eq_getElem_cons hb,List.zip_cons_cons,List.all_cons]
theorem zb1 {α:Type} {eq:α→α→Bool} {a b:List α} {i:Nat} (ha:i=a.length):zeh eq a b i=true:=by
 unfold zeh
 rw[List.drop_eq_nil_of_le (by omega)];simp
theorem zcs {α:Type} {eq:α→α→Bool} {a b:List α} (h:((a.length:Int) !=(b.length:Int))=true):sameL eq a b=false:=by
 unfold sameL
 simp at h
 simp;omega
theorem zct {α:Type} {eq:α→α→Bool} {a b:List α} (h:((a.length:Int) !=(b.length:Int))=false):a.length=b.length∧sameL eq a b=zeh eq a b 0:=by
 have hl:a.length=b.length:=by simp at h;omega
 unfold sameL zeh
 simp[hl]
def zgG (a b:Int):Bool:=a==b
def zne (a b:Grant):Bool:=(a.name.toList==b.name.toList)&&(a.token==b.token)
def zkZ (a b:Sess):Bool:=(a.client==b.client)&&((a.num==b.num)&&(a.renewed==b.renewed))
def eqLk (a b:Lk):Bool:=(a.name.toList==b.name.toList)&&(a.holder==b.holder)&&(a.token==b.token)&&sameL zgG a.line b.line
def eqRe (a b:Reply):Bool:=(a.code==b.code)&&(a.session==b.session)&&(a.ahead==b.ahead)&&sameL zne a.held b.held
def eqMe (a b:Memo):Bool:=(a.client==b.client)&&(a.seq==b.seq)&&(a.reply.code==b.reply.code)&&(a.reply.session==b.reply.session)&&(a.reply.ahead==b.reply.ahead)&&sameL zne a.reply.held b.reply.held
def zrs (a b:St):Bool:=(a.time==b.time)&&(a.num==b.num)&&(a.token==b.token)&&sameL zkZ a.sess b.sess&&sameL eqLk a.locks b.locks&&sameL eqMe a.memos b.memos
theorem zpe {a b:List Int}:sameI a b=sameL zgG a b:=rfl
set_option maxHeartbeats 1000000 in
theorem zrD (a b:List Int) (ha:a.length<2^30) (hb:b.length<2^30):CallOK prog 128 [.f (al a.length (za5 a)), .f (al b.length (za5 b))] (fun r o=>r=[rb (sameL zgG a b)]∧o=[]):=by
 refine zh func128 results128 ntmps128 call128 ?_
 simp only[f128,Option.getD]
 cases hl:((a.length:Int) !=(b.length:Int))
 ·obtain⟨hle,hsr⟩:=zct (eq:=zgG) hl
  rw[hsr]
  refine zL0 hl ?_
  refine zaf (τ:=Nat) (fun i=>⟨(al a.length (za5 a)::al b.length (za5 b)::zmC (ai a.length::ai i::zom [])),[]⟩)
   (fun i=>i≤a.length) (fun i=>zeh zgG a b i) (fun i=>a.length - i) 0
   (Gh.canon [] [] [] zK rfl rfl) (Nat.zero_le _) ?_
  intro i hi0 hF K hK
  refine zw ?_
  refine zab (fun hlt=> ?_) (fun hge=> ?_)
  ·have hi:i<a.length:=by simpa using hlt
   have hi2:i<b.length:=by omega
   have hat:=zce hi
   have hat2:=zce hi2
   have hw:=zai hi (by omega)
   have hlb:decide ((i:Int)<a.length)=true:=by simp;omega
   have hst:=zbC (eq:=zgG) hi hi2
   cases hq:zgG a[i] b[i]
   ·rw[hq]at hst
    have he:(a[i] !=b[i])=true:=by unfold zgG at hq;rw[bne,hq];rfl
    rw[←hF,hst]
    exact zW0 (I hat (I hat2 (I hlb (I he (I @Bool.not_true (I @Bool.not_false (I @Bool.and_self (I @zaW zca))))))))
   ·rw[hq,Bool.true_and]at hst
    have he:(a[i] !=b[i])=false:=by unfold zgG at hq;rw[bne,hq];rfl
    refine zL0 (I hat (I hat2 (I hlb (I he (I @Bool.not_true (I @Bool.not_false (I @Bool.and_self (I @zaW zca)))))))) ?_
    exact hK _ (i+1) (Gh.canon [] [] [] (zk hw) rfl rfl) hi hst.symm (by omega)
  ·have hi:i=a.length:=by
    have:¬(i:Int)<a.length:=by simpa using hge
    omega
   rw[←hF,zb1 hi]
   exact zW0 trivial
 ·rw[zcs hl]
  exact zW0 hl
set_option maxHeartbeats 1000000 in
theorem zoa (a b:List Grant) (ha:a.length<2^30) (hb:b.length<2^30):CallOK prog 131 [.f (al a.length (zaO a)), .f (al b.length (zaO b))] (fun r o=>r=[rb (sameL zne a b)]∧o=[]):=by
 refine zh func131 results131 ntmps131 call131 ?_
 simp only[f131,Option.getD]
 cases hl:((a.length:Int) !=(b.length:Int))
 ·obtain⟨hle,hsr⟩:=zct (eq:=zne) hl
  rw[hsr]
  refine zL0 hl ?_
  refine zaf (τ:=Nat) (fun i=>⟨(al a.length (zaO a)::al b.length (zaO b)::zmC (ai a.length::ai i::zom [])),[]⟩)
   (fun i=>i≤a.length) (fun i=>zeh zne a b i) (fun i=>a.length - i) 0
   (Gh.canon [] [] [] zK rfl rfl) (Nat.zero_le _) ?_
  intro i hi0 hF K hK
  refine zw ?_
  refine zab (fun hlt=> ?_) (fun hge=> ?_)
  ·have hi:i<a.length:=by simpa using hlt
   have hi2:i<b.length:=by omega
   have hat:=zb3 hi
   have hat2:=zb3 hi2
   have hw:=zai hi (by omega)
   have hlb:decide ((i:Int)<a.length)=true:=by simp;omega
   have hst:=zbC (eq:=zne) hi hi2
   cases hq:zne a[i] b[i]
   ·rw[hq]at hst
    have he:((a[i].name.toList==b[i].name.toList)&&(a[i].token==b[i].token))=false:=by exact hq
    rw[←hF,hst]
    exact zW0 (I hat (I hat2 (I hlb (I he (I @Bool.not_true (I @Bool.not_false (I @Bool.and_self (I @zam zca))))))))
   ·rw[hq,Bool.true_and]at hst
    have he:((a[i].name.toList==b[i].name.toList)&&(a[i].token==b[i].token))=true:=by exact hq
    refine zL0 (I hat (I hat2 (I hlb (I he (I @Bool.not_true (I @Bool.not_false (I @Bool.and_self (I @zam zca)))))))) ?_
    exact hK _ (i+1) (Gh.canon [] [] [] (zk hw) rfl rfl) hi hst.symm (by omega)
  ·have hi:i=a.length:=by
    have:¬(i:Int)<a.length:=by simpa using hge
    omega
   rw[←hF,zb1 hi]
   exact zW0 trivial
 ·rw[zcs hl]
  exact zW0 hl
set_option maxHeartbeats 1000000 in
theorem zrE (a b:List Sess) (ha:a.length<2^30) (hb:b.length<2^30):CallOK prog 125 [.f (al a.length (zaV a)), .f (al b.length (zaV b))] (fun r o=>r=[rb (sameL zkZ a b)]∧o=[]):=by
 refine zh func125 results125 ntmps125 call125 ?_
 simp only[f125,Option.getD]
 cases hl:((a.length:Int) !=(b.length:Int))
 ·obtain⟨hle,hsr⟩:=zct (eq:=zkZ) hl
  rw[hsr]
  refine zL0 hl ?_
  refine zaf (τ:=Nat) (fun i=>⟨(al a.length (zaV a)::al b.length (zaV b)::zmC (ai a.length::ai i::zom [])),[]⟩)
   (fun i=>i≤a.length) (fun i=>zeh zkZ a b i) (fun i=>a.length - i) 0
   (Gh.canon [] [] [] zK rfl rfl) (Nat.zero_le _) ?_
  intro i hi0 hF K hK
  refine zw ?_
  refine zab (fun hlt=> ?_) (fun hge=> ?_)
  ·have hi:i<a.length:=by simpa using hlt
   have hi2:i<b.length:=by omega
   have hat:=zbH hi
   have hat2:=zbH hi2
   have hw:=zai hi (by omega)
   have hlb:decide ((i:Int)<a.length)=true:=by simp;omega
   have hst:=zbC (eq:=zkZ) hi hi2
   cases hq:zkZ a[i] b[i]
   ·rw[hq]at hst
    have he:((a[i].client==b[i].client)&&((a[i].num==b[i].num)&&(a[i].renewed==b[i].renewed)))=false:=by exact hq
    rw[←hF,hst]
    exact zW0 (I hat (I hat2 (I hlb (I he (I @Bool.not_true (I @Bool.not_false (I @Bool.and_self (I @zat zca))))))))
   ·rw[hq,Bool.true_and]at hst
    have he:((a[i].client==b[i].client)&&((a[i].num==b[i].num)&&(a[i].renewed==b[i].renewed)))=true:=by exact hq
    refine zL0 (I hat (I hat2 (I hlb (I he (I @Bool.not_true (I @Bool.not_false (I @Bool.and_self (I @zat zca)))))))) ?_
    exact hK _ (i+1) (Gh.canon [] [] [] (zk hw) rfl rfl) hi hst.symm (by omega)
  ·have hi:i=a.length:=by
    have:¬(i:Int)<a.length:=by simpa using hge
    omega
   rw[←hF,zb1 hi]
   exact zW0 trivial
 ·rw[zcs hl]
  exact zW0 hl
theorem zrF (a b:Lk) (ha:a.line.length<2^30) (hb:b.line.length<2^30):CallOK prog 127 [.f (.agg (a.enc.map C.d)), .f (.agg (b.enc.map C.d))] (fun r o=>r=[rb (eqLk a b)]∧o=[]):=by
 refine zh func127 results127 ntmps127 call127 ?_
 simp only[f127,Option.getD]
 have hi:=zrD a.line b.line ha hb
 refine zL trivial (hi) ?_
 rfl
theorem zrG (a b:Memo) (ha:a.reply.held.length<2^30) (hb:b.reply.held.length<2^30):CallOK prog 130 [.f (.agg (a.enc.map C.d)), .f (.agg (b.enc.map C.d))] (fun r o=>r=[rb (eqMe a b)]∧o=[]):=by
 refine zh func130 results130 ntmps130 call130 ?_
 simp only[f130,Option.getD]
 have hi:=zoa a.reply.held b.reply.held ha hb
 refine zL trivial (hi) ?_
 rfl
abbrev afn (n:Nat):AV:= .one (.d (.v (.func (.func n) #[] #[])))
set_option maxHeartbeats 1000000 in
theorem zpf (a b:List Lk) (ha:a.length<2^30) (hb:b.length<2^30) (hla:∀x∈a,x.line.length<2^30) (hlb2:∀x∈b,x.line.length<2^30):CallOK prog 126 [.f (al a.length (zay a)), .f (al b.length (zay b)), .f (afn 127)] (fun r o=>r=[rb (sameL eqLk a b)]∧o=[]):=by
 refine zh func126 results126 ntmps126 call126 ?_
 simp only[f126,Option.getD]
 have hfn:∀(Z:List Nat) (r:Rs) (xs ys:List AV),fgc Z r (afn 127::xs) (afn 127::ys)=fgc Z r xs ys:=fun Z r xs ys=>zhr rfl rfl
 cases hl:((a.length:Int) !=(b.length:Int))
 ·obtain⟨hle,hsr⟩:=zct (eq:=eqLk) hl
  rw[hsr]
  refine zL0 hl ?_
  refine zaf (τ:=Nat) (fun i=>⟨(dd::al b.length (zay b)::afn 127::zom (al a.length (zay a)::ai a.length::ai i::zv7 [])),[(8,⟨2,[]⟩),(9,⟨2,[]⟩)]⟩)
   (fun i=>i≤a.length) (fun i=>zeh eqLk a b i) (fun i=>a.length - i) 0
   (Gh.canon [] [8,9] [] (zk hfn) rfl rfl) (Nat.zero_le _) ?_
  intro i hi0 hF K hK
  refine zw ?_
  refine zab (fun hlt=> ?_) (fun hge=> ?_)
  ·have hi:i<a.length:=by simpa using hlt
   have hi2:i<b.length:=by omega
   have hat:=zbo hi
   have hat2:=zbo hi2
   have hw:=zai hi (by omega)
   have hlb:decide ((i:Int)<a.length)=true:=by simp;omega
   have hst:=zbC (eq:=eqLk) hi hi2
   have hc:=zrF a[i] b[i] (hla _ (List.getElem_mem hi)) (hlb2 _ (List.getElem_mem hi2))
   cases hq:eqLk a[i] b[i]
   ·rw[hq]at hst
    have he:(!eqLk a[i] b[i])=true:=by rw[hq];rfl
    rw[←hF,hst]
    exact zW (I hat (I hat2 (I hlb (I he (I @Bool.not_true (I @Bool.not_false (I @Bool.and_self (I @zan zca)))))))) (hc)
   ·rw[hq,Bool.true_and]at hst
    have he:(!eqLk a[i] b[i])=false:=by rw[hq];rfl
    refine zL (I hat (I hat2 (I hlb (I he (I @Bool.not_true (I @Bool.not_false (I @Bool.and_self (I @zan zca)))))))) (hc) ?_
    exact hK _ (i+1) (Gh.canon [] [] [] (zk (I hw hfn)) rfl rfl) hi hst.symm (by omega)
  ·have hi:i=a.length:=by
    have:¬(i:Int)<a.length:=by simpa using hge
    omega
   rw[←hF,zb1 hi]
   exact zW0 trivial
 ·rw[zcs hl]
  exact zW0 hl
set_option maxHeartbeats 1000000 in
theorem zpg (a b:List Memo) (ha:a.length<2^30) (hb:b.length<2^30) (hla:∀x∈a,x.reply.held.length<2^30) (hlb2:∀x∈b,x.reply.held.length<2^30):CallOK prog 129 [.f (al a.length (zaM a)), .f (al b.length (zaM b)), .f (afn 130)] (fun r o=>r=[rb (sameL eqMe a b)]∧o=[]):=by
 refine zh func129 results129 ntmps129 call129 ?_
 simp only[f129,Option.getD]
 have hfn:∀(Z:List Nat) (r:Rs) (xs ys:List AV),fgc Z r (afn 130::xs) (afn 130::ys)=fgc Z r xs ys:=fun Z r xs ys=>zhr rfl rfl
 cases hl:((a.length:Int) !=(b.length:Int))
 ·obtain⟨hle,hsr⟩:=zct (eq:=eqMe) hl
  rw[hsr]
  refine zL0 hl ?_
  refine zaf (τ:=Nat) (fun i=>⟨(dd::al b.length (zaM b)::afn 130::zom (al a.length (zaM a)::ai a.length::ai i::zv7 [])),[(8,⟨2,[]⟩),(9,⟨2,[]⟩)]⟩)
   (fun i=>i≤a.length) (fun i=>zeh eqMe a b i) (fun i=>a.length - i) 0
   (Gh.canon [] [8,9] [] (zk hfn) rfl rfl) (Nat.zero_le _) ?_
  intro i hi0 hF K hK
  refine zw ?_
  refine zab (fun hlt=> ?_) (fun hge=> ?_)
  ·have hi:i<a.length:=by simpa using hlt
   have hi2:i<b.length:=by omega
   have hat:=zcf hi
   have hat2:=zcf hi2
   have hw:=zai hi (by omega)
   have hlb:decide ((i:Int)<a.length)=true:=by simp;omega
   have hst:=zbC (eq:=eqMe) hi hi2
   have hc:=zrG a[i] b[i] (hla _ (List.getElem_mem hi)) (hlb2 _ (List.getElem_mem hi2))
   cases hq:eqMe a[i] b[i]
   ·rw[hq]at hst
    have he:(!eqMe a[i] b[i])=true:=by rw[hq];rfl
    rw[←hF,hst]
    exact zW (I hat (I hat2 (I hlb (I he (I @Bool.not_true (I @Bool.not_false (I @Bool.and_self (I @zaw zca)))))))) (hc)
   ·rw[hq,Bool.true_and]at hst
    have he:(!eqMe a[i] b[i])=false:=by rw[hq];rfl
    refine zL (I hat (I hat2 (I hlb (I he (I @Bool.not_true (I @Bool.not_false (I @Bool.and_self (I @zaw zca)))))))) (hc) ?_
    exact hK _ (i+1) (Gh.canon [] [] [] (zk (I hw hfn)) rfl rfl) hi hst.symm (by omega)
  ·have hi:i=a.length:=by
    have:¬(i:Int)<a.length:=by simpa using hge
    omega
   rw[←hF,zb1 hi]
   exact zW0 trivial
 ·rw[zcs hl]
  exact zW0 hl
theorem zx6 {p q r s t u:Bool}:((!(!p|| !q|| !r|| !s))&&t&&u)=(p&&q&&r&&s&&t&&u):=by cases p<;>cases q<;>cases r<;>cases s<;>simp
set_option maxHeartbeats 1000000 in
theorem zrH (a b:St) (ha:Small a) (hb:Small b):CallOK prog 81 [.f (.agg a.lent), .f (.agg b.lent)] (fun r o=>r=[rb (zrs a b)]∧o=[]):=by
 refine zh func81 results81 ntmps81 call81 ?_
 simp only[f81,Option.getD]
 have h1:=zrE a.sess b.sess ha.sess hb.sess
 have h2:=zpf a.locks b.locks ha.locks hb.locks (fun k hk=>(ha.line k hk).1) (fun k hk=>(hb.line k hk).1)
 have h3:=zpg a.memos b.memos ha.memos hb.memos (fun k hk=>(ha.held k hk).1) (fun k hk=>(hb.held k hk).1)
 cases hq:((((a.time !=b.time)||(a.num !=b.num))||(a.token !=b.token))|| !sameL zkZ a.sess b.sess)
 ·have he:zrs a b=(sameL eqLk a.locks b.locks&&sameL eqMe a.memos b.memos):=by
   unfold zrs
   rw[←zx6,show(!(!(a.time==b.time)|| !(a.num==b.num)|| !(a.token==b.token)|| !sameL zkZ a.sess b.sess))=true from by revert hq;simp only[bne];cases(a.time==b.time)<;>cases(a.num==b.num)<;>cases(a.token==b.token)<;>cases sameL zkZ a.sess b.sess<;>simp]
   simp
  rw[he]
  exact zW hq (I (h1) (I (h2) (h3)))
 ·have he:zrs a b=false:=by
   unfold zrs
   rw[←zx6,show(!(!(a.time==b.time)|| !(a.num==b.num)|| !(a.token==b.token)|| !sameL zkZ a.sess b.sess))=false from by revert hq;simp only[bne];cases(a.time==b.time)<;>cases(a.num==b.num)<;>cases(a.token==b.token)<;>cases sameL zkZ a.sess b.sess<;>simp]
   simp
  rw[he]
  exact zW hq (I (h1) (I (h2) (h3)))
set_option maxHeartbeats 1000000 in
theorem zob (a b:List Grant) (ha:a.length<2^30) (hb:b.length<2^30):CallOK prog 153 [.f (al a.length (zaO a)), .f (al b.length (zaO b))] (fun r o=>r=[rb (sameL zne a b)]∧o=[]):=by
 refine zh func153 results153 ntmps153 call153 ?_
 simp only[f153,Option.getD]
 cases hl:((a.length:Int) !=(b.length:Int))
 ·obtain⟨hle,hsr⟩:=zct (eq:=zne) hl
  rw[hsr]
  refine zL0 hl ?_
  refine zaf (τ:=Nat) (fun i=>⟨(al a.length (zaO a)::al b.length (zaO b)::dq3 (ai i::zrx [])),[]⟩)
   (fun i=>i≤a.length) (fun i=>zeh zne a b i) (fun i=>a.length - i) 0
   (Gh.canon [] [] [] zK rfl rfl) (Nat.zero_le _) ?_
  intro i hi0 hF K hK
  refine zw ?_
  refine zab (fun hlt=> ?_) (fun hge=> ?_)
  ·have hi:i<a.length:=by simpa using hlt
   have hi2:i<b.length:=by omega
   have hat:=zb3 hi
   have hat2:=zb3 hi2
   have hw:=zai hi (by omega)
   have hlb:decide ((i:Int)<a.length)=true:=by simp;omega
   have hst:=zbC (eq:=zne) hi hi2
   cases hq:zne a[i] b[i]
   ·rw[hq]at hst
    have he:((a[i].name.toList==b[i].name.toList)&&(a[i].token==b[i].token))=false:=by exact hq
    rw[←hF,hst]
    exact zW0 (I hat (I hat2 (I hlb (I he (I @Bool.not_true (I @Bool.not_false (I @Bool.and_self (I @zam zca))))))))
   ·rw[hq,Bool.true_and]at hst
    have he:((a[i].name.toList==b[i].name.toList)&&(a[i].token==b[i].token))=true:=by exact hq
    refine zL0 (I hat (I hat2 (I hlb (I he (I @Bool.not_true (I @Bool.not_false (I @Bool.and_self (I @zam zca)))))))) ?_
    exact hK _ (i+1) (Gh.canon [] [] [] (zk hw) rfl rfl) hi hst.symm (by omega)
  ·have hi:i=a.length:=by
    have:¬(i:Int)<a.length:=by simpa using hge
    omega
   rw[←hF,zb1 hi]
   exact zW0 trivial
 ·rw[zcs hl]
  exact zW0 hl
theorem zk0 (a b:Reply) (ha:a.held.length<2^30) (hb:b.held.length<2^30):CallOK prog 104 [.f (.agg a.lent), .f (.agg b.lent)] (fun r o=>r=[rb (eqRe a b)]∧o=[]):=by
 refine zh func104 results104 ntmps104 call104 ?_
 simp only[f104,Option.getD]
 have hi:=zob a.held b.held ha hb
 refine zL trivial (hi) ?_
 rfl
set_option maxHeartbeats 1000000 in
theorem zph (a b:List Sess) (ha:a.length<2^30) (hb:b.length<2^30):CallOK prog 154 [.f (al a.length (zaV a)), .f (al b.length (zaV b))] (fun r o=>r=[rb (sameL zkZ a b)]∧o=[]):=by
 refine zh func154 results154 ntmps154 call154 ?_
 simp only[f154,Option.getD]
 cases hl:((a.length:Int) !=(b.length:Int))
 ·obtain⟨hle,hsr⟩:=zct (eq:=zkZ) hl
  rw[hsr]
  refine zL0 hl ?_
  refine zaf (τ:=Nat) (fun i=>⟨(al a.length (zaV a)::al b.length (zaV b)::dq3 (ai i::zrx [])),[]⟩)
   (fun i=>i≤a.length) (fun i=>zeh zkZ a b i) (fun i=>a.length - i) 0
   (Gh.canon [] [] [] zK rfl rfl) (Nat.zero_le _) ?_
  intro i hi0 hF K hK
  refine zw ?_
  refine zab (fun hlt=> ?_) (fun hge=> ?_)
  ·have hi:i<a.length:=by simpa using hlt
   have hi2:i<b.length:=by omega
   have hat:=zbH hi
   have hat2:=zbH hi2
   have hw:=zai hi (by omega)
   have hlb:decide ((i:Int)<a.length)=true:=by simp;omega
   have hst:=zbC (eq:=zkZ) hi hi2
   cases hq:zkZ a[i] b[i]
   ·rw[hq]at hst
    have he:((a[i].client==b[i].client)&&((a[i].num==b[i].num)&&(a[i].renewed==b[i].renewed)))=false:=by exact hq
    rw[←hF,hst]
    exact zW0 (I hat (I hat2 (I hlb (I he (I @Bool.not_true (I @Bool.not_false (I @Bool.and_self (I @zat zca))))))))
   ·rw[hq,Bool.true_and]at hst
    have he:((a[i].client==b[i].client)&&((a[i].num==b[i].num)&&(a[i].renewed==b[i].renewed)))=true:=by exact hq
    refine zL0 (I hat (I hat2 (I hlb (I he (I @Bool.not_true (I @Bool.not_false (I @Bool.and_self (I @zat zca)))))))) ?_
    exact hK _ (i+1) (Gh.canon [] [] [] (zk hw) rfl rfl) hi hst.symm (by omega)
  ·have hi:i=a.length:=by
    have:¬(i:Int)<a.length:=by simpa using hge
    omega
   rw[←hF,zb1 hi]
   exact zW0 trivial
 ·rw[zcs hl]
  exact zW0 hl
set_option maxHeartbeats 1000000 in
theorem zoc (a b:List Lk) (ha:a.length<2^30) (hb:b.length<2^30) (hla:∀x∈a,x.line.length<2^30) (hlb2:∀x∈b,x.line.length<2^30):CallOK prog 155 [.f (al a.length (zay a)), .f (al b.length (zay b))] (fun r o=>r=[rb (sameL eqLk a b)]∧o=[]):=by
 refine zh func155 results155 ntmps155 call155 ?_
 simp only[f155,Option.getD]
 cases hl:((a.length:Int) !=(b.length:Int))
 ·obtain⟨hle,hsr⟩:=zct (eq:=eqLk) hl
  rw[hsr]
  refine zL0 hl ?_
  refine zaf (τ:=Nat) (fun i=>⟨(al a.length (zay a)::al b.length (zay b)::dq3 (ai i::zv8 (zdO []))),[]⟩)
   (fun i=>i≤a.length) (fun i=>zeh eqLk a b i) (fun i=>a.length - i) 0
   (Gh.canon [] [] [] zK rfl rfl) (Nat.zero_le _) ?_
  intro i hi0 hF K hK
  refine zw ?_
  refine zab (fun hlt=> ?_) (fun hge=> ?_)
  ·have hi:i<a.length:=by simpa using hlt
   have hi2:i<b.length:=by omega
   have hat:=zbo hi
   have hat2:=zbo hi2
   have hw:=zai hi (by omega)
   have hlb:decide ((i:Int)<a.length)=true:=by simp;omega
   have hst:=zbC (eq:=eqLk) hi hi2
   have hd1:(zay a).drop (i*4+1)=iD a[i].holder::iD a[i].token:: .sl a[i].line.length (za5 a[i].line)::zay (a.drop (i+1)):=by rw[←List.drop_drop,hat];rfl
   have hd2:(zay b).drop (i*4+1)=iD b[i].holder::iD b[i].token:: .sl b[i].line.length (za5 b[i].line)::zay (b.drop (i+1)):=by rw[←List.drop_drop,hat2];rfl
   have hsi:=zmv a[i].line b[i].line (by have:=hla _ (List.getElem_mem hi);omega) (by have:=hlb2 _ (List.getElem_mem hi2);omega)
   cases hq:eqLk a[i] b[i]
   ·rw[hq]at hst
    have he:((((!(a[i].name.toList==b[i].name.toList))||(a[i].holder !=b[i].holder))||(a[i].token !=b[i].token))|| !sameI a[i].line b[i].line)=true:=by unfold eqLk at hq;rw[zpe];revert hq;cases sameL zgG a[i].line b[i].line<;>cases h1:(a[i].name.toList==b[i].name.toList)<;>cases h2:(a[i].holder==b[i].holder)<;>cases h3:(a[i].token==b[i].token)<;>simp[bne,h1,h2,h3]
    rw[←hF,hst]
    exact zW (I hat (I hat2 (I hlb (I he (I @Bool.not_true (I @Bool.not_false (I @Bool.and_self (I hd1 (I hd2 (I @zan zca)))))))))) (hsi)
   ·rw[hq,Bool.true_and]at hst
    have he:((((!(a[i].name.toList==b[i].name.toList))||(a[i].holder !=b[i].holder))||(a[i].token !=b[i].token))|| !sameI a[i].line b[i].line)=false:=by unfold eqLk at hq;rw[zpe];revert hq;cases sameL zgG a[i].line b[i].line<;>cases h1:(a[i].name.toList==b[i].name.toList)<;>cases h2:(a[i].holder==b[i].holder)<;>cases h3:(a[i].token==b[i].token)<;>simp[bne,h1,h2,h3]
    refine zL (I hat (I hat2 (I hlb (I he (I @Bool.not_true (I @Bool.not_false (I @Bool.and_self (I hd1 (I hd2 (I @zan zca)))))))))) (hsi) ?_
    exact hK _ (i+1) (Gh.canon [] [] [] (zk hw) rfl rfl) hi hst.symm (by omega)
  ·have hi:i=a.length:=by
    have:¬(i:Int)<a.length:=by simpa using hge
    omega
   rw[←hF,zb1 hi]
   exact zW0 trivial
 ·rw[zcs hl]
  exact zW0 hl
set_option maxHeartbeats 1000000 in
theorem zod (a b:List Memo) (ha:a.length<2^30) (hb:b.length<2^30) (hla:∀x∈a,x.reply.held.length<2^30) (hlb2:∀x∈b,x.reply.held.length<2^30):CallOK prog 156 [.f (al a.length (zaM a)), .f (al b.length (zaM b))] (fun r o=>r=[rb (sameL eqMe a b)]∧o=[]):=by
 refine zh func156 results156 ntmps156 call156 ?_
 simp only[f156,Option.getD]
 cases hl:((a.length:Int) !=(b.length:Int))
 ·obtain⟨hle,hsr⟩:=zct (eq:=eqMe) hl
  rw[hsr]
  refine zL0 hl ?_
  refine zaf (τ:=Nat) (fun i=>⟨(al a.length (zaM a)::al b.length (zaM b)::dq3 (ai i::dq9 (zdO []))),[]⟩)
   (fun i=>i≤a.length) (fun i=>zeh eqMe a b i) (fun i=>a.length - i) 0
   (Gh.canon [] [] [] zK rfl rfl) (Nat.zero_le _) ?_
  intro i hi0 hF K hK
  refine zw ?_
  refine zab (fun hlt=> ?_) (fun hge=> ?_)
  ·have hi:i<a.length:=by simpa using hlt
   have hi2:i<b.length:=by omega
   have hat:=zcf hi
   have hat2:=zcf hi2
   have hw:=zai hi (by omega)
   have hlb:decide ((i:Int)<a.length)=true:=by simp;omega
   have hst:=zbC (eq:=eqMe) hi hi2
   have hd1:(zaM a).drop (i*6+1)=iD a[i].seq::(a[i].reply.enc++zaM (a.drop (i+1))):=by rw[←List.drop_drop,hat];rfl
   have hd2:(zaM b).drop (i*6+1)=iD b[i].seq::(b[i].reply.enc++zaM (b.drop (i+1))):=by rw[←List.drop_drop,hat2];rfl
   have hsr:=zk0 a[i].reply b[i].reply (hla _ (List.getElem_mem hi)) (hlb2 _ (List.getElem_mem hi2))
   have hme:eqMe a[i] b[i]=((a[i].client==b[i].client)&&(a[i].seq==b[i].seq)&&eqRe a[i].reply b[i].reply):=by unfold eqMe eqRe;simp only[Bool.and_assoc]
   cases hq:eqMe a[i] b[i]
   ·rw[hq]at hst
    have he:(((a[i].client !=b[i].client)||(a[i].seq !=b[i].seq))|| !eqRe a[i].reply b[i].reply)=true:=by rw[hme]at hq;revert hq;cases eqRe a[i].reply b[i].reply<;>cases h1:(a[i].client==b[i].client)<;>cases h2:(a[i].seq==b[i].seq)<;>simp[bne,h1,h2]
    rw[←hF,hst]
    exact zW (I hat (I hat2 (I hlb (I he (I @Bool.not_true (I @Bool.not_false (I @Bool.and_self (I hd1 (I hd2 (I @zaw zca)))))))))) (hsr)
   ·rw[hq,Bool.true_and]at hst
    have he:(((a[i].client !=b[i].client)||(a[i].seq !=b[i].seq))|| !eqRe a[i].reply b[i].reply)=false:=by rw[hme]at hq;revert hq;cases eqRe a[i].reply b[i].reply<;>cases h1:(a[i].client==b[i].client)<;>cases h2:(a[i].seq==b[i].seq)<;>simp[bne,h1,h2]
    refine zL (I hat (I hat2 (I hlb (I he (I @Bool.not_true (I @Bool.not_false (I @Bool.and_self (I hd1 (I hd2 (I @zaw zca)))))))))) (hsr) ?_
    exact hK _ (i+1) (Gh.canon [] [] [] (zk hw) rfl rfl) hi hst.symm (by omega)
  ·have hi:i=a.length:=by
    have:¬(i:Int)<a.length:=by simpa using hge
    omega
   rw[←hF,zb1 hi]
   exact zW0 trivial
 ·rw[zcs hl]
  exact zW0 hl
theorem zrI (a b:St) (ha:Small a) (hb:Small b):CallOK prog 107 [.f (.agg a.lent), .f (.agg b.lent)] (fun r o=>r=[rb (zrs a b)]∧o=[]):=by
 refine zh func107 results107 ntmps107 call107 ?_
 simp only[f107,Option.getD]
 have h1:=zph a.sess b.sess ha.sess hb.sess
 have h2:=zoc a.locks b.locks ha.locks hb.locks (fun k hk=>(ha.line k hk).1) (fun k hk=>(hb.line k hk).1)
 have h3:=zod a.memos b.memos ha.memos hb.memos (fun k hk=>(ha.held k hk).1) (fun k hk=>(hb.held k hk).1)
 refine zL trivial (I (h1) (I (h2) (h3))) ?_
 rfl
def ziS (a b:Sn):Bool:=(a.done==b.done)&&((a.view==b.view)&&(a.slot==b.slot))&&zrs a.st b.st
theorem zmu (a b:Sn) (ha:Small a.st) (hb:Small b.st):CallOK prog 56 [.f (.agg a.lent), .f (.agg b.lent)] (fun r o=>r=[rb (ziS a b)]∧o=[]):=by
 refine zh func56 results56 ntmps56 call56 ?_
 simp only[f56,Option.getD]
 have hs:=zrI a.st b.st ha hb
 refine zL trivial (hs) ?_
 rfl
theorem zds {α:Type} {eq:α→α→Bool} (h:∀a,eq a a=true) (l:List α):sameL eq l l=true:=by
 unfold sameL
 simp only[beq_self_eq_true,Bool.true_and,List.all_eq_true]
 intro p hp
 obtain⟨j,h1,h2⟩:=List.getElem_of_mem hp
 rw[←h2,List.getElem_zip]
 exact h _
theorem zn9 (l:List Int):sameL zgG l l=true:=zds (fun x=>by simp[zgG]) l
theorem zkY (l:List Grant):sameL zne l l=true:=zds (fun x=>by simp[zne]) l
theorem zrC (s:St):zrs s s=true:=by
 unfold zrs
 rw[zds (fun a=>by simp[zkZ]),zds (fun a=>by simp[eqLk,zn9]),zds (fun a=>by simp[eqMe,zkY])]
 simp
theorem zby (s:Sn):ziS s s=true:=by simp[ziS,zrC]
abbrev Z27:List Int:=List.replicate 27 0
def zfz (a b:Req):Bool:=(a.client==b.client)&&((a.seq==b.seq)&&((a.kind==b.kind)&&((a.session==b.session)&&(a.name.toList==b.name.toList))))
def eqBa (a b:Batch):Bool:=(a.fill==b.fill)&&(a.view==b.view)&&((a.tip.view==b.tip.view)&&(a.tip.slot==b.tip.slot))&&(a.time==b.time)&&sameL zfz a.reqs b.reqs
def zs8 (a b:Vote):Bool:=(a.slot==b.slot)&&(a.ballot==b.ballot)&&eqBa a.batch b.batch
def ziT (a b:Prom):Bool:=(a.src==b.src)&&(a.done==b.done)&&((a.tip.view==b.tip.view)&&(a.tip.slot==b.tip.slot))&&(a.time==b.time)&&sameL zs8 a.votes b.votes
set_option maxHeartbeats 1000000 in
theorem zs9 (a b:List Req) (ha:a.length<2^30) (hb:b.length<2^30):CallOK prog 124 [.f (al a.length (zbu a)), .f (al b.length (zbu b))] (fun r o=>r=[rb (sameL zfz a b)]∧o=[]):=by
 refine zh func124 results124 ntmps124 call124 ?_
 simp only[f124,Option.getD]
 cases hl:((a.length:Int) !=(b.length:Int))
 ·obtain⟨hle,hsr⟩:=zct (eq:=zfz) hl
  rw[hsr]
  refine zL0 hl ?_
  refine zaf (τ:=Nat) (fun i=>⟨(al a.length (zbu a)::al b.length (zbu b)::zmC (ai a.length::ai i::zom [])),[]⟩)
   (fun i=>i≤a.length) (fun i=>zeh zfz a b i) (fun i=>a.length - i) 0
   (Gh.canon [] [] [] zK rfl rfl) (Nat.zero_le _) ?_
  intro i hi0 hF K hK
  refine zw ?_
  refine zab (fun hlt=> ?_) (fun hge=> ?_)
  ·have hi:i<a.length:=by simpa using hlt
   have hi2:i<b.length:=by omega
   have hat:=zdv hi
   have hat2:=zdv hi2
   have hw:=zai hi (by omega)
   have hlb:decide ((i:Int)<a.length)=true:=by simp;omega
   have hst:=zbC (eq:=zfz) hi hi2
   cases hq:zfz a[i] b[i]
   ·rw[hq]at hst
    have he:((a[i].client==b[i].client)&&((a[i].seq==b[i].seq)&&((a[i].kind==b[i].kind)&&((a[i].session==b[i].session)&&(a[i].name.toList==b[i].name.toList)))))=false:=by exact hq
    rw[←hF,hst]
    exact zW0 (I hat (I hat2 (I hlb (I he (I @Bool.not_true (I @Bool.not_false (I @Bool.and_self (I @zaD zca))))))))
   ·rw[hq,Bool.true_and]at hst
    have he:((a[i].client==b[i].client)&&((a[i].seq==b[i].seq)&&((a[i].kind==b[i].kind)&&((a[i].session==b[i].session)&&(a[i].name.toList==b[i].name.toList)))))=true:=by exact hq
    refine zL0 (I hat (I hat2 (I hlb (I he (I @Bool.not_true (I @Bool.not_false (I @Bool.and_self (I @zaD zca)))))))) ?_
    exact hK _ (i+1) (Gh.canon [] [] [] (zk hw) rfl rfl) hi hst.symm (by omega)
  ·have hi:i=a.length:=by
    have:¬(i:Int)<a.length:=by simpa using hge
    omega
   rw[←hF,zb1 hi]
   exact zW0 trivial
 ·rw[zcs hl]
  exact zW0 hl
set_option maxHeartbeats 1000000 in
theorem zta (a b:List Req) (ha:a.length<2^30) (hb:b.length<2^30):CallOK prog 105 [.f (al a.length (zbu a)), .f (al b.length (zbu b))] (fun r o=>r=[rb (sameL zfz a b)]∧o=[]):=by
 refine zh func105 results105 ntmps105 call105 ?_
 simp only[f105,Option.getD]
 cases hl:((a.length:Int) !=(b.length:Int))
 ·obtain⟨hle,hsr⟩:=zct (eq:=zfz) hl
  rw[hsr]
  refine zL0 hl ?_
  refine zaf (τ:=Nat) (fun i=>⟨(al a.length (zbu a)::al b.length (zbu b)::dq3 (ai i::zrx [])),[]⟩)
   (fun i=>i≤a.length) (fun i=>zeh zfz a b i) (fun i=>a.length - i) 0
   (Gh.canon [] [] [] zK rfl rfl) (Nat.zero_le _) ?_
  intro i hi0 hF K hK
  refine zw ?_
  refine zab (fun hlt=> ?_) (fun hge=> ?_)
  ·have hi:i<a.length:=by simpa using hlt
   have hi2:i<b.length:=by omega
   have hat:=zdv hi
   have hat2:=zdv hi2
   have hw:=zai hi (by omega)
   have hlb:decide ((i:Int)<a.length)=true:=by simp;omega
   have hst:=zbC (eq:=zfz) hi hi2
   cases hq:zfz a[i] b[i]
   ·rw[hq]at hst
    have he:((a[i].client==b[i].client)&&((a[i].seq==b[i].seq)&&((a[i].kind==b[i].kind)&&((a[i].session==b[i].session)&&(a[i].name.toList==b[i].name.toList)))))=false:=by exact hq
    rw[←hF,hst]
    exact zW0 (I hat (I hat2 (I hlb (I he (I @Bool.not_true (I @Bool.not_false (I @Bool.and_self (I @zaD zca))))))))
   ·rw[hq,Bool.true_and]at hst
    have he:((a[i].client==b[i].client)&&((a[i].seq==b[i].seq)&&((a[i].kind==b[i].kind)&&((a[i].session==b[i].session)&&(a[i].name.toList==b[i].name.toList)))))=true:=by exact hq
    refine zL0 (I hat (I hat2 (I hlb (I he (I @Bool.not_true (I @Bool.not_false (I @Bool.and_self (I @zaD zca)))))))) ?_
    exact hK _ (i+1) (Gh.canon [] [] [] (zk hw) rfl rfl) hi hst.symm (by omega)
  ·have hi:i=a.length:=by
    have:¬(i:Int)<a.length:=by simpa using hge
    omega
   rw[←hF,zb1 hi]
   exact zW0 trivial
 ·rw[zcs hl]
  exact zW0 hl
theorem zrg (a b:Batch) (ha:a.reqs.length<2^30) (hb:b.reqs.length<2^30):CallOK prog 80 [.f (.agg a.lent), .f (.agg b.lent)] (fun r o=>r=[rb (eqBa a b)]∧o=[]):=by
 refine zh func80 results80 ntmps80 call80 ?_
 simp only[f80,Option.getD]
 have hi:=zs9 a.reqs b.reqs ha hb
 refine zL trivial (hi) ?_
 rfl
theorem zmn (a b:Batch) (ha:a.reqs.length<2^30) (hb:b.reqs.length<2^30):CallOK prog 54 [.f (.agg a.lent), .f (.agg b.lent)] (fun r o=>r=[rb (eqBa a b)]∧o=[]):=by
 refine zh func54 results54 ntmps54 call54 ?_
 simp only[f54,Option.getD]
 have hi:=zta a.reqs b.reqs ha hb
 refine zL trivial (hi) ?_
 rfl
set_option maxHeartbeats 1000000 in
theorem zrh (a b:List Vote) (ha:a.length<2^30) (hb:b.length<2^30) (hla:∀x∈a,x.batch.reqs.length<2^30) (hlb2:∀x∈b,x.batch.reqs.length<2^30):CallOK prog 106 [.f (al a.length (zbe a)), .f (al b.length (zbe b))] (fun r o=>r=[rb (sameL zs8 a b)]∧o=[]):=by
 refine zh func106 results106 ntmps106 call106 ?_
 simp only[f106,Option.getD]
 cases hl:((a.length:Int) !=(b.length:Int))
 ·obtain⟨hle,hsr⟩:=zct (eq:=zs8) hl
  rw[hsr]
  refine zL0 hl ?_
  refine zaf (τ:=Nat) (fun i=>⟨(al a.length (zbe a)::al b.length (zbe b)::dq3 (ai i::dq9 (zdO []))),[]⟩)
   (fun i=>i≤a.length) (fun i=>zeh zs8 a b i) (fun i=>a.length - i) 0
   (Gh.canon [] [] [] zK rfl rfl) (Nat.zero_le _) ?_
  intro i hi0 hF K hK
  refine zw ?_
  refine zab (fun hlt=> ?_) (fun hge=> ?_)
  ·have hi:i<a.length:=by simpa using hlt
   have hi2:i<b.length:=by omega
   have hat:=zdP hi
   have hat2:=zdP hi2
   have hw:=zai hi (by omega)
   have hlb:decide ((i:Int)<a.length)=true:=by simp;omega
   have hst:=zbC (eq:=zs8) hi hi2
   have hd1:(zbe a).drop (i*8+1)=iD a[i].ballot::(a[i].batch.enc++zbe (a.drop (i+1))):=by rw[←List.drop_drop,hat];rfl
   have hd2:(zbe b).drop (i*8+1)=iD b[i].ballot::(b[i].batch.enc++zbe (b.drop (i+1))):=by rw[←List.drop_drop,hat2];rfl
   have hd3:(zbe a).drop (i*8+2)=a[i].batch.enc++zbe (a.drop (i+1)):=by rw[←List.drop_drop,hat];rfl
   have hd4:(zbe b).drop (i*8+2)=b[i].batch.enc++zbe (b.drop (i+1)):=by rw[←List.drop_drop,hat2];rfl
   have hsr:=zmn a[i].batch b[i].batch (hla _ (List.getElem_mem hi)) (hlb2 _ (List.getElem_mem hi2))
   have hme:zs8 a[i] b[i]=((a[i].slot==b[i].slot)&&(a[i].ballot==b[i].ballot)&&eqBa a[i].batch b[i].batch):=rfl
   cases hq:zs8 a[i] b[i]
   ·rw[hq]at hst
    have he:(((a[i].slot !=b[i].slot)||(a[i].ballot !=b[i].ballot))|| !eqBa a[i].batch b[i].batch)=true:=by rw[hme]at hq;revert hq;cases eqBa a[i].batch b[i].batch<;>cases h1:(a[i].slot==b[i].slot)<;>cases h2:(a[i].ballot==b[i].ballot)<;>simp[bne,h1,h2]
    rw[←hF,hst]
    exact zW (I hat (I hat2 (I hlb (I he (I @Bool.not_true (I @Bool.not_false (I @Bool.and_self (I hd1 (I hd2 (I hd3 (I hd4 (I @zaA zca)))))))))))) (hsr)
   ·rw[hq,Bool.true_and]at hst
    have he:(((a[i].slot !=b[i].slot)||(a[i].ballot !=b[i].ballot))|| !eqBa a[i].batch b[i].batch)=false:=by rw[hme]at hq;revert hq;cases eqBa a[i].batch b[i].batch<;>cases h1:(a[i].slot==b[i].slot)<;>cases h2:(a[i].ballot==b[i].ballot)<;>simp[bne,h1,h2]
    refine zL (I hat (I hat2 (I hlb (I he (I @Bool.not_true (I @Bool.not_false (I @Bool.and_self (I hd1 (I hd2 (I hd3 (I hd4 (I @zaA zca)))))))))))) (hsr) ?_
    exact hK _ (i+1) (Gh.canon [] [] [] (zk hw) rfl rfl) hi hst.symm (by omega)
  ·have hi:i=a.length:=by
    have:¬(i:Int)<a.length:=by simpa using hge
    omega
   rw[←hF,zb1 hi]
   exact zW0 trivial
 ·rw[zcs hl]
  exact zW0 hl
theorem ztb (a b:Prom) (ha:a.votes.length<2^30) (hb:b.votes.length<2^30) (hla:∀x∈a.votes,x.batch.reqs.length<2^30) (hlb2:∀x∈b.votes,x.batch.reqs.length<2^30):CallOK prog 55 [.f (.agg a.lent), .f (.agg b.lent)] (fun r o=>r=[rb (ziT a b)]∧o=[]):=by
 refine zh func55 results55 ntmps55 call55 ?_
 simp only[f55,Option.getD]
 have hi:=zrh a.votes b.votes ha hb hla hlb2
 refine zL trivial (hi) ?_
 rfl
theorem zvy (a b:Memo):((a.client==b.client)&&(a.seq==b.seq)&&eqRe a.reply b.reply)=eqMe a b:=by unfold eqMe eqRe;simp only[Bool.and_assoc]
theorem zo7 (a b:Memo) (ha:a.reply.held.length<2^30) (hb:b.reply.held.length<2^30):CallOK prog 53 [.f (.agg a.lent), .f (.agg b.lent)] (fun r o=>r=[rb (eqMe a b)]∧o=[]):=by
 refine zh func53 results53 ntmps53 call53 ?_
 simp only[f53,Option.getD]
 have h:=zk0 a.reply b.reply ha hb
 refine zL trivial (h) ?_
 rw[←zvy]
structure Pkt where
 kind:Int
 ballot:Int
 slot:Int
 done:Int
 req:Req
 ans:Memo
 bat:Batch
 prom:Prom
 snap:Sn
abbrev snE (s:Sn):List D:=iD s.done::iD s.view::iD s.slot::stE s.st
abbrev Pkt.enc (p:Pkt):List D:=iD p.kind::iD p.ballot::iD p.slot::iD p.done::(p.req.enc++(p.ans.enc++(p.bat.enc++(p.prom.enc++snE p.snap))))
abbrev Pkt.lent (p:Pkt):List C:=di p.kind::di p.ballot::di p.slot::di p.done::(p.req.enc.map C.d++(p.ans.lent++(p.bat.lent++(p.prom.lent++p.snap.lent))))
structure Pkt.ok (p:Pkt):Prop where
 k:i64 p.kind
 b:i64 p.ballot
 s:i64 p.slot
 d:i64 p.done
 req:p.req.ok
 ans:zcl p.ans.reply
 bat:p.bat.ok
 bl:p.bat.reqs.length<2^30
 prom:p.prom.ok
 pl:p.prom.votes.length<2^30
 vl:∀x∈p.prom.votes,x.batch.reqs.length<2^30
 snap:Small p.snap.st
def eqPk (a b:Pkt):Bool:=(a.kind==b.kind)&&(a.ballot==b.ballot)&&(a.slot==b.slot)&&(a.done==b.done)&&zfz a.req b.req&&eqMe a.ans b.ans&&eqBa a.bat b.bat&&ziT a.prom b.prom&&ziS a.snap b.snap
theorem zri (a b:Pkt) (ha:a.ok) (hb:b.ok):CallOK prog 17 [.f (.agg a.lent), .f (.agg b.lent)] (fun r o=>r=[rb (eqPk a b)]∧o=[]):=by
 refine zh func17 results17 ntmps17 call17 ?_
 simp only[f17,Option.getD]
 have h1:=zo7 a.ans b.ans (by have:=ha.ans.1;omega) (by have:=hb.ans.1;omega)
 have h2:=zmn a.bat b.bat ha.bl hb.bl
 have h3:=ztb a.prom b.prom ha.pl hb.pl ha.vl hb.vl
 have h4:=zmu a.snap b.snap ha.snap hb.snap
 refine zL trivial (I (h1) (I (h2) (I (h3) (h4)))) ?_
 rfl
abbrev zw5:St:=⟨0,0,0,[],[],[]⟩
abbrev bat00:Batch:=⟨false,0,⟨0,0⟩,0,[]⟩
def zcd (p:Pkt):Bool:=p.ballot==0&&p.slot==0&&p.done==0&&zfz p.req ⟨0,0,0,0, .empty⟩&&p.ans.client==0&&p.ans.seq==0&&p.ans.reply.code==0&&p.ans.reply.session==0&&p.ans.reply.ahead==0&&(p.ans.reply.held.length:Int)==0&&
 eqBa p.bat bat00&&p.prom.src==0&&p.prom.done==0&&((p.prom.tip.view==0)&&(p.prom.tip.slot==0))&&p.prom.time==0&&(p.prom.votes.length:Int)==0&&p.snap.done==0&&((p.snap.view==0)&&(p.snap.slot==0))&&zrs p.snap.st zw5
theorem zg3 (v a:Int):CallOK prog 36 [.f (ai v), .f (ai a)] (fun r o=>r=[rb (decide (v≥a)&&decide (v≤2305843009213693952))]∧o=[]):=by
 refine zh func36 results36 ntmps36 call36 ?_
 simp only[f36,Option.getD]
 exact zW0 trivial
set_option maxHeartbeats 2000000 in
theorem zcr (p:Pkt) (h:p.ok):CallOK prog 40 [.f (.agg p.lent)] (fun r o=>r=[rb (zcd p)]∧o=[]):=by
 refine zh func40 results40 ntmps40 call40 ?_
 simp only[f40,Option.getD]
 have h1:=zrg p.bat bat00 h.bl (by simp)
 have h2:=zrH p.snap.st zw5 h.snap ⟨by simp,by simp,by simp,by simp,by simp⟩
 refine zL trivial (I (h1) (h2)) ?_
 rfl
abbrev inW (v a:Int):Bool:=decide (v≥a)&&decide (v≤2305843009213693952)
def zw6 (p:Pkt):Pkt:=if p.kind=1 then {p with req:=⟨0,0,0,0, .empty⟩}else if p.kind=2 then {p with ans:=⟨0,0,⟨0,0,0,[]⟩⟩}else if p.kind=3 then {p with ballot:=0}else if p.kind=4 then {p with ballot:=0,prom:=⟨0,0,⟨0,0⟩,0,[]⟩}else if p.kind=5 then {p with ballot:=0,slot:=0,bat:=bat00}else if p.kind=6 then {p with ballot:=0,slot:=0,bat:=bat00}else if p.kind=7 then {p with ballot:=0,done:=0}else if p.kind=8 then {p with done:=0}else if p.kind=9 then {p with snap:=⟨0,0,0,zw5⟩}else p
def okP (p:Pkt):Bool:=if p.kind=1 then Req.may p.req else if p.kind=2 then answerB p.ans else if p.kind=3 then inW p.ballot 0 else if p.kind=4 then inW p.ballot 0&&Prom.may p.prom else if p.kind=5 then inW p.ballot 0&&inW p.slot 1&&Batch.may p.bat else if p.kind=6 then inW p.ballot 0&&inW p.slot 1&&Batch.may p.bat else if p.kind=7 then inW p.ballot 0&&inW p.done 0 else if p.kind=8 then inW p.done 0 else if p.kind=9 then zaZ p.snap else false
def zmm (p:Pkt):Bool:=okP p&&zcd (zw6 p)
theorem kinds (k:Int):k=1∨k=2∨k=3∨k=4∨k=5∨k=6∨k=7∨k=8∨k=9∨((k==1)=false∧(k==2)=false∧(k==3)=false∧(k==4)=false∧(k==5)=false∧(k==6)=false∧(k==7)=false∧(k==8)=false∧(k==9)=false):=by
 simp only[beq_eq_false_iff_ne,ne_eq];omega
theorem zrf:Small zw5:=⟨by simp,by simp,by simp,by simp,by simp⟩
theorem zc1:i64 0:=by unfold i64;omega
theorem zt9:bat00.ok:=⟨zc1,zc1,zc1,zc1,by simp,by simp⟩
set_option maxHeartbeats 4000000 in
theorem zgD (p:Pkt) (h:p.ok):CallOK prog 13 [.f (.agg p.lent)] (fun r o=>r=[rb (zmm p)]∧o=[]):=by
 refine zh func13 results13 ntmps13 call13 ?_
 simp only[f13,Option.getD]
 obtain⟨kind,ballot,slot,done,req,ans,bat,prom,snap⟩:=p
 obtain⟨hk,hb,hs,hd,hreq,hans,hbat,hbl,hprom,hpl,hvl,hsn⟩:=h
 simp only at hk hb hs hd hreq hans hbat hbl hprom hpl hvl hsn
 have w1:=zg3 ballot 0
 have w2:=zg3 slot 1
 have w3:=zg3 done 0
 rcases kinds kind with rfl|rfl|rfl|rfl|rfl|rfl|rfl|rfl|rfl|⟨k1,k2,k3,k4,k5,k6,k7,k8,k9⟩
 ·have he:=zcr ⟨1,ballot,slot,done,⟨0,0,0,0, .empty⟩,ans,bat,prom,snap⟩ ⟨hk,hb,hs,hd,⟨zc1,zc1,zc1,zc1,(by show(ByteArray.empty).size<2^62;decide)⟩,hans,hbat,hbl,hprom,hpl,hvl,hsn⟩
  have hm:=ze2 req hreq
  refine zL trivial (I (hm) (he)) ?_
  rfl
 ·have he:=zcr ⟨2,ballot,slot,done,req,⟨0,0,⟨0,0,0,[]⟩⟩,bat,prom,snap⟩ ⟨hk,hb,hs,hd,hreq,⟨by simp,by simp⟩,hbat,hbl,hprom,hpl,hvl,hsn⟩
  have hm:=zdU ans hans
  refine zL trivial (I (hm) (he)) ?_
  rfl
 ·have he:=zcr ⟨3,0,slot,done,req,ans,bat,prom,snap⟩ ⟨hk,zc1,hs,hd,hreq,hans,hbat,hbl,hprom,hpl,hvl,hsn⟩
  refine zL trivial (I (w1) (he)) ?_
  rfl
 ·have he:=zcr ⟨4,0,slot,done,req,ans,bat,⟨0,0,⟨0,0⟩,0,[]⟩,snap⟩ ⟨hk,zc1,hs,hd,hreq,hans,hbat,hbl,⟨zc1,zc1,zc1,zc1,zc1,by simp,by simp⟩,by simp,by simp,hsn⟩
  have hm:=zo8 prom hprom
  refine zL trivial (I (hm) (I (w1) (he))) ?_
  rfl
 ·have he:=zcr ⟨5,0,0,done,req,ans,bat00,prom,snap⟩ ⟨hk,zc1,zc1,hd,hreq,hans,zt9,by simp,hprom,hpl,hvl,hsn⟩
  have hm:=zc0 bat hbat
  refine zL trivial (I (hm) (I (w1) (I (w2) (he)))) ?_
  rfl
 ·have he:=zcr ⟨6,0,0,done,req,ans,bat00,prom,snap⟩ ⟨hk,zc1,zc1,hd,hreq,hans,zt9,by simp,hprom,hpl,hvl,hsn⟩
  have hm:=zc0 bat hbat
  refine zL trivial (I (hm) (I (w1) (I (w2) (he)))) ?_
  rfl
 ·have he:=zcr ⟨7,0,slot,0,req,ans,bat,prom,snap⟩ ⟨hk,zc1,hs,zc1,hreq,hans,hbat,hbl,hprom,hpl,hvl,hsn⟩
  refine zL trivial (I (w1) (I (w3) (he))) ?_
  rfl
 ·have he:=zcr ⟨8,ballot,slot,0,req,ans,bat,prom,snap⟩ ⟨hk,hb,hs,zc1,hreq,hans,hbat,hbl,hprom,hpl,hvl,hsn⟩
  refine zL trivial (I (w3) (he)) ?_
  rfl
 ·have he:=zcr ⟨9,ballot,slot,done,req,ans,bat,prom,⟨0,0,0,zw5⟩⟩ ⟨hk,hb,hs,hd,hreq,hans,hbat,hbl,hprom,hpl,hvl,zrf⟩
  have hm:=zgR snap hsn
  refine zL trivial (I (hm) (he)) ?_
  rfl
 ·have he:=zcr ⟨kind,ballot,slot,done,req,ans,bat,prom,snap⟩ ⟨hk,hb,hs,hd,hreq,hans,hbat,hbl,hprom,hpl,hvl,hsn⟩
  have hz:zmm ⟨kind,ballot,slot,done,req,ans,bat,prom,snap⟩=false:=by
   simp only[beq_eq_false_iff_ne,ne_eq]at k1 k2 k3 k4 k5 k6 k7 k8 k9
   unfold zmm okP
   simp only[k1,k2,k3,k4,k5,k6,k7,k8,k9,if_false,Bool.false_and]
  rw[hz]
  exact zW (I k1 (I k2 (I k3 (I k4 (I k5 (I k6 (I k7 (I k8 k9)))))))) (he)
def zmi (v:Vote):List Int:=zaJ [v.slot,v.ballot]++zey v.batch
abbrev zmj (p:Prom):List Int:=[p.done,p.tip.view,p.tip.slot,p.time]
def pr0 (p:Prom):List Int:=[p.src]++(zaJ (zmj p)++[(p.votes.length:Int)])
def pr1 (p:Prom) (i:Nat):List Int:=pr0 p++(p.votes.take i).flatMap zmi
def zfc (p:Prom):List Int:=pr1 p p.votes.length
theorem zhP {p:Prom}:pr1 p 0=pr0 p:=by simp[pr1]
theorem zrd (p:Prom):(pr0 p).length=34:=by simp[pr0,zbU]
theorem zgC {b:Batch} (h:Batch.may b=true):(zey b).length≤127:=by
 unfold zey
 split
 ·simp
 ·obtain⟨h1,h2⟩:=zfa h
  have:=zm6 h2 b.reqs.length
  omega
theorem zre {v:Vote} (h:Batch.may v.batch=true):(zmi v).length≤143:=by
 have:=zgC h
 rw[zmi,List.length_append,zbU]
 simp only[List.length_cons,List.length_nil]
 omega
theorem zn8 {p:Prom} {i:Nat} (hi:i<p.votes.length):pr1 p (i+1)=pr1 p i++zmi p.votes[i]:=by
 rw[pr1,zcE _ hi,pr1,List.append_assoc]
theorem zna {p:Prom} (h:∀v∈p.votes,Batch.may v.batch=true) (i:Nat):(pr1 p i).length≤34+i*143:=by
 have:=zdq zmi (l:=p.votes.take i) (k:=143) fun v hv=>zre (h v (List.mem_of_mem_take hv))
 have h2:(p.votes.take i).length*143≤i*143:=Nat.mul_le_mul_right _ (by rw[List.length_take];omega)
 rw[pr1,List.length_append,zrd]
 omega
theorem zxm {n:Int} (h:0≤n∧n≤2305843009213693952):0≤n∧n<4611686018427387904:=by omega
theorem zmk {p:Prom} (m:MayP p):∀v∈zmj p,0≤v∧v<4611686018427387904:=by
 intro v hv
 have:=m.done
 have:=m.view
 have:=m.slot
 have:=m.time
 simp only[zmj,List.mem_cons,List.not_mem_nil,or_false]at hv
 rcases hv with rfl|rfl|rfl|rfl<;>omega
theorem zml {p:Prom} (m:MayP p) {v:Vote} (hv:v∈p.votes):(∀x∈[v.slot,v.ballot],0≤x∧x<4611686018427387904)∧Batch.may v.batch=true:=by
 obtain⟨_,_,h1,h2,h3⟩:=m.votes v hv
 have:=bad_false h1
 have:=bad_false h2
 refine⟨fun x hx=> ?_,h3⟩
 simp only[List.mem_cons,List.not_mem_nil,or_false]at hx
 rcases hx with rfl|rfl<;>omega
set_option maxHeartbeats 2000000 in
theorem zo6 (p:Prom) (m:MayP p):CallOK prog 25 [.f (.agg p.lent)] (fun x o=>x=[.one (.own 1 (zfc p).length (zaa (zfc p)) false)]∧o=[]):=by
 refine zh func25 results25 ntmps25 call25 ?_
 simp only[f25,Option.getD]
 have hsrc:=m.src
 have hvl:=m.len
 have hmay:∀v∈p.votes,Batch.may v.batch=true:=fun v hv=>(m.votes v hv).2.2.2.2
 have w1:IntKind.u8.wrap p.src=p.src:=zbf (by omega) (by omega)
 have w2:IntKind.u8.wrap (p.votes.length:Int)=p.votes.length:=zbf (by omega) (by omega)
 have hpn:=zfb (zmj p) (by simp) (zmk m)
 have hcc:CallOK prog 66 [.f (al 3 [.sl 1 (zaa [p.src]), .sl (zaJ (zmj p)).length (zaa (zaJ (zmj p))), .sl 1 (zaa [(p.votes.length:Int)])])] (fun x o=>x=[.one (.own 1 (pr0 p).length (zaa (pr0 p)) false)]∧o=[]):=by
  have hc:=ze5 [[p.src],zaJ (zmj p),[(p.votes.length:Int)]] (by simp) (fun l hl=>by
   simp only[List.mem_cons,List.not_mem_nil,or_false]at hl
   rcases hl with rfl|rfl|rfl
   ·simp
   ·rw[zbU];simp
   ·simp)
  rw[show [[p.src],zaJ (zmj p),[(p.votes.length:Int)]].flatten=pr0 p from by simp[pr0]]at hc
  exact hc
 have t1:∀x:Int,toDs (sub 0 1 1 [C.d (uD x)])=some [uD x]:=fun _=>rfl
 have t4:∀a b c d:Int,toDs (sub 0 4 1 [di a,di b,di c,di d])=some [iD a,iD b,iD c,iD d]:=fun _ _ _ _=>rfl
 refine zL (I t1 (I t4 (I w1 (I w2 @zah)))) (I (hpn) (hcc)) ?_
 refine zaf (τ:=Nat) (fun i=>⟨(dq3 (.one (.own ⟨3,1,1⟩ 0 (pr1 p i).length)::ztp (al p.votes.length (zbe p.votes)::ai p.votes.length::ai i::zpa []))),[(1,⟨2,[]⟩),(11,⟨2,[]⟩),(22,⟨2,[]⟩),(23,⟨2,[]⟩),(28,⟨2,[]⟩),(29,⟨2,[]⟩),(30,⟨2,[]⟩),(3,⟨2,[none,roq 1 1 (zaa (pr1 p i))]⟩),(5,⟨2,[]⟩),(6,⟨2,[]⟩),(41,⟨2,[]⟩),(49,⟨2,[]⟩),(50,⟨2,[]⟩),(52,⟨2,[]⟩),(53,⟨2,[]⟩)]⟩)
  (fun i=>i≤p.votes.length) (fun _=>()) (fun i=>p.votes.length - i) 0
  (Gh.canon [3] [5,6,41,49,50,52,53] [] (zk @zhP) rfl (by rw[zhP];rfl)) (Nat.zero_le _) ?_
 intro i hi0 hF K hK
 refine zw ?_
 refine zab (fun hlt=> ?_) (fun hge=> ?_)
 ·have hi:i<p.votes.length:=by simpa using hlt
  have hat:=zdP hi
  have hw:=zai hi (by omega)
  obtain⟨vn,vm⟩:=zml m (List.getElem_mem hi)
  have hb:=ziM p.votes[i].batch vm
  have hn:=zfb [p.votes[i].slot,p.votes[i].ballot] (by simp) vn
  have hl0:=zna hmay i
  have hl1:=zgC vm
  have hsl:=zn8 hi
  have hcc:CallOK prog 66 [.f (al 3 [.sl (pr1 p i).length (zaa (pr1 p i)), .sl (zaJ [p.votes[i].slot,p.votes[i].ballot]).length (zaa (zaJ [p.votes[i].slot,p.votes[i].ballot])), .sl (zey p.votes[i].batch).length (zaa (zey p.votes[i].batch))])] (fun x o=>x=[.one (.own 1 (pr1 p (i+1)).length (zaa (pr1 p (i+1))) false)]∧o=[]):=by
   have hc:=ze5 [pr1 p i,zaJ [p.votes[i].slot,p.votes[i].ballot],zey p.votes[i].batch] (by simp) (fun l hl=>by
    simp only[List.mem_cons,List.not_mem_nil,or_false]at hl
    rcases hl with rfl|rfl|rfl
    ·omega
    ·rw[zbU];simp
    ·omega)
   rw[show [pr1 p i,zaJ [p.votes[i].slot,p.votes[i].ballot],zey p.votes[i].batch].flatten=pr1 p (i+1) from by rw[hsl];simp[zmi]]at hc
   exact hc
  have t2:∀a b:Int,toDs (sub 0 2 1 [di a,di b])=some [iD a,iD b]:=fun _ _=>rfl
  refine zL (I hat (I @zaA (I t2 (I @zah zca)))) (I (hb) (I (hn) (hcc))) ?_
  exact hK _ (i+1) (Gh.canon [3] [] [] (zk hw) rfl rfl) hi rfl (by omega)
 ·have hi:i=p.votes.length:=by
   have:¬(i:Int)<p.votes.length:=by simpa using hge
   omega
  subst hi
  refine zL0 trivial ?_
  rfl
def zw4 (p:Pkt):List Int:=if p.kind=1 then zhM p.req else if p.kind=2 then za9 p.ans else if p.kind=3 then zaJ [p.ballot]else if p.kind=4 then zaJ [p.ballot]++zfc p.prom else if p.kind=5 then zaJ [p.ballot,p.slot]++zey p.bat else if p.kind=6 then zaJ [p.ballot,p.slot]++zey p.bat else if p.kind=7 then zaJ [p.ballot,p.done]else if p.kind=8 then zaJ [p.done]else snI p.snap
def pkI (p:Pkt):List Int:=[p.kind]++zw4 p
theorem ziO {p:Pkt} (h:zmm p=true):okP p=true∧zcd (zw6 p)=true:=by
 unfold zmm at h
 simpa using h
theorem zb7 {v a:Int} (h:inW v a=true) (ha:0≤a):0≤v∧v<4611686018427387904:=by
 simp only[inW,Bool.and_eq_true,decide_eq_true_eq]at h
 omega
theorem zvv {a:Int} (h:0≤a∧a<4611686018427387904):∀v∈[a],0≤v∧v<4611686018427387904:=fun v hv=>by
 simp only[List.mem_cons,List.not_mem_nil,or_false]at hv
 rw[hv];exact h
theorem zvw {a b:Int} (h:0≤a∧a<4611686018427387904) (h2:0≤b∧b<4611686018427387904):∀v∈[a,b],0≤v∧v<4611686018427387904:=fun v hv=>by
 simp only[List.mem_cons,List.not_mem_nil,or_false]at hv
 rcases hv with rfl|rfl<;>assumption
theorem zvx {s:Sn} (h:zaZ s=true):(snI s).length≤1200:=by
 obtain⟨_,_,_,hr⟩:=zeo h
 have h1:=ziv hr s.st.memos.length
 have h2:=zgq hr
 unfold snI zdJ
 simp only[List.length_append,zaz]
 omega
theorem zrc {p:Prom} (m:MayP p):(zfc p).length≤1321:=by
 have:=zna (fun v hv=>(m.votes v hv).2.2.2.2) p.votes.length
 have:=m.len
 unfold zfc
 omega
theorem ziP {p:Pkt} (h:zmm p=true):(zw4 p).length≤1400:=by
 have ho:=(ziO h).1
 obtain⟨kind,ballot,slot,done,req,ans,bat,prom,snap⟩:=p
 rcases kinds kind with rfl|rfl|rfl|rfl|rfl|rfl|rfl|rfl|rfl|⟨k1,k2,k3,k4,k5,k6,k7,k8,k9⟩
 ·have:=zhO (show Req.may req=true from ho)
  show(zhM req).length≤_
  omega
 ·have:=zer (show answerB ans=true from ho)
  show(za9 ans).length≤_
  omega
 ·show(zaJ [ballot]).length≤_
  rw[zbU];simp
 ·have ho:(inW ballot 0&&Prom.may prom)=true:=ho
  rw[Bool.and_eq_true]at ho
  have:=zrc (zrl ho.2)
  show(zaJ [ballot]++zfc prom).length≤_
  rw[List.length_append,zbU];simp only[List.length_singleton];omega
 ·have ho:(inW ballot 0&&inW slot 1&&Batch.may bat)=true:=ho
  rw[Bool.and_eq_true]at ho
  have:=zgC ho.2
  show(zaJ [ballot,slot]++zey bat).length≤_
  rw[List.length_append,zbU];simp only[List.length_cons,List.length_nil];omega
 ·have ho:(inW ballot 0&&inW slot 1&&Batch.may bat)=true:=ho
  rw[Bool.and_eq_true]at ho
  have:=zgC ho.2
  show(zaJ [ballot,slot]++zey bat).length≤_
  rw[List.length_append,zbU];simp only[List.length_cons,List.length_nil];omega
 ·show(zaJ [ballot,done]).length≤_
  rw[zbU];simp
 ·show(zaJ [done]).length≤_
  rw[zbU];simp
 ·have:=zvx (show zaZ snap=true from ho)
  show(snI snap).length≤_
  omega
 ·simp only[beq_eq_false_iff_ne,ne_eq]at k1 k2 k3 k4 k5 k6 k7 k8 k9
  unfold okP at ho
  simp only[k1,k2,k3,k4,k5,k6,k7,k8,k9,if_false]at ho
  cases ho
theorem put_eq (k:Int) (l:List Int):[RF.one (.own 1 (1+l.length) (uD k::zaa l) false),ri 0]=[RF.one (.own 1 ([k]++l).length (zaa ([k]++l)) false),ri 0]:=by
 simp[zaa,Nat.add_comm]
theorem zm9 (k:Int) (a b:List Int):[RF.one (.own 1 (1+(a.length+b.length)) (uD k::(zaa a++zaa b)) false),ri 0]=[RF.one (.own 1 ([k]++(a++b)).length (zaa ([k]++(a++b))) false),ri 0]:=by
 simp[zaa,Nat.add_comm]
theorem zmh (p:Pkt) (hp:p.ok) (h:zmm p=false):CallOK prog 11 [.f (.agg p.lent)] (fun r o=>r=[.one (.d (.v zeC)),ri 1]∧o=[]):=by
 refine zh func11 results11 ntmps11 call11 ?_
 simp only[f11,Option.getD]
 have hm:=zgD p hp
 rw[h]at hm
 exact zW trivial (hm)
set_option maxHeartbeats 4000000 in
theorem ziQ (p:Pkt) (hp:p.ok) (h:zmm p=true):CallOK prog 11 [.f (.agg p.lent)] (fun r o=>r=[.one (.own 1 (pkI p).length (zaa (pkI p)) false),ri 0]∧o=[]):=by
 refine zh func11 results11 ntmps11 call11 ?_
 simp only[f11,Option.getD]
 have hm:=zgD p hp
 rw[h]at hm
 have ho:=(ziO h).1
 have hl:=ziP h
 obtain⟨kind,ballot,slot,done,req,ans,bat,prom,snap⟩:=p
 have t1:∀x:Int,toDs (sub 0 1 1 [di x])=some [iD x]:=fun _=>rfl
 have t2:∀x y:Int,toDs (sub 0 2 1 [di x,di y])=some [iD x,iD y]:=fun _ _=>rfl
 rcases kinds kind with rfl|rfl|rfl|rfl|rfl|rfl|rfl|rfl|rfl|⟨k1,k2,k3,k4,k5,k6,k7,k8,k9⟩
 ·have hc:=zme req ho
  have w:IntKind.u8.wrap 1=1:=zbf (by omega) (by omega)
  have hle:(1+(zhM req).length≤2^47)=True:=eq_true (by have hl:(zhM req).length≤1400:=hl;omega)
  refine zL (I t1 (I t2 (I w (I hle (I @zah @List.length_map.{0,0}))))) (I (hm) (hc)) ?_
  exact put_eq _ _
 ·have hc:=zhg ans ho
  have w:IntKind.u8.wrap 2=2:=zbf (by omega) (by omega)
  have hle:(1+(za9 ans).length≤2^47)=True:=eq_true (by have hl:(za9 ans).length≤1400:=hl;omega)
  refine zL (I t1 (I t2 (I w (I hle (I @zah @List.length_map.{0,0}))))) (I (hm) (hc)) ?_
  exact put_eq _ _
 ·have hc:=zfb [ballot] (by simp) (zvv (zb7 (show inW ballot 0=true from ho) (by omega)))
  have w:IntKind.u8.wrap 3=3:=zbf (by omega) (by omega)
  have hle:(1+(zaJ [ballot]).length≤2^47)=True:=eq_true (by have hl:(zaJ [ballot]).length≤1400:=hl;omega)
  refine zL (I t1 (I t2 (I w (I hle (I @zah @List.length_map.{0,0}))))) (I (hm) (hc)) ?_
  exact put_eq _ _
 ·have ho:(inW ballot 0&&Prom.may prom)=true:=ho
  rw[Bool.and_eq_true]at ho
  have hc:=zfb [ballot] (by simp) (zvv (zb7 ho.1 (by omega)))
  have hc2:=zo6 prom (zrl ho.2)
  have w:IntKind.u8.wrap 4=4:=zbf (by omega) (by omega)
  have hle:(1+((zaJ [ballot]).length+(zfc prom).length)≤2^47)=True:=eq_true (by have hl:(zaJ [ballot]++zfc prom).length≤1400:=hl;rw[List.length_append]at hl;omega)
  have hle2:((zaJ [ballot]).length+(zfc prom).length≤2^47)=True:=eq_true (by have hl:(zaJ [ballot]++zfc prom).length≤1400:=hl;rw[List.length_append]at hl;omega)
  have tk:(zaa (zaJ [ballot])++zaa (zfc prom)).take ((zaJ [ballot]).length+(zfc prom).length)=zaa (zaJ [ballot])++zaa (zfc prom):=List.take_of_length_le (by simp)
  refine zL (I t1 (I t2 (I w (I hle (I hle2 (I tk (I @zah @List.length_map.{0,0}))))))) (I (hm) (I (hc) (hc2))) ?_
  exact zm9 _ _ _
 ·have ho:(inW ballot 0&&inW slot 1&&Batch.may bat)=true:=ho
  rw[Bool.and_eq_true,Bool.and_eq_true]at ho
  have hc:=zfb [ballot,slot] (by simp) (zvw (zb7 ho.1.1 (by omega)) (zb7 ho.1.2 (by omega)))
  have hc2:=ziM bat ho.2
  have w:IntKind.u8.wrap 5=5:=zbf (by omega) (by omega)
  have hle:(1+((zaJ [ballot,slot]).length+(zey bat).length)≤2^47)=True:=eq_true (by have hl:(zaJ [ballot,slot]++zey bat).length≤1400:=hl;rw[List.length_append]at hl;omega)
  have hle2:((zaJ [ballot,slot]).length+(zey bat).length≤2^47)=True:=eq_true (by have hl:(zaJ [ballot,slot]++zey bat).length≤1400:=hl;rw[List.length_append]at hl;omega)
  have tk:(zaa (zaJ [ballot,slot])++zaa (zey bat)).take ((zaJ [ballot,slot]).length+(zey bat).length)=zaa (zaJ [ballot,slot])++zaa (zey bat):=List.take_of_length_le (by simp)
  refine zL (I t1 (I t2 (I w (I hle (I hle2 (I tk (I @zah @List.length_map.{0,0}))))))) (I (hm) (I (hc) (hc2))) ?_
  exact zm9 _ _ _
 ·have ho:(inW ballot 0&&inW slot 1&&Batch.may bat)=true:=ho
  rw[Bool.and_eq_true,Bool.and_eq_true]at ho
  have hc:=zfb [ballot,slot] (by simp) (zvw (zb7 ho.1.1 (by omega)) (zb7 ho.1.2 (by omega)))
  have hc2:=ziM bat ho.2
  have w:IntKind.u8.wrap 6=6:=zbf (by omega) (by omega)
  have hle:(1+((zaJ [ballot,slot]).length+(zey bat).length)≤2^47)=True:=eq_true (by have hl:(zaJ [ballot,slot]++zey bat).length≤1400:=hl;rw[List.length_append]at hl;omega)
  have hle2:((zaJ [ballot,slot]).length+(zey bat).length≤2^47)=True:=eq_true (by have hl:(zaJ [ballot,slot]++zey bat).length≤1400:=hl;rw[List.length_append]at hl;omega)
  have tk:(zaa (zaJ [ballot,slot])++zaa (zey bat)).take ((zaJ [ballot,slot]).length+(zey bat).length)=zaa (zaJ [ballot,slot])++zaa (zey bat):=List.take_of_length_le (by simp)
  refine zL (I t1 (I t2 (I w (I hle (I hle2 (I tk (I @zah @List.length_map.{0,0}))))))) (I (hm) (I (hc) (hc2))) ?_
  exact zm9 _ _ _
 ·have ho:(inW ballot 0&&inW done 0)=true:=ho
  rw[Bool.and_eq_true]at ho
  have hc:=zfb [ballot,done] (by simp) (zvw (zb7 ho.1 (by omega)) (zb7 ho.2 (by omega)))
  have w:IntKind.u8.wrap 7=7:=zbf (by omega) (by omega)
  have hle:(1+(zaJ [ballot,done]).length≤2^47)=True:=eq_true (by have hl:(zaJ [ballot,done]).length≤1400:=hl;omega)
  refine zL (I t1 (I t2 (I w (I hle (I @zah @List.length_map.{0,0}))))) (I (hm) (hc)) ?_
  exact put_eq _ _
 ·have hc:=zfb [done] (by simp) (zvv (zb7 (show inW done 0=true from ho) (by omega)))
  have w:IntKind.u8.wrap 8=8:=zbf (by omega) (by omega)
  have hle:(1+(zaJ [done]).length≤2^47)=True:=eq_true (by have hl:(zaJ [done]).length≤1400:=hl;omega)
  refine zL (I t1 (I t2 (I w (I hle (I @zah @List.length_map.{0,0}))))) (I (hm) (hc)) ?_
  exact put_eq _ _
 ·have hc:=zoO snap ho
  have w:IntKind.u8.wrap 9=9:=zbf (by omega) (by omega)
  have hle:(1+(snI snap).length≤2^47)=True:=eq_true (by have hl:(snI snap).length≤1400:=hl;omega)
  refine zL (I t1 (I t2 (I w (I hle (I @zah @List.length_map.{0,0}))))) (I (hm) (hc)) ?_
  exact put_eq _ _
 ·simp only[beq_eq_false_iff_ne,ne_eq]at k1 k2 k3 k4 k5 k6 k7 k8 k9
  unfold okP at ho
  simp only[k1,k2,k3,k4,k5,k6,k7,k8,k9,if_false]at ho
  cases ho
end Go.Proofs.YtliimajkpggbhaaGreat
