import Derived.Test.YtbpmcjeeeiffhaaGreatM5
namespace Go.Proofs.YtbpmcjeeeiffhaaGreat
open Go.Pk
set_option maxRecDepth 100000
set_option linter.unusedSimpArgs false
set_option linter.unusedVariables false
structure Sn where
 done:Int
 view:Int
 slot:Int
 st:St
abbrev Sn.lent (s:Sn):List C:=di s.done::di s.view::di s.slot::s.st.lent
abbrev snRF (s:Sn):RF:= .agg (.d (iD s.done):: .d (iD s.view):: .d (iD s.slot)::(stE s.st).map RO.d)
def maySnapB (s:Sn):Bool:=within s.done&&(within s.view&&(within s.slot&&rightB s.st))
theorem zbL (n:Int):within n=(!(decide (n<0))&& !(decide (n>2305843009213693952))):=by
 unfold within
 have hH:High=2305843009213693952:=rfl
 rw[hH]
 by_cases h1:n<0<;>by_cases h2:n>2305843009213693952<;>simp[h1,h2]<;>omega
set_option maxHeartbeats 1000000 in
theorem ze1 (s:Sn) (h:Small s.st):CallOK Tryz.prog 11 [.f (.agg s.lent)] (fun r o=>r=[rb (maySnapB s)]∧o=[]):=by
 refine zae zat mixed (T:=Ty) (n:=27) Tryz.func11 (c:=Tryz.f11.body.getD .skip) rfl Tryz.results11 Tryz.ntmps11 Tryz.call11 ?_
 simp only[Tryz.f11,Option.getD]
 have hri:=zhJ s.st h
 have hagg:∀(Z:List Nat) (r:Rs) (xs ys:List AV),fgc Z r (AV.agg [di s.done,di s.view,di s.slot]::xs) (AV.agg [di s.done,di s.view,di s.slot]::ys)=fgc Z r xs ys:=fun Z r xs ys=>zhh rfl rfl
 repeat'(first|refine zq0 ?_|exact zd0|refine zaa ?_|refine zab (fun hb=> ?_) (fun hb=> ?_)|(refine And.intro ?_ ?_;exact zI)|refine And.intro (fun hg=> ?_) (fun hg=> ?_)|exact zC|fail)
 refine zaq (τ:=Nat) (fun i=>⟨[dd, .one (.ptr ⟨1,0,1⟩ 0),dd,dd,dd,dd,dd,dd,dd,dd,dd,dd,dd, .agg [di s.done,di s.view,di s.slot],ai i,dd,dd,dd,dd,dd,dd,dd,dd,dd,dd,dd,dd],[(1,{next:=2,l:=[some {e:=1,var:=true,fz:=false,sz:=0,cells:=[di s.done,di s.view,di s.slot,di s.st.time,di s.st.num,di s.st.token, .lent s.st.sess.length (sessE s.st.sess), .lent s.st.locks.length (locksE s.st.locks), .lent s.st.memos.length (memosE s.st.memos)]},none,none,none,none,none,none,none,none,none]})]⟩)
  (fun i=>i≤3) (fun i=>if i=0 then maySnapB s else if i=1 then within s.view&&(within s.slot&&rightB s.st)else if i=2 then within s.slot&&rightB s.st else rightB s.st) (fun i=>3 - i) 0
  (Gh.canon [1] [] [] (by simp only[hagg,zah,zau,zai,zak,zal,zam,List.set_cons_zero,List.set_cons_succ,and_true,true_and,Int.natCast_zero,Int.cast_ofNat_Int,D.v.injEq,Value.int.injEq];try(repeat'(first|rfl|omega|with_reducible apply And.intro))) rfl rfl) (Nat.zero_le _) ?_
 intro i hi0 hF K hK
 rw[if_pos rfl]at hF
 refine zw ?_
 refine zab (fun hlt=> ?_) (fun hge=> ?_)
 ·have hi:i<3:=by simp at hlt;omega
  have hw:IntKind.i64.wrap ((i:Int)+1)=((i+1:Nat):Int):=zar hi (by omega)
  rcases(show i=0∨i=1∨i=2 by omega)with rfl|rfl|rfl
  ·have hb:=zbL s.done
   cases h1:decide (s.done<0)
   ·cases h2:decide (s.done>2305843009213693952)
    ·rw[h1,h2]at hb
     repeat'(first|refine zq (I h1 h2) ?_|exact zd (I h1 h2)|refine zaa ?_|refine zab (fun hb=> ?_) (fun hb=> ?_)|(refine And.intro ?_ ?_;exact zI)|refine And.intro (fun hg=> ?_) (fun hg=> ?_)|exact zC|fail)
     exact hK _ 1 (Gh.canon [1] [] [] (by simp only[hw,hagg,zah,zau,zai,zak,zal,zam,List.set_cons_zero,List.set_cons_succ,and_true,true_and,Int.natCast_zero,Int.cast_ofNat_Int,D.v.injEq,Value.int.injEq];try(repeat'(first|rfl|omega|with_reducible apply And.intro))) rfl rfl) (by omega) (by simp[maySnapB,hb]) (by omega)
    ·rw[h1,h2]at hb
     have hz:maySnapB s=false:=by simp[maySnapB,hb]
     repeat'(first|refine zq (I h1 (I h2 hz)) ?_|exact zd (I h1 (I h2 hz))|refine zaa ?_|refine zab (fun hb=> ?_) (fun hb=> ?_)|(refine And.intro ?_ ?_;exact zI)|refine And.intro (fun hg=> ?_) (fun hg=> ?_)|exact zC|fail)
   ·rw[h1]at hb
    have hz:maySnapB s=false:=by simp[maySnapB,hb]
    repeat'(first|refine zq (I h1 hz) ?_|exact zd (I h1 hz)|refine zaa ?_|refine zab (fun hb=> ?_) (fun hb=> ?_)|(refine And.intro ?_ ?_;exact zI)|refine And.intro (fun hg=> ?_) (fun hg=> ?_)|exact zC|fail)
  ·have hb:=zbL s.view
   simp only[Nat.reduceEqDiff,if_true,if_false]at hF
   rw[←hF]
   cases h1:decide (s.view<0)
   ·cases h2:decide (s.view>2305843009213693952)
    ·rw[h1,h2]at hb
     repeat'(first|refine zq (I h1 h2) ?_|exact zd (I h1 h2)|refine zaa ?_|refine zab (fun hb=> ?_) (fun hb=> ?_)|(refine And.intro ?_ ?_;exact zI)|refine And.intro (fun hg=> ?_) (fun hg=> ?_)|exact zC|fail)
     exact hK _ 2 (Gh.canon [1] [] [] (by simp only[hw,hagg,zah,zau,zai,zak,zal,zam,List.set_cons_zero,List.set_cons_succ,and_true,true_and,Int.natCast_zero,Int.cast_ofNat_Int,D.v.injEq,Value.int.injEq];try(repeat'(first|rfl|omega|with_reducible apply And.intro))) rfl rfl) (by omega) (by simp[hb]) (by omega)
    ·rw[h1,h2]at hb
     have hz:(within s.view&&(within s.slot&&rightB s.st))=false:=by simp[hb]
     repeat'(first|refine zq (I h1 (I h2 hz)) ?_|exact zd (I h1 (I h2 hz))|refine zaa ?_|refine zab (fun hb=> ?_) (fun hb=> ?_)|(refine And.intro ?_ ?_;exact zI)|refine And.intro (fun hg=> ?_) (fun hg=> ?_)|exact zC|fail)
   ·rw[h1]at hb
    have hz:(within s.view&&(within s.slot&&rightB s.st))=false:=by simp[hb]
    repeat'(first|refine zq (I h1 hz) ?_|exact zd (I h1 hz)|refine zaa ?_|refine zab (fun hb=> ?_) (fun hb=> ?_)|(refine And.intro ?_ ?_;exact zI)|refine And.intro (fun hg=> ?_) (fun hg=> ?_)|exact zC|fail)
  ·have hb:=zbL s.slot
   simp only[Nat.reduceEqDiff,if_true,if_false]at hF
   rw[←hF]
   cases h1:decide (s.slot<0)
   ·cases h2:decide (s.slot>2305843009213693952)
    ·rw[h1,h2]at hb
     repeat'(first|refine zq (I h1 h2) ?_|exact zd (I h1 h2)|refine zaa ?_|refine zab (fun hb=> ?_) (fun hb=> ?_)|(refine And.intro ?_ ?_;exact zI)|refine And.intro (fun hg=> ?_) (fun hg=> ?_)|exact zC|fail)
     exact hK _ 3 (Gh.canon [1] [] [] (by simp only[hw,hagg,zah,zau,zai,zak,zal,zam,List.set_cons_zero,List.set_cons_succ,and_true,true_and,Int.natCast_zero,Int.cast_ofNat_Int,D.v.injEq,Value.int.injEq];try(repeat'(first|rfl|omega|with_reducible apply And.intro))) rfl rfl) (by omega) (by simp[hb]) (by omega)
    ·rw[h1,h2]at hb
     have hz:(within s.slot&&rightB s.st)=false:=by simp[hb]
     repeat'(first|refine zq (I h1 (I h2 hz)) ?_|exact zd (I h1 (I h2 hz))|refine zaa ?_|refine zab (fun hb=> ?_) (fun hb=> ?_)|(refine And.intro ?_ ?_;exact zI)|refine And.intro (fun hg=> ?_) (fun hg=> ?_)|exact zC|fail)
   ·rw[h1]at hb
    have hz:(within s.slot&&rightB s.st)=false:=by simp[hb]
    repeat'(first|refine zq (I h1 hz) ?_|exact zd (I h1 hz)|refine zaa ?_|refine zab (fun hb=> ?_) (fun hb=> ?_)|(refine And.intro ?_ ?_;exact zI)|refine And.intro (fun hg=> ?_) (fun hg=> ?_)|exact zC|fail)
 ·have hi:i=3:=by
   have:¬(i:Int)<3:=by simpa using hge
   omega
  subst hi
  simp only[Nat.reduceEqDiff,if_false]at hF
  rw[←hF]
  repeat'(first|refine zq0 ?_|exact zd0|refine zc (hri) ?_|refine zg (hri) ?_|refine zaa ?_|refine zab (fun hb=> ?_) (fun hb=> ?_)|(refine And.intro ?_ ?_;exact zI)|refine And.intro (fun hg=> ?_) (fun hg=> ?_)|exact zC|fail)
def snI (s:Sn):List Int:=numB s.done++(numB s.view++(numB s.slot++stateI s.st))
theorem zlB (s:Sn) (hs:Small s.st) (h:maySnapB s=false):CallOK Tryz.prog 10 [.f (.agg s.lent)] (fun r o=>r=[.one (.d (.v nilV)),ri 1]∧o=[]):=by
 refine zae zat mixed (T:=Ty) (n:=29) Tryz.func10 (c:=Tryz.f10.body.getD .skip) rfl Tryz.results10 Tryz.ntmps10 Tryz.call10 ?_
 simp only[Tryz.f10,Option.getD]
 have hm:=ze1 s hs
 rw[h]at hm
 repeat'(first|refine zq0 ?_|exact zd0|refine zc (hm) ?_|refine zg (hm) ?_|refine zaa ?_|refine zab (fun hb=> ?_) (fun hb=> ?_)|(refine And.intro ?_ ?_;exact zI)|refine And.intro (fun hg=> ?_) (fun hg=> ?_)|exact zC|fail)
end Go.Proofs.YtbpmcjeeeiffhaaGreat
namespace Go.Proofs.YtbpmcjeeeiffhaaGreat
open Go.Pk
set_option maxRecDepth 100000
set_option linter.unusedSimpArgs false
set_option linter.unusedVariables false
def szG (k:Nat):Nat:=if k=4 then 9 else 1
def nwG (x:Value) (k:Nat):List Value:=if k=4 then [.int .i64 0, .int .i64 0, .int .i64 0, .int .i64 0, .int .i64 0, .int .i64 0,nilV,nilV,nilV]else if k=5 then [.int .i64 0]else [codeOf x]
def rSnap (bs:List Int) (p:Int):Rr Sn:=match rNum bs p with
 | .error e=> .error e
 | .ok d=>match rNum bs d.2 with
  | .error e=> .error e
  | .ok v=>match rNum bs v.2 with
   | .error e=> .error e
   | .ok l=>match rState bs l.2 with
    | .error e=> .error e
    | .ok s=>if maySnapB ⟨d.1,v.1,l.1,s.1⟩=true then .ok (⟨d.1,v.1,l.1,s.1⟩,s.2)else .error 4
abbrev sn0:Sn:=⟨0,0,0,st0⟩
def dSn (bs:List Int) (p:Int):Sn×Int×Int:=match rSnap bs p with
 | .ok y=>(y.1,y.2,0)
 | .error e=>(sn0,0,e)
end Go.Proofs.YtbpmcjeeeiffhaaGreat
namespace Go.Proofs.YtbpmcjeeeiffhaaGreat
open Go.Pk
set_option maxRecDepth 100000
set_option linter.unusedSimpArgs false
set_option linter.unusedVariables false
theorem zkJ {α:Type} {a:α} {q:Int}:rOf (a,q,0)= .ok (a,q):=rfl
theorem ze0 {bs:List Int} {p:Nat} {v:Int} {rest:List Int} (h:bs.drop p=numB v++rest) (hv:0≤v∧v<4611686018427387904):rNum bs p= .ok (v,((p+8:Nat):Int)):=by rw[rNum,zh1 h hv,zkJ]
theorem zfB {bs:List Int} {p:Nat} {x:Int} {rest:List Int} (h:bs.drop p=[x]++rest):rByte bs p= .ok (x,((p+1:Nat):Int)):=by rw[rByte,zeN h,zkJ]
theorem zoW {bs:List Int} {p:Nat} {s:ByteArray} {rest:List Int} (h:bs.drop p=textI s++rest) (hs:s.size≤12):rName bs p= .ok (s,((p+(1+s.size):Nat):Int)):=by rw[rName,zkQ h (by omega),zkJ]
theorem zoX {bs:List Int} {p:Nat} {m:Memo} {rest:List Int} (h:bs.drop p=answerI m++rest) (hm:answerB m=true):rMemo bs p= .ok (m,((p+(answerI m).length:Nat):Int)):=by rw[rMemo,zlN h hm,zkJ]
theorem zeI {bs:List Int} {p:Nat} {x most:Int} {rest:List Int} (h:bs.drop p=[x]++rest) (hx:x≤most):rCount bs p most= .ok (x,((p+1:Nat):Int)):=by
 rw[rCount,zfB h]
 simp only
 rw[if_neg (by omega)]
theorem zeJ {α:Type} {bs:List Int} {f:Int→Rr α} {enc:α→List Int}:∀{l:List α} {p:Nat} {acc:List α} {rest:List Int},(∀x∈l,∀(p:Nat) (rest:List Int),bs.drop p=enc x++rest→f p= .ok (x,((p+(enc x).length:Nat):Int)))→
  bs.drop p=l.flatMap enc++rest→rMany f l.length p acc= .ok (acc++l,((p+(l.flatMap enc).length:Nat):Int))
 |[],p,acc,rest,_,_=>by simp[rMany]
 |x::l,p,acc,rest,hf,h=>by
  rw[List.flatMap_cons,List.append_assoc]at h
  rw[List.length_cons,rMany,hf x (by simp) p _ h]
  simp only
  rw[zeJ (fun y hy=>hf y (by simp[hy])) (zaI h)]
  simp[Nat.add_assoc]
theorem zoY {bs:List Int} {p:Nat} {x:Sess} {rest:List Int} (h:bs.drop p=sessI x++rest) (h1:0≤x.num∧x.num<4611686018427387904) (h2:0≤x.renewed∧x.renewed<4611686018427387904):
  rSess bs p= .ok (x,((p+(sessI x).length:Nat):Int)):=by
 have h:bs.drop p=[x.client]++(numB x.num++(numB x.renewed++rest)):=by rw[h];simp[sessI]
 have g1:=zaI h
 have g2:=zaI g1
 rw[rSess,zfB h]
 simp only
 rw[List.length_singleton]at g1
 rw[ze0 g1 h1]
 simp only
 rw[za7,List.length_singleton]at g2
 rw[ze0 g2 h2,zi4]
theorem zg4 {bs:List Int}:∀{n:Nat} {p:Int} {acc:List Int},rLine bs n p acc=rMany (rByte bs) n p acc
 |0,_,_=>rfl
 |n+1,p,acc=>by
  rw[rLine,rMany]
  cases rByte bs p with
  |error e=>rfl
  |ok x=>exact zg4
theorem zgg (l:List Int):(l.flatMap fun x=>[x])=l:=by induction l<;>simp_all
theorem zoZ {bs:List Int} {p:Nat} {k:Lk} {rest:List Int} (h:bs.drop p=lockI k++rest) (h1:k.name.size≤12) (h2:0≤k.token∧k.token<4611686018427387904) (h3:k.line.length≤3):
  rLock bs p= .ok (k,((p+(lockI k).length:Nat):Int)):=by
 have h:bs.drop p=textI k.name++([k.holder]++(numB k.token++([(k.line.length:Int)]++((k.line.flatMap fun x=>[x])++rest)))):=by rw[h,zgg];simp[lockI,lk0]
 have g1:=zaI h
 have g2:=zaI g1
 have g3:=zaI g2
 have g4:=zaI g3
 rw[zbT]at g1 g2 g3 g4
 rw[List.length_singleton]at g2 g3 g4
 rw[za7]at g3 g4
 rw[List.length_singleton]at g4
 rw[rLock,zoW h h1]
 simp only
 rw[zfB g1]
 simp only
 rw[ze0 g2 h2]
 simp only
 rw[zeI g3 (by omega)]
 simp only
 rw[zg4,Int.toNat_natCast,zeJ (enc:=fun x=>[x]) (fun x _ p rest h=>zfB h) g4]
 simp only[List.nil_append,zgg]
 rw[lockI,List.length_append,zjM]
 congr 3
 omega
theorem znG {bs:List Int} {p:Nat} {s:St} {rest:List Int} (h:bs.drop p=stateI s++rest) (hr:RightS s):rState bs p= .ok (s,((p+(stateI s).length:Nat):Int)):=by
 have hH:High=2305843009213693952:=rfl
 have ht:=hr.time
 have hn:=hr.num
 have hk:=hr.token
 have hl1:=hr.sl
 have hl2:=hr.ll
 have hl3:=zkP hr
 have h:bs.drop p=numB s.time++(numB s.num++(numB s.token++([(s.sess.length:Int)]++(s.sess.flatMap sessI++([(s.locks.length:Int)]++(s.locks.flatMap lockI++([(s.memos.length:Int)]++(s.memos.flatMap answerI++rest)))))))):=by
  rw[h];simp[stateI,sb3,sb2,sb1,headS]
 have g1:=zaI h
 have g2:=zaI g1
 have g3:=zaI g2
 have g4:=zaI g3
 have g5:=zaI g4
 have g6:=zaI g5
 have g7:=zaI g6
 have g8:=zaI g7
 rw[za7]at g1 g2 g3 g4 g5 g6 g7 g8
 rw[za7]at g2 g3 g4 g5 g6 g7 g8
 rw[za7]at g3 g4 g5 g6 g7 g8
 rw[List.length_singleton]at g4 g5 g6 g7 g8
 rw[List.length_singleton]at g6 g7 g8
 rw[List.length_singleton]at g8
 rw[rState,ze0 h (by omega)]
 simp only
 rw[ze0 g1 (by omega)]
 simp only
 rw[ze0 g2 (by omega)]
 simp only
 rw[zeI g3 (by omega)]
 simp only
 rw[Int.toNat_natCast,zeJ (enc:=sessI) (fun x hx p rest h=>by
  obtain⟨_,f2,f3⟩:=zbA.1 (hr.sok x hx).1
  exact zoY h (by omega) (by omega)) g4]
 simp only
 rw[zeI g5 (by omega)]
 simp only
 rw[Int.toNat_natCast,zeJ (enc:=lockI) (fun x hx p rest h=>by
  obtain⟨q0,q1,q2,q3,q4,q5⟩:=ze3 hr hx
  exact zoZ h q1 q3 q4) g6]
 simp only
 rw[zeI g7 (by omega)]
 simp only
 rw[Int.toNat_natCast,zeJ (enc:=answerI) (fun x hx p rest h=>zoX h (hr.mok x hx)) g8]
 simp only[List.nil_append]
 rw[if_pos (zcj.2 hr)]
 congr 3
 simp only[stateI,sb3,sb2,sb1,headS,List.length_append,List.take_length,za7,List.length_singleton]
 omega
end Go.Proofs.YtbpmcjeeeiffhaaGreat
namespace Go.Proofs.YtbpmcjeeeiffhaaGreat
open Go.Pk
set_option maxRecDepth 100000
set_option linter.unusedSimpArgs false
set_option linter.unusedVariables false
def sameL {α:Type} (eq:α→α→Bool) (a b:List α):Bool:=(a.length==b.length)&&((a.zip b).all fun p=>eq p.1 p.2)
def restL {α:Type} (eq:α→α→Bool) (a b:List α) (i:Nat):Bool:=((a.drop i).zip (b.drop i)).all fun p=>eq p.1 p.2
theorem zbC {α:Type} {eq:α→α→Bool} {a b:List α} {i:Nat} (ha:i<a.length) (hb:i<b.length):restL eq a b i=(eq a[i] b[i]&&restL eq a b (i+1)):=by
 unfold restL
 rw[List.drop_eq_getElem_cons ha,List.drop_eq_getElem_cons hb,List.zip_cons_cons,List.all_cons]
theorem zbS {α:Type} {eq:α→α→Bool} {a b:List α} {i:Nat} (ha:i=a.length):restL eq a b i=true:=by
 unfold restL
 rw[List.drop_eq_nil_of_le (by omega)];simp
theorem zcd {α:Type} {eq:α→α→Bool} {a b:List α} (h:((a.length:Int) !=(b.length:Int))=true):sameL eq a b=false:=by
 unfold sameL
 simp at h
 simp;omega
theorem zce {α:Type} {eq:α→α→Bool} {a b:List α} (h:((a.length:Int) !=(b.length:Int))=false):a.length=b.length∧sameL eq a b=restL eq a b 0:=by
 have hl:a.length=b.length:=by simp at h;omega
 unfold sameL restL
 simp[hl]
def eqInt (a b:Int):Bool:=a==b
def eqGr (a b:Grant):Bool:=(a.name.toList==b.name.toList)&&(a.token==b.token)
def eqSe (a b:Sess):Bool:=(a.client==b.client)&&((a.num==b.num)&&(a.renewed==b.renewed))
def eqLk (a b:Lk):Bool:=(a.name.toList==b.name.toList)&&(a.holder==b.holder)&&(a.token==b.token)&&sameL eqInt a.line b.line
def eqRe (a b:Reply):Bool:=(a.code==b.code)&&(a.session==b.session)&&(a.ahead==b.ahead)&&sameL eqGr a.held b.held
def eqMe (a b:Memo):Bool:=(a.client==b.client)&&(a.seq==b.seq)&&(a.reply.code==b.reply.code)&&(a.reply.session==b.reply.session)&&(a.reply.ahead==b.reply.ahead)&&sameL eqGr a.reply.held b.reply.held
def eqSt (a b:St):Bool:=(a.time==b.time)&&(a.num==b.num)&&(a.token==b.token)&&sameL eqSe a.sess b.sess&&sameL eqLk a.locks b.locks&&sameL eqMe a.memos b.memos
theorem znB {a b:List Int}:sameI a b=sameL eqInt a b:=rfl
set_option maxHeartbeats 1000000 in
theorem zoR (a b:List Int) (ha:a.length<2^30) (hb:b.length<2^30):CallOK Tryz.prog 48 [.f (al a.length (intsE a)), .f (al b.length (intsE b))] (fun r o=>r=[rb (sameL eqInt a b)]∧o=[]):=by
 refine zae zat mixed (T:=Ty) (n:=26) Tryz.func48 (c:=Tryz.f48.body.getD .skip) rfl Tryz.results48 Tryz.ntmps48 Tryz.call48 ?_
 simp only[Tryz.f48,Option.getD]
 cases hl:((a.length:Int) !=(b.length:Int))
 ·obtain⟨hle,hsr⟩:=zce (eq:=eqInt) hl
  rw[hsr]
  repeat'(first|refine zq hl ?_|exact zd hl|refine zaa ?_|refine zab (fun hb=> ?_) (fun hb=> ?_)|(refine And.intro ?_ ?_;exact zI)|refine And.intro (fun hg=> ?_) (fun hg=> ?_)|exact zC|fail)
  refine zaq (τ:=Nat) (fun i=>⟨[al a.length (intsE a),al b.length (intsE b),dd,dd,dd,dd,dd,dd,dd,dd,dd,dd,ai a.length,ai i,dd,dd,dd,dd,dd,dd,dd,dd,dd,dd,dd,dd],[]⟩)
   (fun i=>i≤a.length) (fun i=>restL eqInt a b i) (fun i=>a.length - i) 0
   (Gh.canon [] [] [] zK rfl rfl) (Nat.zero_le _) ?_
  intro i hi0 hF K hK
  refine zw ?_
  refine zab (fun hlt=> ?_) (fun hge=> ?_)
  ·have hi:i<a.length:=by simpa using hlt
   have hi2:i<b.length:=by omega
   have hat:=zbE hi
   have hat2:=zbE hi2
   have hw:=zar hi (by omega)
   have hlb:decide ((i:Int)<a.length)=true:=by simp;omega
   have hst:=zbC (eq:=eqInt) hi hi2
   cases hq:eqInt a[i] b[i]
   ·rw[hq]at hst
    have he:(a[i] !=b[i])=true:=by unfold eqInt at hq;rw[bne,hq];rfl
    rw[←hF,hst]
    repeat'(first|refine zq (I hat (I hat2 (I hlb (I he (I @Bool.not_true (I @Bool.not_false (I @Bool.and_self (I @List.cons_append.{0} (I @List.nil_append.{0} @zao))))))))) ?_|exact zd (I hat (I hat2 (I hlb (I he (I @Bool.not_true (I @Bool.not_false (I @Bool.and_self (I @List.cons_append.{0} (I @List.nil_append.{0} @zao)))))))))|refine zaa ?_|refine zab (fun hb=> ?_) (fun hb=> ?_)|(refine And.intro ?_ ?_;exact zI)|refine And.intro (fun hg=> ?_) (fun hg=> ?_)|exact zC|fail)
   ·rw[hq,Bool.true_and]at hst
    have he:(a[i] !=b[i])=false:=by unfold eqInt at hq;rw[bne,hq];rfl
    repeat'(first|refine zq (I hat (I hat2 (I hlb (I he (I @Bool.not_true (I @Bool.not_false (I @Bool.and_self (I @List.cons_append.{0} (I @List.nil_append.{0} @zao))))))))) ?_|exact zd (I hat (I hat2 (I hlb (I he (I @Bool.not_true (I @Bool.not_false (I @Bool.and_self (I @List.cons_append.{0} (I @List.nil_append.{0} @zao)))))))))|refine zaa ?_|refine zab (fun hb=> ?_) (fun hb=> ?_)|(refine And.intro ?_ ?_;exact zI)|refine And.intro (fun hg=> ?_) (fun hg=> ?_)|exact zC|fail)
    exact hK _ (i+1) (Gh.canon [] [] [] (by simp only[hw,zah,zau,zai,zak,zal,zam,List.set_cons_zero,List.set_cons_succ,and_true,true_and,Int.natCast_zero,Int.cast_ofNat_Int,D.v.injEq,Value.int.injEq];try(repeat'(first|rfl|omega|with_reducible apply And.intro))) rfl rfl) hi hst.symm (by omega)
  ·have hi:i=a.length:=by
    have:¬(i:Int)<a.length:=by simpa using hge
    omega
   rw[←hF,zbS hi]
   repeat'(first|refine zq0 ?_|exact zd0|refine zaa ?_|refine zab (fun hb=> ?_) (fun hb=> ?_)|(refine And.intro ?_ ?_;exact zI)|refine And.intro (fun hg=> ?_) (fun hg=> ?_)|exact zC|fail)
 ·rw[zcd hl]
  repeat'(first|refine zq hl ?_|exact zd hl|refine zaa ?_|refine zab (fun hb=> ?_) (fun hb=> ?_)|(refine And.intro ?_ ?_;exact zI)|refine And.intro (fun hg=> ?_) (fun hg=> ?_)|exact zC|fail)
set_option maxHeartbeats 1000000 in
theorem zlx (a b:List Grant) (ha:a.length<2^30) (hb:b.length<2^30):CallOK Tryz.prog 51 [.f (al a.length (grantsE a)), .f (al b.length (grantsE b))] (fun r o=>r=[rb (sameL eqGr a b)]∧o=[]):=by
 refine zae zat mixed (T:=Ty) (n:=26) Tryz.func51 (c:=Tryz.f51.body.getD .skip) rfl Tryz.results51 Tryz.ntmps51 Tryz.call51 ?_
 simp only[Tryz.f51,Option.getD]
 cases hl:((a.length:Int) !=(b.length:Int))
 ·obtain⟨hle,hsr⟩:=zce (eq:=eqGr) hl
  rw[hsr]
  repeat'(first|refine zq hl ?_|exact zd hl|refine zaa ?_|refine zab (fun hb=> ?_) (fun hb=> ?_)|(refine And.intro ?_ ?_;exact zI)|refine And.intro (fun hg=> ?_) (fun hg=> ?_)|exact zC|fail)
  refine zaq (τ:=Nat) (fun i=>⟨[al a.length (grantsE a),al b.length (grantsE b),dd,dd,dd,dd,dd,dd,dd,dd,dd,dd,ai a.length,ai i,dd,dd,dd,dd,dd,dd,dd,dd,dd,dd,dd,dd],[]⟩)
   (fun i=>i≤a.length) (fun i=>restL eqGr a b i) (fun i=>a.length - i) 0
   (Gh.canon [] [] [] zK rfl rfl) (Nat.zero_le _) ?_
  intro i hi0 hF K hK
  refine zw ?_
  refine zab (fun hlt=> ?_) (fun hge=> ?_)
  ·have hi:i<a.length:=by simpa using hlt
   have hi2:i<b.length:=by omega
   have hat:=zbo hi
   have hat2:=zbo hi2
   have hw:=zar hi (by omega)
   have hlb:decide ((i:Int)<a.length)=true:=by simp;omega
   have hst:=zbC (eq:=eqGr) hi hi2
   cases hq:eqGr a[i] b[i]
   ·rw[hq]at hst
    have he:((a[i].name.toList==b[i].name.toList)&&(a[i].token==b[i].token))=false:=by exact hq
    rw[←hF,hst]
    repeat'(first|refine zq (I hat (I hat2 (I hlb (I he (I @Bool.not_true (I @Bool.not_false (I @Bool.and_self (I @List.cons_append.{0} (I @List.nil_append.{0} @zaz))))))))) ?_|exact zd (I hat (I hat2 (I hlb (I he (I @Bool.not_true (I @Bool.not_false (I @Bool.and_self (I @List.cons_append.{0} (I @List.nil_append.{0} @zaz)))))))))|refine zaa ?_|refine zab (fun hb=> ?_) (fun hb=> ?_)|(refine And.intro ?_ ?_;exact zI)|refine And.intro (fun hg=> ?_) (fun hg=> ?_)|exact zC|fail)
   ·rw[hq,Bool.true_and]at hst
    have he:((a[i].name.toList==b[i].name.toList)&&(a[i].token==b[i].token))=true:=by exact hq
    repeat'(first|refine zq (I hat (I hat2 (I hlb (I he (I @Bool.not_true (I @Bool.not_false (I @Bool.and_self (I @List.cons_append.{0} (I @List.nil_append.{0} @zaz))))))))) ?_|exact zd (I hat (I hat2 (I hlb (I he (I @Bool.not_true (I @Bool.not_false (I @Bool.and_self (I @List.cons_append.{0} (I @List.nil_append.{0} @zaz)))))))))|refine zaa ?_|refine zab (fun hb=> ?_) (fun hb=> ?_)|(refine And.intro ?_ ?_;exact zI)|refine And.intro (fun hg=> ?_) (fun hg=> ?_)|exact zC|fail)
    exact hK _ (i+1) (Gh.canon [] [] [] (by simp only[hw,zah,zau,zai,zak,zal,zam,List.set_cons_zero,List.set_cons_succ,and_true,true_and,Int.natCast_zero,Int.cast_ofNat_Int,D.v.injEq,Value.int.injEq];try(repeat'(first|rfl|omega|with_reducible apply And.intro))) rfl rfl) hi hst.symm (by omega)
  ·have hi:i=a.length:=by
    have:¬(i:Int)<a.length:=by simpa using hge
    omega
   rw[←hF,zbS hi]
   repeat'(first|refine zq0 ?_|exact zd0|refine zaa ?_|refine zab (fun hb=> ?_) (fun hb=> ?_)|(refine And.intro ?_ ?_;exact zI)|refine And.intro (fun hg=> ?_) (fun hg=> ?_)|exact zC|fail)
 ·rw[zcd hl]
  repeat'(first|refine zq hl ?_|exact zd hl|refine zaa ?_|refine zab (fun hb=> ?_) (fun hb=> ?_)|(refine And.intro ?_ ?_;exact zI)|refine And.intro (fun hg=> ?_) (fun hg=> ?_)|exact zC|fail)
set_option maxHeartbeats 1000000 in
theorem zoS (a b:List Sess) (ha:a.length<2^30) (hb:b.length<2^30):CallOK Tryz.prog 45 [.f (al a.length (sessE a)), .f (al b.length (sessE b))] (fun r o=>r=[rb (sameL eqSe a b)]∧o=[]):=by
 refine zae zat mixed (T:=Ty) (n:=26) Tryz.func45 (c:=Tryz.f45.body.getD .skip) rfl Tryz.results45 Tryz.ntmps45 Tryz.call45 ?_
 simp only[Tryz.f45,Option.getD]
 cases hl:((a.length:Int) !=(b.length:Int))
 ·obtain⟨hle,hsr⟩:=zce (eq:=eqSe) hl
  rw[hsr]
  repeat'(first|refine zq hl ?_|exact zd hl|refine zaa ?_|refine zab (fun hb=> ?_) (fun hb=> ?_)|(refine And.intro ?_ ?_;exact zI)|refine And.intro (fun hg=> ?_) (fun hg=> ?_)|exact zC|fail)
  refine zaq (τ:=Nat) (fun i=>⟨[al a.length (sessE a),al b.length (sessE b),dd,dd,dd,dd,dd,dd,dd,dd,dd,dd,ai a.length,ai i,dd,dd,dd,dd,dd,dd,dd,dd,dd,dd,dd,dd],[]⟩)
   (fun i=>i≤a.length) (fun i=>restL eqSe a b i) (fun i=>a.length - i) 0
   (Gh.canon [] [] [] zK rfl rfl) (Nat.zero_le _) ?_
  intro i hi0 hF K hK
  refine zw ?_
  refine zab (fun hlt=> ?_) (fun hge=> ?_)
  ·have hi:i<a.length:=by simpa using hlt
   have hi2:i<b.length:=by omega
   have hat:=zbl hi
   have hat2:=zbl hi2
   have hw:=zar hi (by omega)
   have hlb:decide ((i:Int)<a.length)=true:=by simp;omega
   have hst:=zbC (eq:=eqSe) hi hi2
   cases hq:eqSe a[i] b[i]
   ·rw[hq]at hst
    have he:((a[i].client==b[i].client)&&((a[i].num==b[i].num)&&(a[i].renewed==b[i].renewed)))=false:=by exact hq
    rw[←hF,hst]
    repeat'(first|refine zq (I hat (I hat2 (I hlb (I he (I @Bool.not_true (I @Bool.not_false (I @Bool.and_self (I @List.cons_append.{0} (I @List.nil_append.{0} @zav))))))))) ?_|exact zd (I hat (I hat2 (I hlb (I he (I @Bool.not_true (I @Bool.not_false (I @Bool.and_self (I @List.cons_append.{0} (I @List.nil_append.{0} @zav)))))))))|refine zaa ?_|refine zab (fun hb=> ?_) (fun hb=> ?_)|(refine And.intro ?_ ?_;exact zI)|refine And.intro (fun hg=> ?_) (fun hg=> ?_)|exact zC|fail)
   ·rw[hq,Bool.true_and]at hst
    have he:((a[i].client==b[i].client)&&((a[i].num==b[i].num)&&(a[i].renewed==b[i].renewed)))=true:=by exact hq
    repeat'(first|refine zq (I hat (I hat2 (I hlb (I he (I @Bool.not_true (I @Bool.not_false (I @Bool.and_self (I @List.cons_append.{0} (I @List.nil_append.{0} @zav))))))))) ?_|exact zd (I hat (I hat2 (I hlb (I he (I @Bool.not_true (I @Bool.not_false (I @Bool.and_self (I @List.cons_append.{0} (I @List.nil_append.{0} @zav)))))))))|refine zaa ?_|refine zab (fun hb=> ?_) (fun hb=> ?_)|(refine And.intro ?_ ?_;exact zI)|refine And.intro (fun hg=> ?_) (fun hg=> ?_)|exact zC|fail)
    exact hK _ (i+1) (Gh.canon [] [] [] (by simp only[hw,zah,zau,zai,zak,zal,zam,List.set_cons_zero,List.set_cons_succ,and_true,true_and,Int.natCast_zero,Int.cast_ofNat_Int,D.v.injEq,Value.int.injEq];try(repeat'(first|rfl|omega|with_reducible apply And.intro))) rfl rfl) hi hst.symm (by omega)
  ·have hi:i=a.length:=by
    have:¬(i:Int)<a.length:=by simpa using hge
    omega
   rw[←hF,zbS hi]
   repeat'(first|refine zq0 ?_|exact zd0|refine zaa ?_|refine zab (fun hb=> ?_) (fun hb=> ?_)|(refine And.intro ?_ ?_;exact zI)|refine And.intro (fun hg=> ?_) (fun hg=> ?_)|exact zC|fail)
 ·rw[zcd hl]
  repeat'(first|refine zq hl ?_|exact zd hl|refine zaa ?_|refine zab (fun hb=> ?_) (fun hb=> ?_)|(refine And.intro ?_ ?_;exact zI)|refine And.intro (fun hg=> ?_) (fun hg=> ?_)|exact zC|fail)
theorem zoT (a b:Lk) (ha:a.line.length<2^30) (hb:b.line.length<2^30):CallOK Tryz.prog 47 [.f (.agg (a.enc.map C.d)), .f (.agg (b.enc.map C.d))] (fun r o=>r=[rb (eqLk a b)]∧o=[]):=by
 refine zae zat mixed (T:=Ty) (n:=31) Tryz.func47 (c:=Tryz.f47.body.getD .skip) rfl Tryz.results47 Tryz.ntmps47 Tryz.call47 ?_
 simp only[Tryz.f47,Option.getD]
 have hi:=zoR a.line b.line ha hb
 repeat'(first|refine zq0 ?_|exact zd0|refine zc (hi) ?_|refine zg (hi) ?_|refine zaa ?_|refine zab (fun hb=> ?_) (fun hb=> ?_)|(refine And.intro ?_ ?_;exact zI)|refine And.intro (fun hg=> ?_) (fun hg=> ?_)|exact zC|fail)
 rfl
theorem zoU (a b:Memo) (ha:a.reply.held.length<2^30) (hb:b.reply.held.length<2^30):CallOK Tryz.prog 50 [.f (.agg (a.enc.map C.d)), .f (.agg (b.enc.map C.d))] (fun r o=>r=[rb (eqMe a b)]∧o=[]):=by
 refine zae zat mixed (T:=Ty) (n:=51) Tryz.func50 (c:=Tryz.f50.body.getD .skip) rfl Tryz.results50 Tryz.ntmps50 Tryz.call50 ?_
 simp only[Tryz.f50,Option.getD]
 have hi:=zlx a.reply.held b.reply.held ha hb
 repeat'(first|refine zq0 ?_|exact zd0|refine zc (hi) ?_|refine zg (hi) ?_|refine zaa ?_|refine zab (fun hb=> ?_) (fun hb=> ?_)|(refine And.intro ?_ ?_;exact zI)|refine And.intro (fun hg=> ?_) (fun hg=> ?_)|exact zC|fail)
 rfl
abbrev afn (n:Nat):AV:= .one (.d (.v (.func (.func n) #[] #[])))
set_option maxHeartbeats 1000000 in
theorem znC (a b:List Lk) (ha:a.length<2^30) (hb:b.length<2^30) (hla:∀x∈a,x.line.length<2^30) (hlb2:∀x∈b,x.line.length<2^30):CallOK Tryz.prog 46 [.f (al a.length (locksE a)), .f (al b.length (locksE b)), .f (afn 47)] (fun r o=>r=[rb (sameL eqLk a b)]∧o=[]):=by
 refine zae zat mixed (T:=Ty) (n:=32) Tryz.func46 (c:=Tryz.f46.body.getD .skip) rfl Tryz.results46 Tryz.ntmps46 Tryz.call46 ?_
 simp only[Tryz.f46,Option.getD]
 have hfn:∀(Z:List Nat) (r:Rs) (xs ys:List AV),fgc Z r (afn 47::xs) (afn 47::ys)=fgc Z r xs ys:=fun Z r xs ys=>zhh rfl rfl
 cases hl:((a.length:Int) !=(b.length:Int))
 ·obtain⟨hle,hsr⟩:=zce (eq:=eqLk) hl
  rw[hsr]
  repeat'(first|refine zq hl ?_|exact zd hl|refine zaa ?_|refine zab (fun hb=> ?_) (fun hb=> ?_)|(refine And.intro ?_ ?_;exact zI)|refine And.intro (fun hg=> ?_) (fun hg=> ?_)|exact zC|fail)
  refine zaq (τ:=Nat) (fun i=>⟨[dd,al b.length (locksE b),afn 47,dd,dd,dd,dd,dd,dd,dd,dd,dd,dd,dd,dd,al a.length (locksE a),ai a.length,ai i,dd,dd,dd,dd,dd,dd,dd,dd,dd,dd,dd,dd,dd,dd],[(8,⟨2,[]⟩),(9,⟨2,[]⟩)]⟩)
   (fun i=>i≤a.length) (fun i=>restL eqLk a b i) (fun i=>a.length - i) 0
   (Gh.canon [] [8,9] [] (by simp only[hfn,zah,zau,zai,zak,zal,zam,List.set_cons_zero,List.set_cons_succ,and_true,true_and,Int.natCast_zero,Int.cast_ofNat_Int,D.v.injEq,Value.int.injEq];try(repeat'(first|rfl|omega|with_reducible apply And.intro))) rfl rfl) (Nat.zero_le _) ?_
  intro i hi0 hF K hK
  refine zw ?_
  refine zab (fun hlt=> ?_) (fun hge=> ?_)
  ·have hi:i<a.length:=by simpa using hlt
   have hi2:i<b.length:=by omega
   have hat:=zaN hi
   have hat2:=zaN hi2
   have hw:=zar hi (by omega)
   have hlb:decide ((i:Int)<a.length)=true:=by simp;omega
   have hst:=zbC (eq:=eqLk) hi hi2
   have hc:=zoT a[i] b[i] (hla _ (List.getElem_mem hi)) (hlb2 _ (List.getElem_mem hi2))
   cases hq:eqLk a[i] b[i]
   ·rw[hq]at hst
    have he:(!eqLk a[i] b[i])=true:=by rw[hq];rfl
    rw[←hF,hst]
    repeat'(first|refine zq (I hat (I hat2 (I hlb (I he (I @Bool.not_true (I @Bool.not_false (I @Bool.and_self (I @List.cons_append.{0} (I @List.nil_append.{0} @zaf))))))))) ?_|exact zd (I hat (I hat2 (I hlb (I he (I @Bool.not_true (I @Bool.not_false (I @Bool.and_self (I @List.cons_append.{0} (I @List.nil_append.{0} @zaf)))))))))|refine zc (hc) ?_|refine zg (hc) ?_|refine zaa ?_|refine zab (fun hb=> ?_) (fun hb=> ?_)|(refine And.intro ?_ ?_;exact zI)|refine And.intro (fun hg=> ?_) (fun hg=> ?_)|exact zC|fail)
   ·rw[hq,Bool.true_and]at hst
    have he:(!eqLk a[i] b[i])=false:=by rw[hq];rfl
    repeat'(first|refine zq (I hat (I hat2 (I hlb (I he (I @Bool.not_true (I @Bool.not_false (I @Bool.and_self (I @List.cons_append.{0} (I @List.nil_append.{0} @zaf))))))))) ?_|exact zd (I hat (I hat2 (I hlb (I he (I @Bool.not_true (I @Bool.not_false (I @Bool.and_self (I @List.cons_append.{0} (I @List.nil_append.{0} @zaf)))))))))|refine zc (hc) ?_|refine zg (hc) ?_|refine zaa ?_|refine zab (fun hb=> ?_) (fun hb=> ?_)|(refine And.intro ?_ ?_;exact zI)|refine And.intro (fun hg=> ?_) (fun hg=> ?_)|exact zC|fail)
    exact hK _ (i+1) (Gh.canon [] [] [] (by simp only[hw,hfn,zah,zau,zai,zak,zal,zam,List.set_cons_zero,List.set_cons_succ,and_true,true_and,Int.natCast_zero,Int.cast_ofNat_Int,D.v.injEq,Value.int.injEq];try(repeat'(first|rfl|omega|with_reducible apply And.intro))) rfl rfl) hi hst.symm (by omega)
  ·have hi:i=a.length:=by
    have:¬(i:Int)<a.length:=by simpa using hge
    omega
   rw[←hF,zbS hi]
   repeat'(first|refine zq0 ?_|exact zd0|refine zaa ?_|refine zab (fun hb=> ?_) (fun hb=> ?_)|(refine And.intro ?_ ?_;exact zI)|refine And.intro (fun hg=> ?_) (fun hg=> ?_)|exact zC|fail)
 ·rw[zcd hl]
  repeat'(first|refine zq hl ?_|exact zd hl|refine zaa ?_|refine zab (fun hb=> ?_) (fun hb=> ?_)|(refine And.intro ?_ ?_;exact zI)|refine And.intro (fun hg=> ?_) (fun hg=> ?_)|exact zC|fail)
set_option maxHeartbeats 1000000 in
theorem znD (a b:List Memo) (ha:a.length<2^30) (hb:b.length<2^30) (hla:∀x∈a,x.reply.held.length<2^30) (hlb2:∀x∈b,x.reply.held.length<2^30):CallOK Tryz.prog 49 [.f (al a.length (memosE a)), .f (al b.length (memosE b)), .f (afn 50)] (fun r o=>r=[rb (sameL eqMe a b)]∧o=[]):=by
 refine zae zat mixed (T:=Ty) (n:=32) Tryz.func49 (c:=Tryz.f49.body.getD .skip) rfl Tryz.results49 Tryz.ntmps49 Tryz.call49 ?_
 simp only[Tryz.f49,Option.getD]
 have hfn:∀(Z:List Nat) (r:Rs) (xs ys:List AV),fgc Z r (afn 50::xs) (afn 50::ys)=fgc Z r xs ys:=fun Z r xs ys=>zhh rfl rfl
 cases hl:((a.length:Int) !=(b.length:Int))
 ·obtain⟨hle,hsr⟩:=zce (eq:=eqMe) hl
  rw[hsr]
  repeat'(first|refine zq hl ?_|exact zd hl|refine zaa ?_|refine zab (fun hb=> ?_) (fun hb=> ?_)|(refine And.intro ?_ ?_;exact zI)|refine And.intro (fun hg=> ?_) (fun hg=> ?_)|exact zC|fail)
  refine zaq (τ:=Nat) (fun i=>⟨[dd,al b.length (memosE b),afn 50,dd,dd,dd,dd,dd,dd,dd,dd,dd,dd,dd,dd,al a.length (memosE a),ai a.length,ai i,dd,dd,dd,dd,dd,dd,dd,dd,dd,dd,dd,dd,dd,dd],[(8,⟨2,[]⟩),(9,⟨2,[]⟩)]⟩)
   (fun i=>i≤a.length) (fun i=>restL eqMe a b i) (fun i=>a.length - i) 0
   (Gh.canon [] [8,9] [] (by simp only[hfn,zah,zau,zai,zak,zal,zam,List.set_cons_zero,List.set_cons_succ,and_true,true_and,Int.natCast_zero,Int.cast_ofNat_Int,D.v.injEq,Value.int.injEq];try(repeat'(first|rfl|omega|with_reducible apply And.intro))) rfl rfl) (Nat.zero_le _) ?_
  intro i hi0 hF K hK
  refine zw ?_
  refine zab (fun hlt=> ?_) (fun hge=> ?_)
  ·have hi:i<a.length:=by simpa using hlt
   have hi2:i<b.length:=by omega
   have hat:=zb2 hi
   have hat2:=zb2 hi2
   have hw:=zar hi (by omega)
   have hlb:decide ((i:Int)<a.length)=true:=by simp;omega
   have hst:=zbC (eq:=eqMe) hi hi2
   have hc:=zoU a[i] b[i] (hla _ (List.getElem_mem hi)) (hlb2 _ (List.getElem_mem hi2))
   cases hq:eqMe a[i] b[i]
   ·rw[hq]at hst
    have he:(!eqMe a[i] b[i])=true:=by rw[hq];rfl
    rw[←hF,hst]
    repeat'(first|refine zq (I hat (I hat2 (I hlb (I he (I @Bool.not_true (I @Bool.not_false (I @Bool.and_self (I @List.cons_append.{0} (I @List.nil_append.{0} @zaA))))))))) ?_|exact zd (I hat (I hat2 (I hlb (I he (I @Bool.not_true (I @Bool.not_false (I @Bool.and_self (I @List.cons_append.{0} (I @List.nil_append.{0} @zaA)))))))))|refine zc (hc) ?_|refine zg (hc) ?_|refine zaa ?_|refine zab (fun hb=> ?_) (fun hb=> ?_)|(refine And.intro ?_ ?_;exact zI)|refine And.intro (fun hg=> ?_) (fun hg=> ?_)|exact zC|fail)
   ·rw[hq,Bool.true_and]at hst
    have he:(!eqMe a[i] b[i])=false:=by rw[hq];rfl
    repeat'(first|refine zq (I hat (I hat2 (I hlb (I he (I @Bool.not_true (I @Bool.not_false (I @Bool.and_self (I @List.cons_append.{0} (I @List.nil_append.{0} @zaA))))))))) ?_|exact zd (I hat (I hat2 (I hlb (I he (I @Bool.not_true (I @Bool.not_false (I @Bool.and_self (I @List.cons_append.{0} (I @List.nil_append.{0} @zaA)))))))))|refine zc (hc) ?_|refine zg (hc) ?_|refine zaa ?_|refine zab (fun hb=> ?_) (fun hb=> ?_)|(refine And.intro ?_ ?_;exact zI)|refine And.intro (fun hg=> ?_) (fun hg=> ?_)|exact zC|fail)
    exact hK _ (i+1) (Gh.canon [] [] [] (by simp only[hw,hfn,zah,zau,zai,zak,zal,zam,List.set_cons_zero,List.set_cons_succ,and_true,true_and,Int.natCast_zero,Int.cast_ofNat_Int,D.v.injEq,Value.int.injEq];try(repeat'(first|rfl|omega|with_reducible apply And.intro))) rfl rfl) hi hst.symm (by omega)
  ·have hi:i=a.length:=by
    have:¬(i:Int)<a.length:=by simpa using hge
    omega
   rw[←hF,zbS hi]
   repeat'(first|refine zq0 ?_|exact zd0|refine zaa ?_|refine zab (fun hb=> ?_) (fun hb=> ?_)|(refine And.intro ?_ ?_;exact zI)|refine And.intro (fun hg=> ?_) (fun hg=> ?_)|exact zC|fail)
 ·rw[zcd hl]
  repeat'(first|refine zq hl ?_|exact zd hl|refine zaa ?_|refine zab (fun hb=> ?_) (fun hb=> ?_)|(refine And.intro ?_ ?_;exact zI)|refine And.intro (fun hg=> ?_) (fun hg=> ?_)|exact zC|fail)
theorem pneg {p q r s t u:Bool}:((!(!p|| !q|| !r|| !s))&&t&&u)=(p&&q&&r&&s&&t&&u):=by cases p<;>cases q<;>cases r<;>cases s<;>simp
set_option maxHeartbeats 1000000 in
theorem zkI (a b:St) (ha:Small a) (hb:Small b):CallOK Tryz.prog 22 [.f (.agg a.lent), .f (.agg b.lent)] (fun r o=>r=[rb (eqSt a b)]∧o=[]):=by
 refine zae zat mixed (T:=Ty) (n:=44) Tryz.func22 (c:=Tryz.f22.body.getD .skip) rfl Tryz.results22 Tryz.ntmps22 Tryz.call22 ?_
 simp only[Tryz.f22,Option.getD]
 have h1:=zoS a.sess b.sess ha.sess hb.sess
 have h2:=znC a.locks b.locks ha.locks hb.locks (fun k hk=>(ha.line k hk).1) (fun k hk=>(hb.line k hk).1)
 have h3:=znD a.memos b.memos ha.memos hb.memos (fun k hk=>(ha.held k hk).1) (fun k hk=>(hb.held k hk).1)
 cases hq:((((a.time !=b.time)||(a.num !=b.num))||(a.token !=b.token))|| !sameL eqSe a.sess b.sess)
 ·have he:eqSt a b=(sameL eqLk a.locks b.locks&&sameL eqMe a.memos b.memos):=by
   unfold eqSt
   rw[←pneg,show(!(!(a.time==b.time)|| !(a.num==b.num)|| !(a.token==b.token)|| !sameL eqSe a.sess b.sess))=true from by revert hq;simp only[bne];cases(a.time==b.time)<;>cases(a.num==b.num)<;>cases(a.token==b.token)<;>cases sameL eqSe a.sess b.sess<;>simp]
   simp
  rw[he]
  repeat'(first|refine zq hq ?_|exact zd hq|refine zc (h1) ?_|refine zg (h1) ?_|refine zc (h2) ?_|refine zg (h2) ?_|refine zc (h3) ?_|refine zg (h3) ?_|refine zaa ?_|refine zab (fun hb=> ?_) (fun hb=> ?_)|(refine And.intro ?_ ?_;exact zI)|refine And.intro (fun hg=> ?_) (fun hg=> ?_)|exact zC|fail)
 ·have he:eqSt a b=false:=by
   unfold eqSt
   rw[←pneg,show(!(!(a.time==b.time)|| !(a.num==b.num)|| !(a.token==b.token)|| !sameL eqSe a.sess b.sess))=false from by revert hq;simp only[bne];cases(a.time==b.time)<;>cases(a.num==b.num)<;>cases(a.token==b.token)<;>cases sameL eqSe a.sess b.sess<;>simp]
   simp
  rw[he]
  repeat'(first|refine zq hq ?_|exact zd hq|refine zc (h1) ?_|refine zg (h1) ?_|refine zc (h2) ?_|refine zg (h2) ?_|refine zc (h3) ?_|refine zg (h3) ?_|refine zaa ?_|refine zab (fun hb=> ?_) (fun hb=> ?_)|(refine And.intro ?_ ?_;exact zI)|refine And.intro (fun hg=> ?_) (fun hg=> ?_)|exact zC|fail)
set_option maxHeartbeats 1000000 in
theorem zly (a b:List Grant) (ha:a.length<2^30) (hb:b.length<2^30):CallOK Tryz.prog 68 [.f (al a.length (grantsE a)), .f (al b.length (grantsE b))] (fun r o=>r=[rb (sameL eqGr a b)]∧o=[]):=by
 refine zae zat mixed (T:=Ty) (n:=26) Tryz.func68 (c:=Tryz.f68.body.getD .skip) rfl Tryz.results68 Tryz.ntmps68 Tryz.call68 ?_
 simp only[Tryz.f68,Option.getD]
 cases hl:((a.length:Int) !=(b.length:Int))
 ·obtain⟨hle,hsr⟩:=zce (eq:=eqGr) hl
  rw[hsr]
  repeat'(first|refine zq hl ?_|exact zd hl|refine zaa ?_|refine zab (fun hb=> ?_) (fun hb=> ?_)|(refine And.intro ?_ ?_;exact zI)|refine And.intro (fun hg=> ?_) (fun hg=> ?_)|exact zC|fail)
  refine zaq (τ:=Nat) (fun i=>⟨[al a.length (grantsE a),al b.length (grantsE b),dd,dd,dd,ai i,dd,dd,dd,dd,dd,dd,dd,dd,dd,dd,dd,dd,dd,dd,dd,dd,dd,dd,dd,dd],[]⟩)
   (fun i=>i≤a.length) (fun i=>restL eqGr a b i) (fun i=>a.length - i) 0
   (Gh.canon [] [] [] zK rfl rfl) (Nat.zero_le _) ?_
  intro i hi0 hF K hK
  refine zw ?_
  refine zab (fun hlt=> ?_) (fun hge=> ?_)
  ·have hi:i<a.length:=by simpa using hlt
   have hi2:i<b.length:=by omega
   have hat:=zbo hi
   have hat2:=zbo hi2
   have hw:=zar hi (by omega)
   have hlb:decide ((i:Int)<a.length)=true:=by simp;omega
   have hst:=zbC (eq:=eqGr) hi hi2
   cases hq:eqGr a[i] b[i]
   ·rw[hq]at hst
    have he:((a[i].name.toList==b[i].name.toList)&&(a[i].token==b[i].token))=false:=by exact hq
    rw[←hF,hst]
    repeat'(first|refine zq (I hat (I hat2 (I hlb (I he (I @Bool.not_true (I @Bool.not_false (I @Bool.and_self (I @List.cons_append.{0} (I @List.nil_append.{0} @zaz))))))))) ?_|exact zd (I hat (I hat2 (I hlb (I he (I @Bool.not_true (I @Bool.not_false (I @Bool.and_self (I @List.cons_append.{0} (I @List.nil_append.{0} @zaz)))))))))|refine zaa ?_|refine zab (fun hb=> ?_) (fun hb=> ?_)|(refine And.intro ?_ ?_;exact zI)|refine And.intro (fun hg=> ?_) (fun hg=> ?_)|exact zC|fail)
   ·rw[hq,Bool.true_and]at hst
    have he:((a[i].name.toList==b[i].name.toList)&&(a[i].token==b[i].token))=true:=by exact hq
    repeat'(first|refine zq (I hat (I hat2 (I hlb (I he (I @Bool.not_true (I @Bool.not_false (I @Bool.and_self (I @List.cons_append.{0} (I @List.nil_append.{0} @zaz))))))))) ?_|exact zd (I hat (I hat2 (I hlb (I he (I @Bool.not_true (I @Bool.not_false (I @Bool.and_self (I @List.cons_append.{0} (I @List.nil_append.{0} @zaz)))))))))|refine zaa ?_|refine zab (fun hb=> ?_) (fun hb=> ?_)|(refine And.intro ?_ ?_;exact zI)|refine And.intro (fun hg=> ?_) (fun hg=> ?_)|exact zC|fail)
    exact hK _ (i+1) (Gh.canon [] [] [] (by simp only[hw,zah,zau,zai,zak,zal,zam,List.set_cons_zero,List.set_cons_succ,and_true,true_and,Int.natCast_zero,Int.cast_ofNat_Int,D.v.injEq,Value.int.injEq];try(repeat'(first|rfl|omega|with_reducible apply And.intro))) rfl rfl) hi hst.symm (by omega)
  ·have hi:i=a.length:=by
    have:¬(i:Int)<a.length:=by simpa using hge
    omega
   rw[←hF,zbS hi]
   repeat'(first|refine zq0 ?_|exact zd0|refine zaa ?_|refine zab (fun hb=> ?_) (fun hb=> ?_)|(refine And.intro ?_ ?_;exact zI)|refine And.intro (fun hg=> ?_) (fun hg=> ?_)|exact zC|fail)
 ·rw[zcd hl]
  repeat'(first|refine zq hl ?_|exact zd hl|refine zaa ?_|refine zab (fun hb=> ?_) (fun hb=> ?_)|(refine And.intro ?_ ?_;exact zI)|refine And.intro (fun hg=> ?_) (fun hg=> ?_)|exact zC|fail)
theorem znE (a b:Reply) (ha:a.held.length<2^30) (hb:b.held.length<2^30):CallOK Tryz.prog 29 [.f (.agg a.lent), .f (.agg b.lent)] (fun r o=>r=[rb (eqRe a b)]∧o=[]):=by
 refine zae zat mixed (T:=Ty) (n:=31) Tryz.func29 (c:=Tryz.f29.body.getD .skip) rfl Tryz.results29 Tryz.ntmps29 Tryz.call29 ?_
 simp only[Tryz.f29,Option.getD]
 have hi:=zly a.held b.held ha hb
 repeat'(first|refine zq0 ?_|exact zd0|refine zc (hi) ?_|refine zg (hi) ?_|refine zaa ?_|refine zab (fun hb=> ?_) (fun hb=> ?_)|(refine And.intro ?_ ?_;exact zI)|refine And.intro (fun hg=> ?_) (fun hg=> ?_)|exact zC|fail)
 rfl
set_option maxHeartbeats 1000000 in
theorem znF (a b:List Sess) (ha:a.length<2^30) (hb:b.length<2^30):CallOK Tryz.prog 52 [.f (al a.length (sessE a)), .f (al b.length (sessE b))] (fun r o=>r=[rb (sameL eqSe a b)]∧o=[]):=by
 refine zae zat mixed (T:=Ty) (n:=26) Tryz.func52 (c:=Tryz.f52.body.getD .skip) rfl Tryz.results52 Tryz.ntmps52 Tryz.call52 ?_
 simp only[Tryz.f52,Option.getD]
 cases hl:((a.length:Int) !=(b.length:Int))
 ·obtain⟨hle,hsr⟩:=zce (eq:=eqSe) hl
  rw[hsr]
  repeat'(first|refine zq hl ?_|exact zd hl|refine zaa ?_|refine zab (fun hb=> ?_) (fun hb=> ?_)|(refine And.intro ?_ ?_;exact zI)|refine And.intro (fun hg=> ?_) (fun hg=> ?_)|exact zC|fail)
  refine zaq (τ:=Nat) (fun i=>⟨[al a.length (sessE a),al b.length (sessE b),dd,dd,dd,ai i,dd,dd,dd,dd,dd,dd,dd,dd,dd,dd,dd,dd,dd,dd,dd,dd,dd,dd,dd,dd],[]⟩)
   (fun i=>i≤a.length) (fun i=>restL eqSe a b i) (fun i=>a.length - i) 0
   (Gh.canon [] [] [] zK rfl rfl) (Nat.zero_le _) ?_
  intro i hi0 hF K hK
  refine zw ?_
  refine zab (fun hlt=> ?_) (fun hge=> ?_)
  ·have hi:i<a.length:=by simpa using hlt
   have hi2:i<b.length:=by omega
   have hat:=zbl hi
   have hat2:=zbl hi2
   have hw:=zar hi (by omega)
   have hlb:decide ((i:Int)<a.length)=true:=by simp;omega
   have hst:=zbC (eq:=eqSe) hi hi2
   cases hq:eqSe a[i] b[i]
   ·rw[hq]at hst
    have he:((a[i].client==b[i].client)&&((a[i].num==b[i].num)&&(a[i].renewed==b[i].renewed)))=false:=by exact hq
    rw[←hF,hst]
    repeat'(first|refine zq (I hat (I hat2 (I hlb (I he (I @Bool.not_true (I @Bool.not_false (I @Bool.and_self (I @List.cons_append.{0} (I @List.nil_append.{0} @zav))))))))) ?_|exact zd (I hat (I hat2 (I hlb (I he (I @Bool.not_true (I @Bool.not_false (I @Bool.and_self (I @List.cons_append.{0} (I @List.nil_append.{0} @zav)))))))))|refine zaa ?_|refine zab (fun hb=> ?_) (fun hb=> ?_)|(refine And.intro ?_ ?_;exact zI)|refine And.intro (fun hg=> ?_) (fun hg=> ?_)|exact zC|fail)
   ·rw[hq,Bool.true_and]at hst
    have he:((a[i].client==b[i].client)&&((a[i].num==b[i].num)&&(a[i].renewed==b[i].renewed)))=true:=by exact hq
    repeat'(first|refine zq (I hat (I hat2 (I hlb (I he (I @Bool.not_true (I @Bool.not_false (I @Bool.and_self (I @List.cons_append.{0} (I @List.nil_append.{0} @zav))))))))) ?_|exact zd (I hat (I hat2 (I hlb (I he (I @Bool.not_true (I @Bool.not_false (I @Bool.and_self (I @List.cons_append.{0} (I @List.nil_append.{0} @zav)))))))))|refine zaa ?_|refine zab (fun hb=> ?_) (fun hb=> ?_)|(refine And.intro ?_ ?_;exact zI)|refine And.intro (fun hg=> ?_) (fun hg=> ?_)|exact zC|fail)
    exact hK _ (i+1) (Gh.canon [] [] [] (by simp only[hw,zah,zau,zai,zak,zal,zam,List.set_cons_zero,List.set_cons_succ,and_true,true_and,Int.natCast_zero,Int.cast_ofNat_Int,D.v.injEq,Value.int.injEq];try(repeat'(first|rfl|omega|with_reducible apply And.intro))) rfl rfl) hi hst.symm (by omega)
  ·have hi:i=a.length:=by
    have:¬(i:Int)<a.length:=by simpa using hge
    omega
   rw[←hF,zbS hi]
   repeat'(first|refine zq0 ?_|exact zd0|refine zaa ?_|refine zab (fun hb=> ?_) (fun hb=> ?_)|(refine And.intro ?_ ?_;exact zI)|refine And.intro (fun hg=> ?_) (fun hg=> ?_)|exact zC|fail)
 ·rw[zcd hl]
  repeat'(first|refine zq hl ?_|exact zd hl|refine zaa ?_|refine zab (fun hb=> ?_) (fun hb=> ?_)|(refine And.intro ?_ ?_;exact zI)|refine And.intro (fun hg=> ?_) (fun hg=> ?_)|exact zC|fail)
set_option maxHeartbeats 1000000 in
theorem zlz (a b:List Lk) (ha:a.length<2^30) (hb:b.length<2^30) (hla:∀x∈a,x.line.length<2^30) (hlb2:∀x∈b,x.line.length<2^30):CallOK Tryz.prog 53 [.f (al a.length (locksE a)), .f (al b.length (locksE b))] (fun r o=>r=[rb (sameL eqLk a b)]∧o=[]):=by
 refine zae zat mixed (T:=Ty) (n:=68) Tryz.func53 (c:=Tryz.f53.body.getD .skip) rfl Tryz.results53 Tryz.ntmps53 Tryz.call53 ?_
 simp only[Tryz.f53,Option.getD]
 cases hl:((a.length:Int) !=(b.length:Int))
 ·obtain⟨hle,hsr⟩:=zce (eq:=eqLk) hl
  rw[hsr]
  repeat'(first|refine zq hl ?_|exact zd hl|refine zaa ?_|refine zab (fun hb=> ?_) (fun hb=> ?_)|(refine And.intro ?_ ?_;exact zI)|refine And.intro (fun hg=> ?_) (fun hg=> ?_)|exact zC|fail)
  refine zaq (τ:=Nat) (fun i=>⟨[al a.length (locksE a),al b.length (locksE b),dd,dd,dd,ai i,dd,dd,dd,dd,dd,dd,dd,dd,dd,dd,dd,dd,dd,dd,dd,dd,dd,dd,dd,dd,dd,dd,dd,dd,dd,dd,dd,dd,dd,dd,dd,dd,dd,dd,dd,dd,dd,dd,dd,dd,dd,dd,dd,dd,dd,dd,dd,dd,dd,dd,dd,dd,dd,dd,dd,dd,dd,dd,dd,dd,dd,dd],[]⟩)
   (fun i=>i≤a.length) (fun i=>restL eqLk a b i) (fun i=>a.length - i) 0
   (Gh.canon [] [] [] zK rfl rfl) (Nat.zero_le _) ?_
  intro i hi0 hF K hK
  refine zw ?_
  refine zab (fun hlt=> ?_) (fun hge=> ?_)
  ·have hi:i<a.length:=by simpa using hlt
   have hi2:i<b.length:=by omega
   have hat:=zaN hi
   have hat2:=zaN hi2
   have hw:=zar hi (by omega)
   have hlb:decide ((i:Int)<a.length)=true:=by simp;omega
   have hst:=zbC (eq:=eqLk) hi hi2
   have hd1:(locksE a).drop (i*4+1)=iD a[i].holder::iD a[i].token:: .sl a[i].line.length (intsE a[i].line)::locksE (a.drop (i+1)):=by rw[←List.drop_drop,hat];rfl
   have hd2:(locksE b).drop (i*4+1)=iD b[i].holder::iD b[i].token:: .sl b[i].line.length (intsE b[i].line)::locksE (b.drop (i+1)):=by rw[←List.drop_drop,hat2];rfl
   have hsi:=zjv a[i].line b[i].line (by have:=hla _ (List.getElem_mem hi);omega) (by have:=hlb2 _ (List.getElem_mem hi2);omega)
   cases hq:eqLk a[i] b[i]
   ·rw[hq]at hst
    have he:((((!(a[i].name.toList==b[i].name.toList))||(a[i].holder !=b[i].holder))||(a[i].token !=b[i].token))|| !sameI a[i].line b[i].line)=true:=by unfold eqLk at hq;rw[znB];revert hq;cases sameL eqInt a[i].line b[i].line<;>cases h1:(a[i].name.toList==b[i].name.toList)<;>cases h2:(a[i].holder==b[i].holder)<;>cases h3:(a[i].token==b[i].token)<;>simp[bne,h1,h2,h3]
    rw[←hF,hst]
    repeat'(first|refine zq (I hat (I hat2 (I hlb (I he (I @Bool.not_true (I @Bool.not_false (I @Bool.and_self (I hd1 (I hd2 (I @List.cons_append.{0} (I @List.nil_append.{0} @zaf))))))))))) ?_|exact zd (I hat (I hat2 (I hlb (I he (I @Bool.not_true (I @Bool.not_false (I @Bool.and_self (I hd1 (I hd2 (I @List.cons_append.{0} (I @List.nil_append.{0} @zaf)))))))))))|refine zc (hsi) ?_|refine zg (hsi) ?_|refine zaa ?_|refine zab (fun hb=> ?_) (fun hb=> ?_)|(refine And.intro ?_ ?_;exact zI)|refine And.intro (fun hg=> ?_) (fun hg=> ?_)|exact zC|fail)
   ·rw[hq,Bool.true_and]at hst
    have he:((((!(a[i].name.toList==b[i].name.toList))||(a[i].holder !=b[i].holder))||(a[i].token !=b[i].token))|| !sameI a[i].line b[i].line)=false:=by unfold eqLk at hq;rw[znB];revert hq;cases sameL eqInt a[i].line b[i].line<;>cases h1:(a[i].name.toList==b[i].name.toList)<;>cases h2:(a[i].holder==b[i].holder)<;>cases h3:(a[i].token==b[i].token)<;>simp[bne,h1,h2,h3]
    repeat'(first|refine zq (I hat (I hat2 (I hlb (I he (I @Bool.not_true (I @Bool.not_false (I @Bool.and_self (I hd1 (I hd2 (I @List.cons_append.{0} (I @List.nil_append.{0} @zaf))))))))))) ?_|exact zd (I hat (I hat2 (I hlb (I he (I @Bool.not_true (I @Bool.not_false (I @Bool.and_self (I hd1 (I hd2 (I @List.cons_append.{0} (I @List.nil_append.{0} @zaf)))))))))))|refine zc (hsi) ?_|refine zg (hsi) ?_|refine zaa ?_|refine zab (fun hb=> ?_) (fun hb=> ?_)|(refine And.intro ?_ ?_;exact zI)|refine And.intro (fun hg=> ?_) (fun hg=> ?_)|exact zC|fail)
    exact hK _ (i+1) (Gh.canon [] [] [] (by simp only[hw,zah,zau,zai,zak,zal,zam,List.set_cons_zero,List.set_cons_succ,and_true,true_and,Int.natCast_zero,Int.cast_ofNat_Int,D.v.injEq,Value.int.injEq];try(repeat'(first|rfl|omega|with_reducible apply And.intro))) rfl rfl) hi hst.symm (by omega)
  ·have hi:i=a.length:=by
    have:¬(i:Int)<a.length:=by simpa using hge
    omega
   rw[←hF,zbS hi]
   repeat'(first|refine zq0 ?_|exact zd0|refine zaa ?_|refine zab (fun hb=> ?_) (fun hb=> ?_)|(refine And.intro ?_ ?_;exact zI)|refine And.intro (fun hg=> ?_) (fun hg=> ?_)|exact zC|fail)
 ·rw[zcd hl]
  repeat'(first|refine zq hl ?_|exact zd hl|refine zaa ?_|refine zab (fun hb=> ?_) (fun hb=> ?_)|(refine And.intro ?_ ?_;exact zI)|refine And.intro (fun hg=> ?_) (fun hg=> ?_)|exact zC|fail)
set_option maxHeartbeats 1000000 in
theorem zlA (a b:List Memo) (ha:a.length<2^30) (hb:b.length<2^30) (hla:∀x∈a,x.reply.held.length<2^30) (hlb2:∀x∈b,x.reply.held.length<2^30):CallOK Tryz.prog 54 [.f (al a.length (memosE a)), .f (al b.length (memosE b))] (fun r o=>r=[rb (sameL eqMe a b)]∧o=[]):=by
 refine zae zat mixed (T:=Ty) (n:=55) Tryz.func54 (c:=Tryz.f54.body.getD .skip) rfl Tryz.results54 Tryz.ntmps54 Tryz.call54 ?_
 simp only[Tryz.f54,Option.getD]
 cases hl:((a.length:Int) !=(b.length:Int))
 ·obtain⟨hle,hsr⟩:=zce (eq:=eqMe) hl
  rw[hsr]
  repeat'(first|refine zq hl ?_|exact zd hl|refine zaa ?_|refine zab (fun hb=> ?_) (fun hb=> ?_)|(refine And.intro ?_ ?_;exact zI)|refine And.intro (fun hg=> ?_) (fun hg=> ?_)|exact zC|fail)
  refine zaq (τ:=Nat) (fun i=>⟨[al a.length (memosE a),al b.length (memosE b),dd,dd,dd,ai i,dd,dd,dd,dd,dd,dd,dd,dd,dd,dd,dd,dd,dd,dd,dd,dd,dd,dd,dd,dd,dd,dd,dd,dd,dd,dd,dd,dd,dd,dd,dd,dd,dd,dd,dd,dd,dd,dd,dd,dd,dd,dd,dd,dd,dd,dd,dd,dd,dd],[]⟩)
   (fun i=>i≤a.length) (fun i=>restL eqMe a b i) (fun i=>a.length - i) 0
   (Gh.canon [] [] [] zK rfl rfl) (Nat.zero_le _) ?_
  intro i hi0 hF K hK
  refine zw ?_
  refine zab (fun hlt=> ?_) (fun hge=> ?_)
  ·have hi:i<a.length:=by simpa using hlt
   have hi2:i<b.length:=by omega
   have hat:=zb2 hi
   have hat2:=zb2 hi2
   have hw:=zar hi (by omega)
   have hlb:decide ((i:Int)<a.length)=true:=by simp;omega
   have hst:=zbC (eq:=eqMe) hi hi2
   have hd1:(memosE a).drop (i*6+1)=iD a[i].seq::(a[i].reply.enc++memosE (a.drop (i+1))):=by rw[←List.drop_drop,hat];rfl
   have hd2:(memosE b).drop (i*6+1)=iD b[i].seq::(b[i].reply.enc++memosE (b.drop (i+1))):=by rw[←List.drop_drop,hat2];rfl
   have hsr:=znE a[i].reply b[i].reply (hla _ (List.getElem_mem hi)) (hlb2 _ (List.getElem_mem hi2))
   have hme:eqMe a[i] b[i]=((a[i].client==b[i].client)&&(a[i].seq==b[i].seq)&&eqRe a[i].reply b[i].reply):=by unfold eqMe eqRe;simp only[Bool.and_assoc]
   cases hq:eqMe a[i] b[i]
   ·rw[hq]at hst
    have he:(((a[i].client !=b[i].client)||(a[i].seq !=b[i].seq))|| !eqRe a[i].reply b[i].reply)=true:=by rw[hme]at hq;revert hq;cases eqRe a[i].reply b[i].reply<;>cases h1:(a[i].client==b[i].client)<;>cases h2:(a[i].seq==b[i].seq)<;>simp[bne,h1,h2]
    rw[←hF,hst]
    repeat'(first|refine zq (I hat (I hat2 (I hlb (I he (I @Bool.not_true (I @Bool.not_false (I @Bool.and_self (I hd1 (I hd2 (I @List.cons_append.{0} (I @List.nil_append.{0} @zaA))))))))))) ?_|exact zd (I hat (I hat2 (I hlb (I he (I @Bool.not_true (I @Bool.not_false (I @Bool.and_self (I hd1 (I hd2 (I @List.cons_append.{0} (I @List.nil_append.{0} @zaA)))))))))))|refine zc (hsr) ?_|refine zg (hsr) ?_|refine zaa ?_|refine zab (fun hb=> ?_) (fun hb=> ?_)|(refine And.intro ?_ ?_;exact zI)|refine And.intro (fun hg=> ?_) (fun hg=> ?_)|exact zC|fail)
   ·rw[hq,Bool.true_and]at hst
    have he:(((a[i].client !=b[i].client)||(a[i].seq !=b[i].seq))|| !eqRe a[i].reply b[i].reply)=false:=by rw[hme]at hq;revert hq;cases eqRe a[i].reply b[i].reply<;>cases h1:(a[i].client==b[i].client)<;>cases h2:(a[i].seq==b[i].seq)<;>simp[bne,h1,h2]
    repeat'(first|refine zq (I hat (I hat2 (I hlb (I he (I @Bool.not_true (I @Bool.not_false (I @Bool.and_self (I hd1 (I hd2 (I @List.cons_append.{0} (I @List.nil_append.{0} @zaA))))))))))) ?_|exact zd (I hat (I hat2 (I hlb (I he (I @Bool.not_true (I @Bool.not_false (I @Bool.and_self (I hd1 (I hd2 (I @List.cons_append.{0} (I @List.nil_append.{0} @zaA)))))))))))|refine zc (hsr) ?_|refine zg (hsr) ?_|refine zaa ?_|refine zab (fun hb=> ?_) (fun hb=> ?_)|(refine And.intro ?_ ?_;exact zI)|refine And.intro (fun hg=> ?_) (fun hg=> ?_)|exact zC|fail)
    exact hK _ (i+1) (Gh.canon [] [] [] (by simp only[hw,zah,zau,zai,zak,zal,zam,List.set_cons_zero,List.set_cons_succ,and_true,true_and,Int.natCast_zero,Int.cast_ofNat_Int,D.v.injEq,Value.int.injEq];try(repeat'(first|rfl|omega|with_reducible apply And.intro))) rfl rfl) hi hst.symm (by omega)
  ·have hi:i=a.length:=by
    have:¬(i:Int)<a.length:=by simpa using hge
    omega
   rw[←hF,zbS hi]
   repeat'(first|refine zq0 ?_|exact zd0|refine zaa ?_|refine zab (fun hb=> ?_) (fun hb=> ?_)|(refine And.intro ?_ ?_;exact zI)|refine And.intro (fun hg=> ?_) (fun hg=> ?_)|exact zC|fail)
 ·rw[zcd hl]
  repeat'(first|refine zq hl ?_|exact zd hl|refine zaa ?_|refine zab (fun hb=> ?_) (fun hb=> ?_)|(refine And.intro ?_ ?_;exact zI)|refine And.intro (fun hg=> ?_) (fun hg=> ?_)|exact zC|fail)
theorem zoV (a b:St) (ha:Small a) (hb:Small b):CallOK Tryz.prog 23 [.f (.agg a.lent), .f (.agg b.lent)] (fun r o=>r=[rb (eqSt a b)]∧o=[]):=by
 refine zae zat mixed (T:=Ty) (n:=45) Tryz.func23 (c:=Tryz.f23.body.getD .skip) rfl Tryz.results23 Tryz.ntmps23 Tryz.call23 ?_
 simp only[Tryz.f23,Option.getD]
 have h1:=znF a.sess b.sess ha.sess hb.sess
 have h2:=zlz a.locks b.locks ha.locks hb.locks (fun k hk=>(ha.line k hk).1) (fun k hk=>(hb.line k hk).1)
 have h3:=zlA a.memos b.memos ha.memos hb.memos (fun k hk=>(ha.held k hk).1) (fun k hk=>(hb.held k hk).1)
 repeat'(first|refine zq0 ?_|exact zd0|refine zc (h1) ?_|refine zg (h1) ?_|refine zc (h2) ?_|refine zg (h2) ?_|refine zc (h3) ?_|refine zg (h3) ?_|refine zaa ?_|refine zab (fun hb=> ?_) (fun hb=> ?_)|(refine And.intro ?_ ?_;exact zI)|refine And.intro (fun hg=> ?_) (fun hg=> ?_)|exact zC|fail)
 rfl
end Go.Proofs.YtbpmcjeeeiffhaaGreat
namespace Go.Proofs.YtbpmcjeeeiffhaaGreat
open Go.Pk
set_option maxRecDepth 100000
set_option linter.unusedSimpArgs false
set_option linter.unusedVariables false
theorem znz (acts:List Act) (hl:acts.length<2^60) (ha:∀a∈acts,actOk a) (d v s:Int) (hd:byteI d) (hv:byteI v) (hs:byteI s):
  CallOK Tryz.prog 8 [.f (al acts.length (actsE acts)), .f (au d), .f (au v), .f (au s)] (fun r o=>r=[snRF ⟨d,v,s,madeS acts⟩]∧o=[]):=by
 refine zae zat mixed (T:=Ty) (n:=19) Tryz.func8 (c:=Tryz.f8.body.getD .skip) rfl Tryz.results8 Tryz.ntmps8 Tryz.call8 ?_
 simp only[Tryz.f8,Option.getD]
 have hm:=zqj acts hl ha
 have w1:=zbD hd
 have w2:=zbD hv
 have w3:=zbD hs
 repeat'(first|refine zq (I w1 (I w2 w3)) ?_|exact zd (I w1 (I w2 w3))|refine zc (hm) ?_|refine zg (hm) ?_|refine zaa ?_|refine zab (fun hb=> ?_) (fun hb=> ?_)|(refine And.intro ?_ ?_;exact zI)|refine And.intro (fun hg=> ?_) (fun hg=> ?_)|exact zC|fail)
 rfl
def eqSn (a b:Sn):Bool:=(a.done==b.done)&&((a.view==b.view)&&(a.slot==b.slot))&&eqSt a.st b.st
theorem zdt {α:Type} {eq:α→α→Bool} (h:∀a,eq a a=true) (l:List α):sameL eq l l=true:=by
 unfold sameL
 simp only[beq_self_eq_true,Bool.true_and,List.all_eq_true]
 intro p hp
 obtain⟨j,h1,h2⟩:=List.getElem_of_mem hp
 rw[←h2,List.getElem_zip]
 exact h _
theorem zlv (l:List Int):sameL eqInt l l=true:=zdt (fun x=>by simp[eqInt]) l
theorem znA (l:List Grant):sameL eqGr l l=true:=zdt (fun x=>by simp[eqGr]) l
theorem zkH (s:St):eqSt s s=true:=by
 unfold eqSt
 rw[zdt (fun a=>by simp[eqSe]),zdt (fun a=>by simp[eqLk,zlv]),zdt (fun a=>by simp[eqMe,znA])]
 simp
abbrev Z27:List Int:=List.replicate 27 0
theorem zhZ:stateI st0=Z27:=by kernel_rfl
theorem st0_small:Small st0:=zbI zdr
theorem zq8:BsOk Z27:=⟨by decide,by intro x hx;rw[List.mem_replicate]at hx;rw[hx.2];exact⟨by decide,by decide⟩⟩
theorem zrj:dSt Z27 0=(st0,27,0):=by
 have h:=znG (bs:=Z27) (p:=0) (s:=st0) (rest:=[]) (by rw[zhZ];rfl) zdr
 rw[zhZ]at h
 have h:rState Z27 0= .ok (st0,((0+27:Nat):Int)):=h
 unfold dSt
 rw[h]
 rfl
set_option maxHeartbeats 2000000 in
theorem zlw:CallOK Tryz.prog 12 [] (fun r o=>r=[rb true]∧o=[]):=by
 refine zae zat mixed (T:=Ty) (n:=50) Tryz.func12 (c:=Tryz.f12.body.getD .skip) rfl Tryz.results12 Tryz.ntmps12 Tryz.call12 ?_
 simp only[Tryz.f12,Option.getD]
 have hp:=zlJ st0 zdr
 rw[zhZ]at hp
 have hp:CallOK Tryz.prog 14 [.f (.agg [di 0,di 0,di 0, .lent 0 [], .lent 0 [], .lent 0 []])] (fun r o=>r=[.one (.own 1 27 (bytesE Z27) false),ri 0]∧o=[]):=hp
 have hg:=zlD Z27 0 zq8 (by unfold i64;omega)
 rw[zrj]at hg
 have hg:CallOK Tryz.prog 16 [.f (asl 27 (bytesE Z27)), .f (ai 0)] (fun r o=>r=[.agg [.d (iD 0), .d (iD 0), .d (iD 0), .d (.sl 0 []), .d (.sl 0 []), .d (.sl 0 [])],ri 27,ri 0]∧o=[]):=hg
 have hs:=zoV st0 st0 st0_small st0_small
 rw[zkH]at hs
 have hs:CallOK Tryz.prog 23 [.f (.agg [di 0,di 0,di 0, .lent 0 [], .lent 0 [], .lent 0 []]), .f (.agg [di 0,di 0,di 0, .lent 0 [], .lent 0 [], .lent 0 []])] (fun r o=>r=[rb true]∧o=[]):=hs
 have hq:=zkI st0 st0 st0_small st0_small
 rw[zkH]at hq
 have hq:CallOK Tryz.prog 22 [.f (.agg [di 0,di 0,di 0, .lent 0 [], .lent 0 [], .lent 0 []]), .f (.agg [di 0,di 0,di 0, .lent 0 [], .lent 0 [], .lent 0 []])] (fun r o=>r=[rb true]∧o=[]):=hq
 have hq1:=zkI st0 {st0 with num:=1} st0_small ⟨st0_small.sess,st0_small.locks,st0_small.memos,st0_small.line,st0_small.held⟩
 rw[show eqSt st0 {st0 with num:=1}=false from rfl]at hq1
 have hq1:CallOK Tryz.prog 22 [.f (.agg [di 0,di 0,di 0, .lent 0 [], .lent 0 [], .lent 0 []]), .f (.agg [di 0,di 1,di 0, .lent 0 [], .lent 0 [], .lent 0 []])] (fun r o=>r=[rb false]∧o=[]):=hq1
 repeat'(first|(with_reducible first|refine zaW 2 ?_|refine zaK 2 ?_|refine zaL 2 ?_)|refine zu0 ?_|exact zd0|(with_reducible first|refine zad _ _ ?_)|refine zc (hp) ?_|refine zg (hp) ?_|refine zaa ?_|refine zab (fun hb=> ?_) (fun hb=> ?_)|(refine And.intro ?_ ?_;exact zI)|refine And.intro (fun hg=> ?_) (fun hg=> ?_)|exact zC|fail)
 refine zaS (zaX (Gh.sealV 1 (x:= .own ⟨1,1,0⟩ 0 27) (d:= .sl 27 (bytesE Z27)) rfl (by simp only[zY,Nat.reduceSub,Nat.reduceEqDiff,Nat.reduceAdd,Nat.reduceMul,Nat.reduceLeDiff,Nat.reduceLT,Nat.reduceBEq,reduceCtorEq];rfl)) ?_)
 have hz1:bytesOf (bytesE Z27)=some (List.replicate 27 0):=rfl
 have hz2:bytesOf (zeroD [.int .u8 0] 27)=some [UInt8.ofNat 0,UInt8.ofNat 0,UInt8.ofNat 0,UInt8.ofNat 0,UInt8.ofNat 0,UInt8.ofNat 0,UInt8.ofNat 0,UInt8.ofNat 0,UInt8.ofNat 0,UInt8.ofNat 0,UInt8.ofNat 0,UInt8.ofNat 0,UInt8.ofNat 0,UInt8.ofNat 0,UInt8.ofNat 0,UInt8.ofNat 0,UInt8.ofNat 0,UInt8.ofNat 0,UInt8.ofNat 0,UInt8.ofNat 0,UInt8.ofNat 0,UInt8.ofNat 0,UInt8.ofNat 0,UInt8.ofNat 0,UInt8.ofNat 0,UInt8.ofNat 0,UInt8.ofNat 0]:=rfl
 have hz6:Int.toNat 27=27:=rfl
 have hz3:(zeroD [.int .u8 0] 27).take 27=zeroD [.int .u8 0] 27:=rfl
 have hz4:(zeroD [.int .u8 0] 27).length=27:=rfl
 have hz5:(bytesE Z27).length=27:=rfl
 repeat'(first|refine zq (I hz1 (I hz2 (I hz3 (I hz4 (I hz5 hz6))))) ?_|exact zd (I hz1 (I hz2 (I hz3 (I hz4 (I hz5 hz6)))))|refine zc (hg) ?_|refine zg (hg) ?_|refine zc (hs) ?_|refine zg (hs) ?_|refine zc (hq) ?_|refine zg (hq) ?_|refine zc (hq1) ?_|refine zg (hq1) ?_|refine zaa ?_|refine zab (fun hb=> ?_) (fun hb=> ?_)|(refine And.intro ?_ ?_;exact zI)|refine And.intro (fun hg=> ?_) (fun hg=> ?_)|exact zC|fail)
end Go.Proofs.YtbpmcjeeeiffhaaGreat
