import Derived.Test.YtliimajkpggbhaaGreatK4
import Derived.Orders
set_option linter.unusedVariables false
set_option linter.unusedSimpArgs false
set_option linter.unusedSectionVars false
namespace Go.Pk
section
variable {v:List AV} {r r' r0 r0':Rs} {T:Nat→Option TI} {c:Bool} {t:List Nat}
def Rl (t:List Nat) (r0 r0' r r':Rs):Prop:=(∀s∈t,findR s r'=findR s r)∧∀s,s ∉ t→findR s r=findR s r0∧findR s r'=findR s r0'
theorem Rl.start (h:∀s∈t,findR s r'=findR s r):Rl t r r' r r':=⟨h,fun _ _=>⟨rfl,rfl⟩⟩
theorem Rl.set {s:Nat} {y:RS} (h:Rl t r0 r0' r r') (hs:s∈t):Rl t r0 r0' (setR s y r) (setR s y r'):=by
 refine⟨fun s' hs'=> ?_,fun s' hs'=> ?_⟩
 ·rw[zak,zak]
  split
  ·rfl
  ·exact h.1 s' hs'
 ·have hne:s≠s':=fun e=>hs' (e▸hs)
  rw[zak,zak,if_neg hne,if_neg hne]
  exact h.2 s' hs'
theorem zcz {hd:Hd} (h:findR hd.s r'=findR hd.s r):getR r' hd=getR r hd:=by unfold getR lookR;rw[h]
theorem zeO {s:Nat} (h:findR s r'=findR s r):nxt r' s=nxt r s:=by unfold nxt;rw[h]
theorem Rl.get {hd:Hd} (h:Rl t r0 r0' r r') (hs:hd.s∈t):getR r' hd=getR r hd:=zcz (h.1 _ hs)
theorem zfn {x:C} (h:∀s∈slotsC x,findR s r'=findR s r):rowOf r' x=rowOf r x:=by
 unfold rowOf
 split
 ·rfl
 ·rfl
 ·rfl
 ·rename_i hd lo n;rw[zcz (h hd.s (by simp[slotsC]))]
 ·rename_i hd lo n k;rw[zcz (h hd.s (by simp[slotsC]))]
 ·rfl
theorem zpZ {y:AV} (h:∀s∈slotsA y,findR s r'=findR s r):rowOfA r' y=rowOfA r y:=by
 unfold rowOfA
 split
 ·exact zfn (by simpa[slotsA]using h)
 ·rfl
theorem zr5 {y:AV} (h:∀s∈slotsA y,findR s r'=findR s r):srcOf r' y=srcOf r y:=by
 unfold srcOf
 split
 ·rfl
 ·rename_i y _;exact zfn (by simpa[slotsA]using h)
 ·rfl
theorem zr6 {x:C} {d:D} {r1:Rs} (h:Rl t r0 r0' r r') (hx:∀s∈slotsC x,s∈t) (hs:sealC r x=some (d,r1)):∃r1',sealC r' x=some (d,r1')∧Rl t r0 r0' r1 r1':=by
 unfold sealC at hs⊢
 split at hs
 ·cases hs;exact⟨r',rfl,h⟩
 ·rename_i hd lo n
  have hm:hd.s∈t:=hx _ (by simp[slotsC])
  rw[h.get hm,h.1 _ hm]
  split at hs
  ·split at hs
   ·cases hs
   ·rename_i hb
    rw[if_neg hb]
    split at hs
    ·rename_i ds h1
     try simp only[h1]
     cases hs
     exact⟨_,rfl,h.set hm⟩
    ·cases hs
  ·cases hs
 ·cases hs
theorem zh7:∀{xs:List C} {ds:List D} {r r' r1:Rs},Rl t r0 r0' r r'→(∀s∈slotsCs xs,s∈t)→sealCs r xs=some (ds,r1)→∃r1',sealCs r' xs=some (ds,r1')∧Rl t r0 r0' r1 r1'
 |[],ds,r,r',r1,h,_,hs=>by
  simp only[sealCs,Option.some.injEq,Prod.mk.injEq]at hs⊢
  obtain⟨rfl,rfl⟩:=hs
  exact⟨r',⟨rfl,rfl⟩,h⟩
 |x::xs,ds,r,r',r1,h,hx,hs=>by
  simp only[sealCs]at hs⊢
  split at hs
  ·rename_i d r2 h1
   obtain⟨r2',g1,g2⟩:=zr6 h (fun s hs=>hx s (by simp[slotsCs,hs])) h1
   split at hs
   ·rename_i ds' r3 h2
    obtain⟨r3',g3,g4⟩:=zh7 g2 (fun s hs=>hx s (by simp[slotsCs,hs])) h2
    cases hs
    exact⟨r3',by simp[g1,g3],g4⟩
   ·cases hs
  ·cases hs
theorem zr7 {d e k:Nat} {x:C} (h:Rl t r0 r0' r r') (hx:∀s∈slotsC x,s∈t):
  (home1 d e k x r').1=(home1 d e k x r).1∧(home1 d e k x r').2.1=(home1 d e k x r).2.1∧Rl t r0 r0' (home1 d e k x r).2.2 (home1 d e k x r').2.2:=by
 unfold home1
 split
 ·rename_i hd lo n
  have hm:hd.s∈t:=hx _ (by simp[slotsC])
  rw[h.get hm,h.1 _ hm]
  split
  ·split
   ·exact⟨rfl,rfl,h⟩
   ·exact⟨rfl,rfl,h.set hm⟩
  ·exact⟨rfl,rfl,h⟩
 ·exact⟨rfl,rfl,h⟩
 ·exact⟨rfl,rfl,h⟩
 ·exact⟨rfl,rfl,h⟩
theorem zh8 {d:Nat}:∀{xs:List C} {e k:Nat} {r r':Rs},Rl t r0 r0' r r'→(∀s∈slotsCs xs,s∈t)→
  (homeCs d e k xs r').1=(homeCs d e k xs r).1∧(homeCs d e k xs r').2.1=(homeCs d e k xs r).2.1∧Rl t r0 r0' (homeCs d e k xs r).2.2 (homeCs d e k xs r').2.2
 |[],_,_,_,_,h,_=>⟨rfl,rfl,h⟩
 |x::xs,e,k,r,r',h,hx=>by
  obtain⟨g1,g2,g3⟩:=zr7 (x:=x) (d:=d) (e:=e) (k:=k) h (fun s hs=>hx s (by simp[slotsCs,hs]))
  obtain⟨g4,g5,g6⟩:=zh8 (xs:=xs) (e:=e+1) (k:=k+1) g3 (fun s hs=>hx s (by simp[slotsCs,hs]))
  simp only[homeCs]
  rw[g1,g2,g4,g5]
  exact⟨rfl,rfl,g6⟩
theorem zp0 {d:Nat} {y:AV} (h:Rl t r0 r0' r r') (hd:d∈t) (hy:∀s∈slotsA y,s∈t):(rehome r' d y).1=(rehome r d y).1∧Rl t r0 r0' (rehome r d y).2 (rehome r' d y).2:=by
 unfold rehome
 split
 ·rename_i hd' lo n
  have hm:hd'.s∈t:=hy _ (by simp[slotsA,slotsC])
  split
  ·exact⟨rfl,h⟩
  ·rw[h.get hm,h.1 _ hm,zeO (h.1 _ hd)]
   split
   ·split
    ·exact⟨rfl,h⟩
    ·split
     ·exact⟨rfl,(h.set hm).set hd⟩
     ·exact⟨rfl,h⟩
   ·exact⟨rfl,h⟩
 ·exact⟨rfl,h⟩
theorem zbd {x:Operand}:slotsA (ev v x)=opSl v x:=by
 unfold ev opSl
 split
 ·rename_i h;rw[h];simp[slotsA]
 ·rename_i h;rw[h]
 ·rename_i h;rw[h]
 ·rename_i h;rw[h]
theorem zf7:∀{xs:List Operand},slotsAs (evs v xs)=opSls v xs
 |[]=>rfl
 |x::xs=>by simp only[evs,slotsAs,opSls,zbd,zf7 (xs:=xs)]
theorem zfP {y:AV} {s:Nat} (h:s∈slotsCs (cellsOf y)):s∈slotsA y:=by
 unfold cellsOf at h
 split at h
 ·split at h
  ·simpa[slotsCs,slotsA]using h
  ·simp[slotsCs]at h
 ·simpa[slotsA]using h
 ·simp[slotsCs]at h
theorem zfC:∀{xs ys:List C},slotsCs (xs++ys)=slotsCs xs++slotsCs ys
 |[],ys=>rfl
 |x::xs,ys=>by simp[slotsCs,zfC (xs:=xs)]
theorem zjk:∀{ys:List AV} {s:Nat},s∈slotsCs (ys.flatMap cellsOf)→s∈slotsAs ys
 |[],s,h=>by simp[slotsCs]at h
 |y::ys,s,h=>by
  rw[List.flatMap_cons,zfC,List.mem_append]at h
  simp only[slotsAs,List.mem_append]
  exact h.imp zfP zjk
structure Cong (w:List Nat) (r r':Rs) (o o':Out):Prop where
 sc:o'.sc
 x:o'.x=o.x
 on:∀s∈w,findR s o'.r=findR s o.r
 off:∀s,s ∉ w→findR s o'.r=findR s r'∧findR s o.r=findR s r
theorem Cong.calm {op:Op} {dst:Option Nat} (hg:znT op=true) (hs:(aop T c v r dst op).sc)
  (h:(aop T c v r' dst op).sc=(aop T c v r dst op).sc∧(aop T c v r' dst op).x=(aop T c v r dst op).x):Cong [] r r' (aop T c v r dst op) (aop T c v r' dst op):=
 have h':(aop T c v r' dst op).sc:=by rw[h.1];exact hs
 ⟨h',h.2,fun s hs'=>by simp at hs',fun s _=>⟨by rw[zkg hg h'],by rw[zkg hg hs]⟩⟩
theorem Cong.of_rl {o o':Out} (h:o'.sc) (hx:o'.x=o.x) (hr:Rl t r r' o.r o'.r):Cong t r r' o o':=
 ⟨h,hx,hr.1,fun s hs=>⟨(hr.2 s hs).2,(hr.2 s hs).1⟩⟩
theorem zmK {x:Operand} {hd:Hd} {off:Nat} (h:ev v x= .one (.ptr hd off)):hd.s∈opSl v x:=by rw[←zbd,h];simp[slotsA,slotsC]
theorem zuz {e:Nat} {y iv:AV} (h:∀s∈slotsA y,findR s r'=findR s r):(idxA T r' c e y iv).sc=(idxA T r c e y iv).sc∧(idxA T r' c e y iv).x=(idxA T r c e y iv).x:=by
 unfold idxA
 split
 ·rename_i _ hd lo _ _
  rw[zcz (h hd.s (by simp[slotsA,slotsC]))]
  split<;>exact⟨rfl,rfl⟩
 ·exact⟨rfl,rfl⟩
 ·exact⟨rfl,rfl⟩
 ·rename_i hd _ _
  rw[zcz (h hd.s (by simp[slotsA,slotsC]))]
  split<;>exact⟨rfl,rfl⟩
 ·split<;>exact⟨rfl,rfl⟩
 all_goals exact⟨rfl,rfl⟩
theorem zp1 {e:Nat} {y:AV} {l hi:Option AV} (h:∀s∈slotsA y,findR s r'=findR s r):
  (sliceA T r' c e y l hi).sc=(sliceA T r c e y l hi).sc∧(sliceA T r' c e y l hi).x=(sliceA T r c e y l hi).x:=by
 unfold sliceA
 split
 ·split<;>exact⟨rfl,rfl⟩
 ·rename_i hd lo n
  rw[zcz (h hd.s (by simp[slotsA,slotsC]))]
  split<;>exact⟨rfl,rfl⟩
 ·rename_i hd lo n k
  rw[zcz (h hd.s (by simp[slotsA,slotsC]))]
  split<;>exact⟨rfl,rfl⟩
 ·split<;>exact⟨rfl,rfl⟩
 ·split<;>exact⟨rfl,rfl⟩
 ·exact⟨rfl,rfl⟩
theorem zoz {e:Nat} {y:AV} {l hi m:Option AV} (h:∀s∈slotsA y,findR s r'=findR s r):
  (slice3A T r' c e y l hi m).sc=(slice3A T r c e y l hi m).sc∧(slice3A T r' c e y l hi m).x=(slice3A T r c e y l hi m).x:=by
 unfold slice3A
 split
 ·rename_i hd lo n k
  rw[zcz (h hd.s (by simp[slotsA,slotsC]))]
  split<;>exact⟨rfl,rfl⟩
 ·exact⟨rfl,rfl⟩
theorem zuA {e:Option Nat} {y:AV} (h:∀s∈slotsA y,findR s r'=findR s r):(capA T r' e y).sc=(capA T r e y).sc∧(capA T r' e y).x=(capA T r e y).x:=by
 unfold capA
 split
 ·rename_i hd lo n k
  rw[zcz (h hd.s (by simp[slotsA,slotsC]))]
  split<;>exact⟨rfl,rfl⟩
 ·exact⟨rfl,rfl⟩
theorem ztN {e:Option Nat} {y:AV} (hs:(capA T r e y).sc):(capA T r e y).r=r:=by
 unfold capA at*
 repeat' split at hs
 all_goals first|exact hs.elim|simp only[*]
theorem zoA {d:Nat} {y:AV}:slotsA (ownA d y)=slotsA y:=by
 unfold ownA
 split
 ·split<;>simp[slotsA,slotsC]
 ·rfl
theorem zuB {d:Nat} {y:AV} (h:∀s∈slotsA y,findR s r'=findR s r):covA r' d y=covA r d y:=by
 unfold covA
 split
 ·rename_i hd lo n k
  rw[zcz (h hd.s (by simp[slotsA,slotsC]))]
 ·rfl
theorem zlu {hd:Hd} {lo:Nat} {ds:List D} {r1:Rs} (h:Rl t r0 r0' r r') (hm:hd.s∈t) (hp:putRow r hd lo ds=some r1):∃r1',putRow r' hd lo ds=some r1'∧Rl t r0 r0' r1 r1':=by
 unfold putRow at hp⊢
 rw[h.get hm,h.1 _ hm]
 split at hp
 ·rename_i res rs h1 h2
  try simp only[h1,h2]
  cases hp
  exact⟨_,rfl,h.set hm⟩
 ·cases hp
theorem zp2 {y:AV} {hd:Hd} {lo n:Nat} (h:dstOf y=some (hd,lo,n)):hd.s∈slotsA y:=by
 unfold dstOf at h
 split at h
 ·cases h;simp[slotsA,slotsC]
 ·cases h;simp[slotsA,slotsC]
 ·cases h
theorem zr8 {ts:Array Nat} {x y:AV} (h:Rl t r0 r0' r r') (hx:∀s∈slotsA x,s∈t) (hy:∀s∈slotsA y,findR s r'=findR s r) (hs:(copyA T r ts x y).sc):
  (copyA T r' ts x y).sc∧(copyA T r' ts x y).x=(copyA T r ts x y).x∧Rl t r0 r0' (copyA T r ts x y).r (copyA T r' ts x y).r:=by
 unfold copyA at hs⊢
 rw[zpZ hy]
 split at hs
 ·rename_i e ei hd lo n m ds2 h1 h2 h3
  have hm:hd.s∈t:=hx _ (zp2 h2)
  try simp only[h1,h2,h3]
  rw[h.get hm]
  split at hs
  ·rename_i res r1 h4 h5
   obtain⟨r1',g1,g2⟩:=zlu h hm h5
   simp only[h4,h5,g1]
   exact⟨hs,by trivial,g2⟩
  ·exact hs.elim
 ·exact hs.elim
theorem zp3 {ts:Array Nat} {x:AV} (h:Rl t r0 r0' r r') (hx:∀s∈slotsA x,s∈t) (hs:(clearA T r ts x).sc):
  (clearA T r' ts x).sc∧(clearA T r' ts x).x=(clearA T r ts x).x∧Rl t r0 r0' (clearA T r ts x).r (clearA T r' ts x).r:=by
 unfold clearA at hs⊢
 split at hs
 ·rename_i e ei hd lo n h1 h2
  have hm:hd.s∈t:=hx _ (zp2 h2)
  try simp only[h1,h2]
  rw[h.get hm]
  split at hs
  ·rename_i res r1 h4 h5
   obtain⟨r1',g1,g2⟩:=zlu h hm h5
   simp only[h4,h5,g1]
   exact⟨hs,by trivial,g2⟩
  ·exact hs.elim
 ·exact hs.elim
theorem zuC {e:Option Nat} {y:AV} (h:∀s∈slotsA y,findR s r'=findR s r):(lenA T r' e y).sc=(lenA T r e y).sc∧(lenA T r' e y).x=(lenA T r e y).x:=by
 unfold lenA
 split
 ·rename_i hd lo n
  rw[zcz (h hd.s (by simp[slotsA,slotsC]))]
  split<;>exact⟨rfl,rfl⟩
 ·rename_i hd lo n k
  rw[zcz (h hd.s (by simp[slotsA,slotsC]))]
  split<;>exact⟨rfl,rfl⟩
 all_goals exact⟨rfl,rfl⟩
theorem zr9 {e e2:Nat} {y:AV} (h:∀s∈slotsA y,findR s r'=findR s r):(convA T r' e e2 y).sc=(convA T r e e2 y).sc∧(convA T r' e e2 y).x=(convA T r e e2 y).x:=by
 unfold convA
 split
 ·split
  ·exact⟨rfl,rfl⟩
  ·rename_i x hx
   rw[zfn (x:=x) fun s hs=>h s (by simpa[slotsA]using hs)]
   split
   ·split<;>exact⟨rfl,rfl⟩
   ·exact⟨rfl,rfl⟩
  ·exact⟨rfl,rfl⟩
 ·exact⟨rfl,rfl⟩
theorem zp4 {e:Nat} {y:AV}:(ifaceA T r' e y).sc=(ifaceA T r e y).sc∧(ifaceA T r' e y).x=(ifaceA T r e y).x:=by
 unfold ifaceA
 split
 ·split
  ·split<;>exact⟨rfl,rfl⟩
  ·exact⟨rfl,rfl⟩
  ·exact⟨rfl,rfl⟩
 ·exact⟨rfl,rfl⟩
theorem zp5 {e f:Nat} {y:AV}:(fieldA T r' e f y).sc=(fieldA T r e f y).sc∧(fieldA T r' e f y).x=(fieldA T r e f y).x:=by
 unfold fieldA
 split
 ·split
  ·split<;>exact⟨rfl,rfl⟩
  ·exact⟨rfl,rfl⟩
 ·exact⟨rfl,rfl⟩
theorem ztO {mx:Bool} {y:List AV}:(mmA r' mx y).sc=(mmA r mx y).sc∧(mmA r' mx y).x=(mmA r mx y).x:=by
 unfold mmA
 split<;>exact⟨rfl,rfl⟩
theorem zp6 {o:BinOp} {e:Nat} {x y:C} (h:∀s∈slotsC x,findR s r'=findR s r):cmpA T r' o e x y=cmpA T r o e x y:=by
 unfold cmpA
 split
 ·rfl
 ·rfl
 ·rfl
 ·rfl
 ·rename_i hd _ n
  rw[zcz (h hd.s (by simp[slotsC]))]
 ·rfl
 ·rename_i hd off
  rw[zcz (h hd.s (by simp[slotsC]))]
 all_goals rfl
theorem zuD {o:BinOp} {e:Nat} {x y:AV} (h:∀s∈slotsA x,findR s r'=findR s r):(binA T r' o e x y).sc=(binA T r o e x y).sc∧(binA T r' o e x y).x=(binA T r o e x y).x:=by
 unfold binA
 split
 ·rename_i x y
  split
  ·exact⟨rfl,rfl⟩
  ·have e1:=zp6 (T:=T) (r:=r) (r':=r') (o:=o) (e:=e) (x:= .d (.v x)) (y:= .d (.v y)) (by simp[slotsC])
   simp only[e1]
   cases cmpA T r o e (.d (.v x)) (.d (.v y))with
   |none=>exact⟨rfl,rfl⟩
   |some p=>exact⟨rfl,rfl⟩
 ·rename_i x y _
  have e1:=zp6 (T:=T) (r:=r) (r':=r') (o:=o) (e:=e) (x:=x) (y:=y) (by simpa[slotsA]using h)
  simp only[e1]
  cases cmpA T r o e x y with
  |none=>exact⟨rfl,rfl⟩
  |some p=>exact⟨rfl,rfl⟩
 ·split
  ·split<;>exact⟨rfl,rfl⟩
  ·exact⟨rfl,rfl⟩
 ·exact⟨rfl,rfl⟩
theorem zdy {o o':Out} {p:Prop} (h:o'.sc=o.sc∧o'.x=o.x):(o'.with p).sc=(o.with p).sc∧(o'.with p).x=(o.with p).x:=by
 simp only[Out.with,h.1,h.2,and_self]
theorem zp7 {e:Nat} {av y:AV} (h:Rl t r0 r0' r r') (ha:∀s∈slotsA av,s∈t) (hy:∀s∈slotsA y,s∈t) (hs:(storeA T r e av y).sc):
  (storeA T r' e av y).sc∧(storeA T r' e av y).x=(storeA T r e av y).x∧Rl t r0 r0' (storeA T r e av y).r (storeA T r' e av y).r:=by
 unfold storeA at hs⊢
 split at hs
 ·rename_i ti hd off h1
  have hm:hd.s∈t:=ha _ (by simp[slotsA,slotsC])
  have hc:∀s∈slotsCs (cellsOf y),s∈t:=fun s hs=>hy s (zfP hs)
  try simp only[h1]
  rw[h.get hm,h.1 _ hm]
  split at hs
  ·rename_i res h2
   try simp only[h2]
   split at hs
   ·rename_i hv
    simp only[hv,if_true]
    split at hs
    ·rename_i rs h3
     try simp only[h3]
     split at hs
     ·rename_i hsm
      try simp only[hsm]
      exact⟨hs,by trivial,h.set hm⟩
     rename_i hsm
     try simp only[hsm]
     obtain⟨g1,g2,g3⟩:=zh8 (d:=hd.s) (e:=rs.next) (k:=off) h hc
     rw[g1,g2]
     exact⟨hs,by trivial,g3.set hm⟩
    ·exact hs.elim
   ·rename_i hv
    simp only[hv]
    split at hs
    ·rename_i ds r1 h3
     obtain⟨r1',g1,g2⟩:=zh7 h hc h3
     simp only[h3,g1]
     rw[g2.get hm,g2.1 _ hm]
     split at hs
     ·rename_i res' rs' h4 h5
      try simp only[h4,h5]
      exact⟨hs,by trivial,g2.set hm⟩
     ·exact hs.elim
    ·exact hs.elim
  ·exact hs.elim
 ·exact hs.elim
theorem zuE {dst:Option Nat} {ts:Array Nat} {x y:AV} (h:Rl t r0 r0' r r') (hd:∀s∈dl dst,s∈t) (hx:∀s∈slotsA x,s∈t) (hy:∀s∈slotsA y,findR s r'=findR s r) (hs:(appA T r c dst ts x y).sc):
  (appA T r' c dst ts x y).sc∧(appA T r' c dst ts x y).x=(appA T r c dst ts x y).x∧Rl t r0 r0' (appA T r c dst ts x y).r (appA T r' c dst ts x y).r:=by
 unfold appA at hs⊢
 rw[zr5 hy]
 split at hs
 ·rename_i e ei m ds2 hd' lo n h1 h2 h3
  have hm:hd'.s∈t:=hx _ (by simp[slotsA,slotsC])
  try simp only[h1,h2,h3]
  rw[h.get hm,h.1 _ hm]
  split at hs
  ·rename_i res rs h4 h5
   try simp only[h4,h5]
   split at hs
   ·rename_i ds1 h6
    simp only[h6]
    exact⟨hs,by trivial,h.set hm⟩
   ·exact hs.elim
  ·exact hs.elim
 ·rename_i e ei m ds2 h1 h2 h3
  try simp only[h1,h2,h3]
  split at hs
  ·rename_i d
   have hm:d∈t:=hd d (by simp[dl])
   simp only
   rw[zeO (h.1 _ hm)]
   exact⟨hs,by trivial,h.set hm⟩
  ·exact hs.elim
 ·rename_i e ei m ds2 hd' lo n k h1 h2 h3
  have hm:hd'.s∈t:=hx _ (by simp[slotsA,slotsC])
  try simp only[h1,h2,h3]
  unfold appG at hs⊢
  rw[h.get hm,h.1 _ hm]
  split at hs
  ·rename_i res rs h4 h5
   try simp only[h4,h5]
   split at hs
   ·rename_i ds1 h6
    try simp only[h6]
    split at hs
    ·rename_i hfit
     rw[if_pos hfit]
     exact⟨hs,by rw[if_pos hfit],by rw[if_pos hfit];exact h.set hm⟩
    ·rename_i hfit
     rw[if_neg hfit]
     split at hs
     ·rename_i d
      have hm2:d∈t:=hd d (by simp[dl])
      simp only
      rw[zeO (h.1 _ hm2),if_neg hfit]
      exact⟨hs,by trivial,h.set hm2⟩
     ·exact hs.elim
   ·exact hs.elim
  ·exact hs.elim
 ·unfold appZ at hs⊢
  split at hs
  ·rename_i e ei kk l hd' lo n k h1 h2 y1 y2 y3
   have hm:hd'.s∈t:=hx _ (by simp[slotsA,slotsC])
   try simp only[h1,h2]
   rw[h.get hm]
   split at hs
   ·rename_i res d h4
    have hm2:d∈t:=hd d (by simp[dl])
    try simp only[h4]
    rw[zeO (h.1 _ hm2)]
    split at hs
    ·rename_i ds1 h6
     try simp only[h6]
     exact⟨hs,by trivial,h.set hm2⟩
    ·exact hs.elim
   ·exact hs.elim
  ·exact hs.elim
theorem zsa {op:Op} {dst:Option Nat} (hr:∀s∈(fpOf v dst op).t,findR s r'=findR s r) (hs:(aop T c v r dst op).sc):
  Cong (fpOf v dst op).w r r' (aop T c v r dst op) (aop T c v r' dst op):=by
 have R:=Rl.start hr
 cases op with
 |move x=>exact .calm rfl hs ⟨rfl,rfl⟩
 |assign x=>
  simp only[fpOf,FP.both]at R⊢
  simp only[aop]at hs⊢
  cases dst with
  |none=>exact hs.elim
  |some d=>
   obtain⟨g1,g2⟩:=zp0 (d:=d) (y:=ownA d (ev v x)) R (by simp[dl]) (fun s hs=>by rw[zoA,zbd]at hs;simp[hs])
   refine .of_rl ⟨hs.1, ?_⟩ g1 g2
   show covA r' d (ev v x)
   rw[zuB (r:=r) fun s hs=>by rw[zbd]at hs;exact R.1 s (by simp[hs])]
   exact hs.2
 |pick t x z=>
  refine .calm rfl hs ?_
  simp only[aop]
  split<;>exact⟨rfl,rfl⟩
 |alloc t=>
  simp only[fpOf,FP.both]at R⊢
  simp only[aop]at hs⊢
  split at hs
  ·rename_i ti d h1
   try simp only[h1]
   rw[zeO (R.1 d (by simp[dl]))]
   exact .of_rl trivial rfl (R.set (by simp[dl]))
  ·exact hs.elim
 |makeSlice t x y=>
  simp only[fpOf,FP.both]at R⊢
  simp only[aop]at hs⊢
  unfold makeA at hs⊢
  split at hs
  ·rename_i e ei k n k2 m d h1 h2 h3
   try simp only[h1,h2,h3]
   rw[zeO (R.1 d (by simp[dl]))]
   exact .of_rl hs rfl (R.set (by simp[dl]))
  ·exact hs.2.elim
 |box t x=>
  simp only[fpOf,FP.both]at R⊢
  simp only[aop]at hs⊢
  split at hs
  ·rename_i ti d h1
   try simp only[h1]
   have hd:d∈opSl v x++dl (some d):=by simp[dl]
   rw[zeO (R.1 d hd)]
   obtain⟨g1,g2,g3⟩:=zh8 (xs:=cellsOf (ev v x)) (d:=d) (e:=nxt r d+1) (k:=0) (R.set (y:={next:=nxt r d,l:=[]}) hd)
    (fun s hs=>by have:=zfP hs;rw[zbd]at this;simp[this])
   rw[g1,g2]
   exact .of_rl hs rfl (g3.set hd)
  ·exact hs.elim
 |build t ps=>
  refine .calm rfl hs ?_
  simp only[aop]
  split
  ·split<;>exact⟨rfl,rfl⟩
  ·exact⟨rfl,rfl⟩
 |buildSlice t n ps=>
  simp only[fpOf,FP.both]at R⊢
  simp only[aop]at hs⊢
  split at hs
  ·rename_i e ei d h1
   try simp only[h1]
   have hd:d∈opSls v (ps.toList.map (·.2))++dl (some d):=by simp[dl]
   rw[zeO (R.1 d hd)]
   split at hs
   ·rename_i ds r1 h2
    obtain⟨r1',g1,g2⟩:=zh7 (R.set (y:={next:=nxt r d,l:=[]}) hd) (fun s hs=>by have:=zjk hs;rw[zf7]at this;simp[this]) h2
    simp only[h2,g1]
    exact .of_rl hs rfl (g2.set hd)
   ·exact hs.elim
  ·exact hs.elim
 |load t x=>
  refine .calm rfl hs ?_
  simp only[aop]
  split
  ·rename_i hd off h1
   rw[R.get (by simpa[fpOf]using zmK h1)]
   split<;>exact⟨rfl,rfl⟩
  all_goals exact⟨rfl,rfl⟩
 |store t x y=>
  simp only[fpOf,FP.both]at R⊢
  obtain⟨g1,g2,g3⟩:=zp7 (e:=t) (av:=ev v x) (y:=ev v y) R (fun s hs=>by rw[zbd]at hs;simp[hs]) (fun s hs=>by rw[zbd]at hs;simp[hs]) (zck hs)
  exact .of_rl ⟨hs.1,g1⟩ g2 g3
 |nilCheck x=>
  refine .calm rfl hs ?_
  simp only[aop]
  split
  ·rename_i hd off h1
   rw[R.get (by simpa[fpOf]using zmK h1)]
   split<;>exact⟨rfl,rfl⟩
  all_goals exact⟨rfl,rfl⟩
 |binOp op t x y yt=>exact .calm rfl hs (zdy (zuD fun s hs=>R.1 s (by rw[zbd]at hs;simp[fpOf,hs])))
 |unOp op t x=>
  cases op with
  |not=>
   refine .calm rfl hs ?_
   simp only[aop]
   split<;>exact⟨rfl,rfl⟩
  |_=>exact hs.elim
 |convert s t x=>exact .calm rfl hs (zdy (zr9 fun s hs=>R.1 s (by rw[zbd]at hs;simpa[fpOf]using hs)))
 |makeInterface t x=>exact .calm rfl hs (zdy zp4)
 |field t x f=>exact .calm rfl hs (zdy zp5)
 |makeFunc fn first caps=>
  cases fn with
  |func f=>
   obtain⟨first⟩:=first
   cases first with
   |nil=>
    refine .calm rfl hs ?_
    simp only[aop]
    split<;>exact⟨rfl,rfl⟩
   |cons _ _=>exact hs.elim
  |_=>exact hs.elim
 |slice t x lo hi mx=>
  cases mx with
  |none=>exact .calm rfl hs (zdy (zp1 fun s hs=>by rw[zbd]at hs;exact R.1 s (by simpa[fpOf]using hs)))
  |some m=>exact .calm rfl hs (zdy (zoz fun s hs=>by rw[zbd]at hs;exact R.1 s (by simpa[fpOf]using hs)))
 |fieldAddr t x f=>
  refine .calm rfl hs ?_
  simp only[aop]
  split
  ·rename_i o hd off h1 h2
   rw[R.get (by simpa[fpOf]using zmK h2)]
   split<;>exact⟨rfl,rfl⟩
  all_goals exact⟨rfl,rfl⟩
 |indexAddr t x i=>exact .calm rfl hs (zdy (zuz fun s hs=>by rw[zbd]at hs;exact R.1 s (by simpa[fpOf]using hs)))
 |index t x i=>
  refine .calm rfl hs ?_
  simp only[aop]
  split
  ·exact⟨rfl,rfl⟩
  ·split<;>exact⟨rfl,rfl⟩
  ·exact⟨rfl,rfl⟩
 |extract x i=>
  refine .calm rfl hs ?_
  simp only[aop]
  split
  ·split<;>exact⟨rfl,rfl⟩
  ·exact⟨rfl,rfl⟩
 |call k=>
  obtain⟨callee,as,ts⟩:=k
  cases callee with
  |builtin b=>
   cases b with
   |append=>
    simp only[fpOf]at R⊢
    simp only[aop]at hs⊢
    split at hs
    ·rename_i s x h0
     simp only[h0,opSls,hdSl,List.append_nil]at R⊢
     obtain⟨g1,g2,g3⟩:=zuE (dst:=dst) (ts:=ts) (x:=ev v s) (y:=ev v x) (c:=c) (t:=opSl v s++dl dst)
      (Rl.start fun q hq=>R.1 q (by simp only[List.mem_append]at hq⊢;rcases hq with hq|hq<;>simp[hq])) (fun s hs=>by simp[hs]) (fun s hs=>by rw[zbd]at hs;simp[hs])
      (fun q hq=>by rw[zbd]at hq;exact R.1 q (by simp[hq])) (zck hs)
     exact .of_rl ⟨hs.1,g1⟩ g2 g3
    ·exact hs.elim
   |len=>
    refine .calm rfl hs ?_
    simp only[aop]
    split
    ·rename_i x h0
     exact zdy (zuC fun s hs=>by rw[zbd]at hs;exact R.1 s (by simpa[fpOf,h0,opSls]using hs))
    ·exact⟨rfl,rfl⟩
   |cap=>
    simp only[fpOf]at R⊢
    simp only[aop]at hs⊢
    split at hs
    ·rename_i x h0
     simp only[h0,opSls,List.append_nil]at R⊢
     obtain⟨g1,g2⟩:=zdy (p:=evS c v x) (zuA (T:=T) (r:=r) (r':=r') (e:=ts[0]?) (y:=ev v x) fun s hs=>by rw[zbd]at hs;exact R.1 s (by simp[hs]))
     have hs':=hs
     rw[←g1]at hs'
     exact⟨hs',g2,fun s hs=>by simp at hs,fun s _=>⟨by rw[ztT,ztN (zck hs')],by rw[ztT,ztN (zck hs)]⟩⟩
    ·exact hs.elim
   |copy=>
    simp only[fpOf]at R⊢
    simp only[aop]at hs⊢
    split at hs
    ·rename_i s x h0
     simp only[h0,opSls,hdSl,List.append_nil]at R⊢
     obtain⟨g1,g2,g3⟩:=zr8 (T:=T) (ts:=ts) (x:=ev v s) (y:=ev v x) (t:=opSl v s)
      (Rl.start fun q hq=>R.1 q (by simp[hq])) (fun s hs=>by rw[zbd]at hs;exact hs)
      (fun q hq=>by rw[zbd]at hq;exact R.1 q (by simp[hq])) (zck hs)
     exact .of_rl ⟨hs.1,g1⟩ g2 g3
    ·exact hs.elim
   |clear=>
    simp only[fpOf]at R⊢
    simp only[aop]at hs⊢
    split at hs
    ·rename_i s h0
     simp only[h0,opSls,hdSl,List.append_nil]at R⊢
     obtain⟨g1,g2,g3⟩:=zp3 (T:=T) (ts:=ts) (x:=ev v s) (t:=opSl v s)
      (Rl.start fun q hq=>R.1 q (by simp[hq])) (fun s hs=>by rw[zbd]at hs;exact hs) (zck hs)
     exact .of_rl ⟨hs.1,g1⟩ g2 g3
    ·exact hs.elim
   |max=>exact .calm rfl hs (zdy ztO)
   |min=>exact .calm rfl hs (zdy ztO)
   |_=>exact hs.elim
  |_=>exact hs.elim
 |_=>exact hs.elim
end
section
variable {v v':List AV} {r r' r0 r0':Rs} {T:Nat→Option TI} {c:Bool}
theorem zlv {s:Nat} (h:findR s r'=findR s r):∀{xs:List C},lend0s r' s xs=lend0s r s xs
 |[]=>rfl
 |x::xs=>by
  have e:lend0 r' s x=lend0 r s x:=by
   unfold lend0
   split
   ·rfl
   ·rfl
   ·split
    ·rename_i hd lo n e
     rw[zfn (r:=r) (r':=r') (x:= .own hd lo n) (by simp[slotsC,e,h])]
    ·rfl
   ·rfl
  simp only[lend0s]
  rw[e,zlv h]
mutual
theorem znG:∀{x:C},(∀s∈slotsC x,findR s r'=findR s r)→lendC r' x=lendC r x
 | .d _,_=>by simp only[lendC]
 | .lent _ _,_=>by simp only[lendC]
 | .elt _,_=>by simp only[lendC]
 | .ab,_=>by simp only[lendC]
 | .dead,_=>by simp only[lendC]
 | .eltR cs,h=>by simp only[lendC];rw[zd5 (by simpa[slotsC]using h)]
 | .gap hd lo n k,h=>by simp only[lendC];rw[zfn h]
 | .lk _ _ _,_=>by simp only[lendC]
 | .own hd lo n,h=>by simp only[lendC];rw[zfn h]
 | .ptr hd off,h=>by
  simp only[lendC]
  rw[zcz (h hd.s (by simp[slotsC]))]
  cases getR r hd with
  |none=>rfl
  |some res=>simp only;rw[zlv (h hd.s (by simp[slotsC]))]
 | .clos f caps,h=>by simp only[lendC];rw[zd5 (by simpa[slotsC]using h)]
theorem zd5:∀{xs:List C},(∀s∈slotsCs xs,findR s r'=findR s r)→lendC.lendCs r' xs=lendC.lendCs r xs
 |[],_=>by simp only[lendC.lendCs]
 |x::xs,h=>by
  simp only[lendC.lendCs]
  rw[znG fun s hs=>h s (by simp[slotsCs,hs]),zd5 fun s hs=>h s (by simp[slotsCs,hs])]
end
theorem znH {x:AV} (h:∀s∈slotsA x,findR s r'=findR s r):lendA r' x=lendA r x:=by
 unfold lendA
 split
 ·rw[znG (by simpa[slotsA]using h)]
 ·rw[zd5 (by simpa[slotsA]using h)]
 ·rfl
theorem zeP:∀{xs:List AV},(∀s∈slotsAs xs,findR s r'=findR s r)→lendAs r' xs=lendAs r xs
 |[],_=>rfl
 |x::xs,h=>by
  simp only[lendAs]
  rw[znH fun s hs=>h s (by simp[slotsAs,hs]),zeP fun s hs=>h s (by simp[slotsAs,hs])]
theorem zd6:∀{xs:List C},slotsAs (xs.map AV.one)=slotsCs xs
 |[]=>rfl
 |x::xs=>by simp[slotsAs,slotsCs,slotsA,zd6 (xs:=xs)]
theorem zp8 {f:Operand} {args:Array Operand} (h1:∀s∈opSl v f,findR s r'=findR s r) (h2:∀s∈opSls v args.toList,findR s r'=findR s r):
  callA v r' f args=callA v r f args:=by
 unfold callA
 rw[zeP (xs:=evs v args.toList) (by rw[zf7];exact h2)]
 split
 ·rename_i n caps as g1 g2
  rw[zeP (xs:=caps.map AV.one)]
  rw[zd6]
  intro s hs
  refine h1 s ?_
  rw[←zbd]
  unfold calleeOf at g1
  split at g1
  ·cases g1;simp[slotsCs]at hs
  ·rename_i n' caps' h3
   cases g1
   rw[h3]
   simpa[slotsA,slotsC]using hs
  ·cases g1
 ·rfl
theorem zjl {B:Bool} {dst:Option Nat} {rfs:List RF} (h:∀s∈dl dst,findR s r'=findR s r):
  (bindRetB B r' dst rfs).1=(bindRetB B r dst rfs).1∧(∀s∈dl dst,findR s (bindRetB B r' dst rfs).2=findR s (bindRetB B r dst rfs).2)∧
   ∀s,s ∉ dl dst→findR s (bindRetB B r' dst rfs).2=findR s r'∧findR s (bindRetB B r dst rfs).2=findR s r:=by
 unfold bindRetB
 simp only
 split
 ·exact⟨rfl,h,fun _ _=>⟨rfl,rfl⟩⟩
 ·cases dst with
  |none=>exact⟨rfl,h,fun _ _=>⟨rfl,rfl⟩⟩
  |some d=>
   have hd:=zeO (h d (by simp[dl]))
   simp only
   rw[hd]
   have R:=Rl.set (y:={next:=nxt r d+1,l:=none::bindRs B (nxt r d) (rfs.flatMap RF.cells)}) (Rl.start h) (s:=d) (by simp[dl])
   exact⟨rfl,R.1,fun s hs=>⟨(R.2 s hs).2,(R.2 s hs).1⟩⟩
theorem zlw {dst:Option Nat} {rfs:List RF} (h:∀s∈dl dst,findR s r'=findR s r):
  (bindRet r' dst rfs).1=(bindRet r dst rfs).1∧(∀s∈dl dst,findR s (bindRet r' dst rfs).2=findR s (bindRet r dst rfs).2)∧
   ∀s,s ∉ dl dst→findR s (bindRet r' dst rfs).2=findR s r'∧findR s (bindRet r dst rfs).2=findR s r:=zjl h
variable {cx:Cx} {a:Act} {w:World} {β:Nat→Nat→Pl} {all:List Oper}
theorem zoB (h:Holds cx ⟨v,r⟩ a w β) {j:Nat} {want c' b:Bool} (hg:gdOf all v j=some (c',b)):(yielded all.toArray a.tmps j==some want)=(c'&&(b==want)):=by
 unfold gdOf at hg
 split at hg
 ·rename_i o ho
  split at hg
  ·rename_i d hd
   have hy:yielded all.toArray a.tmps j=(match a.tmps[d]? with|some (.bool b)=>some b|_=>none):=by
    unfold yielded
    simp only[List.getElem?_toArray,ho,Option.bind_some,hd]
    rfl
   rw[List.getD_eq_getElem?_getD]at hg
   cases hv:v[d]? with
   |none=>rw[hv]at hg;simp[boolV]at hg
   |some y=>
    obtain⟨u,h1,h2⟩:=h.sl d y hv
    rw[hv]at hg
    simp only[Option.getD_some]at hg
    rw[hy,h1]
    have hu:(c'=true→u= .bool b)∧(c'=false→u=undef):=by
     unfold boolV at hg
     split at hg
     ·cases hg
      exact⟨fun _=>(zas.1 h2).1,fun h=>by cases h⟩
     ·cases hg
      simp only[ReA]at h2
      exact⟨fun h=>(zbp.1 (h2.1 h)).1,h2.2⟩
     ·cases hg
      simp only[ReA]at h2
      exact⟨fun h=>by(cases h),fun _=>h2.2 trivial⟩
     ·cases hg
    cases c' with
    |true=>rw[hu.1 rfl];simp
    |false=>rw[hu.2 rfl];simp[undef]
  ·cases hg
 ·cases hg
theorem zdf {dst:Option Nat} {op:Op}:∀s∈(fpOf v dst op).w,s∈(fpOf v dst op).t:=by
 intro s hs
 have hh:∀{l:List Operand},s∈hdSl v l→s∈opSls v l:=fun {l} h=>by
  cases l with
  |nil=>exact h
  |cons x xs=>simp only[hdSl,opSls]at h⊢;simp[h]
 unfold fpOf at hs⊢
 split at hs
 case h_15=>
  simp only[List.mem_append]at hs⊢
  exact hs.imp hh id
 all_goals simp_all[FP.both]
theorem put_eq {dst:Option Nat} {x:AV}:(⟨v,r⟩:G).put dst x=⟨putV v dst x,r⟩:=by cases dst<;>rfl
def Did (cx:Cx) (v':List AV) (r':Rs) (dst:Option Nat) (x:AV) (W:List Nat) (r1:Rs) (a':Act) (w':World):Prop:=
 ∃r1',HoldsE cx ⟨putV v' dst x,r1'⟩ a' w'∧(∀s∈W,findR s r1'=findR s r1)∧∀s,s ∉ W→findR s r1'=findR s r'
theorem zwj {o:Oper} {Q:Exit→Act→World→Prop} {K:Act→World→Prop} {x:AV} {r1:Rs} (hd:Does cx v' a w (execOp a.eval o) x r1)
  (hK:∀u w' β',Holds cx ⟨v',r1⟩ a w' β'→ReA cx w' r1 β' x u→K (a.put o.dst u) w'):o.wp cx.P a w K Q:=by
 obtain⟨n,w',β',u,h1,h2,h3,h4⟩:=hd
 unfold Oper.wp
 rw[h1]
 rcases h2 with rfl|⟨rfl,rfl⟩
 ·rw[Oper.upon_value];exact hK _ _ _ h3 h4
 ·rw[Oper.upon_skip];exact hK _ _ _ h3 h4
theorem zdz {dst:Option Nat} {x:AV} {u:Value} {W:List Nat} {r1 r2:Rs} (h:Holds cx ⟨v',r2⟩ a w β) (hx:ReA cx w r2 β x u) (h1:∀s∈W,findR s r2=findR s r1) (h2:∀s,s ∉ W→findR s r2=findR s r'):
  Did cx v' r' dst x W r1 (a.put dst u) w:=
 ⟨r2,⟨β,by rw[←put_eq];exact h.put dst hx⟩,h1,h2⟩
theorem zjm (hT:TOK cx.P T) {o:Oper} (hs:(aop T true v r o.dst o.op).sc) (hv:∀x∈o.op.operands.toList,gev v' x=gev v x)
  (hr:∀s∈(fpOf v o.dst o.op).t,findR s r'=findR s r) (h:Holds cx ⟨v',r'⟩ a w β) {Q:Exit→Act→World→Prop}:
  o.wp cx.P a w (Did cx v' r' o.dst (aop T true v r o.dst o.op).x (fpOf v o.dst o.op).w (aop T true v r o.dst o.op).r) Q:=by
 have hc:=zsa (r':=r') hr hs
 have hd:=ztS (v:=v') (r:=r') (c:=true) hT h rfl (o:=o) (by rw[zsu hv];exact hc.sc)
 rw[zsu hv,hc.x]at hd
 exact zwj hd fun u w' β' g1 g2=>zdz g1 g2 hc.on fun s hs=>(hc.off s hs).1
end
section
variable {v v':List AV} {r r':Rs} {T:Nat→Option TI} {cx:Cx} {a:Act} {w w':World} {β:Nat→Nat→Pl} {mv:Mv}
theorem zf8 {hd:Hd} (h:findR hd.s r'=findR hd.s r):getR r' hd=getR r hd:=by unfold getR lookR;rw[h]
theorem zxK {s:Nat} (h:findR s r'=findR s r) {x:C} (hx:∀t∈slotsC x,t=s):roC r' x=roC r x:=by
 cases x with
 |own hd lo n=>
  have e:findR hd.s r'=findR hd.s r:=by rw[hx hd.s (by simp[slotsC])];exact h
  simp only[roC];rw[zf8 e]
 |_=>rfl
theorem ztP {s:Nat} (h:findR s r'=findR s r):∀{l:List C},(∀t∈slotsCs l,t=s)→roCs r' l=roCs r l
 |[],_=>rfl
 |x::l,hx=>by
  simp only[roCs]
  rw[zxK h (fun t ht=>hx t (by simp[slotsCs,ht])),ztP h (fun t ht=>hx t (by simp[slotsCs,ht]))]
theorem zp9 {s:Nat} (h:findR s r'=findR s r):∀{l:List C},(∀t∈slotsCs l,t=s)→ownHs r' l=ownHs r l
 |[],_=>rfl
 |x::l,hx=>by
  simp only[ownHs]
  rw[zp9 h (fun t ht=>hx t (by simp[slotsCs,ht]))]
  congr 1
  cases x with
  |own hd lo n=>
   have e:findR hd.s r'=findR hd.s r:=by rw[hx hd.s (by simp[slotsCs,slotsC])];exact h
   simp only[ownH];rw[zf8 e]
  |_=>rfl
theorem zh9:∀{l m:List C},slotsCs (l++m)=slotsCs l++slotsCs m
 |[],_=>rfl
 |x::l,m=>by simp[slotsCs,zh9 (l:=l)]
theorem zsb {x:AV} (h:∀s∈slotsA x,findR s r'=findR s r):moveA r' x=moveA r x:=by
 cases x with
 |agg l=>
  simp only[moveA]
  cases hsp:splitOwn l with
  |none=>rfl
  |some q=>
   obtain⟨a0,⟨hd,lo,n⟩,b0⟩:=q
   have hl:=zfR hsp
   simp only
   have hs:∀s,s∈slotsCs a0∨s=hd.s∨s∈slotsCs b0→findR s r'=findR s r:=fun s hs=>by
    refine h s ?_
    rw[hl]
    simp only[slotsA,zh9,slotsCs,slotsC,List.mem_append,List.mem_cons,List.not_mem_nil,or_false]
    exact hs
   rw[zd5 fun s hh=>hs s (.inl hh),zd5 fun s hh=>hs s (.inr (.inr hh)),zf8 (hs hd.s (.inr (.inl rfl)))]
 |one c=>
  cases c with
  |ptr hd off=>
   have h1:=h hd.s (by simp[slotsA,slotsC])
   simp only[moveA]
   rw[zf8 h1]
   cases getR r hd with
   |none=>rfl
   |some res=>
    simp only
    by_cases hc:(slotsCs res.cells).all (·==hd.s)=true
    ·have hc':∀t∈slotsCs res.cells,t=hd.s:=fun t ht=>by have:=List.all_eq_true.1 hc t ht;simpa using this
     rw[ztP h1 hc',zp9 h1 hc']
    ·have hc':(slotsCs res.cells).all (·==hd.s)=false:=by simpa using hc
     rw[hc']
     simp only[Bool.false_and,Bool.false_eq_true,and_false,if_false]
     cases roCs r' res.cells<;>cases roCs r res.cells<;>rfl
  |own hd lo n=>
   have h1:=h hd.s (by simp[slotsA,slotsC])
   simp only[moveA]
   rw[zf8 h1]
  |_=>rfl
 |_=>rfl
theorem zlx:∀{i:Nat} {xs:List AV},(∀s∈slotsAs xs,findR s r'=findR s r)→moveAs r' i xs=moveAs r i xs
 |_,[],_=>by simp[moveAs]
 |0,x::xs,h=>by
  simp only[moveAs]
  rw[zsb fun s hs=>h s (by simp[slotsAs,hs]),zeP fun s hs=>h s (by simp[slotsAs,hs])]
 |i+1,x::xs,h=>by
  simp only[moveAs]
  rw[znH fun s hs=>h s (by simp[slotsAs,hs]),zlx fun s hs=>h s (by simp[slotsAs,hs])]
theorem zqa {i:Nat} {f:Operand} {args:Array Operand} (h1:gev v' f=gev v f) (h2:∀x∈args.toList,gev v' x=gev v x):callM i v' r f args=callM i v r f args:=by
 unfold callM
 rw[zcg h1,zcL h2]
theorem zuF {i:Nat} {f:Operand} {args:Array Operand} (h1:∀s∈opSl v f,findR s r'=findR s r) (h2:∀s∈opSls v args.toList,findR s r'=findR s r):
  callM i v r' f args=callM i v r f args:=by
 unfold callM
 rw[zlx (xs:=evs v args.toList) (by rw[zf7];exact h2)]
 split
 ·rename_i n caps as mv g1 g2
  rw[zeP (xs:=caps.map AV.one)]
  rw[zd6]
  intro s hs
  refine h1 s ?_
  rw[←zbd]
  unfold calleeOf at g1
  split at g1
  ·cases g1;simp[slotsCs]at hs
  ·rename_i n' caps' h3
   cases g1
   rw[h3]
   simpa[slotsA,slotsC]using hs
  ·cases g1
 ·rfl
theorem zxL {dst:Option Nat} {lent:List Nat} {l':List RO} (h:findR mv.s r'=findR mv.s r):scM r' dst mv lent l'=scM r dst mv lent l':=by
 cases mv with
 |o hd=>simp only[scM];rw[zf8 (hd:=hd) (r:=r) (r':=r') h]
 |r hd n=>simp only[scM];rw[zf8 (hd:=hd) (r:=r) (r':=r') h]
theorem ztQ (h:findR mv.s r'=findR mv.s r):borM r' mv=borM r mv:=by unfold borM;rw[h]
theorem zuG {l':List RO} (h:findR mv.s r'=findR mv.s r):findR mv.s (backM r' mv l')=findR mv.s (backM r mv l')∧
  ∀s,s≠mv.s→findR s (backM r' mv l')=findR s r'∧findR s (backM r mv l')=findR s r:=by
 cases mv with
 |o hd=>
  have h':findR hd.s r'=findR hd.s r:=h
  simp only[backM]
  rw[zf8 (hd:=hd) h',ztQ (mv:= .o hd) h]
  have hn:nxt r' hd.s=nxt r hd.s:=by unfold nxt;rw[h']
  rw[hn]
  cases getR r hd with
  |none=>exact⟨h',fun s _=>⟨rfl,rfl⟩⟩
  |some res=>
   simp only[Mv.s]
   refine⟨by rw[zak,zak,if_pos rfl,if_pos rfl],fun s hs=>⟨by rw[zak,if_neg (Ne.symm hs)],by rw[zak,if_neg (Ne.symm hs)]⟩⟩
 |r hd n=>
  have h':findR hd.s r'=findR hd.s r:=h
  simp only[backM]
  rw[zf8 (hd:=hd) h',h']
  cases getR r hd with
  |none=>exact⟨h',fun s _=>⟨rfl,rfl⟩⟩
  |some res=>
   cases findR hd.s r with
   |none=>exact⟨h',fun s _=>⟨rfl,rfl⟩⟩
   |some rs=>
    simp only[Mv.s]
    split
    ·refine⟨by rw[zak,zak,if_pos rfl,if_pos rfl],fun s hs=>⟨by rw[zak,if_neg (Ne.symm hs)],by rw[zak,if_neg (Ne.symm hs)]⟩⟩
    ·refine⟨by rw[zak,zak,if_pos rfl,if_pos rfl],fun s hs=>⟨by rw[zak,if_neg (Ne.symm hs)],by rw[zak,if_neg (Ne.symm hs)]⟩⟩
theorem zqb {dst:Option Nat} {rfs:List RF} {l':List RO} (h:∀s∈mv.s::dl dst,findR s r'=findR s r):
  (bindM r' dst mv rfs l').1=(bindM r dst mv rfs l').1∧(∀s∈mv.s::dl dst,findR s (bindM r' dst mv rfs l').2=findR s (bindM r dst mv rfs l').2)∧
   ∀s,s ∉ mv.s::dl dst→findR s (bindM r' dst mv rfs l').2=findR s r'∧findR s (bindM r dst mv rfs l').2=findR s r:=by
 have h0:findR mv.s r'=findR mv.s r:=h mv.s (by simp)
 unfold bindM
 rw[ztQ h0]
 obtain⟨b1,b2⟩:=zuG (l':=l') h0
 have hall:∀s∈mv.s::dl dst,findR s (backM r' mv l')=findR s (backM r mv l'):=fun s hs=>by
  by_cases e:s=mv.s
  ·subst e;exact b1
  ·rw[(b2 s e).1,(b2 s e).2];exact h s hs
 obtain⟨g1,g2,g3⟩:=zjl (B:=borM r mv) (dst:=dst) (rfs:=rfs) (fun s hs=>hall s (List.mem_cons_of_mem _ hs))
 refine⟨g1,fun s hs=> ?_,fun s hs=> ?_⟩
 ·by_cases hd:s∈dl dst
  ·exact g2 s hd
  ·rw[(g3 s hd).1,(g3 s hd).2];exact hall s hs
 ·simp only[List.mem_cons,not_or]at hs
  rw[(g3 s hs.2).1,(g3 s hs.2).2,(b2 s hs.1).1,(b2 s hs.1).2]
  exact⟨rfl,rfl⟩
theorem zsc (h:Holds cx ⟨v,r⟩ a w β) {f:Operand} {args:Array Operand} {ts:Array TypeId} {n:FuncId} {as:List Arg} {post:List RF→List (List RO)→Prop} {o:Oper} {i0:Nat} {dst:Option Nat} {lent:List Nat} {l':List RO}
  (ho:o.op= .call ⟨.value f,args,ts⟩) (s1:evS true v f) (s2:evsS true v args.toList) (hcall:callM i0 v r f args=some (n,as,mv,lent)) (hsc:scM r dst mv lent l') (hok:CallOK cx.P n as post):
  ∃(us:Array Value) (hold:Hold) (u0:Value),(execOp a.eval o).run cx.P w= .ok (.enter n us) w∧
   (Calls cx.P n us w fun e w'=>∃rfs objs u,post rfs objs∧e= .returned u∧Ret w (Av cx r β) (MB r β mv) w' [hold] rfs objs u)∧zws r β mv hold u0:=by
 have e1:=zbl h (c:=true) rfl s1
 have e2:=zeW h (c:=true) rfl s2
 unfold callM at hcall
 split at hcall
 ·rename_i n' caps as' mv' g1 g2
  split at hcall
  ·rename_i cs g3
   cases hcall
   have hcap:∃cv:Array Value,a.eval f= .func (.func n) #[] cv∧ReCs cx w r β caps cv.toList:=by
    unfold calleeOf at g1
    split at g1
    ·rename_i n' h1
     cases g1
     rw[h1]at e1
     exact⟨#[],(zas.1 e1).1,by simp[ReCs]⟩
    ·rename_i n' caps' h1
     cases g1
     rw[h1]at e1
     simp only[ReA,ReC]at e1
     obtain⟨us,k1,k2⟩:=e1
     exact⟨us,k1,k2⟩
    ·cases g1
   obtain⟨cv,k1,k2⟩:=hcap
   have hlent:mv.s ∉ lentSl i0 (evs v args.toList)++slotsCs caps:=by
    have:(dl dst++(lentSl i0 (evs v args.toList)++slotsCs caps)).contains mv.s=false:=by
     cases mv with
     |o hd=>simp only[scM]at hsc;split at hsc;exact hsc.1;exact hsc.elim
     |r hd n=>simp only[scM]at hsc;split at hsc;exact hsc.1;exact hsc.elim
    simp only[List.contains_eq_mem,List.mem_append,decide_eq_false_iff_not,not_or]at this⊢
    exact this.2
   simp only[List.mem_append,not_or]at hlent
   obtain⟨x,y,u0,hold,q0,q1,q2,q3,q4,q5⟩:=zic h g2 hsc hlent.1 e2
   have hargs:=q1 cs cv.toList (fun k=>by
    have:=zfq (mv:=mv) (γ:=γM r β mv) (k:=k) (bs:=[]) h g3 (by rw[zd6];exact hlent.2) (zd7 k2) (zs:=[]) (vs:=[]) (by simp[zaq])
    simpa using this)
   have hobj:zal (as'++cs)=zal [y]:=by rw[za4,zbI g3,q2,List.append_nil]
   refine⟨(args.toList.map a.eval++cv.toList).toArray,hold,u0, ?_, ?_,q5⟩
   ·have:=hok.1 (args.toList.map a.eval++cv.toList).toArray w
    have hm:(args.toList.map a.eval++cv.toList).toArray=args.map a.eval++cv:=by apply Array.ext';simp
    rw[hm]at this⊢
    simp[execOp,ho,resolve,k1,Deferred.ofValue,invoke,this]
   ·refine hok.2 w (Av cx r β) (MB r β mv) (γM r β mv) [hold] _ (fun b hb=> ?_) (fun b hb=> .inr hb.ob) hargs (by rw[hobj];exact q3) ?_ (by rw[hobj];exact q4)
    ·rcases hb with hb|⟨s,j,res,o,hl,_,hbs⟩
     ·exact Nat.lt_of_lt_of_le (h.a0 b hb) h.n0
     ·exact(h.rs _ _ _ hl).1.lt hbs
    ·cases hold<;>simp[zdG]
  ·cases hcall
 ·cases hcall
end
section
variable {cx:Cx} {v:List AV} {r r':Rs} {a:Act} {w w':World} {β β':Nat→Nat→Pl} {T:Nat→Option TI} {c:Bool} {mv:Mv}
theorem zsd (h:Holds cx ⟨v,r⟩ a w β) {f:Operand} {args:Array Operand} {ts:Array TypeId} {n:FuncId} {as:List Arg} {x:Value} {o:Oper} (ho:o.op= .call ⟨.value f,args,ts⟩)
  (hc:c=true) (s1:evS c v f) (s2:evsS c v args.toList) (hcall:callA v r f args=some (n,as)) (hok:zbE cx.P n as x):
  ∃us:Array Value,(execOp a.eval o).run cx.P w= .ok (.enter n us) w∧
   Calls cx.P n us w fun e w'=>e= .panicked [{v:=x,recovered:=false}]∧PRet w noB w':=by
 have e1:=zbl h hc s1
 have e2:=zeW h hc s2
 unfold callA at hcall
 split at hcall
 ·rename_i n' caps as' g1 g2
  split at hcall
  ·rename_i cs g3
   cases hcall
   -- whom it calls
   have hcap:∃cv:Array Value,a.eval f= .func (.func n) #[] cv∧ReCs cx w r β caps cv.toList:=by
    unfold calleeOf at g1
    split at g1
    ·rename_i n' h1
     cases g1
     rw[h1]at e1
     exact⟨#[],(zas.1 e1).1,by simp[ReCs]⟩
    ·rename_i n' caps' h1
     cases g1
     rw[h1]at e1
     simp only[ReA,ReC]at e1
     obtain⟨us,k1,k2⟩:=e1
     exact⟨us,k1,k2⟩
    ·cases g1
   obtain⟨cv,k1,k2⟩:=hcap
   have hargs:=zdA h g2 e2 (zdA h g3 (zd7 k2) (zs:=[]) (vs:=[]) (by simp[zaq]))
   simp only[List.append_nil]at hargs
   have hobj:zal (as'++cs)=[]:=by rw[za4,zbI g2,zbI g3];rfl
   refine⟨(args.toList.map a.eval++cv.toList).toArray, ?_, ?_⟩
   ·have:=hok.1 (args.toList.map a.eval++cv.toList).toArray w
    have hm:(args.toList.map a.eval++cv.toList).toArray=args.map a.eval++cv:=by apply Array.ext';simp
    rw[hm]at this⊢
    simp[execOp,ho,resolve,k1,Deferred.ofValue,invoke,this]
   ·refine hok.2 w (Av cx r β) noB (fun _=>⟨none,0⟩) [] _ (fun b hb=> ?_) (fun b hb=>hb.elim) hargs (by rw[hobj];intro b hb;exact hb.elim) List.nodup_nil (by rw[hobj];intro i j b o o' sz n ds bo sz' n' ds' bo' h1;simp at h1)
    rcases hb with hb|⟨s,j,res,o,hl,_,hbs⟩
    ·exact Nat.lt_of_lt_of_le (h.a0 b hb) h.n0
    ·exact(h.rs _ _ _ hl).1.lt hbs
  ·cases hcall
 ·cases hcall
theorem zqc (h:Holds cx ⟨v,r⟩ a w β) {f:Operand} {args:Array Operand} {ts:Array TypeId} {n:FuncId} {as:List Arg} {x:Value} {o:Oper} {i0:Nat} {dst:Option Nat} {lent:List Nat} {l':List RO}
  (ho:o.op= .call ⟨.value f,args,ts⟩) (s1:evS true v f) (s2:evsS true v args.toList) (hcall:callM i0 v r f args=some (n,as,mv,lent)) (hsc:scM r dst mv lent l') (hok:zbE cx.P n as x):
  ∃(us:Array Value) (hold:Hold) (u0:Value),(execOp a.eval o).run cx.P w= .ok (.enter n us) w∧
   (Calls cx.P n us w fun e w'=>e= .panicked [{v:=x,recovered:=false}]∧PRet w (MB r β mv) w')∧zws r β mv hold u0:=by
 have e1:=zbl h (c:=true) rfl s1
 have e2:=zeW h (c:=true) rfl s2
 unfold callM at hcall
 split at hcall
 ·rename_i n' caps as' mv' g1 g2
  split at hcall
  ·rename_i cs g3
   cases hcall
   have hcap:∃cv:Array Value,a.eval f= .func (.func n) #[] cv∧ReCs cx w r β caps cv.toList:=by
    unfold calleeOf at g1
    split at g1
    ·rename_i n' h1
     cases g1
     rw[h1]at e1
     exact⟨#[],(zas.1 e1).1,by simp[ReCs]⟩
    ·rename_i n' caps' h1
     cases g1
     rw[h1]at e1
     simp only[ReA,ReC]at e1
     obtain⟨us,k1,k2⟩:=e1
     exact⟨us,k1,k2⟩
    ·cases g1
   obtain⟨cv,k1,k2⟩:=hcap
   have hlent:mv.s ∉ lentSl i0 (evs v args.toList)++slotsCs caps:=by
    have:(dl dst++(lentSl i0 (evs v args.toList)++slotsCs caps)).contains mv.s=false:=by
     cases mv with
     |o hd=>simp only[scM]at hsc;split at hsc;exact hsc.1;exact hsc.elim
     |r hd n=>simp only[scM]at hsc;split at hsc;exact hsc.1;exact hsc.elim
    simp only[List.contains_eq_mem,List.mem_append,decide_eq_false_iff_not,not_or]at this⊢
    exact this.2
   simp only[List.mem_append,not_or]at hlent
   obtain⟨x0,y,u0,hold,q0,q1,q2,q3,q4,q5⟩:=zic h g2 hsc hlent.1 e2
   have hargs:=q1 cs cv.toList (fun k=>by
    have:=zfq (mv:=mv) (γ:=γM r β mv) (k:=k) (bs:=[]) h g3 (by rw[zd6];exact hlent.2) (zd7 k2) (zs:=[]) (vs:=[]) (by simp[zaq])
    simpa using this)
   have hobj:zal (as'++cs)=zal [y]:=by rw[za4,zbI g3,q2,List.append_nil]
   refine⟨(args.toList.map a.eval++cv.toList).toArray,hold,u0, ?_, ?_,q5⟩
   ·have:=hok.1 (args.toList.map a.eval++cv.toList).toArray w
    have hm:(args.toList.map a.eval++cv.toList).toArray=args.map a.eval++cv:=by apply Array.ext';simp
    rw[hm]at this⊢
    simp[execOp,ho,resolve,k1,Deferred.ofValue,invoke,this]
   ·refine hok.2 w (Av cx r β) (MB r β mv) (γM r β mv) [hold] _ (fun b hb=> ?_) (fun b hb=> .inr hb.ob) hargs (by rw[hobj];exact q3) ?_ (by rw[hobj];exact q4)
    ·rcases hb with hb|⟨s,j,res,o,hl,_,hbs⟩
     ·exact Nat.lt_of_lt_of_le (h.a0 b hb) h.n0
     ·exact(h.rs _ _ _ hl).1.lt hbs
    ·cases hold<;>simp[zdG]
  ·cases hcall
 ·cases hcall
theorem zly (h:Holds cx ⟨v,r⟩ a w β) (p:PRet w noB w'):Holds cx ⟨v,r⟩ a w' β:=by
 have x:Ext cx w r β w' r β:=⟨fun _=>Nat.le_refl _,fun hd res' _ hg=>⟨res',hg,rfl,rfl,rfl,Nat.le_refl _⟩,⟨fun b hb _=>p.old b hb (fun h=>h),fun b _ h=>h⟩,
  fun b hb _=>p.old b (Nat.lt_of_lt_of_le hb h.n0) (fun h=>h),p.os,p.out⟩
 refine h.mk' x (fun s j res hl=> ?_) h.inj h.fr p.size
 obtain⟨g1,g2⟩:=h.rs s j res hl
 exact⟨g1.ext x (fun b o hb=>p.old b (g1.lt hb) (fun h=>h)) (fun b o hb=>g1.lt hb),g2⟩
theorem zjn {s:Nat}:findR s (ziZ r mv)=if s=mv.s then(findR s r).map (fun rs=>{rs with l:=[]})else findR s r:=by
 unfold ziZ
 by_cases hs:s=mv.s
 ·subst hs
  rw[if_pos rfl]
  cases hf:findR mv.s r with
  |none=>simp[hf]
  |some rs=>simp only[zak,if_pos,Option.map_some]
 ·rw[if_neg hs]
  cases hf:findR mv.s r with
  |none=>rfl
  |some rs=>simp only;rw[zak,if_neg (Ne.symm hs)]
theorem zlz {s:Nat}:nxt (ziZ r mv) s=nxt r s:=by
 unfold nxt
 rw[zjn]
 by_cases hs:s=mv.s
 ·rw[if_pos hs]
  cases findR s r<;>rfl
 ·rw[if_neg hs]
theorem zdo {s j:Nat} {res:Res} (hl:lookR (ziZ r mv) s j=some res):s≠mv.s∧lookR r s j=some res:=by
 unfold lookR at hl⊢
 rw[zjn]at hl
 by_cases hs:s=mv.s
 ·rw[if_pos hs]at hl
  cases hf:findR s r with
  |none=>rw[hf]at hl;simp at hl
  |some rs=>rw[hf]at hl;simp at hl
 ·rw[if_neg hs]at hl
  exact⟨hs,hl⟩
theorem zoC (h:Holds cx ⟨v,r⟩ a w β) (p:PRet w (MB r β mv) w'):Holds cx ⟨v,ziZ r mv⟩ a w' β:=by
 have hav:∀b,Av cx (ziZ r mv) β b→Av cx r β b:=fun b hb=>by
  rcases hb with hb|⟨s,j,res,o,hl,hf,hbs⟩
  ·exact .inl hb
  ·exact .inr ⟨s,j,res,o,(zdo hl).2,hf,hbs⟩
 have hsame:∀s j res b o,s≠mv.s→lookR r s j=some res→(β s j).base=some (b,o)→w'.heap[b]? =w.heap[b]? :=fun s j res b o hs hl hb=>by
  refine p.old b ((h.rs _ _ _ hl).1.lt hb) fun hm=> ?_
  obtain⟨k,res',o',_,h2,h3,h4⟩:=hm
  cases hf:res.fz with
  |false=>exact hs (h.inj _ _ _ _ _ _ _ _ _ hl hf h2 h3 hb h4).1
  |true=>
   have hok:=(h.rs _ _ _ hl).1
   unfold ResOK at hok
   rw[if_neg (by simp[h.vz _ _ _ hl hf])]at hok
   obtain⟨_,_,_,g⟩:=hok
   exact g hf b o hb (.inr ⟨_,k,res',o',h2,h3,h4⟩)
 have x:Ext cx w r β w' (ziZ r mv) β:=by
  refine⟨fun s=>by rw[zlz];exact Nat.le_refl _,fun hd res' _ hg=> ?_,⟨fun b hb hn=>p.old b hb (fun hm=>hn (.inr hm.ob)),fun b _ hb=>hav b hb⟩,fun b hb hn=> ?_,p.os,p.out⟩
  ·obtain⟨hl,he⟩:=zad hg
   exact⟨res',zao (zdo hl).2 he,rfl,rfl,rfl,Nat.le_refl _⟩
  ·refine p.old b (Nat.lt_of_lt_of_le hb h.n0) fun hm=> ?_
   rcases hm.fr h with h1|h1
   ·omega
   ·exact hn h1
 refine h.mk' x (fun s j res hl=> ?_) (fun s j res s' j' res' b o o' hl hf hl' hf' hb hb'=>h.inj _ _ _ _ _ _ _ _ _ (zdo hl).2 hf (zdo hl').2 hf' hb hb')
  (fun s j res b o hl hf hb=>h.fr _ _ _ _ _ (zdo hl).2 hf hb) p.size
 obtain⟨hs,hl'⟩:=zdo hl
 obtain⟨g1,g2⟩:=h.rs s j res hl'
 exact⟨g1.ext x (fun b o hb=>hsame s j res b o hs hl' hb) (fun b o hb=>g1.lt hb),by rw[zlz];exact g2⟩
end
section
variable {v v':List AV} {r r':Rs} {T:Nat→Option TI} {c:Bool} {cx:Cx} {a:Act} {w:World} {β:Nat→Nat→Pl} {all:List Oper}
theorem zlA {o:Oper} {f:Operand} {args:Array Operand} {ts:Array TypeId} {rfs:List RF} {n:FuncId} {as:List Arg} (ho:o.op= .call ⟨.value f,args,ts⟩) (hc:c=true)
  (s1:evS c v f) (s2:evsS c v args.toList) (hcall:callA v r f args=some (n,as)) (hok:CallOK cx.P n as (fun r o=>r=rfs∧o=[]))
  (hv:∀x∈o.op.operands.toList,gev v' x=gev v x) (hr:∀s∈(fpOf v o.dst o.op).t,findR s r'=findR s r) (h:Holds cx ⟨v',r'⟩ a w β)
  {Q:Exit→Act→World→Prop} {K:Act→World→Prop} (hK:∀u w',Ret w (Av cx r' β) noB w' [] rfs [] u→K (a.put o.dst u) w'):o.wp cx.P a w K Q:=by
 rw[ho]at hv hr
 simp only[fpOf]at hr
 have h1:gev v' f=gev v f:=hv f (by simp[Op.operands,Call.operands])
 have h2:∀x∈args.toList,gev v' x=gev v x:=fun x hx=>hv x (by simp[Op.operands,Call.operands,hx])
 have h3:callA v' r' f args=some (n,as):=by
  rw[zmP h1 h2,zp8 (fun s hs=>hr s (by simp[hs])) (fun s hs=>hr s (by simp[hs])),hcall]
 obtain⟨us,g1,g2⟩:=zuJ h ho hc (by rw[zbm h1];exact s1) (by rw[zbN h2];exact s2) h3 hok
 unfold Oper.wp
 rw[g1,Oper.upon_enter]
 refine g2.mono fun e w' ⟨rfs',objs,u,⟨e1,e2⟩,e3,e4⟩=> ?_
 subst e1 e2 e3
 exact hK u w' e4
def zdg (cx:Cx) (all:List Oper) (o:Oper) (v:List AV) (r:Rs) (fp:FP) (x:AV) (r1:Rs):Prop:=
 (∀s,s ∉ fp.w→findR s r1=findR s r)∧
 ∀v' r',(∀x∈o.op.operands.toList,gev v' x=gev v x)→(∀j b,o.guard=some (j,b)→gdOf all v' j=gdOf all v j)→(∀s∈fp.t,findR s r'=findR s r)→
  ∀a w β,Holds cx ⟨v',r'⟩ a w β→∀i Q,all.toArray[i]? =some o→wpOp cx.P all.toArray Q i (Did cx v' r' o.dst x fp.w r1) a w
theorem zbk {o:Oper} {i:Nat} {Q:Exit→Act→World→Prop} {K:Act→World→Prop} (hi:all.toArray[i]? =some o) (hw:Region.wanted o (yielded all.toArray a.tmps)=true)
  (h:o.wp cx.P a w K Q):wpOp cx.P all.toArray Q i K a w:=by
 unfold wpOp
 simp only[hi,hw,if_true]
 exact .inl h
theorem zht {o:Oper} {i:Nat} {Q:Exit→Act→World→Prop} {K:Act→World→Prop} (hi:all.toArray[i]? =some o) (hw:Region.wanted o (yielded all.toArray a.tmps)=false)
  (h:K (a.put o.dst undef) w):wpOp cx.P all.toArray Q i K a w:=by
 unfold wpOp
 simp only[hi,hw,Bool.false_eq_true,if_false]
 exact h
theorem zcA {o:Oper} {y:Nat→Option Bool} (h:o.guard=none):Region.wanted o y=true:=by unfold Region.wanted;rw[h]
theorem zcW {o:Oper} {y:Nat→Option Bool} {j:Nat} {b:Bool} (h:o.guard=some (j,b)):Region.wanted o y=(y j==some b):=by unfold Region.wanted;rw[h]
def Wd (cx:Cx) (all:List Oper) (o:Oper) (v:List AV):Prop:=∀(v':List AV) (r':Rs) (a:Act) (w:World) (β:Nat→Nat→Pl),(∀j b,o.guard=some (j,b)→gdOf all v' j=gdOf all v j)→Holds cx ⟨v',r'⟩ a w β→
 Region.wanted o (yielded all.toArray a.tmps)=true
theorem zmL {o:Oper} (hg:o.guard=none):Wd cx all o v:=fun _ _ _ _ _ _ _=>zcA hg
theorem zuH {o:Oper} {j:Nat} {want c' b:Bool} (hg:o.guard=some (j,want)) (hgd:gdOf all v j=some (c',b)) (hcc:(c'&&(b==want))=true):Wd cx all o v:=fun v' r' a w β hgv h=>by
 have hwant:=zoB h (show gdOf all v' j=some (c',b) by rw[hgv j want hg];exact hgd) (want:=want)
 rw[←zcW hg,hcc]at hwant
 exact hwant
theorem zlB (hT:TOK cx.P T) {o:Oper} (hg:o.guard=none) (hs:(aop T true v r o.dst o.op).sc):zdg cx all o v r (fpOf v o.dst o.op) (aop T true v r o.dst o.op).x (aop T true v r o.dst o.op).r:=
 ⟨fun s hs'=>((zsa (r':=r) (fun _ _=>rfl) hs).off s hs').2,fun v' r' hv _ hr a w β h i Q hi=>zbk hi (zcA hg) (zjm hT hs hv hr h)⟩
theorem zf9 {o:Oper} {f:Operand} {args:Array Operand} {ts:Array TypeId} {rfs:List RF} {n:FuncId} {as:List Arg} (ho:o.op= .call ⟨.value f,args,ts⟩) (hw:Wd cx all o v)
  (s1:evS true v f) (s2:evsS true v args.toList) (hcall:callA v r f args=some (n,as)) (hok:CallOK cx.P n as (fun r o=>r=rfs∧o=[])):
  zdg cx all o v r (fpOf v o.dst o.op) (bindRet r o.dst rfs).1 (bindRet r o.dst rfs).2:=by
 have hfw:(fpOf v o.dst o.op).w=dl o.dst:=by rw[ho];rfl
 refine⟨fun s hs=> ?_,fun v' r' hv hgv hr a w β h i Q hi=>zbk hi (hw v' r' a w β hgv h) (zlA ho rfl s1 s2 hcall hok hv hr h fun u w' hret=> ?_)⟩
 ·rw[hfw]at hs
  exact((zlw (r':=r) (dst:=o.dst) (rfs:=rfs) fun _ _=>rfl).2.2 s hs).2
 ·obtain⟨β',g1,g2⟩:=zwq h hret o.dst
  obtain⟨e1,e2,e3⟩:=zlw (r:=r) (r':=r') (dst:=o.dst) (rfs:=rfs) (fun s hs=>hr s (zdf s (by rw[hfw];exact hs)))
  rw[e1]at g2
  rw[hfw]
  exact zdz g1 g2 e2 fun s hs=>(e3 s hs).1
theorem zse {o:Oper} {f:Operand} {args:Array Operand} {ts:Array TypeId} {d:Value} (ho:o.op= .call ⟨.value f,args,ts⟩) (hw:Wd cx all o v)
  (s1:evS true v f) (s2:evsS true v args.toList) (he:zqD cx.P v r f args d):zdg cx all o v r (fpOf v o.dst o.op) (.one (.d (.v d))) r:=by
 refine⟨fun s _=>rfl,fun v' r' hv hgv hr a w β h i Q hi=>zbk hi (hw v' r' a w β hgv h) ?_⟩
 obtain⟨hd,n,hn,he⟩:=he
 rw[ho]at hv hr
 simp only[fpOf]at hr
 have h1:gev v' f=gev v f:=hv f (by simp[Op.operands,Call.operands])
 have h2:∀x∈args.toList,gev v' x=gev v x:=fun x hx=>hv x (by simp[Op.operands,Call.operands,hx])
 have e1:=zbl h rfl (c:=true) (x:=f) (by rw[zbm h1];exact s1)
 have e2:=zeW h rfl (c:=true) (xs:=args.toList) (by rw[zbN h2];exact s2)
 rw[zcg h1]at e1
 rw[zcL h2]at e2
 have hfn:a.eval f= .func (.func n) #[] #[]:=by
  unfold calleeOf at hn
  split at hn
  ·rename_i n' h3
   cases hn
   rw[h3]at e1
   exact(zas.1 e1).1
  ·rename_i n' caps' h3
   cases hn
   rw[h3]at e1
   simp only[ReA,ReC,ReCs]at e1
   obtain⟨us,k1,k2⟩:=e1
   rw[k1]
   congr 1
   apply Array.ext'
   simpa using k2
  ·cases hn
 have hrun:=he cx v' r' a w β rfl (fun s hs=>hr s (by simp[hs])) h _ e2
 have hm:(args.toList.map a.eval).toArray=args.map a.eval:=by apply Array.ext';simp
 rw[hm]at hrun
 unfold Oper.wp
 have hex:(execOp a.eval o).run cx.P w= .ok (.value d) w:=by simp[execOp,ho,resolve,hfn,Deferred.ofValue,invoke,hrun]
 rw[hex,Oper.upon_value]
 exact zdz h (zas.2 ⟨rfl,hd⟩) (fun s hs=>hr s (by
  have:(fpOf v o.dst o.op).w=dl o.dst:=by rw[ho];rfl
  rw[this]at hs
  simp[hs])) fun s _=>rfl
theorem zuI (hT:TOK cx.P T) {o:Oper} {j:Nat} {want c' b:Bool} (hg:o.guard=some (j,want)) (hgd:gdOf all v j=some (c',b)) (hable:znT o.op=true)
  (hs:(aop T (c'&&(b==want)) v r o.dst o.op).sc):zdg cx all o v r (fpOf v o.dst o.op) (.gd (c'&&(b==want)) (aop T (c'&&(b==want)) v r o.dst o.op).x) r:=by
 have hw0:(fpOf v o.dst o.op).w=[]:=by
  cases ho:o.op with
  |call k=>
   obtain⟨callee,as,ts⟩:=k
   cases callee with
   |builtin bb=>cases bb<;>first|rfl|(rw[ho]at hable;cases hable)
   |_=>rw[ho]at hable;cases hable
  |_=>first|rfl|(rw[ho]at hable;cases hable)
 refine⟨fun _ _=>rfl,fun v' r' hv hgv hr a w β h i Q hi=> ?_⟩
 have hgd':gdOf all v' j=some (c',b):=by rw[hgv j want hg];exact hgd
 have hwant:=zoB h hgd' (want:=want)
 rw[←zcW hg]at hwant
 cases hcc:(c'&&(b==want))with
 |true=>
  rw[hcc]at hwant hs
  refine zbk hi hwant ?_
  have hc:=zsa (r':=r') hr hs
  have hd:=ztS (v:=v') (r:=r') (c:=true) hT h rfl (o:=o) (by rw[zsu hv];exact hc.sc)
  rw[zsu hv,hc.x]at hd
  rw[zkg hable hc.sc]at hd
  refine zwj hd fun u w' β' g1 g2=> ?_
  rw[hw0]
  exact zdz g1 (by simp only[ReA];exact⟨fun _=>g2,fun h=>by cases h⟩) (fun s hs=>by simp at hs) fun s _=>rfl
 |false=>
  rw[hcc]at hwant
  refine zht hi hwant ?_
  rw[hw0]
  exact zdz h (by simp only[ReA];exact⟨fun h=>(by cases h),fun _=>by trivial⟩) (fun s hs=>by simp at hs) fun s _=>rfl
theorem zmM {o:Oper} {f:Operand} {args:Array Operand} {ts:Array TypeId} {rfs:List RF} {n:FuncId} {as:List Arg} {j:Nat} {want c' b:Bool} (ho:o.op= .call ⟨.value f,args,ts⟩) (hg:o.guard=some (j,want))
  (hgd:gdOf all v j=some (c',b)) (s1:evS (c'&&(b==want)) v f) (s2:evsS (c'&&(b==want)) v args.toList) (hcall:callA v r f args=some (n,as))
  (hok:(c'&&(b==want))=true→CallOK cx.P n as (fun r o=>r=rfs∧o=[])) (hno:noOwn (rfs.flatMap RF.cells)=true):
  zdg cx all o v r (fpOf v o.dst o.op) (.gd (c'&&(b==want)) (tupOf (bindFs 0 0 0 rfs))) r:=by
 refine⟨fun _ _=>rfl,fun v' r' hv hgv hr a w β h i Q hi=> ?_⟩
 have hgd':gdOf all v' j=some (c',b):=by rw[hgv j want hg];exact hgd
 have hwant:=zoB h hgd' (want:=want)
 rw[←zcW hg]at hwant
 cases hcc:(c'&&(b==want))with
 |true=>
  rw[hcc]at hwant
  refine zbk hi hwant (zlA ho hcc s1 s2 hcall (hok hcc) hv hr h fun u w' hret=> ?_)
  obtain⟨g1,g2⟩:=zlE h hno hret
  exact zdz g1 (by simp only[ReA];exact⟨fun _=>g2,fun h=>by cases h⟩) (fun s hs=>hr s (zdf s hs)) fun s _=>rfl
 |false=>
  rw[hcc]at hwant
  refine zht hi hwant ?_
  exact zdz h (by simp only[ReA];exact⟨fun h=>(by cases h),fun _=>by trivial⟩) (fun s hs=>hr s (zdf s hs)) fun s _=>rfl
theorem zsf (hT:TOK cx.P T) {o:Oper} {j:Nat} {want c' b:Bool} (hg:o.guard=some (j,want)) (hgd:gdOf all v j=some (c',b)) (hcc:(c'&&(b==want))=true)
  (hs:(aop T true v r o.dst o.op).sc):zdg cx all o v r (fpOf v o.dst o.op) (aop T true v r o.dst o.op).x (aop T true v r o.dst o.op).r:=by
 refine⟨fun s hs'=>((zsa (r':=r) (fun _ _=>rfl) hs).off s hs').2,fun v' r' hv hgv hr a w β h i Q hi=> ?_⟩
 have hwant:=zoB h (show gdOf all v' j=some (c',b) by rw[hgv j want hg];exact hgd) (want:=want)
 rw[←zcW hg,hcc]at hwant
 exact zbk hi hwant (zjm hT hs hv hr h)
theorem zkf {o:Oper} {j:Nat} {want c' b:Bool} (hg:o.guard=some (j,want)) (hgd:gdOf all v j=some (c',b)) (hcc:(c'&&(b==want))=false):zdg cx all o v r (fpOf v o.dst o.op) ziY r:=by
 refine⟨fun _ _=>rfl,fun v' r' hv hgv hr a w β h i Q hi=> ?_⟩
 have hwant:=zoB h (show gdOf all v' j=some (c',b) by rw[hgv j want hg];exact hgd) (want:=want)
 rw[←zcW hg,hcc]at hwant
 exact zht hi hwant (zdz h (by simp[ReA,ReC]) (fun s hs=>hr s (zdf s hs)) fun s _=>rfl)
theorem zsg {o:Oper} {j:Nat} {want c' b:Bool} {x:AV} (hg:o.guard=some (j,want)) (hgd:gdOf all v j=some (c',b)) (hcc:(c'&&(b==want))=false):zdg cx all o v r (fpOf v o.dst o.op) (.gd (c'&&(b==want)) x) r:=by
 refine⟨fun _ _=>rfl,fun v' r' hv hgv hr a w β h i Q hi=> ?_⟩
 have hwant:=zoB h (show gdOf all v' j=some (c',b) by rw[hgv j want hg];exact hgd) (want:=want)
 rw[←zcW hg,hcc]at hwant
 exact zht hi hwant (zdz h (by rw[hcc];simp[ReA,ReC]) (fun s hs=>hr s (zdf s hs)) fun s _=>rfl)
theorem zjo {o:Oper} {f:Operand} {args:Array Operand} {ts:Array TypeId} {rfs:List RF} {l':List RO} {n:FuncId} {as:List Arg} {mv:Mv} {lent:List Nat} {i0:Nat} (ho:o.op= .call ⟨.value f,args,ts⟩) (hw:Wd cx all o v)
  (s1:evS true v f) (s2:evsS true v args.toList) (hcall:callM i0 v r f args=some (n,as,mv,lent)) (hok:CallOK cx.P n as (fun r o=>r=rfs∧o=[l'])) (hsc:scM r o.dst mv lent l'):
  zdg cx all o v r ⟨(fpOf v o.dst o.op).t++[mv.s],mv.s::dl o.dst⟩ (bindM r o.dst mv rfs l').1 (bindM r o.dst mv rfs l').2:=by
 refine⟨fun s hs=>(zqb (r:=r) (r':=r) (fun _ _=>rfl)).2.2 s hs|>.2,fun v' r' hv hgv hr a w β h i Q hi=>zbk hi (hw v' r' a w β hgv h) ?_⟩
 rw[ho]at hv
 have hft:∀s∈(opSl v f++(opSls v args.toList++dl o.dst)),findR s r'=findR s r:=fun s hs=>hr s (List.mem_append_left _ (by rw[ho];exact hs))
 have hms:findR mv.s r'=findR mv.s r:=hr mv.s (List.mem_append_right _ (by simp))
 have h1:gev v' f=gev v f:=hv f (by simp[Op.operands,Call.operands])
 have h2:∀x∈args.toList,gev v' x=gev v x:=fun x hx=>hv x (by simp[Op.operands,Call.operands,hx])
 have h3:callM i0 v' r' f args=some (n,as,mv,lent):=by
  rw[zqa h1 h2,zuF (fun s hs=>hft s (by simp[hs])) (fun s hs=>hft s (by simp[hs])),hcall]
 have hsc':scM r' o.dst mv lent l':=by rw[zxL hms];exact hsc
 obtain⟨us,hold,u0,g1,g2,g3⟩:=zsc h ho (by rw[zbm h1];exact s1) (by rw[zbN h2];exact s2) h3 hsc' hok
 unfold Oper.wp
 rw[g1,Oper.upon_enter]
 refine g2.mono fun e w' ⟨rfs',objs,u,⟨e1,e2⟩,e3,e4⟩=> ?_
 subst e1 e2 e3
 obtain⟨β',q1,q2⟩:=zuP h g3 hsc' e4
 obtain⟨k1,k2,k3⟩:=zqb (r:=r) (r':=r') (dst:=o.dst) (mv:=mv) (rfs:=rfs') (l':=l') (fun s hs=>by
  rcases List.mem_cons.1 hs with rfl|hs
  ·exact hms
  ·exact hft s (by simp[hs]))
 rw[k1]at q2
 exact zdz q1 q2 k2 fun s hs=>(k3 s hs).1
theorem znI {d:Nat} {rfs:List RF} {l:List RO} (h:∀s∈(d+pK)::dl (some d),findR s r'=findR s r):
  (bindP r' d rfs l).1=(bindP r d rfs l).1∧(∀s∈(d+pK)::dl (some d),findR s (bindP r' d rfs l).2=findR s (bindP r d rfs l).2)∧
   ∀s,s ∉ (d+pK)::dl (some d)→findR s (bindP r' d rfs l).2=findR s r'∧findR s (bindP r d rfs l).2=findR s r:=by
 have h1:nxt r' d=nxt r d:=zeO (h d (by simp[dl]))
 have h2:nxt r' (d+pK)=nxt r (d+pK):=zeO (h (d+pK) (by simp))
 unfold bindP
 rw[h1,h2]
 split
 ·refine⟨rfl,fun s hs=> ?_,fun s hs=> ?_⟩
  ·rw[zak,zak,h s hs]
  ·simp only[dl,List.mem_cons,List.not_mem_nil,or_false,not_or]at hs
   rw[zak,zak,if_neg (Ne.symm hs.2),if_neg (Ne.symm hs.2)]
   exact⟨rfl,rfl⟩
 ·refine⟨rfl,fun s hs=> ?_,fun s hs=> ?_⟩
  ·rw[zak,zak,zak,zak,h s hs]
  ·simp only[dl,List.mem_cons,List.not_mem_nil,or_false,not_or]at hs
   rw[zak,zak,zak,zak,if_neg (Ne.symm hs.1),if_neg (Ne.symm hs.2),if_neg (Ne.symm hs.1),if_neg (Ne.symm hs.2)]
   exact⟨rfl,rfl⟩
theorem zjq {o:Oper} {f:Operand} {args:Array Operand} {ts:Array TypeId} {rfs:List RF} {l:List RO} {n:FuncId} {as:List Arg} {d:Nat} (ho:o.op= .call ⟨.value f,args,ts⟩) (hw:Wd cx all o v) (hd:o.dst=some d)
  (s1:evS true v f) (s2:evsS true v args.toList) (hcall:callA v r f args=some (n,as)) (hok:CallP cx.P n as rfs l):
  zdg cx all o v r ⟨(fpOf v o.dst o.op).t++[d+pK],(d+pK)::dl o.dst⟩ (bindP r d rfs l).1 (bindP r d rfs l).2:=by
 refine⟨fun s hs=>(znI (r:=r) (r':=r) (fun _ _=>rfl)).2.2 s (by rw[hd]at hs;exact hs)|>.2,fun v' r' hv hgv hr a w β h i Q hi=>zbk hi (hw v' r' a w β hgv h) ?_⟩
 rw[ho]at hv
 have hft:∀s∈(opSl v f++(opSls v args.toList++dl o.dst)),findR s r'=findR s r:=fun s hs=>hr s (List.mem_append_left _ (by rw[ho];exact hs))
 have h1:gev v' f=gev v f:=hv f (by simp[Op.operands,Call.operands])
 have h2:∀x∈args.toList,gev v' x=gev v x:=fun x hx=>hv x (by simp[Op.operands,Call.operands,hx])
 have h3:callA v' r' f args=some (n,as):=by
  rw[zmP h1 h2,zp8 (fun s hs=>hft s (by simp[hs])) (fun s hs=>hft s (by simp[hs])),hcall]
 obtain⟨us,g1,g2⟩:=zsl h ho rfl (by rw[zbm h1];exact s1) (by rw[zbN h2];exact s2) h3 hok
 unfold Oper.wp
 rw[g1,Oper.upon_enter]
 refine g2.mono fun e w' ⟨bs,rfs',objs,u,⟨b,e1,e2,e3⟩,e4,e5,e6⟩=> ?_
 subst e1 e2 e3 e4
 obtain⟨β',q1,q2⟩:=zuR (d:=d) h (e5 b (by simp[zdG])) e6
 have hag:∀s∈(d+pK)::dl (some d),findR s r'=findR s r:=fun s hs=>by
  rcases List.mem_cons.1 hs with rfl|hs
  ·exact hr _ (List.mem_append_right _ (by simp))
  ·exact hft s (by rw[hd];simp[hs])
 obtain⟨k1,k2,k3⟩:=znI (r:=r) (r':=r') (rfs:=rfs) (l:=l) hag
 rw[k1]at q2
 rw[hd]
 exact zdz q1 q2 k2 fun s hs=>(k3 s hs).1
theorem zqd {o:Oper} {f:Operand} {args:Array Operand} {ts:Array TypeId} {s0:Nat} (ho:o.op= .call ⟨.value f,args,ts⟩):∀s∈(s0::dl o.dst),s∈((fpOf v o.dst o.op).t++[s0]):=by
 intro s hs
 rw[ho]
 simp only[fpOf,List.mem_append,List.mem_cons,List.mem_singleton]at hs⊢
 rcases hs with rfl|hs
 ·exact .inr (.inl rfl)
 ·exact .inl (.inr (.inr hs))
def zsh (cx:Cx) (all:List Oper) (o:Oper) (v:List AV) (r:Rs) (K:Ex→G→Prop):Prop:=
 ∀(a:Act) (w:World) (β:Nat→Nat→Pl),Holds cx ⟨v,r⟩ a w β→∀(k:Nat) (Q:Exit→Act→World→Prop) (R:Act→World→Prop),all.toArray[k]? =some o→
  (∀x g a w,HoldsE cx g a w→K (.panic x) g→Q (zt1 (.panic x)) a w)→wpOp cx.P all.toArray Q k R a w
def ztR (T:Nat→Option TI) (cx:Cx) (all:List Oper) (o:Oper) (rest:List Oper) (v:List AV) (r:Rs) (K:Ex→G→Prop):Prop:=
 ∃v' r' fp x r1 off',(∀(cx:Cx) (a:Act) (w:World),HoldsE cx ⟨v,r⟩ a w→HoldsE cx ⟨v',r'⟩ a w)∧zdg cx all o v' r' fp x r1∧aops T cx.P all ⟨none,off'⟩ rest (putV v' o.dst x) r1 K
theorem zqe {all:List Oper} {v:List AV} {i j k lo n:Nat} {h:Hd} {ds:List D} (hi:v[i]? =some (.one (.own h lo n))):gdOf all (v.set i (.one (.d (.sl k ds)))) j=gdOf all v j:=by
 unfold gdOf
 split
 ·split
  ·rename_i d _
   by_cases hd:i=d
   ·subst hd
    have hlt:i<v.length:=(List.getElem?_eq_some_iff.1 hi).1
    rw[List.getD_eq_getElem?_getD,List.getD_eq_getElem?_getD,List.getElem?_set_self hlt,hi]
    rfl
   ·rw[List.getD_eq_getElem?_getD,List.getD_eq_getElem?_getD,List.getElem?_set_ne hd]
  ·rfl
 ·rfl
theorem znJ {o:Oper} {f:Operand} {args:Array Operand} {ts:Array TypeId} {m:M} {K:Ex→G→Prop} (ho:o.op= .call ⟨.value f,args,ts⟩) (hw:Wd cx all o v) (s1:evS true v f) (s2:evsS true v args.toList)
  (s3:zwE cx.P m v r f args (callA v r f args) K):m.fp=none∧zsh cx all o v r K:=by
 obtain⟨h1,n,as,x,hok,s3⟩:=s3
 refine⟨h1,fun a w β h k Q R hk hQ=>zbk hk (hw v r a w β (fun _ _ _=>rfl) h) ?_⟩
 rcases s3 with⟨hcall,hK⟩|⟨i,mv,lent,l',hcall,hsc,hK⟩
 ·obtain⟨us,g1,g2⟩:=zsd h ho rfl s1 s2 hcall hok
  unfold Oper.wp
  rw[g1,Oper.upon_enter]
  refine g2.mono fun e w' ⟨e1,e2⟩=> ?_
  subst e1
  exact hQ x _ _ _ ⟨β,zly h e2⟩ hK
 ·obtain⟨us,hold,u0,g1,g2,_⟩:=zqc h ho s1 s2 hcall hsc hok
  unfold Oper.wp
  rw[g1,Oper.upon_enter]
  refine g2.mono fun e w' ⟨e1,e2⟩=> ?_
  subst e1
  exact hQ x _ _ _ ⟨β,zoC h e2⟩ hK
theorem zqf {o:Oper} {y:Operand} {m:M} {K:Ex→G→Prop} (ho:o.op= .panic y) (hw:Wd cx all o v) (s1:evS true v y) (s3:PanR m v r K (ev v y)):m.fp=none∧zsh cx all o v r K:=by
 obtain⟨h1,s3⟩:=s3
 refine⟨h1,fun a w β h k Q R hk hQ=>zbk hk (hw v r a w β (fun _ _ _=>rfl) h) ?_⟩
 have e1:=zbl h (c:=true) rfl s1
 split at s3
 ·rename_i t z hy
  rw[hy]at e1
  have hv:=(zas.1 e1).1
  unfold Oper.wp
  have:(execOp a.eval o).run cx.P w= .halt (.panic (.iface t z)) w:=by
   simp only[execOp,ho,hv]
   rfl
  rw[this,Oper.upon_panic]
  exact hQ _ _ _ _ ⟨β,h⟩ s3
 ·exact s3.elim
theorem zjr {o:Oper} {f:Operand} {args:Array Operand} {ts:Array TypeId} {rest:List Oper} {m:M} {K:Ex→G→Prop} (ho:o.op= .call ⟨.value f,args,ts⟩) (hw:Wd cx all o v) (s1:evS true v f) (s2:evsS true v args.toList)
  (s3:(CallK cx.P true (callA v r f args) fun rfs=>aops T cx.P all (addFP m v o.dst o.op) rest (putV v o.dst (bindRet r o.dst rfs).1) (bindRet r o.dst rfs).2 K)∨
   (∃i,zfH cx.P r o.dst (callM i v r f args) fun mv rfs l'=>aops T cx.P all (upM o.dst mv.s (addFP m v o.dst o.op)) rest (putV v o.dst (bindM r o.dst mv rfs l').1) (bindM r o.dst mv rfs l').2 K)∨
   (∃d,zqD cx.P v r f args d∧aops T cx.P all (addFP m v o.dst o.op) rest (putV v o.dst (.one (.d (.v d)))) r K)∨
   (∃d,o.dst=some d∧zfG cx.P (callA v r f args) fun rfs l=>aops T cx.P all (upM o.dst (d+pK) (addFP m v o.dst o.op)) rest (putV v o.dst (bindP r d rfs l).1) (bindP r d rfs l).2 K)∨
   zwE cx.P (addFP m v o.dst o.op) v r f args (callA v r f args) K∨
   zsG (addFP m v o.dst o.op) v r fun v' r'=>evS true v' f∧evsS true v' args.toList∧
    ((CallK cx.P true (callA v' r' f args) fun rfs=>aops T cx.P all (addFP m v o.dst o.op) rest (putV v' o.dst (bindRet r' o.dst rfs).1) (bindRet r' o.dst rfs).2 K)∨
    (∃i,zfH cx.P r' o.dst (callM i v' r' f args) fun mv rfs l'=>aops T cx.P all (upM o.dst mv.s (addFP m v o.dst o.op)) rest (putV v' o.dst (bindM r' o.dst mv rfs l').1) (bindM r' o.dst mv rfs l').2 K)∨
    (∃d,o.dst=some d∧zfG cx.P (callA v' r' f args) fun rfs l=>aops T cx.P all (upM o.dst (d+pK) (addFP m v o.dst o.op)) rest (putV v' o.dst (bindP r' d rfs l).1) (bindP r' d rfs l).2 K))):
  (∃fp x r1,zdg cx all o v r fp x r1∧(∀s∈fp.w,s∈fp.t)∧∃off',aops T cx.P all ⟨m.fp.map (fp::·),off'⟩ rest (putV v o.dst x) r1 K)∨(m.fp=none∧(zsh cx all o v r K∨ztR T cx all o rest v r K)):=by
 have hadd:∀{op:Op},addFP m v o.dst op=⟨m.fp.map (fpOf v o.dst op::·),m.off⟩:=fun {op}=>by obtain⟨fp,off⟩:=m;cases fp<;>rfl
 have hnone:∀{op:Op},(addFP m v o.dst op).fp=none→m.fp=none:=fun {op} h=>by obtain⟨fp,off⟩:=m;cases fp with|none=>rfl|some l=>cases h
 rcases s3 with s3|⟨i0,s3⟩|⟨d,s3,s4⟩|⟨d,hd,s3⟩|s3|s3
 ·unfold CallK at s3
  split at s3
  ·rename_i n as hcall
   obtain⟨rfs,g1,g2⟩:=s3
   rw[hadd]at g2
   exact .inl ⟨_,_,_,zf9 ho hw s1 s2 hcall (g1 rfl),zdf,_,g2⟩
  ·exact s3.elim
 ·unfold zfH at s3
  split at s3
  ·rename_i n as mv lent hcall
   obtain⟨rfs,l',g1,g2,g3⟩:=s3
   refine .inl ⟨_,_,_,zjo ho hw s1 s2 hcall g1 g2,zqd ho,m.off, ?_⟩
   rw[hadd]at g3
   obtain⟨fp,off⟩:=m
   cases fp with
   |none=>exact g3
   |some l=>exact g3
  ·exact s3.elim
 ·rw[hadd]at s4
  exact .inl ⟨_,_,_,zse ho hw s1 s2 s3,zdf,_,s4⟩
 ·unfold zfG at s3
  split at s3
  ·rename_i n as hcall
   obtain⟨rfs,l,g1,g2⟩:=s3
   refine .inl ⟨_,_,_,zjq ho hw hd s1 s2 hcall g1,zqd ho,m.off, ?_⟩
   rw[hadd]at g2
   obtain⟨fp,off⟩:=m
   cases fp with
   |none=>exact g2
   |some l=>exact g2
  ·exact s3.elim
 ·obtain⟨q1,q2⟩:=znJ ho hw s1 s2 s3
  exact .inr ⟨hnone q1, .inl q2⟩
 ·obtain⟨q1,i,h,lo,n,k,ds,r',hi,himp,t1,t2,s3⟩:=s3
  have q0:=hnone q1
  have hw':Wd cx all o (v.set i (.one (.d (.sl k ds)))):=fun v' r' a w β hg hh=>hw v' r' a w β (fun j b e=>by rw[hg j b e,zqe hi]) hh
  obtain⟨fp0,off0⟩:=m
  simp only at q0
  subst q0
  refine .inr ⟨rfl, .inr ?_⟩
  rcases s3 with s3|⟨i0,s3⟩|⟨d,hd,s3⟩
  ·unfold CallK at s3
   split at s3
   ·rename_i n as hcall
    obtain⟨rfs,g1,g2⟩:=s3
    exact⟨_,_,_,_,_,_,himp,zf9 ho hw' t1 t2 hcall (g1 rfl),g2⟩
   ·exact s3.elim
  ·unfold zfH at s3
   split at s3
   ·rename_i n as mv lent hcall
    obtain⟨rfs,l',g1,g2,g3⟩:=s3
    exact⟨_,_,_,_,_,off0,himp,zjo ho hw' t1 t2 hcall g1 g2,g3⟩
   ·exact s3.elim
  ·unfold zfG at s3
   split at s3
   ·rename_i n as hcall
    obtain⟨rfs,l,g1,g2⟩:=s3
    exact⟨_,_,_,_,_,off0,himp,zjq ho hw' hd t1 t2 hcall g1,g2⟩
   ·exact s3.elim
theorem step_ok (hT:TOK cx.P T) {o:Oper} {rest:List Oper} {m:M} {K:Ex→G→Prop} (hk:aops T cx.P all m (o::rest) v r K):
  (∃fp x r1,zdg cx all o v r fp x r1∧(∀s∈fp.w,s∈fp.t)∧∃off',aops T cx.P all ⟨m.fp.map (fp::·),off'⟩ rest (putV v o.dst x) r1 K)∨(m.fp=none∧(zsh cx all o v r K∨ztR T cx all o rest v r K)):=by
 have hadd:∀{op:Op},addFP m v o.dst op=⟨m.fp.map (fpOf v o.dst op::·),m.off⟩:=fun {op}=>by obtain⟨fp,off⟩:=m;cases fp<;>rfl
 unfold aops at hk
 split at hk
 ·rename_i hg
  split at hk
  ·rename_i f args ts ho
   obtain⟨s1,s2,s3⟩:=hk
   exact zjr ho (zmL hg) s1 s2 s3
  ·rename_i y ho
   obtain⟨q1,q2⟩:=zqf ho (zmL hg) hk.1 hk.2
   exact .inr ⟨(by obtain⟨fp,off⟩:=m;cases fp with|none=>rfl|some l=>cases q1), .inl q2⟩
  ·obtain⟨g1,g2⟩:=hk
   rw[hadd]at g2
   exact .inl ⟨_,_,_,zlB hT hg g1,zdf,_,g2⟩
 ·rename_i j want hg
  split at hk
  ·obtain⟨g1,g2⟩:=hk
   cases hgd:gdOf all v j with
   |none=>rw[hgd]at g1;exact g1.elim
   |some p=>
    obtain⟨c',b⟩:=p
    rw[hgd]at g1
    rw[hadd]at g2
    exact .inl ⟨_,_,_,zkf hg hgd g1,zdf,_,g2⟩
  split at hk
  ·rename_i c' b hgd
   split at hk
   ·rename_i f args ts ho
    obtain⟨s1,s2,s3⟩:=hk
    rcases s3 with s3|⟨hcc,g2⟩|⟨h1,h2⟩
    ·unfold CallK at s3
     split at s3
     ·rename_i n as hcall
      obtain⟨rfs,g1,g2,g3⟩:=s3
      rw[hadd]at g3
      exact .inl ⟨_,_,_,zmM ho hg hgd s1 s2 hcall g1 g2,zdf,_,g3⟩
     ·exact s3.elim
    ·rw[hadd]at g2
     exact .inl ⟨_,_,_,zkf hg hgd hcc,zdf,_,g2⟩
    ·cases hcc:(c'&&(b==want))with
     |true=>
      rw[hcc]at s1 s2
      exact zjr ho (zuH hg hgd hcc) s1 s2 (h1 hcc)
     |false=>
      have g2:=h2 hcc
      rw[hadd]at g2
      exact .inl ⟨_,_,_,zkf hg hgd hcc,zdf,_,g2⟩
   ·split at hk
    ·rename_i hable
     obtain⟨g1,g2⟩:=hk
     rw[hadd]at g2
     cases hcc:(c'&&(b==want))with
     |true=>exact .inl ⟨_,_,_,zuI hT hg hgd hable (g1 hcc),zdf,_,g2⟩
     |false=>exact .inl ⟨_,_,_,zsg hg hgd hcc,zdf,_,g2⟩
    ·cases hcc:(c'&&(b==want))with
     |true=>
      obtain⟨g1,g2⟩:=hk.1 hcc
      rw[hadd]at g2
      exact .inl ⟨_,_,_,zsf hT hg hgd hcc g1,zdf,_,g2⟩
     |false=>
      have g2:=hk.2 hcc
      rw[hadd]at g2
      exact .inl ⟨_,_,_,zkf hg hgd hcc,zdf,_,g2⟩
  ·exact hk.elim
end
end Go.Pk
