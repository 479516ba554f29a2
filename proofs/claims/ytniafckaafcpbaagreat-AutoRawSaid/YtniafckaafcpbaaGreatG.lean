import Derived.Test.YtniafckaafcpbaaGreatF
namespace Go.Proofs.YtniafckaafcpbaaGreat
open Go.Pk
set_option linter.unusedSimpArgs false
set_option linter.unusedVariables false
section
variable {α:Type} {p:α→Bool}
def posB (p:α→Bool) (l:List α):Nat:=(l.takeWhile p).length
def Mono (p:α→Bool) (l:List α):Prop:=l.Pairwise fun x y=>p y=true→p x=true
theorem zbw {l:List α}:posB p l≤l.length:=(List.takeWhile_prefix _).length_le
theorem zbx {x:α} {l:List α}:posB p (x::l)=if p x=true then posB p l+1 else 0:=by
 unfold posB
 rw[List.takeWhile_cons]
 split<;>simp[*]
theorem zd0:∀{l:List α} {j:Nat} (hj:j<l.length),j<posB p l→p l[j]=true
 |x::l,0,_,h=>by
  rw[zbx]at h
  split at h
  ·assumption
  ·omega
 |x::l,j+1,hj,h=>by
  rw[zbx]at h
  split at h
  ·exact zd0 (l:=l) (by simpa using hj) (by omega)
  ·omega
theorem zd1:∀{l:List α} {j:Nat} (hj:j<l.length),Mono p l→posB p l≤j→p l[j]=false
 |x::l,0,_,hm,h=>by
  rw[zbx]at h
  split at h
  ·omega
  ·rename_i hx;simpa using hx
 |x::l,j+1,hj,hm,h=>by
  have hm':=List.pairwise_cons.1 hm
  have hj':j<l.length:=by simpa using hj
  rw[zbx]at h
  split at h
  ·exact zd1 (l:=l) hj' hm'.2 (by omega)
  ·rename_i hx
   have:=hm'.1 l[j] (List.getElem_mem hj')
   simp only[List.getElem_cons_succ]
   cases hc:p l[j]
   ·rfl
   ·exact absurd (this hc) hx
theorem zdC {q:α→Bool}:∀{l:List α},Mono p l→(∀x,q x=true→p x=false)→(l.Pairwise fun x y=>q y=true→p x=true)→l.find? q=(l[posB p l]?).filter q
 |[],_,_,_=>rfl
 |x::l,hm,hq,hs=>by
  have hm':=List.pairwise_cons.1 hm
  have hs':=List.pairwise_cons.1 hs
  rw[List.find?_cons,zbx]
  cases hx:p x
  ·rw[if_neg (by simp)]
   simp only[List.getElem?_cons_zero]
   cases hqx:q x
   ·simp only[Option.filter,hqx,Bool.false_eq_true,if_false]
    rw[List.find?_eq_none]
    intro y hy hqy
    have:=hs'.1 y hy hqy
    rw[hx]at this;cases this
   ·simp[Option.filter,hqx]
  ·rw[if_pos rfl]
   have hqx:q x=false:=by
    cases hc:q x
    ·rfl
    ·have:=hq x hc;rw[hx]at this;cases this
   rw[hqx]
   simp only[List.getElem?_cons_succ]
   exact zdC hm'.2 hq hs'.2
end
def SS (l:List Sess):Prop:=l.Pairwise fun x y=>x.client<y.client
def posS (l:List Sess) (c:Int):Nat:=posB (fun x=>decide (x.client<c)) l
def findS (l:List Sess) (c:Int):Option Sess:=l.find? fun x=>x.client==c
theorem zhY {l:List Sess} (h:SS l) (c:Int):Mono (fun x:Sess=>decide (x.client<c)) l:=h.imp fun hxy h=>by simp at h⊢;omega
theorem zeL {l:List Sess} (h:SS l) (c:Int):findS l c=(l[posS l c]?).filter fun x=>x.client==c:=
 zdC (q:=fun x:Sess=>x.client==c) (zhY h c) (fun x hx=>by simp at hx⊢;omega) (h.imp fun hxy h=>by simp at h⊢;omega)
def SM (l:List Memo):Prop:=l.Pairwise fun x y=>x.client<y.client
def posM (l:List Memo) (c:Int):Nat:=posB (fun x=>decide (x.client<c)) l
def findM (l:List Memo) (c:Int):Option Memo:=l.find? fun x=>x.client==c
theorem zhZ {l:List Memo} (h:SM l) (c:Int):Mono (fun x:Memo=>decide (x.client<c)) l:=h.imp fun hxy h=>by simp at h⊢;omega
theorem zgP {l:List Memo} (h:SM l) (c:Int):findM l c=(l[posM l c]?).filter fun x=>x.client==c:=
 zdC (q:=fun x:Memo=>x.client==c) (zhZ h c) (fun x hx=>by simp at hx⊢;omega) (h.imp fun hxy h=>by simp at h⊢;omega)
abbrev bLess (a b:ByteArray):Bool:=Go.Op.bytesLess a.toList b.toList
theorem zeM:∀{a:List UInt8},Go.Op.bytesLess a a=false
 |[]=>rfl
 |a::x=>by rw[Go.Op.bytesLess,zeM (a:=x)];simp
theorem zel:∀{a b c:List UInt8},Go.Op.bytesLess a b=true→Go.Op.bytesLess b c=true→Go.Op.bytesLess a c=true
 |[],[],_,h,_=>by cases h
 |[],_::_,[],_,h=>by cases h
 |[],_::_,_::_,_,_=>rfl
 |_::_,[],_,h,_=>by cases h
 |_::_,_::_,[],_,h=>by cases h
 |a::x,b::y,c::z,h1,h2=>by
  rw[Go.Op.bytesLess]at*
  simp only[Bool.or_eq_true,Bool.and_eq_true,decide_eq_true_eq,beq_iff_eq]at*
  rcases h1 with h1|⟨rfl,h1⟩<;>rcases h2 with h2|⟨rfl,h2⟩
  ·exact .inl (UInt8.lt_trans h1 h2)
  ·exact .inl h1
  ·exact .inl h2
  ·exact .inr ⟨rfl,zel h1 h2⟩
theorem zlK {a b:List UInt8} (h:Go.Op.bytesLess a b=true):Go.Op.bytesLess b a=false:=by
 cases hc:Go.Op.bytesLess b a
 ·rfl
 ·have:=zel h hc
  rw[zeM]at this;cases this
theorem ziu:∀{a b:List UInt8},Go.Op.bytesLess a b=false→Go.Op.bytesLess b a=false→a=b
 |[],[],_,_=>rfl
 |[],_::_,h,_=>by cases h
 |_::_,[],_,h=>by cases h
 |a::x,b::y,h1,h2=>by
  rw[Go.Op.bytesLess]at*
  simp only[Bool.or_eq_false_iff,Bool.and_eq_false_iff,decide_eq_false_iff_not,beq_eq_false_iff_ne]at*
  have hab:a=b:=UInt8.le_antisymm (UInt8.not_lt.1 h2.1) (UInt8.not_lt.1 h1.1)
  subst hab
  rcases h1.2 with h|h1'
  ·exact absurd rfl h
  rcases h2.2 with h|h2'
  ·exact absurd rfl h
  rw[ziu h1' h2']
def SL (l:List Lk):Prop:=l.Pairwise fun x y=>bLess x.name y.name=true
def posL (l:List Lk) (s:ByteArray):Nat:=posB (fun x=>bLess x.name s) l
def isL (s:ByteArray) (x:Lk):Bool:=x.name.toList==s.toList
def findL (l:List Lk) (s:ByteArray):Option Lk:=l.find? (isL s)
theorem zf3 {l:List Lk} (h:SL l) (s:ByteArray):Mono (fun x:Lk=>bLess x.name s) l:=h.imp fun hxy h=>zel hxy h
theorem zgQ {l:List Lk} (h:SL l) (s:ByteArray):findL l s=(l[posL l s]?).filter (isL s):=
 zdC (q:=isL s) (zf3 h s) (fun x hx=>by
  simp only[isL,beq_iff_eq]at hx
  simp only[bLess,hx,zeM]) (h.imp fun hxy h=>by
  simp only[isL,beq_iff_eq]at h
  simp only[bLess]at hxy⊢
  rw[←h];exact hxy)
theorem zdk {α:Type} {o:Option α} {p:α→Bool} {x:α} (h:o.filter p=some x):o=some x∧p x=true:=by
 cases o with
 |none=>simp at h
 |some y=>
  simp only[Option.filter]at h
  split at h
  ·rename_i hp;cases h;exact⟨rfl,hp⟩
  ·cases h
theorem zgR {α:Type} {l:List α} {i:Nat} {x:α} (h:l[i]? =some x):∃hi:i<l.length,l[i]=x:=by
 obtain⟨hi,h⟩:=List.getElem?_eq_some_iff.1 h
 exact⟨hi,h⟩
theorem zem {l:List Sess} (h:SS l) {c:Int} {x:Sess} (hx:findS l c=some x):(∃hi:posS l c<l.length,l[posS l c]=x)∧x.client=c:=by
 rw[zeL h]at hx
 obtain⟨h1,h2⟩:=zdk hx
 exact⟨zgR h1,by simpa using h2⟩
theorem zby {l:List Lk} (h:SL l) {s:ByteArray} {x:Lk} (hx:findL l s=some x):(∃hi:posL l s<l.length,l[posL l s]=x)∧isL s x=true:=by
 rw[zgQ h]at hx
 obtain⟨h1,h2⟩:=zdk hx
 exact⟨zgR h1,h2⟩
theorem zen {l:List Memo} (h:SM l) {c:Int} {x:Memo} (hx:findM l c=some x):(∃hi:posM l c<l.length,l[posM l c]=x)∧x.client=c:=by
 rw[zgP h]at hx
 obtain⟨h1,h2⟩:=zdk hx
 exact⟨zgR h1,by simpa using h2⟩
end Go.Proofs.YtniafckaafcpbaaGreat
