import Derived.Test.YtbpmcjeeeiffhaaGreatW3
namespace Go.Proofs.YtbpmcjeeeiffhaaGreat
open Go.Pk
set_option maxRecDepth 100000
set_option linter.unusedSimpArgs false
set_option linter.unusedVariables false
set_option maxHeartbeats 1000000 in
theorem zlq (bs:List Int) (p:Int) (h:BsOk bs) (hp:i64 p):
  CallOK Tryz.prog 91 [.f (al bs.length (zad bs)), .f (ai p)] (fun r o=>r=[zsk (za0 bs p).1,ri (za0 bs p).2.1,ri (za0 bs p).2.2]∧o=[]):=by
 refine CallOK.nil ?_
 refine zac zao mixed (T:=Ty) (n:=55) Tryz.func91 (c:=Tryz.f91.body.getD .skip) rfl Tryz.results91 Tryz.ntmps91 Tryz.call91 ?_
 simp only[Tryz.f91,Option.getD]
 have h1:=zf3 bs p h hp
 have h2:=zin bs (zaY bs p).2.1 h (zcn h.l zb4)
 have h3:=zmS bs (zc8 bs (zaY bs p).2.1).2.1 h (zcn h.l zc4)
 have hf:=(zdq h (p:=(zc8 bs (zaY bs p).2.1).2.1)).2
 unfold za0
 simp only
 obtain⟨b,hb⟩:∃b,b=zaY bs p:=⟨_,rfl⟩
 rw[←hb]at h1 h2 h3 hf⊢
 obtain⟨s,hs⟩:∃s,s=zc8 bs b.2.1:=⟨_,rfl⟩
 rw[←hs]at h2 h3 hf⊢
 obtain⟨a,ha⟩:∃a,a=zdp bs s.2.1:=⟨_,rfl⟩
 rw[←ha]at h3 hf⊢
 have h4:=zdF ⟨b.1,s.1,a.1⟩ hf
 cases e1:(b.2.2 !=0)
 ·rw[if_neg (by simpa using e1)]
  cases e2:(s.2.2 !=0)
  ·rw[if_neg (by simpa using e2)]
   cases e3:(a.2.2 !=0)
   ·rw[if_neg (by simpa using e3)]
    cases e7:answerB ⟨b.1,s.1,a.1⟩
    ·rw[e7]at h4
     rw[if_pos rfl]
     repeat'(first|refine zq (I e1 (I e2 e3)) ?_|exact zd (I e1 (I e2 e3))|refine zc (h1) ?_|refine zg (h1) ?_|refine zc (h2) ?_|refine zg (h2) ?_|refine zc (h3) ?_|refine zg (h3) ?_|refine zc (h4) ?_|refine zg (h4) ?_|(refine zaa ?_ ?_<;>intro hb)|(refine And.intro ?_ ?_;exact zI)|(refine And.intro ?_ ?_<;>intro hg)|exact zC|fail)
     show(zar _ _∧zar _ _∧zar _ _∧zar _ _∧zar _ _∧zar _ _∧True)∧zar _ _∧zar _ _∧True
     simp[zar]
    ·rw[e7]at h4
     rw[if_neg (by simp)]
     repeat'(first|refine zq (I e1 (I e2 e3)) ?_|exact zd (I e1 (I e2 e3))|refine zc (h1) ?_|refine zg (h1) ?_|refine zc (h2) ?_|refine zg (h2) ?_|refine zc (h3) ?_|refine zg (h3) ?_|refine zc (h4) ?_|refine zg (h4) ?_|(refine zaa ?_ ?_<;>intro hb)|(refine And.intro ?_ ?_;exact zI)|(refine And.intro ?_ ?_<;>intro hg)|exact zC|fail)
     show(zar _ _∧zar _ _∧zar _ _∧zar _ _∧zar _ _∧zar _ _∧True)∧zar _ _∧zar _ _∧True
     simp[zar]
   ·rw[if_pos (by simpa using e3)]
    repeat'(first|refine zq (I e1 (I e2 e3)) ?_|exact zd (I e1 (I e2 e3))|refine zc (h1) ?_|refine zg (h1) ?_|refine zc (h2) ?_|refine zg (h2) ?_|refine zc (h3) ?_|refine zg (h3) ?_|(refine zaa ?_ ?_<;>intro hb)|(refine And.intro ?_ ?_;exact zI)|(refine And.intro ?_ ?_<;>intro hg)|exact zC|fail)
    show(zar _ _∧zar _ _∧zar _ _∧zar _ _∧zar _ _∧zar _ _∧True)∧zar _ _∧zar _ _∧True
    simp[zar]
  ·rw[if_pos (by simpa using e2)]
   repeat'(first|refine zq (I e1 e2) ?_|exact zd (I e1 e2)|refine zc (h1) ?_|refine zg (h1) ?_|refine zc (h2) ?_|refine zg (h2) ?_|(refine zaa ?_ ?_<;>intro hb)|(refine And.intro ?_ ?_;exact zI)|(refine And.intro ?_ ?_<;>intro hg)|exact zC|fail)
   show(zar _ _∧zar _ _∧zar _ _∧zar _ _∧zar _ _∧zar _ _∧True)∧zar _ _∧zar _ _∧True
   simp[zar]
 ·rw[if_pos (by simpa using e1)]
  repeat'(first|refine zq e1 ?_|exact zd e1|refine zc (h1) ?_|refine zg (h1) ?_|(refine zaa ?_ ?_<;>intro hb)|(refine And.intro ?_ ?_;exact zI)|(refine And.intro ?_ ?_<;>intro hg)|exact zC|fail)
  show(zar _ _∧zar _ _∧zar _ _∧zar _ _∧zar _ _∧zar _ _∧True)∧zar _ _∧zar _ _∧True
  simp[zar]
abbrev rdE (bs:List Int) (p e:Int):List RO:=[.d (.sl bs.length (zad bs)), .d (iD p), .d (iD e)]
def zcz (bs:List Int) (p e:Int):Int×Int×Int:=if e≠0 then(0,p,e)else zc8 bs p
def zbC (bs:List Int) (p e:Int):Int×Int×Int:=if e≠0 then(0,p,e)else zaY bs p
def zdw (bs:List Int) (p e:Int):ByteArray×Int×Int:=if e≠0 then(.empty,p,e)else zbw bs p 12
def zbz (bs:List Int) (p e most:Int):Int×Int×Int:=
 if(zbC bs p e).2.2≠0 then(0,(zbC bs p e).2.1,(zbC bs p e).2.2)else
 if(zbC bs p e).1>most then(0,(zbC bs p e).2.1,4)else zbC bs p e
theorem zeW (bs:List Int) (p e:Int) (h:BsOk bs) (hp:i64 p):
  CallOK Tryz.prog 43 [.obj (rdE bs p e)] (fun r o=>r=[ri (zcz bs p e).1]∧o=[rdE bs (zcz bs p e).2.1 (zcz bs p e).2.2]):=by
 refine zac zao mixed (T:=Ty) (n:=33) Tryz.func43 (c:=Tryz.f43.body.getD .skip) rfl Tryz.results43 Tryz.ntmps43 Tryz.call43 ?_
 simp only[Tryz.f43,Option.getD]
 have h1:=zin bs p h hp
 unfold zcz
 cases he:(e !=0)
 ·rw[if_neg (by simpa using he)]
  repeat'(first|refine zq he ?_|exact zd he|refine zc (h1) ?_|refine zg (h1) ?_|(refine zaa ?_ ?_<;>intro hb)|(refine And.intro ?_ ?_;exact zI)|(refine And.intro ?_ ?_<;>intro hg)|exact zC|fail)
 ·rw[if_pos (by simpa using he)]
  repeat'(first|refine zq he ?_|exact zd he|(refine zaa ?_ ?_<;>intro hb)|(refine And.intro ?_ ?_;exact zI)|(refine And.intro ?_ ?_<;>intro hg)|exact zC|fail)
theorem zim (bs:List Int) (p e:Int) (h:BsOk bs) (hp:i64 p):
  CallOK Tryz.prog 89 [.obj (rdE bs p e)] (fun r o=>r=[ri (zbC bs p e).1]∧o=[rdE bs (zbC bs p e).2.1 (zbC bs p e).2.2]):=by
 refine zac zao mixed (T:=Ty) (n:=33) Tryz.func89 (c:=Tryz.f89.body.getD .skip) rfl Tryz.results89 Tryz.ntmps89 Tryz.call89 ?_
 simp only[Tryz.f89,Option.getD]
 have h1:=zf3 bs p h hp
 unfold zbC
 cases he:(e !=0)
 ·rw[if_neg (by simpa using he)]
  repeat'(first|refine zq he ?_|exact zd he|refine zc (h1) ?_|refine zg (h1) ?_|(refine zaa ?_ ?_<;>intro hb)|(refine And.intro ?_ ?_;exact zI)|(refine And.intro ?_ ?_<;>intro hg)|exact zC|fail)
 ·rw[if_pos (by simpa using he)]
  repeat'(first|refine zq he ?_|exact zd he|(refine zaa ?_ ?_<;>intro hb)|(refine And.intro ?_ ?_;exact zI)|(refine And.intro ?_ ?_<;>intro hg)|exact zC|fail)
theorem zuo (bs:List Int) (p e:Int) (h:BsOk bs) (hp:i64 p):
  CallOK Tryz.prog 90 [.obj (rdE bs p e)] (fun r o=>r=[.one (.d (sD (zdw bs p e).1))]∧o=[rdE bs (zdw bs p e).2.1 (zdw bs p e).2.2]):=by
 refine zac zao mixed (T:=Ty) (n:=33) Tryz.func90 (c:=Tryz.f90.body.getD .skip) rfl Tryz.results90 Tryz.ntmps90 Tryz.call90 ?_
 simp only[Tryz.f90,Option.getD]
 have h1:=zmT bs p h hp
 unfold zdw
 cases he:(e !=0)
 ·rw[if_neg (by simpa using he)]
  repeat'(first|refine zq he ?_|exact zd he|refine zc (h1) ?_|refine zg (h1) ?_|(refine zaa ?_ ?_<;>intro hb)|(refine And.intro ?_ ?_;exact zI)|(refine And.intro ?_ ?_<;>intro hg)|exact zC|fail)
 ·rw[if_pos (by simpa using he)]
  repeat'(first|refine zq he ?_|exact zd he|(refine zaa ?_ ?_<;>intro hb)|(refine And.intro ?_ ?_;exact zI)|(refine And.intro ?_ ?_<;>intro hg)|exact zC|fail)
  rfl
theorem zhl (bs:List Int) (p e most:Int) (h:BsOk bs) (hp:i64 p):
  CallOK Tryz.prog 88 [.obj (rdE bs p e), .f (ai most)] (fun r o=>r=[ri (zbz bs p e most).1]∧o=[rdE bs (zbz bs p e most).2.1 (zbz bs p e most).2.2]):=by
 refine zac zao mixed (T:=Ty) (n:=27) Tryz.func88 (c:=Tryz.f88.body.getD .skip) rfl Tryz.results88 Tryz.ntmps88 Tryz.call88 ?_
 simp only[Tryz.f88,Option.getD]
 have h1:=zim bs p e h hp
 unfold zbz
 generalize zbC bs p e=b at*
 repeat'(first|refine zq0 ?_|exact zd0|(refine zaa ?_ ?_<;>intro hb)|(refine And.intro ?_ ?_;exact zI)|(refine And.intro ?_ ?_<;>intro hg)|exact zC|fail)
 refine zj (h1) ?_
 cases he:(b.2.2==0)
 ·have hne:(b.2.2 !=0)=true:=by simpa using he
  rw[if_pos (by simpa using he)]
  repeat'(first|refine zq (I he hne) ?_|exact zd (I he hne)|(refine zaa ?_ ?_<;>intro hb)|(refine And.intro ?_ ?_;exact zI)|(refine And.intro ?_ ?_<;>intro hg)|exact zC|fail)
 ·have hne:(b.2.2 !=0)=false:=by simpa using he
  rw[if_neg (by simpa using he)]
  cases hm:decide (b.1>most)
  ·rw[if_neg (by simpa using hm)]
   repeat'(first|refine zq (I he (I hne hm)) ?_|exact zd (I he (I hne hm))|(refine zaa ?_ ?_<;>intro hb)|(refine And.intro ?_ ?_;exact zI)|(refine And.intro ?_ ?_<;>intro hg)|exact zC|fail)
  ·rw[if_pos (by simpa using hm)]
   repeat'(first|refine zq (I he (I hne hm)) ?_|exact zd (I he (I hne hm))|(refine zaa ?_ ?_<;>intro hb)|(refine And.intro ?_ ?_;exact zI)|(refine And.intro ?_ ?_<;>intro hg)|exact zC|fail)
theorem zbP {bs:List Int} {p e:Int} (h:BsOk bs) (hp:i64 p):i64 (zcz bs p e).2.1:=by
 unfold zcz;split
 ·exact hp
 ·exact zcn h.l zc4
theorem zdj {bs:List Int} {p e:Int} (h:BsOk bs) (hp:i64 p):i64 (zbC bs p e).2.1:=by
 unfold zbC;split
 ·exact hp
 ·exact zcn h.l zb4
theorem zko {bs:List Int} {p e:Int} (h:BsOk bs) (hp:i64 p):i64 (zdw bs p e).2.1:=by
 unfold zdw;split
 ·exact hp
 ·exact zcn h.l (zfY h)
theorem zmR {bs:List Int} {p e:Int} (h:BsOk bs):0≤(zbC bs p e).1∧(zbC bs p e).1<256:=by
 unfold zbC;split
 ·exact⟨Int.le_refl 0,by show(0:Int)<256;decide⟩
 ·exact zeD h
theorem zcd {bs:List Int} {p e most:Int} (h:BsOk bs) (hp:i64 p) (hm:0≤most):i64 (zbz bs p e most).2.1∧0≤(zbz bs p e most).1∧(zbz bs p e most).1≤most:=by
 have h1:=zdj (e:=e) h hp
 have h2:=zmR (p:=p) (e:=e) h
 unfold zbz
 split
 ·exact⟨h1,by simp,hm⟩
 ·split
  ·exact⟨h1,by simp,hm⟩
  ·exact⟨h1,h2.1,by omega⟩
def zeV (bs:List Int) (p e:Int):Sess×Int×Int:=
 let c:=zbC bs p e
 let n:=zcz bs c.2.1 c.2.2
 let r:=zcz bs n.2.1 n.2.2
 (⟨c.1,n.1,r.1⟩,r.2)
def zco {α:Type} (f:Int→Int→α×Int×Int):Nat→Int→Int→List α→List α×Int×Int
 |0,p,e,acc=>(acc,p,e)
 |n+1,p,e,acc=>zco f n (f p e).2.1 (f p e).2.2 (acc++[(f p e).1])
def ze1 (bs:List Int) (p e:Int):Lk×Int×Int:=
 let nm:=zdw bs p e
 let hd:=zbC bs nm.2.1 nm.2.2
 let tk:=zcz bs hd.2.1 hd.2.2
 let m:=zbz bs tk.2.1 tk.2.2 3
 let l:=zco (zbC bs) m.1.toNat m.2.1 m.2.2 []
 (⟨nm.1,hd.1,tk.1,l.1⟩,l.2)
def zc9 (bs:List Int):Nat→Int→Int→List Memo→List Memo×Int×Int
 |0,p,e,acc=>(acc,p,e)
 |n+1,p,e,acc=>if e≠0 then(acc,p,e)else zc9 bs n (za0 bs p).2.1 (za0 bs p).2.2 (acc++[(za0 bs p).1])
def zeE (bs:List Int) (p e:Int):St×Int×Int:=
 let t:=zcz bs p e
 let u:=zcz bs t.2.1 t.2.2
 let k:=zcz bs u.2.1 u.2.2
 let n:=zbz bs k.2.1 k.2.2 5
 let ss:=zco (zeV bs) n.1.toNat n.2.1 n.2.2 []
 let n2:=zbz bs ss.2.1 ss.2.2 4
 let ls:=zco (ze1 bs) n2.1.toNat n2.2.1 n2.2.2 []
 let n3:=zbz bs ls.2.1 ls.2.2 8
 let ms:=zc9 bs n3.1.toNat n3.2.1 n3.2.2 []
 (⟨t.1,u.1,k.1,ss.1,ls.1,ms.1⟩,ms.2)
theorem zmQ {bs:List Int} (h:BsOk bs) {p:Int}:i64 (za0 bs p).2.1:=by
 have hz:i64 0:=by unfold i64;omega
 unfold za0
 simp only
 split
 ·exact hz
 split
 ·exact hz
 split
 ·exact hz
 split
 ·exact hz
 exact zcn h.l (zdq h).1
theorem zkm {bs:List Int} {p e:Int} (h:BsOk bs) (hp:i64 p):i64 (zeV bs p e).2.1:=zbP h (zbP h (zdj h hp))
theorem zf2 {α:Type} {f:Int→Int→α×Int×Int} (hf:∀p e,i64 p→i64 (f p e).2.1):∀{n:Nat} {p e:Int} {acc:List α},i64 p→i64 (zco f n p e acc).2.1∧(zco f n p e acc).1.length=acc.length+n
 |0,p,e,acc,hp=>⟨hp,rfl⟩
 |n+1,p,e,acc,hp=>by
  rw[zco]
  have:=zf2 hf (n:=n) (e:=(f p e).2.2) (acc:=acc++[(f p e).1]) (hf p e hp)
  rw[List.length_append,List.length_singleton]at this
  exact⟨this.1,by omega⟩
theorem zkn {bs:List Int} {p e:Int} (h:BsOk bs) (hp:i64 p):i64 (ze1 bs p e).2.1:=by
 unfold ze1
 simp only
 exact(zf2 (fun p e hp=>zdj h hp) (zcd h (zbP h (zdj h (zko h hp))) (by decide)).1).1
abbrev zxo (bs:List Int) (q e:Int) (nx:Nat):Nat×RS:=(0,{next:=nx,l:=[some {e:=0,var:=true,fz:=false,bor:=true,sz:=0,cells:=[.d (.sl bs.length (zad bs)),di q,di e]},none,none,none]})
set_option maxHeartbeats 4000000 in
theorem zsF (bs:List Int) (p e:Int) (h:BsOk bs) (hp:i64 p):
  CallOK Tryz.prog 40 [.obj (rdE bs p e)] (fun r o=>r=[(zeE bs p e).1.rf]∧o=[rdE bs (zeE bs p e).2.1 (zeE bs p e).2.2]):=by
 refine zac zao mixed (T:=Ty) (n:=130) Tryz.func40 (c:=Tryz.f40.body.getD .skip) rfl Tryz.results40 Tryz.ntmps40 Tryz.call40 ?_
 simp only[Tryz.f40,Option.getD]
 unfold zeE
 simp only
 have h1:=zeW bs p e h hp
 have p1:=zbP (e:=e) h hp
 generalize zcz bs p e=t at*
 have h2:=zeW bs t.2.1 t.2.2 h p1
 have p2:=zbP (e:=t.2.2) h p1
 generalize zcz bs t.2.1 t.2.2=u at*
 have h3:=zeW bs u.2.1 u.2.2 h p2
 have p3:=zbP (e:=u.2.2) h p2
 generalize zcz bs u.2.1 u.2.2=k at*
 have h4:=zhl bs k.2.1 k.2.2 5 h p3
 obtain⟨p4,n1,n2⟩:=zcd (e:=k.2.2) (most:=5) h p3 (by decide)
 generalize zbz bs k.2.1 k.2.2 5=n at*
 repeat'(first|refine zq0 ?_|exact zd0|(refine zaa ?_ ?_<;>intro hb)|(refine And.intro ?_ ?_;exact zI)|(refine And.intro ?_ ?_<;>intro hg)|exact zC|fail)
 refine zj (h1) ?_
 repeat'(first|refine zq0 ?_|exact zd0|(refine zaa ?_ ?_<;>intro hb)|(refine And.intro ?_ ?_;exact zI)|(refine And.intro ?_ ?_<;>intro hg)|exact zC|fail)
 refine zj (h2) ?_
 repeat'(first|refine zq0 ?_|exact zd0|(refine zaa ?_ ?_<;>intro hb)|(refine And.intro ?_ ?_;exact zI)|(refine And.intro ?_ ?_<;>intro hg)|exact zC|fail)
 refine zj (h3) ?_
 repeat'(first|refine zq0 ?_|exact zd0|(refine zaa ?_ ?_<;>intro hb)|(refine And.intro ?_ ?_;exact zI)|(refine And.intro ?_ ?_<;>intro hg)|exact zC|fail)
 refine zj (h4) ?_
 repeat'(first|refine zq0 ?_|exact zd0|(refine zaa ?_ ?_<;>intro hb)|(refine And.intro ?_ ?_;exact zI)|(refine And.intro ?_ ?_<;>intro hg)|exact zC|fail)
 refine zai (τ:=Nat×Int×Int×List Sess×Nat) (fun a=>⟨[.one (.ptr ⟨0,0,0⟩ 0),dd, .one (.ptr ⟨2,0,1⟩ 0), .one (.ptr ⟨3,0,1⟩ 0),ai n.1,ai a.1,dd,dd,dd,dd,dd,dd,dd,dd,dd,dd,dd,dd,dd,dd,dd,dd,dd,dd,dd,dd,dd,dd,dd,dd,dd,dd,dd,dd,dd,dd,dd,dd,dd,dd,dd,dd,dd,dd,dd,dd,dd,dd,dd,dd,dd,dd,dd,dd,dd,dd,dd,dd,dd,dd,dd,dd,dd,dd,dd,dd,dd,dd,dd,dd,dd,dd,dd,dd,dd,dd,dd,dd,dd,dd,dd,dd,dd,dd,dd,dd,dd,dd,dd,dd,dd,dd,dd,dd,dd,dd,dd,dd,dd,dd,dd,dd,dd,dd,dd,dd,dd,dd,dd,dd,dd,dd,dd,dd,dd,dd,dd,dd,dd,dd,dd,dd,dd,dd,dd,dd,dd,dd,dd,dd],[zxo bs a.2.1 a.2.2.1 a.2.2.2.2,(2,{next:=2,l:=[some {e:=1,var:=true,fz:=false,sz:=0,cells:=[di 0,di 0,di 0, .d (.v zfT), .d (.v zfT), .d (.v zfT)]},none,none,none,none,none,none]}),(3,{next:=2,l:=[some {e:=1,var:=true,fz:=false,sz:=0,cells:=[di t.1,di u.1,di k.1, .own ⟨3,4,1⟩ 0 a.2.2.2.1.length, .d (.v zfT), .d (.v zfT)]},none,none,none,some {e:=1,var:=false,fz:=false,sz:=3,cells:=(zaK a.2.2.2.1).map C.d},none,none]}),(6,⟨2,[]⟩),(43,⟨2,[]⟩),(44,⟨2,[]⟩)]⟩)
  (fun a=>a.1≤n.1.toNat∧i64 a.2.1∧a.2.2.2.1.length=a.1) (fun a=>zco (zeV bs) (n.1.toNat - a.1) a.2.1 a.2.2.1 a.2.2.2.1) (fun a=>n.1.toNat - a.1) (0,n.2.1,n.2.2,[],5)
  ((Gh.nilF 3 3 3 rfl).trans (Gh.canon [0,2,3] [6,43,44] [0] zK rfl rfl)) ⟨Nat.zero_le _,p4,rfl⟩ ?_
 intro⟨i,q,c,acc,nx⟩ ⟨hi0,hq,ha⟩ hF K hK
 simp only[Nat.sub_zero]at hi0 hq ha hF hK⊢
 refine zw ?_
 refine zaa (fun hlt=> ?_) (fun hge=> ?_)
 ·have hi:i<n.1.toNat:=by simp at hlt;omega
  have hw:=zak hi (by omega)
  have hst:n.1.toNat - i=(n.1.toNat - (i+1))+1:=by omega
  have g1:=zim bs q c h hq
  have q1:=zdj (e:=c) h hq
  have g2:=zeW bs _ (zbC bs q c).2.2 h q1
  have q2:=zbP (e:=(zbC bs q c).2.2) h q1
  have g3:=zeW bs _ (zcz bs (zbC bs q c).2.1 (zbC bs q c).2.2).2.2 h q2
  have q3:=zkm (e:=c) h hq
  have hF2:zco (zeV bs) (n.1.toNat - (i+1)) (zeV bs q c).2.1 (zeV bs q c).2.2 (acc++[(zeV bs q c).1])=zco (zeV bs) (n.1.toNat - i) q c acc:=by rw[hst,zco]
  repeat'(first|refine zq0 ?_|exact zd0|(refine zaa ?_ ?_<;>intro hb)|(refine And.intro ?_ ?_;exact zI)|(refine And.intro ?_ ?_<;>intro hg)|exact zC|fail)
  refine zj (g1) ?_
  repeat'(first|refine zq0 ?_|exact zd0|(refine zaa ?_ ?_<;>intro hb)|(refine And.intro ?_ ?_;exact zI)|(refine And.intro ?_ ?_<;>intro hg)|exact zC|fail)
  refine zj (g2) ?_
  repeat'(first|refine zq0 ?_|exact zd0|(refine zaa ?_ ?_<;>intro hb)|(refine And.intro ?_ ?_;exact zI)|(refine And.intro ?_ ?_<;>intro hg)|exact zC|fail)
  refine zj (g3) ?_
  repeat'(first|refine zq @zaq ?_|exact zd @zaq|(refine zaa ?_ ?_<;>intro hb)|(refine And.intro ?_ ?_;exact zI)|(refine And.intro ?_ ?_<;>intro hg)|exact zC|fail)
  refine hK _ (i+1,(zeV bs q c).2.1,(zeV bs q c).2.2,acc++[(zeV bs q c).1],nx+3) (Gh.canon [0,2,3] [] [0] (zk (I hw (I @List.length_append.{0} @List.length_singleton.{0}))) rfl (by simp only[List.length_append,List.length_singleton];rw[zdK];rfl)) ⟨hi,q3,by simp only[List.length_append,List.length_singleton];omega⟩ (by simp only;rw[hF2,hF]) (by simp only;omega)
 ·have hi:i=n.1.toNat:=by
   have:¬(i:Int)<n.1:=by simpa using hge
   omega
  rw[hi,Nat.sub_self,zco]at hF
  rw[←hF]
  simp only
  clear hK hF
  have hal:acc.length≤5:=by omega
  have h5:=zhl bs q c 4 h hq
  obtain⟨p5,m1,m2⟩:=zcd (e:=c) (most:=4) h hq (by decide)
  generalize zbz bs q c 4=n2 at*
  repeat'(first|refine zq0 ?_|exact zd0|(refine zaa ?_ ?_<;>intro hb)|(refine And.intro ?_ ?_;exact zI)|(refine And.intro ?_ ?_<;>intro hg)|exact zC|fail)
  refine zj (h5) ?_
  repeat'(first|refine zq0 ?_|exact zd0|(refine zaa ?_ ?_<;>intro hb)|(refine And.intro ?_ ?_;exact zI)|(refine And.intro ?_ ?_<;>intro hg)|exact zC|fail)
  refine zai (τ:=Nat×Int×Int×List Lk×Nat) (fun a=>⟨[.one (.ptr ⟨0,0,0⟩ 0),dd, .one (.ptr ⟨2,0,1⟩ 0), .one (.ptr ⟨3,0,1⟩ 0),ai n2.1,dd,dd,ai a.1,dd,dd,dd,dd,dd,dd,dd,dd,dd,dd,dd,dd,dd,dd,dd,dd,dd,dd,dd,dd,dd,dd,dd,dd,dd,dd,dd,dd,dd,dd,dd,dd,dd,dd,dd,dd,dd,dd,dd,dd,dd,dd,dd,dd,dd,dd,dd,dd,dd,dd,dd,dd,dd,dd,dd,dd,dd,dd,dd,dd,dd,dd,dd,dd,dd,dd,dd,dd,dd,dd,dd,dd,dd,dd,dd,dd,dd,dd,dd,dd,dd,dd,dd,dd,dd,dd,dd,dd,dd,dd,dd,dd,dd,dd,dd,dd,dd,dd,dd,dd,dd,dd,dd,dd,dd,dd,dd,dd,dd,dd,dd,dd,dd,dd,dd,dd,dd,dd,dd,dd,dd,dd],[zxo bs a.2.1 a.2.2.1 a.2.2.2.2,(2,{next:=2,l:=[some {e:=1,var:=true,fz:=false,sz:=0,cells:=[di 0,di 0,di 0, .d (.v zfT), .d (.v zfT), .d (.v zfT)]},none,none,none,none,none,none]}),(3,{next:=2,l:=[some {e:=1,var:=true,fz:=false,sz:=0,cells:=[di t.1,di u.1,di k.1, .own ⟨3,4,1⟩ 0 acc.length, .own ⟨3,5,1⟩ 0 a.2.2.2.1.length, .d (.v zfT)]},none,none,none,some {e:=1,var:=false,fz:=false,sz:=3,cells:=(zaK acc).map C.d},some {e:=1,var:=false,fz:=false,sz:=4,cells:=(zaj a.2.2.2.1).map C.d},none]}),(6,⟨2,[]⟩),(43,⟨2,[]⟩),(44,⟨2,[]⟩),(8,⟨2,[]⟩),(73,⟨2,[]⟩),(74,⟨2,[]⟩),(79,⟨2,[]⟩),(80,⟨2,[]⟩)]⟩)
   (fun a=>a.1≤n2.1.toNat∧i64 a.2.1∧a.2.2.2.1.length=a.1) (fun a=>zco (ze1 bs) (n2.1.toNat - a.1) a.2.1 a.2.2.1 a.2.2.2.1) (fun a=>n2.1.toNat - a.1) (0,n2.2.1,n2.2.2,[],nx+1)
   ((Gh.nilF 3 4 4 rfl).trans (Gh.canon [0,2,3] [8,73,74,79,80] [0] zK rfl rfl)) ⟨Nat.zero_le _,p5,rfl⟩ ?_
  intro⟨j,q2,c2,ls,nx2⟩ ⟨hj0,hq2,hl⟩ hF K hK
  simp only[Nat.sub_zero]at hj0 hq2 hl hF hK⊢
  refine zw ?_
  refine zaa (fun hlt2=> ?_) (fun hge2=> ?_)
  ·have hj:j<n2.1.toNat:=by simp at hlt2;omega
   have hw:=zak hj (by omega)
   have hst:n2.1.toNat - j=(n2.1.toNat - (j+1))+1:=by omega
   obtain⟨X,hX⟩:∃X,X=ze1 bs q2 c2:=⟨_,rfl⟩
   have hF2:zco (ze1 bs) (n2.1.toNat - (j+1)) X.2.1 X.2.2 (ls++[X.1])=zco (ze1 bs) (n2.1.toNat - j) q2 c2 ls:=by rw[hX,hst,zco]
   have ql:i64 X.2.1:=by rw[hX];exact zkn h hq2
   unfold ze1 at hX
   simp only at hX
   have g1:=zuo bs q2 c2 h hq2
   have q3:=zko (e:=c2) h hq2
   generalize zdw bs q2 c2=nm at*
   have g2:=zim bs nm.2.1 nm.2.2 h q3
   have q4:=zdj (e:=nm.2.2) h q3
   generalize zbC bs nm.2.1 nm.2.2=hd at*
   have g3:=zeW bs hd.2.1 hd.2.2 h q4
   have q5:=zbP (e:=hd.2.2) h q4
   generalize zcz bs hd.2.1 hd.2.2=tk at*
   have g4:=zhl bs tk.2.1 tk.2.2 3 h q5
   obtain⟨q6,m3,m4⟩:=zcd (e:=tk.2.2) (most:=3) h q5 (by decide)
   generalize zbz bs tk.2.1 tk.2.2 3=m at*
   repeat'(first|refine zq0 ?_|exact zd0|(refine zaa ?_ ?_<;>intro hb)|(refine And.intro ?_ ?_;exact zI)|(refine And.intro ?_ ?_<;>intro hg)|exact zC|fail)
   refine zj (g1) ?_
   repeat'(first|refine zq0 ?_|exact zd0|(refine zaa ?_ ?_<;>intro hb)|(refine And.intro ?_ ?_;exact zI)|(refine And.intro ?_ ?_<;>intro hg)|exact zC|fail)
   refine zj (g2) ?_
   repeat'(first|refine zq0 ?_|exact zd0|(refine zaa ?_ ?_<;>intro hb)|(refine And.intro ?_ ?_;exact zI)|(refine And.intro ?_ ?_<;>intro hg)|exact zC|fail)
   refine zj (g3) ?_
   repeat'(first|refine zq0 ?_|exact zd0|(refine zaa ?_ ?_<;>intro hb)|(refine And.intro ?_ ?_;exact zI)|(refine And.intro ?_ ?_<;>intro hg)|exact zC|fail)
   refine zj (g4) ?_
   repeat'(first|refine zq0 ?_|exact zd0|(refine zaa ?_ ?_<;>intro hb)|(refine And.intro ?_ ?_;exact zI)|(refine And.intro ?_ ?_<;>intro hg)|exact zC|fail)
   refine zai (τ:=Nat×Int×Int×List Int×Nat) (fun a=>⟨[.one (.ptr ⟨0,0,0⟩ 0),dd, .one (.ptr ⟨2,0,1⟩ 0), .one (.ptr ⟨3,0,1⟩ 0),ai n2.1,dd,dd,ai j, .one (.ptr ⟨8,0,1⟩ 0),ai m.1,ai a.1,dd,dd,dd,dd,dd,dd,dd,dd,dd,dd,dd,dd,dd,dd,dd,dd,dd,dd,dd,dd,dd,dd,dd,dd,dd,dd,dd,dd,dd,dd,dd,dd,dd,dd,dd,dd,dd,dd,dd,dd,dd,dd,dd,dd,dd,dd,dd,dd,dd,dd,dd,dd,dd,dd,dd,dd,dd,dd,dd,dd,dd,dd,dd,dd,dd,dd,dd,dd,dd,dd,dd,dd,dd,dd,dd,dd,dd,dd,dd,dd,dd,dd,dd,dd,dd,dd,dd,dd,dd,dd,dd,dd,dd,dd,dd,dd,dd,dd,dd,dd,dd,dd,dd,dd,dd,dd,dd,dd,dd,dd,dd,dd,dd,dd,dd,dd,dd,dd,dd],[zxo bs a.2.1 a.2.2.1 a.2.2.2.2,(2,{next:=2,l:=[some {e:=1,var:=true,fz:=false,sz:=0,cells:=[di 0,di 0,di 0, .d (.v zfT), .d (.v zfT), .d (.v zfT)]},none,none,none,none,none,none]}),(3,{next:=2,l:=[some {e:=1,var:=true,fz:=false,sz:=0,cells:=[di t.1,di u.1,di k.1, .own ⟨3,4,1⟩ 0 acc.length, .own ⟨3,5,1⟩ 0 ls.length, .d (.v zfT)]},none,none,none,some {e:=1,var:=false,fz:=false,sz:=3,cells:=(zaK acc).map C.d},some {e:=1,var:=false,fz:=false,sz:=4,cells:=(zaj ls).map C.d},none]}),(6,⟨2,[]⟩),(43,⟨2,[]⟩),(44,⟨2,[]⟩),(8,{next:=2,l:=[some {e:=1,var:=true,fz:=false,sz:=0,cells:=[dS nm.1,di hd.1,di tk.1, .own ⟨8,4,1⟩ 0 a.2.2.2.1.length]},none,none,none,some {e:=1,var:=false,fz:=false,sz:=1,cells:=(zaJ a.2.2.2.1).map C.d}]}),(73,⟨2,[]⟩),(74,⟨2,[]⟩),(79,⟨2,[]⟩),(80,⟨2,[]⟩)]⟩)
    (fun a=>a.1≤m.1.toNat∧i64 a.2.1∧a.2.2.2.1.length=a.1) (fun a=>zco (zbC bs) (m.1.toNat - a.1) a.2.1 a.2.2.1 a.2.2.2.1) (fun a=>m.1.toNat - a.1) (0,m.2.1,m.2.2,[],nx2+4)
    ((Gh.nilF 8 3 1 rfl).trans (Gh.canon [0,2,3,8] [] [0] zK rfl rfl)) ⟨Nat.zero_le _,q6,rfl⟩ ?_
   intro⟨x,q7,c7,li,nx3⟩ ⟨hx0,hq7,hli⟩ hF7 K2 hK2
   simp only[Nat.sub_zero]at hx0 hq7 hli hF7 hK2⊢
   refine zw ?_
   refine zaa (fun hlt3=> ?_) (fun hge3=> ?_)
   ·have hx:x<m.1.toNat:=by simp at hlt3;omega
    have hw3:=zak hx (by omega)
    have hst3:m.1.toNat - x=(m.1.toNat - (x+1))+1:=by omega
    have g5:=zim bs q7 c7 h hq7
    have q8:=zdj (e:=c7) h hq7
    have hF8:zco (zbC bs) (m.1.toNat - (x+1)) (zbC bs q7 c7).2.1 (zbC bs q7 c7).2.2 (li++[(zbC bs q7 c7).1])=zco (zbC bs) (m.1.toNat - x) q7 c7 li:=by rw[hst3,zco]
    repeat'(first|refine zq0 ?_|exact zd0|(refine zaa ?_ ?_<;>intro hb)|(refine And.intro ?_ ?_;exact zI)|(refine And.intro ?_ ?_<;>intro hg)|exact zC|fail)
    refine zj (g5) ?_
    repeat'(first|refine zq @zah ?_|exact zd @zah|(refine zaa ?_ ?_<;>intro hb)|(refine And.intro ?_ ?_;exact zI)|(refine And.intro ?_ ?_<;>intro hg)|exact zC|fail)
    refine hK2 _ (x+1,(zbC bs q7 c7).2.1,(zbC bs q7 c7).2.2,li++[(zbC bs q7 c7).1],nx3+1) (Gh.canon [0,2,3,8] [] [0] (zk (I hw3 (I @List.length_append.{0} @List.length_singleton.{0}))) rfl (by simp only[List.length_append,List.length_singleton];rw[zfC];rfl)) ⟨hx,q8,by simp only[List.length_append,List.length_singleton];omega⟩ (by simp only;rw[hF8]) (by simp only;omega)
   ·have hx:x=m.1.toNat:=by
     have:¬(x:Int)<m.1:=by simpa using hge3
     omega
    rw[hx,Nat.sub_self,zco]at hF7
    rw[←hF7]at hX
    rw[hX]at hF2 ql
    simp only at hF2 ql
    repeat'(first|refine zq (I @zaf @ze2) ?_|exact zd (I @zaf @ze2)|(refine zaa ?_ ?_<;>intro hb)|(refine And.intro ?_ ?_;exact zI)|(refine And.intro ?_ ?_<;>intro hg)|exact zC|fail)
    refine hK _ (j+1,q7,c7,ls++[⟨nm.1,hd.1,tk.1,li⟩],nx3) (Gh.canon [0,2,3] [] [0] (zk (I hw (I @List.length_append.{0} @List.length_singleton.{0}))) rfl (by simp only[List.length_append,List.length_singleton];rw[zeA];rfl)) ⟨hj,ql,by simp only[List.length_append,List.length_singleton];omega⟩ hF2 (by simp only;omega)
  ·have hj:j=n2.1.toNat:=by
    have:¬(j:Int)<n2.1:=by simpa using hge2
    omega
   rw[hj,Nat.sub_self,zco]at hF
   rw[←hF]
   simp only
   clear hK hF
   have hll:ls.length≤4:=by omega
   have h6:=zhl bs q2 c2 8 h hq2
   obtain⟨p6,m5,m6⟩:=zcd (e:=c2) (most:=8) h hq2 (by decide)
   generalize zbz bs q2 c2 8=n3 at*
   repeat'(first|refine zq0 ?_|exact zd0|(refine zaa ?_ ?_<;>intro hb)|(refine And.intro ?_ ?_;exact zI)|(refine And.intro ?_ ?_<;>intro hg)|exact zC|fail)
   refine zj (h6) ?_
   repeat'(first|refine zq0 ?_|exact zd0|(refine zaa ?_ ?_<;>intro hb)|(refine And.intro ?_ ?_;exact zI)|(refine And.intro ?_ ?_<;>intro hg)|exact zC|fail)
   refine zai (τ:=Nat×Int×Int×List Memo×Nat) (fun a=>⟨[.one (.ptr ⟨0,0,0⟩ 0),dd, .one (.ptr ⟨2,0,1⟩ 0), .one (.ptr ⟨3,0,1⟩ 0),ai n3.1,dd,dd,dd,dd,dd,dd,ai a.1,dd,dd,dd,dd,dd,dd,dd,dd,dd,dd,dd,dd,dd,dd,dd,dd,dd,dd,dd,dd,dd,dd,dd,dd,dd,dd,dd,dd,dd,dd,dd,dd,dd,dd,dd,dd,dd,dd,dd,dd,dd,dd,dd,dd,dd,dd,dd,dd,dd,dd,dd,dd,dd,dd,dd,dd,dd,dd,dd,dd,dd,dd,dd,dd,dd,dd,dd,dd,dd,dd,dd,dd,dd,dd,dd,dd,dd,dd,dd,dd,dd,dd,dd,dd,dd,dd,dd,dd,dd,dd,dd,dd,dd,dd,dd,dd,dd,dd,dd,dd,dd,dd,dd,dd,dd,dd,dd,dd,dd,dd,dd,dd,dd,dd,dd,dd,dd,dd],[zxo bs a.2.1 a.2.2.1 a.2.2.2.2,(2,{next:=2,l:=[some {e:=1,var:=true,fz:=false,sz:=0,cells:=[di 0,di 0,di 0, .d (.v zfT), .d (.v zfT), .d (.v zfT)]},none,none,none,none,none,none]}),(3,{next:=2,l:=[some {e:=1,var:=true,fz:=false,sz:=0,cells:=[di t.1,di u.1,di k.1, .own ⟨3,4,1⟩ 0 acc.length, .own ⟨3,5,1⟩ 0 ls.length, .own ⟨3,6,1⟩ 0 a.2.2.2.1.length]},none,none,none,some {e:=1,var:=false,fz:=false,sz:=3,cells:=(zaK acc).map C.d},some {e:=1,var:=false,fz:=false,sz:=4,cells:=(zaj ls).map C.d},some {e:=1,var:=false,fz:=false,sz:=6,cells:=(zaD a.2.2.2.1).map C.d}]}),(6,⟨2,[]⟩),(43,⟨2,[]⟩),(44,⟨2,[]⟩),(8,⟨2,[]⟩),(73,⟨2,[]⟩),(74,⟨2,[]⟩),(79,⟨2,[]⟩),(80,⟨2,[]⟩),(12,⟨2,[]⟩),(105,⟨2,[]⟩),(126,⟨2,[]⟩),(127,⟨2,[]⟩)]⟩)
    (fun a=>a.1≤n3.1.toNat∧i64 a.2.1∧a.2.2.2.1.length=a.1) (fun a=>zc9 bs (n3.1.toNat - a.1) a.2.1 a.2.2.1 a.2.2.2.1) (fun a=>n3.1.toNat - a.1) (0,n3.2.1,n3.2.2,[],nx2+1)
    ((Gh.nilF 3 5 6 rfl).trans (Gh.canon [0,2,3] [12,105,126,127] [0] zK rfl rfl)) ⟨Nat.zero_le _,p6,rfl⟩ ?_
   intro⟨x,q3,c3,ms,nx3⟩ ⟨hx0,hq3,hml⟩ hF K hK
   simp only[Nat.sub_zero]at hx0 hq3 hml hF hK⊢
   refine zw ?_
   refine zaa (fun hlt3=> ?_) (fun hge3=> ?_)
   ·simp only[Bool.and_eq_true,decide_eq_true_eq,beq_iff_eq]at hlt3
    have hx:x<n3.1.toNat:=by omega
    have hc3:c3=0:=hlt3.2
    have hw:=zak hx (by omega)
    have hst:n3.1.toNat - x=(n3.1.toNat - (x+1))+1:=by omega
    have g1:=zlq bs q3 h hq3
    have hF2:zc9 bs (n3.1.toNat - (x+1)) (za0 bs q3).2.1 (za0 bs q3).2.2 (ms++[(za0 bs q3).1])=zc9 bs (n3.1.toNat - x) q3 c3 ms:=by rw[hst,zc9,if_neg (by rw[hc3];simp)]
    repeat'(first|refine zq @zaA ?_|exact zd @zaA|refine zc (g1) ?_|refine zg (g1) ?_|(refine zaa ?_ ?_<;>intro hb)|(refine And.intro ?_ ?_;exact zI)|(refine And.intro ?_ ?_<;>intro hg)|exact zC|fail)
    refine hK _ (x+1,(za0 bs q3).2.1,(za0 bs q3).2.2,ms++[(za0 bs q3).1],nx3+2) (Gh.canon [0,2,3] [] [0] (zk (I hw (I @List.length_append.{0} @List.length_singleton.{0}))) rfl (by simp only[List.length_append,List.length_singleton];rw[zdb];rfl)) ⟨hx,zmQ h,by simp only[List.length_append,List.length_singleton];omega⟩ (by simp only;rw[hF2,hF]) (by simp only;omega)
   ·have hend:zc9 bs (n3.1.toNat - x) q3 c3 ms=(ms,q3,c3):=by
     by_cases hc:c3=0
     ·have hx:¬(x:Int)<n3.1:=by
       intro hx
       rw[hc]at hge3
       simp[hx]at hge3
      rw[show n3.1.toNat - x=0 by omega,zc9]
     ·cases n3.1.toNat - x with
      |zero=>rfl
      |succ y=>rw[zc9,if_pos hc]
    rw[hend]at hF
    rw[←hF]
    repeat'(first|refine zq0 ?_|exact zd0|(refine zaa ?_ ?_<;>intro hb)|(refine And.intro ?_ ?_;exact zI)|(refine And.intro ?_ ?_<;>intro hg)|exact zC|fail)
    rfl
def E2 {α:Type} (x:α×Int×Int) (r:Rr α):Prop:=match r with
 | .ok y=>x=(y.1,y.2,0)
 | .error c=>x.2.2=c∧c≠0
theorem zmP {α:Type} (x:α×Int×Int):E2 x (rOf x):=by
 unfold rOf
 split
 ·rename_i h
  show x=(x.1,x.2.1,0)
  rw[←h]
 ·rename_i h
  exact⟨rfl,h⟩
theorem zsB {bs:List Int} {p:Int}:zcz bs p 0=zc8 bs p:=by unfold zcz;rw[if_neg (by simp)]
theorem znQ {bs:List Int} {p:Int}:zbC bs p 0=zaY bs p:=by unfold zbC;rw[if_neg (by simp)]
theorem zwo {bs:List Int} {p:Int}:zdw bs p 0=zbw bs p 12:=by unfold zdw;rw[if_neg (by simp)]
theorem zeZ {bs:List Int} {p e:Int}:e=0∨(zcz bs p e).2.2=e:=by
 by_cases h:e=0
 ·exact .inl h
 ·right;unfold zcz;rw[if_pos h]
theorem zgw {bs:List Int} {p e:Int}:e=0∨(zbC bs p e).2.2=e:=by
 by_cases h:e=0
 ·exact .inl h
 ·right;unfold zbC;rw[if_pos h]
theorem zsC {bs:List Int} {p e:Int}:e=0∨(zdw bs p e).2.2=e:=by
 by_cases h:e=0
 ·exact .inl h
 ·right;unfold zdw;rw[if_pos h]
theorem zhk {bs:List Int} {p e m:Int}:e=0∨(zbz bs p e m).2.2=e:=by
 rcases zgw (bs:=bs) (p:=p) (e:=e)with h|h
 ·exact .inl h
 ·by_cases h0:e=0
  ·exact .inl h0
  ·right;unfold zbz;rw[if_pos (by rw[h];exact h0)];exact h
theorem zhH {α:Type} {f:Int→Int→α×Int×Int} (hf:∀p e,e=0∨(f p e).2.2=e):∀{n:Nat} {p e:Int} {acc:List α},e=0∨(zco f n p e acc).2.2=e
 |0,p,e,acc=> .inr rfl
 |n+1,p,e,acc=>by
  rw[zco]
  rcases hf p e with h|h
  ·exact .inl h
  ·rw[h];exact zhH hf
theorem zoU {bs:List Int}:∀{n:Nat} {p e:Int} {acc:List Memo},e=0∨(zc9 bs n p e acc).2.2=e
 |0,p,e,acc=> .inr rfl
 |n+1,p,e,acc=>by
  rw[zc9]
  by_cases h:e=0
  ·exact .inl h
  ·rw[if_pos h];exact .inr rfl
theorem zsD {bs:List Int} {p e:Int}:e=0∨(zeV bs p e).2.2=e:=by
 unfold zeV
 simp only
 have h1:=zgw (bs:=bs) (p:=p) (e:=e)
 generalize zbC bs p e=c at*
 have h2:=zeZ (bs:=bs) (p:=c.2.1) (e:=c.2.2)
 generalize zcz bs c.2.1 c.2.2=n at*
 have h3:=zeZ (bs:=bs) (p:=n.2.1) (e:=n.2.2)
 omega
theorem zsE {bs:List Int} {p e:Int}:e=0∨(ze1 bs p e).2.2=e:=by
 unfold ze1
 simp only
 have h1:=zsC (bs:=bs) (p:=p) (e:=e)
 generalize zdw bs p e=c at*
 have h2:=zgw (bs:=bs) (p:=c.2.1) (e:=c.2.2)
 generalize zbC bs c.2.1 c.2.2=n at*
 have h3:=zeZ (bs:=bs) (p:=n.2.1) (e:=n.2.2)
 generalize zcz bs n.2.1 n.2.2=k at*
 have h4:=zhk (bs:=bs) (p:=k.2.1) (e:=k.2.2) (m:=3)
 generalize zbz bs k.2.1 k.2.2 3=m at*
 have h5:=zhH (f:=zbC bs) (fun p e=>zgw) (n:=m.1.toNat) (p:=m.2.1) (e:=m.2.2) (acc:=[])
 omega
theorem zil {bs:List Int} {p m:Int}:E2 (zbz bs p 0 m) (zb3 bs p m):=by
 unfold zbz zb3
 rw[znQ]
 have h:=zmP (zaY bs p)
 unfold zdi
 cases hr:rOf (zaY bs p)with
 |error c=>
  rw[hr]at h
  rw[if_pos (by rw[h.1];exact h.2)]
  exact h
 |ok y=>
  rw[hr]at h
  have h:zaY bs p=(y.1,y.2,0):=h
  rw[h]
  simp only
  rw[if_neg (by simp)]
  split
  ·exact⟨rfl,by decide⟩
  ·rfl
theorem zlp {α:Type} {f:Int→Int→α×Int×Int} {g:Int→Rr α} (h1:∀p,E2 (f p 0) (g p)) (h2:∀p e,e=0∨(f p e).2.2=e):∀{n:Nat} {p:Int} {acc:List α},E2 (zco f n p 0 acc) (zcg g n p acc)
 |0,p,acc=>rfl
 |n+1,p,acc=>by
  rw[zco,zcg]
  have h:=h1 p
  cases hr:g p with
  |error c=>
   rw[hr]at h
   obtain⟨h,h0⟩:=h
   rw[h]
   refine⟨?_,h0⟩
   rcases zhH h2 (n:=n) (p:=(f p 0).2.1) (e:=c) (acc:=acc++[(f p 0).1])with k|k
   ·exact absurd k h0
   ·exact k
  |ok y=>
   rw[hr]at h
   have h:f p 0=(y.1,y.2,0):=h
   rw[h]
   exact zlp h1 h2
theorem zoV {bs:List Int}:∀{n:Nat} {p:Int} {acc:List Memo},E2 (zc9 bs n p 0 acc) (zcg (zhb bs) n p acc)
 |0,p,acc=>rfl
 |n+1,p,acc=>by
  rw[zc9,zcg,if_neg (by simp)]
  have h:=zmP (za0 bs p)
  unfold zhb
  cases hr:rOf (za0 bs p)with
  |error c=>
   rw[hr]at h
   obtain⟨h,h0⟩:=h
   rw[h]
   refine⟨?_,h0⟩
   rcases zoU (bs:=bs) (n:=n) (p:=(za0 bs p).2.1) (e:=c) (acc:=acc++[(za0 bs p).1])with k|k
   ·exact absurd k h0
   ·exact k
  |ok y=>
   rw[hr]at h
   have h:za0 bs p=(y.1,y.2,0):=h
   rw[h]
   exact zoV
theorem zwp {bs:List Int} {p:Int}:E2 (zeV bs p 0) (zhW bs p):=by
 unfold zeV zhW
 simp only
 rw[znQ]
 have h:=zmP (zaY bs p)
 unfold zdi zef
 cases hr:rOf (zaY bs p)with
 |error c=>
  rw[hr]at h
  obtain⟨h,h0⟩:=h
  generalize zaY bs p=c1 at*
  have h2:=zeZ (bs:=bs) (p:=c1.2.1) (e:=c1.2.2)
  generalize zcz bs c1.2.1 c1.2.2=n at*
  have h3:=zeZ (bs:=bs) (p:=n.2.1) (e:=n.2.2)
  exact⟨by simp only;omega,h0⟩
 |ok y=>
  rw[hr]at h
  have h:zaY bs p=(y.1,y.2,0):=h
  rw[h]
  simp only
  rw[zsB]
  have k:=zmP (zc8 bs y.2)
  cases hr2:rOf (zc8 bs y.2)with
  |error c=>
   rw[hr2]at k
   obtain⟨k,k0⟩:=k
   generalize zc8 bs y.2=n at*
   have h3:=zeZ (bs:=bs) (p:=n.2.1) (e:=n.2.2)
   exact⟨by simp only;omega,k0⟩
  |ok z=>
   rw[hr2]at k
   have k:zc8 bs y.2=(z.1,z.2,0):=k
   rw[k]
   simp only
   rw[zsB]
   have l:=zmP (zc8 bs z.2)
   cases hr3:rOf (zc8 bs z.2)with
   |error c=>rw[hr3]at l;exact l
   |ok x=>
    rw[hr3]at l
    have l:zc8 bs z.2=(x.1,x.2,0):=l
    rw[l]
    rfl
theorem zjl {bs:List Int} {p:Int}:E2 (zcz bs p 0) (zef bs p):=by rw[zsB];exact zmP _
theorem zsA {bs:List Int} {p:Int}:E2 (zbC bs p 0) (zdi bs p):=by rw[znQ];exact zmP _
theorem zwm {bs:List Int} {p:Int}:E2 (zdw bs p 0) (zi6 bs p):=by rw[zwo];exact zmP _
theorem zfz {α:Type} {x:α×Int×Int} {r:Rr α} {y:α×Int} (h:E2 x r) (hr:r= .ok y):x=(y.1,y.2,0):=by subst hr;exact h
theorem zfA {α:Type} {x:α×Int×Int} {r:Rr α} {c:Int} (h:E2 x r) (hr:r= .error c):x.2.2=c∧c≠0:=by subst hr;exact h
theorem zwn {bs:List Int} {p:Int}:E2 (ze1 bs p 0) (zfu bs p):=by
 unfold ze1
 simp only
 have k1:=zsC (bs:=bs) (p:=p) (e:=0)
 have E1:=zwm (bs:=bs) (p:=p)
 obtain⟨c,hc⟩:∃c,c=zdw bs p 0:=⟨_,rfl⟩
 rw[←hc]at k1 E1⊢
 have k2:=zgw (bs:=bs) (p:=c.2.1) (e:=c.2.2)
 obtain⟨n,hn⟩:∃n,n=zbC bs c.2.1 c.2.2:=⟨_,rfl⟩
 rw[←hn]at k2⊢
 have k3:=zeZ (bs:=bs) (p:=n.2.1) (e:=n.2.2)
 obtain⟨k,hk⟩:∃k,k=zcz bs n.2.1 n.2.2:=⟨_,rfl⟩
 rw[←hk]at k3⊢
 have k4:=zhk (bs:=bs) (p:=k.2.1) (e:=k.2.2) (m:=3)
 obtain⟨m,hm⟩:∃m,m=zbz bs k.2.1 k.2.2 3:=⟨_,rfl⟩
 rw[←hm]at k4⊢
 have k5:=zhH (f:=zbC bs) (fun p e=>zgw) (n:=m.1.toNat) (p:=m.2.1) (e:=m.2.2) (acc:=[])
 obtain⟨l,hl⟩:∃l,l=zco (zbC bs) m.1.toNat m.2.1 m.2.2 []:=⟨_,rfl⟩
 rw[←hl]at k5⊢
 unfold zfu
 cases e1:zi6 bs p with
 |error x=>obtain⟨a,b⟩:=zfA E1 e1;exact⟨by simp only;omega,b⟩
 |ok y=>
 have E1:=zfz E1 e1
 rw[E1]at hn
 simp only at hn
 have E2':=zsA (bs:=bs) (p:=y.2)
 rw[←hn]at E2'
 simp only
 cases e2:zdi bs y.2 with
 |error x=>obtain⟨a,b⟩:=zfA E2' e2;exact⟨by simp only;omega,b⟩
 |ok z=>
 have E3:=zfz E2' e2
 rw[E3]at hk
 simp only at hk
 have E4:=zjl (bs:=bs) (p:=z.2)
 rw[←hk]at E4
 simp only
 cases e3:zef bs z.2 with
 |error x=>obtain⟨a,b⟩:=zfA E4 e3;exact⟨by simp only;omega,b⟩
 |ok w=>
 have E5:=zfz E4 e3
 rw[E5]at hm
 simp only at hm
 have E6:=zil (bs:=bs) (p:=w.2) (m:=3)
 rw[←hm]at E6
 simp only
 cases e4:zb3 bs w.2 3 with
 |error x=>obtain⟨a,b⟩:=zfA E6 e4;exact⟨by simp only;omega,b⟩
 |ok v=>
 have E7:=zfz E6 e4
 rw[E7]at hl
 simp only at hl
 have E8:=zlp (fun p=>zsA (bs:=bs) (p:=p)) (fun p e=>zgw) (n:=v.1.toNat) (p:=v.2) (acc:=[])
 rw[←hl]at E8
 simp only
 rw[zhx]
 cases e5:zcg (zdi bs) v.1.toNat v.2 []with
 |error x=>obtain⟨a,b⟩:=zfA E8 e5;exact⟨by simp only;omega,b⟩
 |ok u=>
 have E9:=zfz E8 e5
 show(_,_)=(_,_,_)
 rw[E1,E3,E5,E9]
theorem zjm (bs:List Int) (p:Int):(∀y,zdo bs p= .ok y→zeE bs p 0=(y.1,y.2,0))∧
  ∀c,zdo bs p= .error c→c≠0∧((zeE bs p 0).2.2=c∨((zeE bs p 0).2.2=0∧zb2 (zeE bs p 0).1=false∧c=4)):=by
 unfold zeE
 simp only
 have E1:=zjl (bs:=bs) (p:=p)
 obtain⟨t,ht⟩:∃t,t=zcz bs p 0:=⟨_,rfl⟩
 rw[←ht]at E1⊢
 have k2:=zeZ (bs:=bs) (p:=t.2.1) (e:=t.2.2)
 obtain⟨u,hu⟩:∃u,u=zcz bs t.2.1 t.2.2:=⟨_,rfl⟩
 rw[←hu]at k2⊢
 have k3:=zeZ (bs:=bs) (p:=u.2.1) (e:=u.2.2)
 obtain⟨k,hk⟩:∃k,k=zcz bs u.2.1 u.2.2:=⟨_,rfl⟩
 rw[←hk]at k3⊢
 have k4:=zhk (bs:=bs) (p:=k.2.1) (e:=k.2.2) (m:=5)
 obtain⟨n,hn⟩:∃n,n=zbz bs k.2.1 k.2.2 5:=⟨_,rfl⟩
 rw[←hn]at k4⊢
 have k5:=zhH (f:=zeV bs) (fun p e=>zsD) (n:=n.1.toNat) (p:=n.2.1) (e:=n.2.2) (acc:=[])
 obtain⟨ss,hss⟩:∃ss,ss=zco (zeV bs) n.1.toNat n.2.1 n.2.2 []:=⟨_,rfl⟩
 rw[←hss]at k5⊢
 have k6:=zhk (bs:=bs) (p:=ss.2.1) (e:=ss.2.2) (m:=4)
 obtain⟨n2,hn2⟩:∃n2,n2=zbz bs ss.2.1 ss.2.2 4:=⟨_,rfl⟩
 rw[←hn2]at k6⊢
 have k7:=zhH (f:=ze1 bs) (fun p e=>zsE) (n:=n2.1.toNat) (p:=n2.2.1) (e:=n2.2.2) (acc:=[])
 obtain⟨ls,hls⟩:∃ls,ls=zco (ze1 bs) n2.1.toNat n2.2.1 n2.2.2 []:=⟨_,rfl⟩
 rw[←hls]at k7⊢
 have k8:=zhk (bs:=bs) (p:=ls.2.1) (e:=ls.2.2) (m:=8)
 obtain⟨n3,hn3⟩:∃n3,n3=zbz bs ls.2.1 ls.2.2 8:=⟨_,rfl⟩
 rw[←hn3]at k8⊢
 have k9:=zoU (bs:=bs) (n:=n3.1.toNat) (p:=n3.2.1) (e:=n3.2.2) (acc:=[])
 obtain⟨ms,hms⟩:∃ms,ms=zc9 bs n3.1.toNat n3.2.1 n3.2.2 []:=⟨_,rfl⟩
 rw[←hms]at k9⊢
 have no:∀{x c:Int},(.error x:Rr St)= .error c→x=c:=fun h=>by cases h;rfl
 unfold zdo
 cases e1:zef bs p with
 |error x=>obtain⟨a,b⟩:=zfA E1 e1;exact⟨fun y h=>(by cases h),fun c h=>by have:=no h;omega⟩
 |ok y1=>
 have E1:=zfz E1 e1
 rw[E1]at hu;simp only at hu
 have F:=zjl (bs:=bs) (p:=y1.2)
 rw[←hu]at F
 simp only
 cases e2:zef bs y1.2 with
 |error x=>obtain⟨a,b⟩:=zfA F e2;exact⟨fun y h=>(by cases h),fun c h=>by have:=no h;omega⟩
 |ok y2=>
 have E2':=zfz F e2
 rw[E2']at hk;simp only at hk
 have F:=zjl (bs:=bs) (p:=y2.2)
 rw[←hk]at F
 simp only
 cases e3:zef bs y2.2 with
 |error x=>obtain⟨a,b⟩:=zfA F e3;exact⟨fun y h=>(by cases h),fun c h=>by have:=no h;omega⟩
 |ok y3=>
 have E3:=zfz F e3
 rw[E3]at hn;simp only at hn
 have F:=zil (bs:=bs) (p:=y3.2) (m:=5)
 rw[←hn]at F
 simp only
 cases e4:zb3 bs y3.2 5 with
 |error x=>obtain⟨a,b⟩:=zfA F e4;exact⟨fun y h=>(by cases h),fun c h=>by have:=no h;omega⟩
 |ok y4=>
 have E4:=zfz F e4
 rw[E4]at hss;simp only at hss
 have F:=zlp (fun p=>zwp (bs:=bs) (p:=p)) (fun p e=>zsD) (n:=y4.1.toNat) (p:=y4.2) (acc:=[])
 rw[←hss]at F
 simp only
 cases e5:zcg (zhW bs) y4.1.toNat y4.2 []with
 |error x=>obtain⟨a,b⟩:=zfA F e5;exact⟨fun y h=>(by cases h),fun c h=>by have:=no h;omega⟩
 |ok y5=>
 have E5:=zfz F e5
 rw[E5]at hn2;simp only at hn2
 have F:=zil (bs:=bs) (p:=y5.2) (m:=4)
 rw[←hn2]at F
 simp only
 cases e6:zb3 bs y5.2 4 with
 |error x=>obtain⟨a,b⟩:=zfA F e6;exact⟨fun y h=>(by cases h),fun c h=>by have:=no h;omega⟩
 |ok y6=>
 have E6:=zfz F e6
 rw[E6]at hls;simp only at hls
 have F:=zlp (fun p=>zwn (bs:=bs) (p:=p)) (fun p e=>zsE) (n:=y6.1.toNat) (p:=y6.2) (acc:=[])
 rw[←hls]at F
 simp only
 cases e7:zcg (zfu bs) y6.1.toNat y6.2 []with
 |error x=>obtain⟨a,b⟩:=zfA F e7;exact⟨fun y h=>(by cases h),fun c h=>by have:=no h;omega⟩
 |ok y7=>
 have E7:=zfz F e7
 rw[E7]at hn3;simp only at hn3
 have F:=zil (bs:=bs) (p:=y7.2) (m:=8)
 rw[←hn3]at F
 simp only
 cases e8:zb3 bs y7.2 8 with
 |error x=>obtain⟨a,b⟩:=zfA F e8;exact⟨fun y h=>(by cases h),fun c h=>by have:=no h;omega⟩
 |ok y8=>
 have E8:=zfz F e8
 rw[E8]at hms;simp only at hms
 have F:=zoV (bs:=bs) (n:=y8.1.toNat) (p:=y8.2) (acc:=[])
 rw[←hms]at F
 simp only
 cases e9:zcg (zhb bs) y8.1.toNat y8.2 []with
 |error x=>obtain⟨a,b⟩:=zfA F e9;exact⟨fun y h=>(by cases h),fun c h=>by have:=no h;omega⟩
 |ok y9=>
 have E9:=zfz F e9
 rw[E1,E2',E3,E5,E7,E9]
 simp only
 split
 ·rename_i hr
  exact⟨fun y h=>by cases h;rfl,fun c h=>by cases h⟩
 ·rename_i hr
  exact⟨fun y h=>(by cases h),fun c h=>by have:=no h;exact⟨by omega, .inr ⟨trivial,by simpa using hr,this.symm⟩⟩⟩
end Go.Proofs.YtbpmcjeeeiffhaaGreat
