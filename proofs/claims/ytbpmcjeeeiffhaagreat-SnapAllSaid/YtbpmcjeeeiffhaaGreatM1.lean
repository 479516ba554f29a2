import Derived.Test.YtbpmcjeeeiffhaaGreatL5
namespace Go.Proofs.YtbpmcjeeeiffhaaGreat
open Go.Pk
set_option maxRecDepth 100000
set_option linter.unusedSimpArgs false
set_option linter.unusedVariables false
abbrev zpC:Reply:=⟨0,0,0,[]⟩
def zcQ (bs:List Int) (p:Int):Reply×Int×Int:=
 if(zaQ bs p).2.2≠0 then(zpC,0,(zaQ bs p).2.2)else
 let s:=zcz bs (zaQ bs p).2.1
 if s.2.2≠0 then(zpC,0,s.2.2)else
 let a:=zaQ bs s.2.1
 if a.2.2≠0 then(zpC,0,a.2.2)else
 let n:=zaQ bs a.2.1
 if n.2.2≠0 then(zpC,0,n.2.2)else
 if n.1>4 then(zpC,0,4)else
 let g:=zbl bs n.1.toNat n.2.1 []
 if g.2.2≠0 then(zpC,0,g.2.2)else
 if zbz ⟨(zaQ bs p).1,s.1,a.1,g.1⟩=false then(zpC,0,4)else(⟨(zaQ bs p).1,s.1,a.1,g.1⟩,g.2.1,0)
theorem zdJ {bs:List Int} (h:BsOk bs) {p:Int}:zbI (zaQ bs p).1:=by
 unfold zaQ
 cases hs:shortP bs.length p 1
 ·obtain⟨h1,h2,h3⟩:=zb7 hs
  rw[if_neg (by simp)]
  exact zdo (by omega) h.b
 ·rw[if_pos rfl];exact⟨by decide,by decide⟩
theorem zgy {bs:List Int} {p most:Int}:(zbf bs p most).1.size≤bs.length:=by
 unfold zbf
 split
 ·simp
 ·split
  ·simp
  ·split
   ·simp
   ·simp only[strOf,ByteArray.size,List.size_toArray,List.length_map,List.length_take,List.length_drop]
    omega
theorem ze3 {bs:List Int}:∀{n:Nat} {p:Int} {acc:List Grant},(∀g∈acc,g.name.size≤bs.length)→(zbl bs n p acc).1.length≤acc.length+n∧∀g∈(zbl bs n p acc).1,g.name.size≤bs.length
 |0,p,acc,h=>⟨Nat.le_refl _,h⟩
 |n+1,p,acc,h=>by
  rw[zbl]
  split
  ·exact⟨Nat.zero_le _,by simp⟩
  ·split
   ·exact⟨Nat.zero_le _,by simp⟩
   ·have:=ze3 (bs:=bs) (n:=n) (p:=(zcz bs (zbf bs p 12).2.1).2.1) (acc:=acc++[⟨(zbf bs p 12).1,(zcz bs (zbf bs p 12).2.1).1⟩]) (fun g hg=>by
     rcases List.mem_append.1 hg with hg|hg
     ·exact h g hg
     ·simp at hg;subst hg;exact zgy)
    rw[List.length_append,List.length_singleton]at this
    exact⟨by omega,this.2⟩
set_option maxHeartbeats 1000000 in
theorem zlT (bs:List Int) (p:Int) (h:BsOk bs) (hp:i64 p):
  CallOK Tryz.prog 177 [.f (asl bs.length (zab bs)), .f (ai p)] (fun r o=>r=[zps (zcQ bs p).1,ri (zcQ bs p).2.1,ri (zcQ bs p).2.2]∧o=[]):=by
 refine CallOK.nil ?_
 refine zae zam mixed (T:=Ty) (n:=82) Tryz.func177 (c:=Tryz.f177.body.getD .skip) rfl Tryz.results177 Tryz.ntmps177 Tryz.call177 ?_
 simp only[Tryz.f177,Option.getD]
 have hl:=h.l
 have h1:=ze4 bs p h hp
 have h2:=zh0 bs (zaQ bs p).2.1 h (zbV h.l zbG)
 have h3:=ze4 bs (zcz bs (zaQ bs p).2.1).2.1 h (zbV h.l zcx)
 have h4:=ze4 bs (zaQ bs (zcz bs (zaQ bs p).2.1).2.1).2.1 h (zbV h.l zbG)
 unfold zcQ
 simp only
 obtain⟨b,hb⟩:∃b,b=zaQ bs p:=⟨_,rfl⟩
 rw[←hb]at h1 h2 h3 h4⊢
 obtain⟨s,hs⟩:∃s,s=zcz bs b.2.1:=⟨_,rfl⟩
 rw[←hs]at h2 h3 h4⊢
 obtain⟨a,ha⟩:∃a,a=zaQ bs s.2.1:=⟨_,rfl⟩
 rw[←ha]at h3 h4⊢
 obtain⟨n,hn⟩:∃n,n=zaQ bs a.2.1:=⟨_,rfl⟩
 rw[←hn]at h4⊢
 have hnv:zbI n.1:=by rw[hn];exact zdJ h
 have hnn:i64 n.2.1:=by rw[hn];exact zbV h.l zbG
 have hbv:zbI b.1:=by rw[hb];exact zdJ h
 unfold zbI at hnv hbv
 have h5:=zpE bs n.2.1 n.1.toNat h hnn (by omega)
 rw[Int.toNat_of_nonneg hnv.1]at h5
 have hgk:=ze3 (bs:=bs) (n:=n.1.toNat) (p:=n.2.1) (acc:=[]) (by simp)
 obtain⟨g,hg⟩:∃g,g=zbl bs n.1.toNat n.2.1 []:=⟨_,rfl⟩
 rw[←hg]at h5 hgk⊢
 have h6:=zdR ⟨b.1,s.1,a.1,g.1⟩ ⟨by have:=hgk.1;simp only[List.length_nil]at this;simp only;omega,fun x hx=>by have:=hgk.2 x hx;omega⟩
 clear hgk
 cases e1:(b.2.2 !=0)
 ·rw[if_neg (by simpa using e1)]
  cases e2:(s.2.2 !=0)
  ·rw[if_neg (by simpa using e2)]
   cases e3:(a.2.2 !=0)
   ·rw[if_neg (by simpa using e3)]
    cases e4:(n.2.2 !=0)
    ·rw[if_neg (by simpa using e4)]
     cases e5:decide (n.1>4)
     ·rw[if_neg (by simpa using e5)]
      cases e6:(g.2.2 !=0)
      ·rw[if_neg (by simpa using e6)]
       cases e7:zbz ⟨b.1,s.1,a.1,g.1⟩
       ·rw[e7]at h6
        rw[if_pos rfl]
        repeat'(first|refine zq (I e1 (I e2 (I e3 (I e4 (I e5 e6))))) ?_|exact zd (I e1 (I e2 (I e3 (I e4 (I e5 e6)))))|refine zc (h1) ?_|refine zg (h1) ?_|refine zc (h2) ?_|refine zg (h2) ?_|refine zc (h3) ?_|refine zg (h3) ?_|refine zc (h4) ?_|refine zg (h4) ?_|refine zc (h5) ?_|refine zg (h5) ?_|refine zc (h6) ?_|refine zg (h6) ?_|(refine zaa ?_ ?_<;>intro hb)|(refine And.intro ?_ ?_;exact zI)|(refine And.intro ?_ ?_<;>intro hg)|exact zC|fail)
        show(zar _ _∧zar _ _∧zar _ _∧zar _ _∧True)∧zar _ _∧zar _ _∧True
        simp[zar, -List.length_flatMap,zaw]
       ·rw[e7]at h6
        rw[if_neg (by simp)]
        repeat'(first|refine zq (I e1 (I e2 (I e3 (I e4 (I e5 e6))))) ?_|exact zd (I e1 (I e2 (I e3 (I e4 (I e5 e6)))))|refine zc (h1) ?_|refine zg (h1) ?_|refine zc (h2) ?_|refine zg (h2) ?_|refine zc (h3) ?_|refine zg (h3) ?_|refine zc (h4) ?_|refine zg (h4) ?_|refine zc (h5) ?_|refine zg (h5) ?_|refine zc (h6) ?_|refine zg (h6) ?_|(refine zaa ?_ ?_<;>intro hb)|(refine And.intro ?_ ?_;exact zI)|(refine And.intro ?_ ?_<;>intro hg)|exact zC|fail)
        show(zar _ _∧zar _ _∧zar _ _∧zar _ _∧True)∧zar _ _∧zar _ _∧True
        simp[zar, -List.length_flatMap,zaw]
      ·rw[if_pos (by simpa using e6)]
       repeat'(first|refine zq (I e1 (I e2 (I e3 (I e4 (I e5 e6))))) ?_|exact zd (I e1 (I e2 (I e3 (I e4 (I e5 e6)))))|refine zc (h1) ?_|refine zg (h1) ?_|refine zc (h2) ?_|refine zg (h2) ?_|refine zc (h3) ?_|refine zg (h3) ?_|refine zc (h4) ?_|refine zg (h4) ?_|refine zc (h5) ?_|refine zg (h5) ?_|(refine zaa ?_ ?_<;>intro hb)|(refine And.intro ?_ ?_;exact zI)|(refine And.intro ?_ ?_<;>intro hg)|exact zC|fail)
       show(zar _ _∧zar _ _∧zar _ _∧zar _ _∧True)∧zar _ _∧zar _ _∧True
       simp[zar, -List.length_flatMap,zaw]
     ·rw[if_pos (by simpa using e5)]
      repeat'(first|refine zq (I e1 (I e2 (I e3 (I e4 e5)))) ?_|exact zd (I e1 (I e2 (I e3 (I e4 e5))))|refine zc (h1) ?_|refine zg (h1) ?_|refine zc (h2) ?_|refine zg (h2) ?_|refine zc (h3) ?_|refine zg (h3) ?_|refine zc (h4) ?_|refine zg (h4) ?_|(refine zaa ?_ ?_<;>intro hb)|(refine And.intro ?_ ?_;exact zI)|(refine And.intro ?_ ?_<;>intro hg)|exact zC|fail)
      show(zar _ _∧zar _ _∧zar _ _∧zar _ _∧True)∧zar _ _∧zar _ _∧True
      simp[zar, -List.length_flatMap,zaw]
    ·rw[if_pos (by simpa using e4)]
     repeat'(first|refine zq (I e1 (I e2 (I e3 e4))) ?_|exact zd (I e1 (I e2 (I e3 e4)))|refine zc (h1) ?_|refine zg (h1) ?_|refine zc (h2) ?_|refine zg (h2) ?_|refine zc (h3) ?_|refine zg (h3) ?_|refine zc (h4) ?_|refine zg (h4) ?_|(refine zaa ?_ ?_<;>intro hb)|(refine And.intro ?_ ?_;exact zI)|(refine And.intro ?_ ?_<;>intro hg)|exact zC|fail)
     show(zar _ _∧zar _ _∧zar _ _∧zar _ _∧True)∧zar _ _∧zar _ _∧True
     simp[zar, -List.length_flatMap,zaw]
   ·rw[if_pos (by simpa using e3)]
    repeat'(first|refine zq (I e1 (I e2 e3)) ?_|exact zd (I e1 (I e2 e3))|refine zc (h1) ?_|refine zg (h1) ?_|refine zc (h2) ?_|refine zg (h2) ?_|refine zc (h3) ?_|refine zg (h3) ?_|(refine zaa ?_ ?_<;>intro hb)|(refine And.intro ?_ ?_;exact zI)|(refine And.intro ?_ ?_<;>intro hg)|exact zC|fail)
    show(zar _ _∧zar _ _∧zar _ _∧zar _ _∧True)∧zar _ _∧zar _ _∧True
    simp[zar, -List.length_flatMap,zaw]
  ·rw[if_pos (by simpa using e2)]
   repeat'(first|refine zq (I e1 e2) ?_|exact zd (I e1 e2)|refine zc (h1) ?_|refine zg (h1) ?_|refine zc (h2) ?_|refine zg (h2) ?_|(refine zaa ?_ ?_<;>intro hb)|(refine And.intro ?_ ?_;exact zI)|(refine And.intro ?_ ?_<;>intro hg)|exact zC|fail)
   show(zar _ _∧zar _ _∧zar _ _∧zar _ _∧True)∧zar _ _∧zar _ _∧True
   simp[zar, -List.length_flatMap,zaw]
 ·rw[if_pos (by simpa using e1)]
  repeat'(first|refine zq e1 ?_|exact zd e1|refine zc (h1) ?_|refine zg (h1) ?_|(refine zaa ?_ ?_<;>intro hb)|(refine And.intro ?_ ?_;exact zI)|(refine And.intro ?_ ?_<;>intro hg)|exact zC|fail)
  show(zar _ _∧zar _ _∧zar _ _∧zar _ _∧True)∧zar _ _∧zar _ _∧True
  simp[zar, -List.length_flatMap,zaw]
abbrev memo0:Memo:=⟨0,0,zpC⟩
def zaR (bs:List Int) (p:Int):Memo×Int×Int:=
 if(zaQ bs p).2.2≠0 then(memo0,0,(zaQ bs p).2.2)else
 let s:=zcz bs (zaQ bs p).2.1
 if s.2.2≠0 then(memo0,0,s.2.2)else
 let r:=zcQ bs s.2.1
 if r.2.2≠0 then(memo0,0,r.2.2)else
 if answerB ⟨(zaQ bs p).1,s.1,r.1⟩=false then(memo0,0,4)else(⟨(zaQ bs p).1,s.1,r.1⟩,r.2.1,0)
abbrev zpD (m:Memo):RF:= .agg (m.enc.map RO.d)
theorem zgL {bs:List Int}:∀{n:Nat} {p:Int} {acc:List Grant},0≤p∧p≤bs.length→0≤(zbl bs n p acc).2.1∧(zbl bs n p acc).2.1≤bs.length
 |0,p,acc,h=>h
 |n+1,p,acc,h=>by
  rw[zbl]
  split
  ·simp only;omega
  ·split
   ·simp only;omega
   ·exact zgL zcx
theorem zcR {bs:List Int} (h:BsOk bs) {p:Int}:(0≤(zcQ bs p).2.1∧(zcQ bs p).2.1≤bs.length)∧zbS (zcQ bs p).1:=by
 have hl:=h.l
 have h0:(0≤((zpC,(0:Int),(0:Int)):Reply×Int×Int).2.1∧((zpC,(0:Int),(0:Int)):Reply×Int×Int).2.1≤bs.length)∧zbS zpC:=⟨by simp only;omega,by simp,by simp⟩
 unfold zcQ
 simp only
 split
 ·exact h0
 split
 ·exact h0
 split
 ·exact h0
 split
 ·exact h0
 split
 ·exact h0
 rename_i h5
 split
 ·exact h0
 split
 ·exact h0
 ·have hgk:=ze3 (bs:=bs) (n:=(zaQ bs (zaQ bs (zcz bs (zaQ bs p).2.1).2.1).2.1).1.toNat) (p:=(zaQ bs (zaQ bs (zcz bs (zaQ bs p).2.1).2.1).2.1).2.1) (acc:=[]) (by simp)
  simp only[List.length_nil]at hgk
  exact⟨zgL zbG,by simp only;omega,fun g hg=>by have:=hgk.2 g hg;omega⟩
set_option maxHeartbeats 1000000 in
theorem zgM (bs:List Int) (p:Int) (h:BsOk bs) (hp:i64 p):
  CallOK Tryz.prog 137 [.f (asl bs.length (zab bs)), .f (ai p)] (fun r o=>r=[zpD (zaR bs p).1,ri (zaR bs p).2.1,ri (zaR bs p).2.2]∧o=[]):=by
 refine CallOK.nil ?_
 refine zae zam mixed (T:=Ty) (n:=52) Tryz.func137 (c:=Tryz.f137.body.getD .skip) rfl Tryz.results137 Tryz.ntmps137 Tryz.call137 ?_
 simp only[Tryz.f137,Option.getD]
 have h1:=ze4 bs p h hp
 have h2:=zh0 bs (zaQ bs p).2.1 h (zbV h.l zbG)
 have h3:=zlT bs (zcz bs (zaQ bs p).2.1).2.1 h (zbV h.l zcx)
 have hf:=(zcR h (p:=(zcz bs (zaQ bs p).2.1).2.1)).2
 unfold zaR
 simp only
 obtain⟨b,hb⟩:∃b,b=zaQ bs p:=⟨_,rfl⟩
 rw[←hb]at h1 h2 h3 hf⊢
 obtain⟨s,hs⟩:∃s,s=zcz bs b.2.1:=⟨_,rfl⟩
 rw[←hs]at h2 h3 hf⊢
 obtain⟨a,ha⟩:∃a,a=zcQ bs s.2.1:=⟨_,rfl⟩
 rw[←ha]at h3 hf⊢
 have h4:=zex ⟨b.1,s.1,a.1⟩ hf
 cases e1:(b.2.2 !=0)
 ·rw[if_neg (by simpa using e1)]
  cases e2:(s.2.2 !=0)
  ·rw[if_neg (by simpa using e2)]
   cases e3:(a.2.2 !=0)
   ·rw[if_neg (by simpa using e3)]
    cases e7:answerB ⟨b.1,s.1,a.1⟩
    ·rw[e7]at h4
     rw[if_pos rfl]
     repeat'(first|refine zq (I e1 (I e2 e3)) ?_|exact zd (I e1 (I e2 e3))|refine zc (h1) ?_|refine zg (h1) ?_|refine zc (h2) ?_|refine zg (h2) ?_|refine zc (h3) ?_|refine zg (h3) ?_|refine zc (h4) ?_|refine zg (h4) ?_|(refine zaa ?_ ?_<;>intro hb)|(refine And.intro ?_ ?_;exact zI)|(refine And.intro ?_ ?_<;>intro hg)|exact zC|fail)
     show(zar _ _∧zar _ _∧zar _ _∧zar _ _∧zar _ _∧zar _ _∧True)∧zar _ _∧zar _ _∧True
     simp[zar]
    ·rw[e7]at h4
     rw[if_neg (by simp)]
     repeat'(first|refine zq (I e1 (I e2 e3)) ?_|exact zd (I e1 (I e2 e3))|refine zc (h1) ?_|refine zg (h1) ?_|refine zc (h2) ?_|refine zg (h2) ?_|refine zc (h3) ?_|refine zg (h3) ?_|refine zc (h4) ?_|refine zg (h4) ?_|(refine zaa ?_ ?_<;>intro hb)|(refine And.intro ?_ ?_;exact zI)|(refine And.intro ?_ ?_<;>intro hg)|exact zC|fail)
     show(zar _ _∧zar _ _∧zar _ _∧zar _ _∧zar _ _∧zar _ _∧True)∧zar _ _∧zar _ _∧True
     simp[zar]
   ·rw[if_pos (by simpa using e3)]
    repeat'(first|refine zq (I e1 (I e2 e3)) ?_|exact zd (I e1 (I e2 e3))|refine zc (h1) ?_|refine zg (h1) ?_|refine zc (h2) ?_|refine zg (h2) ?_|refine zc (h3) ?_|refine zg (h3) ?_|(refine zaa ?_ ?_<;>intro hb)|(refine And.intro ?_ ?_;exact zI)|(refine And.intro ?_ ?_<;>intro hg)|exact zC|fail)
    show(zar _ _∧zar _ _∧zar _ _∧zar _ _∧zar _ _∧zar _ _∧True)∧zar _ _∧zar _ _∧True
    simp[zar]
  ·rw[if_pos (by simpa using e2)]
   repeat'(first|refine zq (I e1 e2) ?_|exact zd (I e1 e2)|refine zc (h1) ?_|refine zg (h1) ?_|refine zc (h2) ?_|refine zg (h2) ?_|(refine zaa ?_ ?_<;>intro hb)|(refine And.intro ?_ ?_;exact zI)|(refine And.intro ?_ ?_<;>intro hg)|exact zC|fail)
   show(zar _ _∧zar _ _∧zar _ _∧zar _ _∧zar _ _∧zar _ _∧True)∧zar _ _∧zar _ _∧True
   simp[zar]
 ·rw[if_pos (by simpa using e1)]
  repeat'(first|refine zq e1 ?_|exact zd e1|refine zc (h1) ?_|refine zg (h1) ?_|(refine zaa ?_ ?_<;>intro hb)|(refine And.intro ?_ ?_;exact zI)|(refine And.intro ?_ ?_<;>intro hg)|exact zC|fail)
  show(zar _ _∧zar _ _∧zar _ _∧zar _ _∧zar _ _∧zar _ _∧True)∧zar _ _∧zar _ _∧True
  simp[zar]
def zdV (s:ByteArray):List Int:=(s.size:Int)::s.data.toList.map fun b=>(b.toNat:Int)
theorem zpy (s:ByteArray):zgS s=zab (zdV s):=by simp[zgS,zdV,zab,zif]
theorem zcd (s:ByteArray):(zdV s).length=1+s.size:=by simp[zdV,zcy,Nat.add_comm]
def ziV (g:Grant):List Int:=zdV g.name++zaX g.token
def zbp (l:List Grant):List Int:=l.flatMap ziV
def zbo (r:Reply):List Int:=[r.code]++(zaX r.session++([r.ahead,(r.held.length:Int)]++zbp r.held))
def zaV (m:Memo):List Int:=[m.client]++(zaX m.seq++zbo m.reply)
theorem zaH (n:Int):(zaX n).length=8:=rfl
theorem znI (g:Grant):(ziV g).length=9+g.name.size:=by simp[ziV,zcd,zaH];omega
theorem zdW:∀{l:List Grant} {k:Nat},(∀g∈l,g.name.size≤k)→(zbp l).length≤l.length*(9+k)
 |[],k,_=>by simp[zbp]
 |g::l,k,h=>by
  have h1:=zdW (l:=l) (k:=k) fun x hx=>h x (by simp[hx])
  have h2:=h g (by simp)
  rw[zbp,List.flatMap_cons,List.length_append,List.length_cons,znI,Nat.add_mul]
  unfold zbp at h1
  omega
theorem zpz (v:Int):IntKind.u8.wrap v=v % 256:=by
 unfold IntKind.wrap
 simp[IntKind.bits,IntKind.signed]
theorem zpA (v:Int) (k:Nat):zeC v k=v / (2^(8*(7 - k))) % 256:=by
 rw[zeC,zpz,Int.fdiv_eq_ediv_of_nonneg _ (Int.pow_nonneg (by decide))]
theorem zua (v:Int) (h:0≤v∧v<4611686018427387904):zd4 (zaX v)=v:=by
 have e:zaX v=[v / 72057594037927936 % 256,v / 281474976710656 % 256,v / 1099511627776 % 256,v / 4294967296 % 256,v / 16777216 % 256,v / 65536 % 256,v / 256 % 256,v % 256]:=by
  show List.map (zeC v) [0,1,2,3,4,5,6,7]=_
  simp only[List.map_cons,List.map_nil,zpA]
  simp
 rw[e]
 simp only[zd4,List.foldl_cons,List.foldl_nil]
 have d1:v / 65536=v / 256 / 256:=by omega
 have d2:v / 16777216=v / 65536 / 256:=by omega
 have d3:v / 4294967296=v / 16777216 / 256:=by omega
 have d4:v / 1099511627776=v / 4294967296 / 256:=by omega
 have d5:v / 281474976710656=v / 1099511627776 / 256:=by omega
 have d6:v / 72057594037927936=v / 281474976710656 / 256:=by omega
 have t0:0*256+v / 72057594037927936 % 256=v / 72057594037927936:=by omega
 have t1:v / 72057594037927936*256+v / 281474976710656 % 256=v / 281474976710656:=by rw[d6];omega
 have t2:v / 281474976710656*256+v / 1099511627776 % 256=v / 1099511627776:=by rw[d5];omega
 have t3:v / 1099511627776*256+v / 4294967296 % 256=v / 4294967296:=by rw[d4];omega
 have t4:v / 4294967296*256+v / 16777216 % 256=v / 16777216:=by rw[d3];omega
 have t5:v / 16777216*256+v / 65536 % 256=v / 65536:=by rw[d2];omega
 have t6:v / 65536*256+v / 256 % 256=v / 256:=by rw[d1];omega
 have t7:v / 256*256+v % 256=v:=by omega
 rw[t0,t1,t2,t3,t4,t5,t6,t7]
theorem zaM {bs a rest:List Int} {p:Nat} (h:bs.drop p=a++rest):bs.drop (p+a.length)=rest:=by
 rw[←List.drop_drop,h,List.drop_left]
theorem zlS {bs a rest:List Int} {p:Nat} (h:bs.drop p=a++rest) (ha:a≠[]):p+a.length≤bs.length:=by
 have:=congrArg List.length h
 rw[List.length_drop,List.length_append]at this
 have:0<a.length:=List.length_pos_iff.2 ha
 omega
theorem short_at {n p k:Nat} (h:p+k≤n):shortP n (p:Int) (k:Int)=false:=by
 unfold shortP
 simp;omega
theorem zf9 {bs:List Int} {p:Nat} {x:Int} {rest:List Int} (h:bs.drop p=[x]++rest):zaQ bs p=(x,((p+1:Nat):Int),0):=by
 have h1:=zlS h (by simp)
 simp only[List.length_singleton]at h1
 rw[zaQ,if_neg (by rw[show(1:Int)=((1:Nat):Int) from rfl,short_at h1];simp),Int.toNat_natCast]
 have:bs.getD p 0=x:=by
  have:=congrArg (fun l=>l[0]?) h
  simp only[List.getElem?_drop,Nat.add_zero,List.singleton_append,List.getElem?_cons_zero]at this
  rw[List.getD_eq_getElem?_getD,this];rfl
 rw[this];simp
theorem zjU {bs:List Int} {p:Nat} {v:Int} {rest:List Int} (h:bs.drop p=zaX v++rest) (hv:0≤v∧v<4611686018427387904):zcz bs p=(v,((p+8:Nat):Int),0):=by
 have h1:=zlS h (by intro h;have:=congrArg List.length h;rw[zaH]at this;simp at this)
 rw[zaH]at h1
 have h2:(bs.drop p).take 8=zaX v:=by rw[h];exact List.take_left' (zaH v)
 rw[zcz,if_neg (by rw[show(8:Int)=((8:Nat):Int) from rfl,short_at h1];simp),Int.toNat_natCast,h2,zua v hv,if_pos hv.2];simp
theorem znJ (s:ByteArray):strOf (s.data.toList.map fun b=>(b.toNat:Int))=s:=by
 unfold strOf
 rw[List.map_map]
 have:(fun n:Int=>UInt8.ofNat n.toNat)∘(fun b:UInt8=>(b.toNat:Int))=id:=by
  funext b;simp
 rw[this,List.map_id]
theorem zmP {bs:List Int} {p:Nat} {s:ByteArray} {most:Int} {rest:List Int} (h:bs.drop p=zdV s++rest) (hs:(s.size:Int)≤most):zbf bs p most=(s,((p+(1+s.size):Nat):Int),0):=by
 have h1:=zlS h (by simp[zdV])
 rw[zcd]at h1
 have hg:bs.getD p 0=(s.size:Int):=by
  have:=congrArg (fun l=>l[0]?) h
  simp only[List.getElem?_drop,Nat.add_zero,zdV,List.cons_append,List.getElem?_cons_zero]at this
  rw[List.getD_eq_getElem?_getD,this];rfl
 have h2:(bs.drop (p+1)).take s.size=s.data.toList.map fun b=>(b.toNat:Int):=by
  rw[←List.drop_drop,h,zdV,List.cons_append,List.drop_succ_cons,List.drop_zero]
  exact List.take_left' (by simp[zcy])
 have hs1:=short_at (n:=bs.length) (p:=p) (k:=1) (by omega)
 have hs2:=short_at (n:=bs.length) (p:=p+1) (k:=s.size) (by omega)
 rw[Int.natCast_add]at hs2
 simp only[Int.ofNat_one,Int.natCast_one]at hs1 hs2
 rw[zbf,if_neg (by rw[hs1];simp),Int.toNat_natCast,hg,if_neg (by simpa using hs),if_neg (by rw[hs2];simp),Int.toNat_natCast,h2,znJ]
 simp;omega
theorem ziW {bs:List Int}:∀{l:List Grant} {p:Nat} {acc:List Grant} {rest:List Int},bs.drop p=zbp l++rest→(∀g∈l,g.name.size≤12∧0≤g.token∧g.token<4611686018427387904)→
  zbl bs l.length p acc=(acc++l,((p+(zbp l).length:Nat):Int),0)
 |[],p,acc,rest,h,_=>by simp[zbl,zbp]
 |g::l,p,acc,rest,h,hg=>by
  obtain⟨g1,g2⟩:=hg g (by simp)
  have h1:bs.drop p=zdV g.name++(zaX g.token++(zbp l++rest)):=by rw[h];simp[zbp,ziV]
  have e1:=zmP h1 (most:=12) (by omega)
  have h2:=zaM h1
  rw[zcd]at h2
  have e2:=zjU h2 g2
  have h3:=zaM h2
  rw[zaH]at h3
  have ih:=ziW (l:=l) (acc:=acc++[g]) h3 fun x hx=>hg x (by simp[hx])
  rw[List.length_cons,zbl,e1]
  simp only
  rw[e2]
  simp only[ne_eq,not_true_eq_false,if_false]
  rw[show({name:=g.name,token:=g.token}:Grant)=g from rfl,ih]
  have:(zbp (g::l)).length=1+g.name.size+8+(zbp l).length:=by simp[zbp,ziV,zcd,zaH];omega
  rw[this,List.append_assoc]
  simp;omega
theorem zbY {r:Reply} (h:zbz r=true):(0≤r.code∧r.code≤12)∧(0≤r.session∧r.session≤2305843009213693952)∧(0≤r.ahead∧r.ahead≤3)∧r.held.length≤4∧za0 (zcA r.held) 0 r.held=true:=by
 unfold zbz at h
 have hH:zdu=2305843009213693952:=rfl
 simp only[Bool.and_eq_true,Bool.not_eq_true',Bool.or_eq_false_iff,decide_eq_false_iff_not,hH]at h
 obtain⟨⟨h1,h2⟩,h3⟩:=h
 refine⟨by omega,by omega,by omega,by omega,h3⟩
theorem ziX {α:Type} {q:Nat→α→Bool}:∀{l:List α} {i:Nat},za0 q i l=true→∀x∈l,∃k,q k x=true
 |[],_,_,x,hx=>by cases hx
 |a::l,i,h,x,hx=>by
  rw[za0]at h
  split at h
  ·rename_i hq
   rcases List.mem_cons.1 hx with rfl|hx
   ·exact⟨i,hq⟩
   ·exact ziX h x hx
  ·cases h
theorem zb5 {r:Reply} (h:zbz r=true):∀g∈r.held,g.name.size≤12∧0≤g.token∧g.token<4611686018427387904:=by
 intro g hg
 obtain⟨k,hk⟩:=ziX (zbY h).2.2.2.2 g hg
 unfold zcA at hk
 have hH:zdu=2305843009213693952:=rfl
 simp only[Bool.not_eq_true',Bool.or_eq_false_iff,decide_eq_false_iff_not,hH,Bool.not_eq_false']at hk
 obtain⟨⟨⟨h1,h2⟩,h3⟩,h4⟩:=hk
 have:nameP g.name=true:=by simpa using h1
 unfold nameP at this
 simp only[Bool.and_eq_true,decide_eq_true_eq]at this
 omega
theorem zpB {bs:List Int} {r:Reply} {p:Nat} {rest:List Int} (h:bs.drop p=zbo r++rest) (hr:zbz r=true):zcQ bs p=(r,((p+(zbo r).length:Nat):Int),0):=by
 obtain⟨f1,f2,f3,f4,f5⟩:=zbY hr
 have h1:bs.drop p=[r.code]++(zaX r.session++([r.ahead]++([(r.held.length:Int)]++(zbp r.held++rest)))):=by rw[h];simp[zbo]
 have e1:=zf9 h1
 have h2:=zaM h1
 have e2:=zjU (p:=p+[r.code].length) h2 (by omega)
 have h3:=zaM h2
 rw[zaH]at h3
 have e3:=zf9 h3
 have h4:=zaM h3
 have e4:=zf9 h4
 have h5:=zaM h4
 have e5:=ziW (acc:=[]) h5 (zb5 hr)
 simp only[List.length_singleton]at e2 e3 e4 e5
 rw[zcQ,e1]
 simp only[ne_eq,not_true_eq_false,if_false]
 rw[e2]
 simp only[ne_eq,not_true_eq_false,if_false]
 rw[e3]
 simp only[ne_eq,not_true_eq_false,if_false]
 rw[e4]
 simp only[ne_eq,not_true_eq_false,if_false,Int.toNat_natCast]
 rw[e5]
 simp only[ne_eq,not_true_eq_false,if_false,List.nil_append]
 rw[if_neg (by omega),show(⟨r.code,r.session,r.ahead,r.held⟩:Reply)=r from rfl,if_neg (by rw[hr];simp)]
 have:(zbo r).length=1+8+1+1+(zbp r.held).length:=by simp[zbo,zaH];omega
 rw[this]
 simp;omega
theorem zb6 {m:Memo} (h:answerB m=true):(0≤m.client∧m.client<8)∧(1≤m.seq∧m.seq≤2305843009213693952)∧zbz m.reply=true:=by
 unfold answerB at h
 have hH:zdu=2305843009213693952:=rfl
 simp only[Bool.and_eq_true,decide_eq_true_eq,hH]at h
 exact⟨by omega,by omega,h.2⟩
theorem znK {bs:List Int} {m:Memo} {p:Nat} {rest:List Int} (h:bs.drop p=zaV m++rest) (hm:answerB m=true):zaR bs p=(m,((p+(zaV m).length:Nat):Int),0):=by
 obtain⟨f1,f2,f3⟩:=zb6 hm
 have h1:bs.drop p=[m.client]++(zaX m.seq++(zbo m.reply++rest)):=by rw[h];simp[zaV]
 have e1:=zf9 h1
 have h2:=zaM h1
 have e2:=zjU (p:=p+[m.client].length) h2 (by omega)
 have h3:=zaM h2
 rw[zaH]at h3
 have e3:=zpB h3 f3
 simp only[List.length_singleton]at e2 e3
 rw[zaR,e1]
 simp only[ne_eq,not_true_eq_false,if_false]
 rw[e2]
 simp only[ne_eq,not_true_eq_false,if_false]
 rw[e3]
 simp only[ne_eq,not_true_eq_false,if_false]
 rw[show(⟨m.client,m.seq,m.reply⟩:Memo)=m from rfl,if_neg (by rw[hm];simp)]
 have:(zaV m).length=1+8+(zbo m.reply).length:=by simp[zaV,zaH];omega
 rw[this]
 simp;omega
theorem znH {l:List Grant} {i:Nat} (hi:i<l.length):zbp (l.take (i+1))=zbp (l.take i)++(zdV l[i].name++zaX l[i].token):=by
 rw[List.take_succ_eq_append_getElem hi,zbp,List.flatMap_append];simp[zbp,ziV]
def zjT (r:Reply):List Int:=[r.code]++(zaX r.session++[r.ahead,(r.held.length:Int)])
def zdM (r:Reply) (i:Nat):List Int:=zjT r++zbp (r.held.take i)
theorem zf7 {r:Reply} {i:Nat} (hi:i<r.held.length):zdM r (i+1)=(zdM r i++zdV r.held[i].name)++zaX r.held[i].token:=by
 rw[zdM,znH hi,zdM];simp
theorem zf8 {r:Reply}:zdM r 0=zjT r:=by simp[zdM,zbp]
theorem zmO {r:Reply}:zdM r r.held.length=zbo r:=by simp[zdM,zjT,zbo]
theorem zeA (r:Reply):(zjT r).length=11:=by simp[zjT,zaH]
set_option maxHeartbeats 1000000 in
theorem zlR (r:Reply) (h:zbz r=true):CallOK Tryz.prog 77 [.f (.agg r.lent)] (fun x o=>x=[.one (.own 1 (zbo r).length (zab (zbo r)) false),ri 0]∧o=[]):=by
 obtain⟨f1,f2,f3,f4,f5⟩:=zbY h
 have hgr:=zb5 h
 refine zae zam mixed (T:=Ty) (n:=63) Tryz.func77 (c:=Tryz.f77.body.getD .skip) rfl Tryz.results77 Tryz.ntmps77 Tryz.call77 ?_
 simp only[Tryz.f77,Option.getD]
 have hmy:=zdR r ⟨by omega,fun g hg=>by have:=(hgr g hg).1;omega⟩
 rw[h]at hmy
 have hpn:=zga r.session (by omega)
 have w1:IntKind.u8.wrap r.code=r.code:=zcU (by omega) (by omega)
 have w2:IntKind.u8.wrap r.ahead=r.ahead:=zcU (by omega) (by omega)
 have w3:IntKind.u8.wrap (r.held.length:Int)=r.held.length:=zcU (by omega) (by omega)
 have hcc:CallOK Tryz.prog 30 [.f (al 3 [.sl 1 (zab [r.code]), .sl 8 (zab (zaX r.session)), .sl 2 (zab [r.ahead,(r.held.length:Int)])])] (fun x o=>x=[.one (.own 1 11 (zab (zjT r)) false)]∧o=[]):=by
  have hc:=zh4 [zab [r.code],zab (zaX r.session),zab [r.ahead,(r.held.length:Int)]] (by simp) (fun l hl=>by
   simp only[List.mem_cons,List.not_mem_nil,or_false]at hl
   rcases hl with rfl|rfl|rfl
   ·simp
   ·rw[zcg];decide
   ·simp)
  rw[show [zab [r.code],zab (zaX r.session),zab [r.ahead,(r.held.length:Int)]].flatten=zab (zjT r) from by simp[zjT,zab]]at hc
  rw[show(zab (zjT r)).length=11 from by rw[List.length_map,zeA]]at hc
  exact hc
 have t1:(zab (zaX r.session)).take 8=zab (zaX r.session):=List.take_of_length_le (by rw[zcg];decide)
 have t2:toDs (sub 0 2 1 [C.d (uD r.ahead),C.d (uD (r.held.length:Int))])=some [uD r.ahead,uD (r.held.length:Int)]:=rfl
 repeat'(first|refine zq (I t1 (I t2 (I w1 (I w2 w3)))) ?_|exact zd (I t1 (I t2 (I w1 (I w2 w3))))|refine zc (hmy) ?_|refine zg (hmy) ?_|refine zc (hpn) ?_|refine zg (hpn) ?_|refine zc (hcc) ?_|refine zg (hcc) ?_|(refine zaa ?_ ?_<;>intro hb)|(refine And.intro ?_ ?_;exact zI)|(refine And.intro ?_ ?_<;>intro hg)|exact zC|fail)
 refine zah (τ:=Nat) (fun i=>⟨[dd, .one (.ptr ⟨1,0,1⟩ 0),dd,dd,dd,dd, .one (.own ⟨6,1,1⟩ 0 (zdM r i).length),dd,dd,dd,dd,dd,dd,dd,dd,dd,dd,dd,dd,dd,dd,dd,dd,dd,dd,dd,dd,dd,dd,dd,dd,dd,dd,dd,dd,dd,dd,dd,al r.held.length (zaO r.held),ai r.held.length,ai i,dd,dd,dd,dd,dd,dd,dd,dd,dd,dd,dd,dd,dd,dd,dd,dd,dd,dd,dd,dd,dd,dd],[(1,{next:=2,l:=[some {e:=1,var:=true,fz:=false,sz:=0,cells:=[di r.code,di r.session,di r.ahead, .lent r.held.length (zaO r.held)]},none,none,none,none]}),(19,⟨2,[]⟩),(4,⟨2,[]⟩),(25,⟨2,[]⟩),(34,⟨2,[]⟩),(35,⟨2,[]⟩),(36,⟨2,[]⟩),(6,{next:=2,l:=[none,some {e:=1,var:=false,fz:=false,sz:=1,cells:=(zab (zdM r i)).map C.d}]}),(8,⟨2,[]⟩),(9,⟨2,[]⟩),(11,⟨2,[]⟩),(47,⟨2,[]⟩),(53,⟨2,[]⟩),(58,⟨2,[]⟩),(60,⟨2,[]⟩)]⟩)
  (fun i=>i≤r.held.length) (fun _=>()) (fun i=>r.held.length - i) 0
  (Gh.canon [1,6] [8,9,11,47,53,58,60] [] (zk (I @zf8 @zeA)) rfl (by rw[zf8];rfl)) (Nat.zero_le _) ?_
 intro i hi0 hF K hK
 refine zw ?_
 refine zaa (fun hlt=> ?_) (fun hge=> ?_)
 ·have hi:i<r.held.length:=by simpa using hlt
  have hat:=zbL hi
  have hw:=zai hi (by omega)
  have hg:=hgr _ (List.getElem_mem hi)
  have hpt:=zi0 r.held[i].name (by omega)
  have hpm:=zga r.held[i].token hg.2
  have hlb:(zdM r i).length≤11+4*21:=by
   rw[zdM,List.length_append,zeA]
   have:=zdW (l:=r.held.take i) (k:=12) fun g hx=>(hgr g (List.mem_of_mem_take hx)).1
   have:(r.held.take i).length≤4:=by rw[List.length_take];omega
   omega
  have hle:((zdM r i).length+(1+r.held[i].name.size)≤2^47)=True:=eq_true (by omega)
  have hle2:((zdM r i).length+(1+r.held[i].name.size)+8≤2^47)=True:=eq_true (by omega)
  have k1:(zgS r.held[i].name).take (1+r.held[i].name.size)=zgS r.held[i].name:=List.take_of_length_le (by rw[zeD];exact Nat.le_refl _)
  have k2:(zab (zaX r.held[i].token)).take 8=zab (zaX r.held[i].token):=List.take_of_length_le (by rw[zcg];decide)
  have k3:(zab (zdM r i)).take (zdM r i).length=zab (zdM r i):=List.take_of_length_le (by rw[List.length_map];exact Nat.le_refl _)
  have k4:(zab (zdM r i)++zgS r.held[i].name).take ((zdM r i).length+(1+r.held[i].name.size))=zab (zdM r i)++zgS r.held[i].name:=List.take_of_length_le (by rw[List.length_append,List.length_map,zeD];exact Nat.le_refl _)
  have hsl:(zdM r (i+1)).length=(zdM r i).length+(1+r.held[i].name.size)+8:=by rw[zf7 hi,List.length_append,List.length_append,zcd,zaH]
  repeat'(first|refine zq (I hat (I @zaw (I hle (I hle2 (I k1 (I k2 (I k3 (I k4 (I @zeD (I @List.length_map.{0,0} (I @zaH zca))))))))))) ?_|exact zd (I hat (I @zaw (I hle (I hle2 (I k1 (I k2 (I k3 (I k4 (I @zeD (I @List.length_map.{0,0} (I @zaH zca)))))))))))|refine zc (hpt) ?_|refine zg (hpt) ?_|refine zc (hpm) ?_|refine zg (hpm) ?_|(refine zaa ?_ ?_<;>intro hb)|(refine And.intro ?_ ?_;exact zI)|(refine And.intro ?_ ?_<;>intro hg)|exact zC|fail)
  exact hK _ (i+1) (Gh.canon [1,6] [] [] (zk (I hw hsl)) rfl (by rw[zf7 hi,zpy];simp only[zab,List.map_append];rfl)) hi rfl (by omega)
 ·have hi:i=r.held.length:=by
   have:¬(i:Int)<r.held.length:=by simpa using hge
   omega
  subst hi
  repeat'(first|refine zq0 ?_|exact zd0|(refine zaa ?_ ?_<;>intro hb)|(refine And.intro ?_ ?_;exact zI)|(refine And.intro ?_ ?_<;>intro hg)|exact zC|fail)
  rw[zmO]
theorem zgx {r:Reply} (h:zbz r=true):(zbo r).length≤95:=by
 have hgr:=zb5 h
 have hf:=(zbY h).2.2.2.1
 have:=zdW (l:=r.held) (k:=12) fun g hg=>(hgr g hg).1
 have e:(zbo r).length=11+(zbp r.held).length:=by simp[zbo,zaH];omega
 omega
theorem zfu {m:Memo} (h:answerB m=true):(zaV m).length≤104:=by
 have:=zgx (zb6 h).2.2
 have e:(zaV m).length=9+(zbo m.reply).length:=by simp[zaV,zaH];omega
 omega
theorem zhZ {m:Memo} (h:answerB m=true):zbS m.reply:=by
 have hgr:=zb5 (zb6 h).2.2
 have hf:=(zbY (zb6 h).2.2).2.2.2.1
 exact⟨by omega,fun g hg=>by have:=(hgr g hg).1;omega⟩
theorem zk5 (m:Memo) (h:answerB m=true):CallOK Tryz.prog 34 [.f (.agg m.lent)] (fun x o=>x=[.one (.own 1 (zaV m).length (zab (zaV m)) false),ri 0]∧o=[]):=by
 refine zae zam mixed (T:=Ty) (n:=31) Tryz.func34 (c:=Tryz.f34.body.getD .skip) rfl Tryz.results34 Tryz.ntmps34 Tryz.call34 ?_
 simp only[Tryz.f34,Option.getD]
 obtain⟨f1,f2,f3⟩:=zb6 h
 have hmy:=zex m (zhZ h)
 rw[h]at hmy
 have hpn:=zga m.seq (by omega)
 have hpr:=zlR m.reply f3
 have hrl:=zgx f3
 have w1:IntKind.u8.wrap m.client=m.client:=zcU (by omega) (by omega)
 have hcc:CallOK Tryz.prog 30 [.f (al 3 [.sl 1 (zab [m.client]), .sl 8 (zab (zaX m.seq)), .sl (zbo m.reply).length (zab (zbo m.reply))])] (fun x o=>x=[.one (.own 1 (zaV m).length (zab (zaV m)) false)]∧o=[]):=by
  have hc:=zh4 [zab [m.client],zab (zaX m.seq),zab (zbo m.reply)] (by simp) (fun l hl=>by
   simp only[List.mem_cons,List.not_mem_nil,or_false]at hl
   rcases hl with rfl|rfl|rfl
   ·simp
   ·rw[zcg];decide
   ·rw[List.length_map];omega)
  rw[show [zab [m.client],zab (zaX m.seq),zab (zbo m.reply)].flatten=zab (zaV m) from by simp[zaV,zab]]at hc
  simp only[zpZ,List.map_cons,List.map_nil,List.length_map,List.length_cons,List.length_nil,zaH]at hc
  exact hc
 have t1:(zab (zaX m.seq)).take 8=zab (zaX m.seq):=List.take_of_length_le (by rw[zcg];decide)
 have t2:(zab (zbo m.reply)).take (zbo m.reply).length=zab (zbo m.reply):=List.take_of_length_le (by rw[List.length_map];exact Nat.le_refl _)
 repeat'(first|refine zq (I t1 (I t2 w1)) ?_|exact zd (I t1 (I t2 w1))|refine zc (hmy) ?_|refine zg (hmy) ?_|refine zc (hpn) ?_|refine zg (hpn) ?_|refine zc (hpr) ?_|refine zg (hpr) ?_|refine zc (hcc) ?_|refine zg (hcc) ?_|(refine zaa ?_ ?_<;>intro hb)|(refine And.intro ?_ ?_;exact zI)|(refine And.intro ?_ ?_<;>intro hg)|exact zC|fail)
theorem zdU (v:Int) (h:0≤v∧v<4611686018427387904):CallOK Tryz.prog 31 [.f (ai v)] (fun r o=>r=[.one (.own 1 8 (zab (zaX v)) false)]∧o=[]):=by
 refine zae zam mixed (T:=Ty) (n:=11) Tryz.func31 (c:=Tryz.f31.body.getD .skip) rfl Tryz.results31 Tryz.ntmps31 Tryz.call31 ?_
 simp only[Tryz.f31,Option.getD]
 have hp:=zga v h
 repeat'(first|refine zq0 ?_|exact zd0|refine zc (hp) ?_|refine zg (hp) ?_|(refine zaa ?_ ?_<;>intro hb)|(refine And.intro ?_ ?_;exact zI)|(refine And.intro ?_ ?_<;>intro hg)|exact zC|fail)
theorem ziU:∀ls:List (List Int),(ls.map zab).flatten=zab ls.flatten
 |[]=>rfl
 |l::ls=>by simp only[List.map_cons,List.flatten_cons,ziU ls,List.map_append]
theorem zjQ (ls:List (List Int)) (hl:ls.length<2^10) (hs:∀l∈ls,l.length≤2^12):
  CallOK Tryz.prog 30 [.f (al ls.length (ls.map fun l=> .sl l.length (zab l)))] (fun r o=>r=[.one (.own 1 ls.flatten.length (zab ls.flatten) false)]∧o=[]):=by
 have h:=zh4 (ls.map zab) (by simpa using hl) (fun l h=>by
  obtain⟨x,hx,rfl⟩:=List.mem_map.1 h
  rw[List.length_map];exact hs x hx)
 rw[ziU,zaA,List.length_map]at h
 have e:zpZ (ls.map zab)=ls.map fun l=> .sl l.length (zab l):=by
  rw[zpZ,List.map_map]
  exact List.map_congr_left fun l _=>by simp only[Function.comp,zaA]
 rw[e]at h
 exact h
def zgQ (x:Sess):List Int:=x.client::(zaX x.num++zaX x.renewed)
def lk0 (k:Lk):List Int:=zdV k.name++(k.holder::(zaX k.token++[(k.line.length:Int)]))
def zgR (k:Lk):List Int:=lk0 k++k.line
def zhT (s:St):List Int:=zaX s.time++(zaX s.num++(zaX s.token++[(s.sess.length:Int)]))
def sb1 (s:St) (i:Nat):List Int:=zhT s++(s.sess.take i).flatMap zgQ
def sb2 (s:St) (i:Nat):List Int:=(sb1 s s.sess.length++[(s.locks.length:Int)])++(s.locks.take i).flatMap zgR
def sb3 (s:St) (i:Nat):List Int:=(sb2 s s.locks.length++[(s.memos.length:Int)])++(s.memos.take i).flatMap zaV
def zcl (s:St):List Int:=sb3 s s.memos.length
theorem zez {α:Type} (f:α→List Int) {l:List α} {i:Nat} (hi:i<l.length):(l.take (i+1)).flatMap f=(l.take i).flatMap f++f l[i]:=by
 rw[List.take_succ_eq_append_getElem hi,List.flatMap_append];simp
theorem zjR {s:St} {i:Nat} (hi:i<s.sess.length):sb1 s (i+1)=sb1 s i++zgQ s.sess[i]:=by rw[sb1,zez _ hi,sb1,List.append_assoc]
theorem zrc {s:St} {i:Nat} (hi:i<s.locks.length):sb2 s (i+1)=sb2 s i++zgR s.locks[i]:=by rw[sb2,zez _ hi,sb2,←List.append_assoc]
theorem zha {s:St} {i:Nat} (hi:i<s.memos.length):sb3 s (i+1)=sb3 s i++zaV s.memos[i]:=by rw[sb3,zez _ hi,sb3,←List.append_assoc]
theorem zhb {s:St}:sb1 s 0=zhT s:=by simp[sb1]
theorem zhc {s:St}:sb2 s 0=sb1 s s.sess.length++[(s.locks.length:Int)]:=by simp[sb2]
theorem zhd {s:St}:sb3 s 0=sb2 s s.locks.length++[(s.memos.length:Int)]:=by simp[sb3]
theorem ze1 {α:Type} (f:α→List Int) {k:Nat}:∀{l:List α},(∀x∈l,(f x).length≤k)→(l.flatMap f).length≤l.length*k
 |[],_=>by simp
 |x::l,h=>by
  rw[List.flatMap_cons,List.length_append,List.length_cons,Nat.add_mul]
  have:=h x (by simp)
  have:=ze1 f (l:=l) fun y hy=>h y (by simp[hy])
  omega
theorem zf4 (s:St):(zhT s).length=25:=by simp[zhT,zaH]
theorem zhU (x:Sess):(zgQ x).length=17:=by simp[zgQ,zaH]
theorem zhV (k:Lk):(lk0 k).length=11+k.name.size:=by simp[lk0,zaH,zcd];omega
theorem zhW (s:St) (i:Nat):(sb1 s i).length≤25+i*17:=by
 rw[sb1,List.length_append,zf4]
 have:=ze1 zgQ (l:=s.sess.take i) (k:=17) fun x _=>by rw[zhU];exact Nat.le_refl _
 have h2:(s.sess.take i).length≤i:=by rw[List.length_take];omega
 have:=Nat.mul_le_mul_right 17 h2
 omega
theorem ze2 {s:St} (h:RightS s) {k:Lk} (hk:k∈s.locks):(zgR k).length≤26∧k.name.size≤12∧(0≤k.holder∧k.holder≤255)∧(0≤k.token∧k.token<4611686018427387904)∧k.line.length≤3∧∀c∈k.line,0≤c∧c≤255:=by
 have hH:zdu=2305843009213693952:=rfl
 obtain⟨a,_,b,_⟩:=h.lok k hk
 obtain⟨h1,h2,h3⟩:=zl3.1 a
 obtain⟨l1,l2,_⟩:=zj4.1 b
 have hs:=zgi h1
 refine⟨?_,hs,by omega,by omega,l1,fun c hc=> ?_⟩
 ·rw[zgR,List.length_append,zhV];omega
 ·have:=l2 c hc
  simp only[isClient,Bool.and_eq_true,decide_eq_true_eq]at this
  omega
def zgK (s:St) (i:Nat) (k:Lk) (j:Nat):List Int:=(sb2 s i++lk0 k)++k.line.take j
theorem zhX {s:St} {i:Nat} {k:Lk}:zgK s i k 0=sb2 s i++lk0 k:=by simp[zgK]
theorem zf5 {s:St} {i:Nat} {k:Lk} {j:Nat} (hj:j<k.line.length):zgK s i k (j+1)=zgK s i k j++[k.line[j]]:=by
 rw[zgK,List.take_succ_eq_append_getElem hj,←List.append_assoc,zgK]
theorem zhe {s:St} {i:Nat} (hi:i<s.locks.length):zgK s i s.locks[i] s.locks[i].line.length=sb2 s (i+1):=by
 rw[zgK,List.take_length,zrc hi,zgR,List.append_assoc]
theorem zhY {s:St} (h:RightS s) (i:Nat):(sb2 s i).length≤115+i*26:=by
 rw[sb2,List.length_append,List.length_append]
 have:=zhW s s.sess.length
 have:=h.sl
 have:=ze1 zgR (l:=s.locks.take i) (k:=26) fun x hx=>(ze2 h (List.mem_of_mem_take hx)).1
 have h2:(s.locks.take i).length≤i:=by rw[List.length_take];omega
 have:=Nat.mul_le_mul_right 26 h2
 simp only[List.length_singleton]
 omega
theorem zf6 {s:St} (h:RightS s):s.memos.length≤8:=by
 have:=zgj (a:=0) (b:=8) (zrq.1 h.ms) (fun x hx=>by
  obtain⟨m,hm,rfl⟩:=List.mem_map.1 hx
  exact(zdN (h.mok m hm)).1)
 rw[List.length_map]at this
 omega
theorem zjS {s:St} (h:RightS s) (i:Nat):(sb3 s i).length≤250+i*104:=by
 rw[sb3,List.length_append,List.length_append]
 have:=zhY h s.locks.length
 have:=h.ll
 have:=ze1 zaV (l:=s.memos.take i) (k:=104) fun x hx=>zfu (h.mok x (List.mem_of_mem_take hx))
 have h2:(s.memos.take i).length≤i:=by rw[List.length_take];omega
 have:=Nat.mul_le_mul_right 104 h2
 simp only[List.length_singleton]
 omega
theorem zaB {l:List Int}:(zab l).take l.length=zab l:=List.take_of_length_le (by rw[zaA];exact Nat.le_refl _)
set_option maxHeartbeats 4000000 in
theorem zgw (s:St) (h:RightS s):CallOK Tryz.prog 14 [.f (.agg s.lent)] (fun r o=>r=[.one (.own 1 (zcl s).length (zab (zcl s)) false),ri 0]∧o=[]):=by
 refine zae zam mixed (T:=Ty) (n:=137) Tryz.func14 (c:=Tryz.f14.body.getD .skip) rfl Tryz.results14 Tryz.ntmps14 Tryz.call14 ?_
 simp only[Tryz.f14,Option.getD]
 have hri:=zgV s (zbJ h)
 rw[zbP.2 h]at hri
 have hH:zdu=2305843009213693952:=rfl
 have ht:=h.time
 have hn:=h.num
 have hk:=h.token
 have hsl:=h.sl
 have hll:=h.ll
 have n1:=zdU s.time (by omega)
 have n2:=zdU s.num (by omega)
 have n3:=zdU s.token (by omega)
 have w1:IntKind.u8.wrap (s.sess.length:Int)=s.sess.length:=zcU (by omega) (by omega)
 have hcc:CallOK Tryz.prog 30 [.f (al 4 [.sl 8 (zab (zaX s.time)), .sl 8 (zab (zaX s.num)), .sl 8 (zab (zaX s.token)), .sl 1 (zab [(s.sess.length:Int)])])] (fun x o=>x=[.one (.own 1 25 (zab (zhT s)) false)]∧o=[]):=by
  have hc:=zjQ [zaX s.time,zaX s.num,zaX s.token,[(s.sess.length:Int)]] (by simp) (fun l hl=>by
   simp only[List.mem_cons,List.not_mem_nil,or_false]at hl
   rcases hl with rfl|rfl|rfl|rfl<;>simp[zaH])
  rw[show [zaX s.time,zaX s.num,zaX s.token,[(s.sess.length:Int)]].flatten=zhT s from by simp[zhT],zf4]at hc
  exact hc
 have t8:∀v:Int,(zab (zaX v)).take 8=zab (zaX v):=fun v=>List.take_of_length_le (by rw[zcg];decide)
 have t1:∀x:Int,toDs (sub 0 1 1 [C.d (uD x)])=some [uD x]:=fun _=>rfl
 repeat'(first|refine zq (I t8 (I t1 w1)) ?_|exact zd (I t8 (I t1 w1))|refine zc (hri) ?_|refine zg (hri) ?_|refine zc (n1) ?_|refine zg (n1) ?_|refine zc (n2) ?_|refine zg (n2) ?_|refine zc (n3) ?_|refine zg (n3) ?_|refine zc (hcc) ?_|refine zg (hcc) ?_|(refine zaa ?_ ?_<;>intro hb)|(refine And.intro ?_ ?_;exact zI)|(refine And.intro ?_ ?_<;>intro hg)|exact zC|fail)
 refine zah (τ:=Nat) (fun i=>⟨[dd, .one (.ptr ⟨1,0,1⟩ 0),dd,dd, .one (.own ⟨4,1,1⟩ 0 (sb1 s i).length),dd,dd,dd,dd,dd,dd,dd,dd,dd,dd,dd,dd,dd,dd,dd,dd,dd,dd,dd,dd,dd,dd,dd,dd,dd,dd,dd,dd,dd,dd,dd,dd,al s.sess.length (zaN s.sess),ai s.sess.length,ai i,dd,dd,dd,dd,dd,dd,dd,dd,dd,dd,dd,dd,dd,dd,dd,dd,dd,dd,dd,dd,dd,dd,dd,dd,dd,dd,dd,dd,dd,dd,dd,dd,dd,dd,dd,dd,dd,dd,dd,dd,dd,dd,dd,dd,dd,dd,dd,dd,dd,dd,dd,dd,dd,dd,dd,dd,dd,dd,dd,dd,dd,dd,dd,dd,dd,dd,dd,dd,dd,dd,dd,dd,dd,dd,dd,dd,dd,dd,dd,dd,dd,dd,dd,dd,dd,dd,dd,dd,dd,dd,dd,dd,dd,dd,dd,dd,dd],[(1,{next:=2,l:=[some {e:=1,var:=true,fz:=false,sz:=0,cells:=[di s.time,di s.num,di s.token, .lent s.sess.length (zaN s.sess), .lent s.locks.length (zax s.locks), .lent s.memos.length (zaG s.memos)]},none,none,none,none,none,none]}),(22,⟨2,[]⟩),(25,⟨2,[]⟩),(28,⟨2,[]⟩),(33,⟨2,[]⟩),(34,⟨2,[]⟩),(35,⟨2,[]⟩),(4,{next:=2,l:=[none,some {e:=1,var:=false,fz:=false,sz:=1,cells:=(zab (sb1 s i)).map C.d}]}),(6,⟨2,[]⟩),(47,⟨2,[]⟩),(50,⟨2,[]⟩),(53,⟨2,[]⟩),(54,⟨2,[]⟩),(55,⟨2,[]⟩)]⟩)
  (fun i=>i≤s.sess.length) (fun _=>()) (fun i=>s.sess.length - i) 0
  (Gh.canon [1,4] [6,47,50,53,54,55] [] (zk (I @zhb @zf4)) rfl (by rw[zhb];rfl)) (Nat.zero_le _) ?_
 intro i hi0 hF K hK
 refine zw ?_
 refine zaa (fun hlt=> ?_) (fun hge=> ?_)
 ·have hi:i<s.sess.length:=by simpa using hlt
  have hat:=zbu hi
  have hw:=zai hi (by omega)
  obtain⟨f1,f2,f3⟩:=zgk.1 (h.sok _ (List.getElem_mem hi)).1
  simp only[isClient,Bool.and_eq_true,decide_eq_true_eq]at f1
  have wc:IntKind.u8.wrap s.sess[i].client=s.sess[i].client:=zcU (by omega) (by omega)
  have m1:=zdU s.sess[i].num (by omega)
  have m2:=zdU s.sess[i].renewed (by omega)
  have hb:=zhW s i
  have hcc:CallOK Tryz.prog 30 [.f (al 4 [.sl (sb1 s i).length (zab (sb1 s i)), .sl 1 (zab [s.sess[i].client]), .sl 8 (zab (zaX s.sess[i].num)), .sl 8 (zab (zaX s.sess[i].renewed))])] (fun x o=>x=[.one (.own 1 (sb1 s (i+1)).length (zab (sb1 s (i+1))) false)]∧o=[]):=by
   have hc:=zjQ [sb1 s i,[s.sess[i].client],zaX s.sess[i].num,zaX s.sess[i].renewed] (by simp) (fun l hl=>by
    simp only[List.mem_cons,List.not_mem_nil,or_false]at hl
    rcases hl with rfl|rfl|rfl|rfl
    ·omega
    ·simp
    ·rw[zaH];decide
    ·rw[zaH];decide)
   rw[show [sb1 s i,[s.sess[i].client],zaX s.sess[i].num,zaX s.sess[i].renewed].flatten=sb1 s (i+1) from by rw[zjR hi];simp[zgQ]]at hc
   exact hc
  repeat'(first|refine zq (I hat (I @zas (I t8 (I t1 (I wc (I @zaB zca)))))) ?_|exact zd (I hat (I @zas (I t8 (I t1 (I wc (I @zaB zca))))))|refine zc (m1) ?_|refine zg (m1) ?_|refine zc (m2) ?_|refine zg (m2) ?_|refine zc (hcc) ?_|refine zg (hcc) ?_|(refine zaa ?_ ?_<;>intro hb)|(refine And.intro ?_ ?_;exact zI)|(refine And.intro ?_ ?_<;>intro hg)|exact zC|fail)
  exact hK _ (i+1) (Gh.canon [1,4] [] [] (zk hw) rfl rfl) hi rfl (by omega)
 ·have hi:i=s.sess.length:=by
   have:¬(i:Int)<s.sess.length:=by simpa using hge
   omega
  subst hi
  clear hK
  have w2:IntKind.u8.wrap (s.locks.length:Int)=s.locks.length:=zcU (by omega) (by omega)
  have hb:=zhW s s.sess.length
  have hle:((sb1 s s.sess.length).length+1≤2^47)=True:=eq_true (by omega)
  repeat'(first|refine zq (I hle (I t1 (I w2 @zaB))) ?_|exact zd (I hle (I t1 (I w2 @zaB)))|(refine zaa ?_ ?_<;>intro hb)|(refine And.intro ?_ ?_;exact zI)|(refine And.intro ?_ ?_<;>intro hg)|exact zC|fail)
  refine zah (τ:=Nat) (fun i=>⟨[dd, .one (.ptr ⟨1,0,1⟩ 0),dd,dd, .one (.own ⟨4,1,1⟩ 0 (sb2 s i).length),dd,dd,dd,dd,dd,dd,dd,dd,dd,dd,dd,dd,dd,dd,dd,dd,dd,dd,dd,dd,dd,dd,dd,dd,dd,dd,dd,dd,dd,dd,dd,dd,dd,dd,dd,dd,dd,dd,dd,dd,dd,dd,dd,dd,dd,dd,dd,dd,dd,dd,dd,dd,dd,dd,dd,dd,dd,dd,dd,dd,al s.locks.length (zax s.locks),ai s.locks.length,ai i,dd,dd,dd,dd,dd,dd,dd,dd,dd,dd,dd,dd,dd,dd,dd,dd,dd,dd,dd,dd,dd,dd,dd,dd,dd,dd,dd,dd,dd,dd,dd,dd,dd,dd,dd,dd,dd,dd,dd,dd,dd,dd,dd,dd,dd,dd,dd,dd,dd,dd,dd,dd,dd,dd,dd,dd,dd,dd,dd,dd,dd,dd,dd,dd,dd,dd,dd,dd,dd],[(1,{next:=2,l:=[some {e:=1,var:=true,fz:=false,sz:=0,cells:=[di s.time,di s.num,di s.token, .lent s.sess.length (zaN s.sess), .lent s.locks.length (zax s.locks), .lent s.memos.length (zaG s.memos)]},none,none,none,none,none,none]}),(22,⟨2,[]⟩),(25,⟨2,[]⟩),(28,⟨2,[]⟩),(33,⟨2,[]⟩),(34,⟨2,[]⟩),(35,⟨2,[]⟩),(4,{next:=2,l:=[none,some {e:=1,var:=false,fz:=false,sz:=1,cells:=(zab (sb2 s i)).map C.d}]}),(6,⟨2,[]⟩),(47,⟨2,[]⟩),(50,⟨2,[]⟩),(53,⟨2,[]⟩),(54,⟨2,[]⟩),(55,⟨2,[]⟩),(62,⟨2,[]⟩),(8,⟨2,[]⟩),(9,⟨2,[]⟩),(74,⟨2,[]⟩),(82,⟨2,[]⟩),(85,⟨2,[]⟩),(90,⟨2,[]⟩),(91,⟨2,[]⟩),(92,⟨2,[]⟩),(103,⟨2,[]⟩),(104,⟨2,[]⟩)]⟩)
   (fun i=>i≤s.locks.length) (fun _=>()) (fun i=>s.locks.length - i) 0
   (Gh.canon [1,4] [8,9,74,82,85,90,91,92,103,104] [] (zk (I @zhc (I @List.length_append.{0} @List.length_singleton.{0}))) rfl (by rw[zhc];simp only[zab,List.map_append];rfl)) (Nat.zero_le _) ?_
  intro i hi0 hF K hK
  refine zw ?_
  refine zaa (fun hlt=> ?_) (fun hge=> ?_)
  ·have hi:i<s.locks.length:=by simpa using hlt
   have hat:=zbd hi
   have hw:=zai hi (by omega)
   obtain⟨q0,q1,q2,q3,q4,q5⟩:=ze2 h (List.getElem_mem hi)
   have wc:IntKind.u8.wrap s.locks[i].holder=s.locks[i].holder:=zcU (by omega) (by omega)
   have wl:IntKind.u8.wrap (s.locks[i].line.length:Int)=s.locks[i].line.length:=zcU (by omega) (by omega)
   have m1:=zi0 s.locks[i].name (by omega)
   have m2:=zdU s.locks[i].token (by omega)
   have hb:=zhY h i
   have tt:(zgS s.locks[i].name).take (1+s.locks[i].name.size)=zgS s.locks[i].name:=List.take_of_length_le (by rw[zeD];exact Nat.le_refl _)
   have hcc:CallOK Tryz.prog 30 [.f (al 5 [.sl (sb2 s i).length (zab (sb2 s i)), .sl (1+s.locks[i].name.size) (zgS s.locks[i].name), .sl 1 (zab [s.locks[i].holder]), .sl 8 (zab (zaX s.locks[i].token)), .sl 1 (zab [(s.locks[i].line.length:Int)])])] (fun x o=>x=[.one (.own 1 (zgK s i s.locks[i] 0).length (zab (zgK s i s.locks[i] 0)) false)]∧o=[]):=by
    have hc:=zjQ [sb2 s i,zdV s.locks[i].name,[s.locks[i].holder],zaX s.locks[i].token,[(s.locks[i].line.length:Int)]] (by simp) (fun l hl=>by
     simp only[List.mem_cons,List.not_mem_nil,or_false]at hl
     rcases hl with rfl|rfl|rfl|rfl|rfl
     ·omega
     ·rw[zcd];omega
     ·simp
     ·rw[zaH];decide
     ·simp)
    rw[show [sb2 s i,zdV s.locks[i].name,[s.locks[i].holder],zaX s.locks[i].token,[(s.locks[i].line.length:Int)]].flatten=zgK s i s.locks[i] 0 from by rw[zhX];simp[lk0]]at hc
    rw[←zcd,zpy]
    exact hc
   repeat'(first|refine zq (I hat (I @zal (I t8 (I t1 (I wc (I wl (I tt (I @zaB zca)))))))) ?_|exact zd (I hat (I @zal (I t8 (I t1 (I wc (I wl (I tt (I @zaB zca))))))))|refine zc (m1) ?_|refine zg (m1) ?_|refine zc (m2) ?_|refine zg (m2) ?_|refine zc (hcc) ?_|refine zg (hcc) ?_|(refine zaa ?_ ?_<;>intro hb)|(refine And.intro ?_ ?_;exact zI)|(refine And.intro ?_ ?_<;>intro hg)|exact zC|fail)
   refine zah (τ:=Nat) (fun j=>⟨[dd, .one (.ptr ⟨1,0,1⟩ 0),dd,dd, .one (.own ⟨4,1,1⟩ 0 (zgK s i s.locks[i] j).length),dd,dd,dd,dd,dd,dd,dd,dd,dd,dd,dd,dd,dd,dd,dd,dd,dd,dd,dd,dd,dd,dd,dd,dd,dd,dd,dd,dd,dd,dd,dd,dd,dd,dd,dd,dd,dd,dd,dd,dd,dd,dd,dd,dd,dd,dd,dd,dd,dd,dd,dd,dd,dd,dd,dd,dd,dd,dd,dd,dd,al s.locks.length (zax s.locks),ai s.locks.length,ai i,dd,dd,dd,dd,dd,dd,dd,dd,dd,dd,dd,dd,dd,dd,dd,dd,dd,dd,dd,dd,dd,dd,dd,dd,dd,dd,asl s.locks[i].line.length (za3 s.locks[i].line),ai s.locks[i].line.length,ai j,dd,dd,dd,dd,dd,dd,dd,dd,dd,dd,dd,dd,dd,dd,dd,dd,dd,dd,dd,dd,dd,dd,dd,dd,dd,dd,dd,dd,dd,dd,dd,dd,dd,dd,dd,dd,dd,dd,dd,dd],[(1,{next:=2,l:=[some {e:=1,var:=true,fz:=false,sz:=0,cells:=[di s.time,di s.num,di s.token, .lent s.sess.length (zaN s.sess), .lent s.locks.length (zax s.locks), .lent s.memos.length (zaG s.memos)]},none,none,none,none,none,none]}),(22,⟨2,[]⟩),(25,⟨2,[]⟩),(28,⟨2,[]⟩),(33,⟨2,[]⟩),(34,⟨2,[]⟩),(35,⟨2,[]⟩),(4,{next:=2,l:=[none,some {e:=1,var:=false,fz:=false,sz:=1,cells:=(zab (zgK s i s.locks[i] j)).map C.d}]}),(6,⟨2,[]⟩),(47,⟨2,[]⟩),(50,⟨2,[]⟩),(53,⟨2,[]⟩),(54,⟨2,[]⟩),(55,⟨2,[]⟩),(62,⟨2,[]⟩),(8,⟨2,[]⟩),(9,⟨2,[]⟩),(74,⟨2,[]⟩),(82,⟨2,[]⟩),(85,⟨2,[]⟩),(90,⟨2,[]⟩),(91,⟨2,[]⟩),(92,⟨2,[]⟩),(103,⟨2,[]⟩),(104,⟨2,[]⟩)]⟩)
    (fun j=>j≤s.locks[i].line.length) (fun _=>()) (fun j=>s.locks[i].line.length - j) 0
    (Gh.canon [1,4] [] [] zK rfl rfl) (Nat.zero_le _) ?_
   intro j hj0 hF2 K2 hK2
   refine zw ?_
   refine zaa (fun hlt2=> ?_) (fun hge2=> ?_)
   ·have hj:j<s.locks[i].line.length:=by simpa using hlt2
    have hat2:=zce hj
    have hw2:=zai hj (by omega)
    have q6:=q5 _ (List.getElem_mem hj)
    have wd:IntKind.u8.wrap s.locks[i].line[j]=s.locks[i].line[j]:=zcU (by omega) (by omega)
    have hlj:(zgK s i s.locks[i] j).length≤300:=by
     rw[zgK,List.length_append,List.length_append,zhV,List.length_take];omega
    have hle3:((zgK s i s.locks[i] j).length+1≤2^47)=True:=eq_true (by omega)
    have hsl3:(zgK s i s.locks[i] (j+1)).length=(zgK s i s.locks[i] j).length+1:=by rw[zf5 hj,List.length_append,List.length_singleton]
    repeat'(first|refine zq (I hat2 (I @zaq (I t1 (I wd (I hle3 (I @zaB zca)))))) ?_|exact zd (I hat2 (I @zaq (I t1 (I wd (I hle3 (I @zaB zca))))))|(refine zaa ?_ ?_<;>intro hb)|(refine And.intro ?_ ?_;exact zI)|(refine And.intro ?_ ?_<;>intro hg)|exact zC|fail)
    exact hK2 _ (j+1) (Gh.canon [1,4] [] [] (zk (I hw2 hsl3)) rfl (by rw[zf5 hj];simp only[zab,List.map_append];rfl)) hj rfl (by omega)
   ·have hj:j=s.locks[i].line.length:=by
     have:¬(j:Int)<s.locks[i].line.length:=by simpa using hge2
     omega
    subst hj
    repeat'(first|refine zq0 ?_|exact zd0|(refine zaa ?_ ?_<;>intro hb)|(refine And.intro ?_ ?_;exact zI)|(refine And.intro ?_ ?_<;>intro hg)|exact zC|fail)
    exact hK _ (i+1) (Gh.canon [1,4] [] [] (by simp only[hw,zhe hi,zbT,zdi,zbU,zco,zcp,zcq,List.set_cons_zero,List.set_cons_succ,and_true,true_and,Int.natCast_zero,Int.cast_ofNat_Int,D.v.injEq,Value.int.injEq];try(repeat'(first|rfl|omega|with_reducible apply And.intro))) rfl (by rw[zhe hi];rfl)) hi rfl (by omega)
  ·have hi:i=s.locks.length:=by
    have:¬(i:Int)<s.locks.length:=by simpa using hge
    omega
   subst hi
   clear hK
   have hml:=zf6 h
   have w3:IntKind.u8.wrap (s.memos.length:Int)=s.memos.length:=zcU (by omega) (by omega)
   have hb2:=zhY h s.locks.length
   have hle2:((sb2 s s.locks.length).length+1≤2^47)=True:=eq_true (by omega)
   repeat'(first|refine zq (I hle2 (I t1 (I w3 @zaB))) ?_|exact zd (I hle2 (I t1 (I w3 @zaB)))|(refine zaa ?_ ?_<;>intro hb)|(refine And.intro ?_ ?_;exact zI)|(refine And.intro ?_ ?_<;>intro hg)|exact zC|fail)
   refine zah (τ:=Nat) (fun i=>⟨[dd,dd,dd,dd, .one (.own ⟨4,1,1⟩ 0 (sb3 s i).length),dd,dd,dd,dd,dd,dd,dd,dd,dd,dd,dd,dd,dd,dd,dd,dd,dd,dd,dd,dd,dd,dd,dd,dd,dd,dd,dd,dd,dd,dd,dd,dd,dd,dd,dd,dd,dd,dd,dd,dd,dd,dd,dd,dd,dd,dd,dd,dd,dd,dd,dd,dd,dd,dd,dd,dd,dd,dd,dd,dd,dd,dd,dd,dd,dd,dd,dd,dd,dd,dd,dd,dd,dd,dd,dd,dd,dd,dd,dd,dd,dd,dd,dd,dd,dd,dd,dd,dd,dd,dd,dd,dd,dd,dd,dd,dd,dd,dd,dd,dd,dd,dd,dd,dd,dd,dd,dd,dd,dd,dd,al s.memos.length (zaG s.memos),ai s.memos.length,ai i,dd,dd,dd,dd,dd,dd,dd,dd,dd,dd,dd,dd,dd,dd,dd,dd,dd,dd,dd],[(1,⟨2,[]⟩),(22,⟨2,[]⟩),(25,⟨2,[]⟩),(28,⟨2,[]⟩),(33,⟨2,[]⟩),(34,⟨2,[]⟩),(35,⟨2,[]⟩),(4,{next:=2,l:=[none,some {e:=1,var:=false,fz:=false,sz:=1,cells:=(zab (sb3 s i)).map C.d}]}),(6,⟨2,[]⟩),(47,⟨2,[]⟩),(50,⟨2,[]⟩),(53,⟨2,[]⟩),(54,⟨2,[]⟩),(55,⟨2,[]⟩),(62,⟨2,[]⟩),(8,⟨2,[]⟩),(9,⟨2,[]⟩),(74,⟨2,[]⟩),(82,⟨2,[]⟩),(85,⟨2,[]⟩),(90,⟨2,[]⟩),(91,⟨2,[]⟩),(92,⟨2,[]⟩),(103,⟨2,[]⟩),(104,⟨2,[]⟩),(112,⟨2,[]⟩),(14,⟨2,[]⟩),(15,⟨2,[]⟩),(129,⟨2,[]⟩),(134,⟨2,[]⟩)]⟩)
    (fun i=>i≤s.memos.length) (fun _=>()) (fun i=>s.memos.length - i) 0
    (Gh.canon [4] [14,15,129,134] [] (zk (I @zhd (I @List.length_append.{0} @List.length_singleton.{0}))) rfl (by rw[zhd];simp only[zab,List.map_append];rfl)) (Nat.zero_le _) ?_
   intro i hi0 hF K hK
   refine zw ?_
   refine zaa (fun hlt=> ?_) (fun hge=> ?_)
   ·have hi:i<s.memos.length:=by simpa using hlt
    have hat:=zb0 hi
    have hw:=zai hi (by omega)
    have hma:=h.mok _ (List.getElem_mem hi)
    have hpa:=zk5 s.memos[i] hma
    have hb3:=zjS h i
    have hal:=zfu hma
    have hle3:((sb3 s i).length+(zaV s.memos[i]).length≤2^47)=True:=eq_true (by omega)
    have hsl3:(sb3 s (i+1)).length=(sb3 s i).length+(zaV s.memos[i]).length:=by rw[zha hi,List.length_append]
    repeat'(first|refine zq (I hat (I @zaC (I @zaB (I hle3 (I @zaA zca))))) ?_|exact zd (I hat (I @zaC (I @zaB (I hle3 (I @zaA zca)))))|refine zc (hpa) ?_|refine zg (hpa) ?_|(refine zaa ?_ ?_<;>intro hb)|(refine And.intro ?_ ?_;exact zI)|(refine And.intro ?_ ?_<;>intro hg)|exact zC|fail)
    exact hK _ (i+1) (Gh.canon [4] [] [] (zk (I hw hsl3)) rfl (by rw[zha hi];simp only[zab,List.map_append];rfl)) hi rfl (by omega)
   ·have hi:i=s.memos.length:=by
     have:¬(i:Int)<s.memos.length:=by simpa using hge
     omega
    subst hi
    repeat'(first|refine zq0 ?_|exact zd0|(refine zaa ?_ ?_<;>intro hb)|(refine And.intro ?_ ?_;exact zI)|(refine And.intro ?_ ?_<;>intro hg)|exact zC|fail)
    rfl
end Go.Proofs.YtbpmcjeeeiffhaaGreat
