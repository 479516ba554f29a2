import Derived.Test.YtliimajkpggbhaaGreatPO
namespace Go.Proofs.YtliimajkpggbhaaGreat
open Go.Pk Tryz
set_option maxRecDepth 100000
set_option linter.unusedSimpArgs false
set_option linter.unusedVariables false
abbrev exP:Pkt:={pk0 8 with done:=1}
theorem zn5:exP.ok:=⟨by unfold i64;decide,zc1,zc1,by unfold i64;decide,⟨zc1,zc1,zc1,zc1,(by show(ByteArray.empty).size<2^62;decide)⟩,⟨by simp,by simp⟩,⟨zc1,zc1,zc1,zc1,by simp,by simp⟩,by simp,⟨zc1,zc1,zc1,zc1,zc1,by simp,by simp⟩,by simp,by simp,(show Small st0 from zrf)⟩
theorem zq1:zmm exP=true:=by kernel_rfl
theorem zq2:pkI exP=[8,0,0,0,0,0,0,0,1]:=by kernel_rfl
theorem zvm:zwW [8,0,0,0,0,0,0,0,1]=(exP,0):=by kernel_rfl
theorem zvn:zwW []=(pk0 0,4):=by kernel_rfl
theorem zsZ:exP.lent=[di 8,di 0,di 0,di 1,di 0,di 0,di 0,di 0,dS .empty,di 0,di 0,di 0,di 0,di 0, .lent 0 [],db false,di 0,di 0,di 0,di 0, .lent 0 [],di 0,di 0,di 0,di 0,di 0, .lent 0 [],di 0,di 0,di 0,di 0,di 0,di 0, .lent 0 [], .lent 0 [], .lent 0 []]:=rfl
theorem zvo:exP.enc.map RO.d=[.d (iD 8), .d (iD 0), .d (iD 0), .d (iD 1), .d (iD 0), .d (iD 0), .d (iD 0), .d (iD 0), .d (sD .empty), .d (iD 0), .d (iD 0), .d (iD 0), .d (iD 0), .d (iD 0), .d (.sl 0 []), .d (bD false), .d (iD 0), .d (iD 0), .d (iD 0), .d (iD 0), .d (.sl 0 []), .d (iD 0), .d (iD 0), .d (iD 0), .d (iD 0), .d (iD 0), .d (.sl 0 []), .d (iD 0), .d (iD 0), .d (iD 0), .d (iD 0), .d (iD 0), .d (iD 0), .d (.sl 0 []), .d (.sl 0 []), .d (.sl 0 [])]:=rfl
theorem zs1:eqPk exP exP=true:=by kernel_rfl
theorem zo4:CallOK prog 10 [] (fun r o=>r=[rb true]∧o=[]):=by
 refine zh func10 results10 ntmps10 call10 ?_
 simp only[f10,Option.getD]
 have h1:=ziQ exP zn5 zq1
 rw[zq2]at h1
 have h2:=zl8 [8,0,0,0,0,0,0,0,1] ⟨by decide,by simp[zdi]⟩ (by decide)
 rw[zvm]at h2
 have h3:=zl8 [] ⟨by decide,by simp⟩ (by decide)
 rw[zvn]at h3
 have h4:=zri exP exP zn5 zn5
 rw[zs1]at h4
 have h5:=zgD exP zn5
 rw[zq1]at h5
 rw[zsZ]at h1 h4 h5
 rw[show(exP,(0:Int)).1.enc.map RO.d=_ from zvo]at h2
 have hb:bytesOf (zaa [8,0,0,0,0,0,0,0,1])=some [8,0,0,0,0,0,0,0,1]:=rfl
 repeat'(first|exact zC|(with_reducible first|refine zpE 3 ?_|refine znt 3 ?_|refine znu 3 ?_)|refine zu0 ?_|(with_reducible first|refine zae _ _ ?_)|refine zx (h1) ?_|(apply zab<;>intro hb)|(apply I;exact zI)|(apply I<;>intro hg))
 refine zpI (zj5 (Gh.sealV 2 (x:= .own ⟨2,1,0⟩ 0 9) (d:= .sl 9 (zaa [8,0,0,0,0,0,0,0,1])) rfl (by simp only[zY,Nat.reduceSub,Nat.reduceEqDiff,Nat.reduceAdd,Nat.reduceMul,Nat.reduceLeDiff,Nat.reduceLT,Nat.reduceBEq,reduceCtorEq];rfl)) ?_)
 refine zL hb (I (h2) (I (h3) (I (h4) (h5)))) ?_
 rw[zdQ,zdQ]
 rfl
abbrev zA9 (n i:Nat) (f:Int):List D:=(List.replicate i (uD f))++List.replicate (n - i) (uD 0)
def fv5 (ns:List Int) (i k:Nat):Int:=if k<i then ns.getD k 0 else 0
abbrev n5 (ns:List Int):List RO:=[.d (uD (ns.getD 0 0)), .d (uD (ns.getD 1 0)), .d (uD (ns.getD 2 0)), .d (uD (ns.getD 3 0)), .d (uD (ns.getD 4 0))]
def nm5 (k:Nat):ByteArray:=if k=0 then⟨#[97]⟩else if k=1 then⟨#[98]⟩else if k=2 then⟨#[107,101,121,45,49]⟩else if k=3 then⟨#[108,111,99,107]⟩else⟨#[120]⟩
def zvl (ns:List Int):Nat→Nat→List Grant→List Grant
 |0,_,acc=>acc
 |f+1,i,acc=>if(decide (i<ns.length)&&decide (acc.length<4))=true then(if ns.getD i 0 % 2=1 then zvl ns f (i+1) (acc++[⟨nm5 (i - 3),1+ns.getD i 0⟩])else zvl ns f (i+1) acc)else acc
def zA7 (ns:List Int):Reply:=if ns.length>2 then⟨ns.getD 0 0 % 13,ns.getD 1 0 % 5,ns.getD 2 0 % 4,if ns.getD 1 0 % 5>0 then zvl ns 5 3 []else []⟩else⟨0,0,0,[]⟩
abbrev zA8 (r:Reply):RF:= .agg (r.enc.map RO.d)
theorem grants_take {l:List Grant}:(zaO l).take (l.length*2)=zaO l:=zcH Grant.enc 2 (fun _=>rfl) l
def zz:ByteArray:=⟨#[122,122]⟩
structure Gr5 (i:Nat) (l:List Grant):Prop where
 len:l.length≤4
 all:∀g∈l,∃k,k<i∧k<5∧g.name=nm5 k∧1≤g.token∧g.token≤256
 rise:l.Pairwise fun a b=>zjW a.name b.name=true
def zA6 (c q:Int) (ns:List Int):Memo:=⟨c % 8,1+q % 40,zA7 ns⟩
structure Inp where
 kind:Int
 ns:List Int
 acts:List Act
 told:NTold
structure Inp.ok (x:Inp):Prop where
 kind:zdi x.kind
 nl:x.ns.length<2^60
 nb:∀y∈x.ns,zdi y
 al:x.acts.length<2^60
 ab:∀a∈x.acts,zxr a
 told:x.told.ok
abbrev Inp.n (x:Inp) (k:Nat):Int:=x.ns.getD k 0
def zA5 (x:Inp):Pkt:=
 if x.kind % 9=0 then {pk0 1 with req:=zAJ (x.n 0) (x.n 1) (x.n 2) (x.n 3) (x.n 4)}
 else if x.kind % 9=1 then {pk0 2 with ans:=zA6 (x.n 0) (x.n 1) x.ns}
 else if x.kind % 9=2 then {pk0 3 with ballot:=x.n 0 % 16}
 else if x.kind % 9=3 then {pk0 4 with ballot:=x.n 0 % 16,prom:=zx4 (x.n 1 % 5) x.told}
 else if x.kind % 9=4 then {pk0 5 with ballot:=x.n 0 % 16,slot:=1+x.n 1 % 9,bat:=zrj x.ns}
 else if x.kind % 9=5 then {pk0 6 with ballot:=x.n 0 % 16,slot:=1+x.n 1 % 9,bat:=zrj x.ns}
 else if x.kind % 9=6 then {pk0 7 with ballot:=x.n 0 % 16,done:=x.n 1 % 16}
 else if x.kind % 9=7 then {pk0 8 with done:=x.n 0 % 16}
 else {pk0 9 with snap:=⟨x.n 0 % 16,x.n 1 % 8,x.n 2 % 16,zxo x.acts⟩}
abbrev NTold.lent (t:NTold):List C:=[.d (uD t.done), .d (uD t.view), .d (uD t.slot), .d (uD t.time), .lent t.votes.length (zrk t.votes)]
structure MayK (p:Pkt):Prop where
 kind:1≤p.kind∧p.kind≤9
 ballot:0≤p.ballot∧p.ballot≤2305843009213693952
 slot:0≤p.slot∧p.slot≤2305843009213693952
 done:0≤p.done∧p.done≤2305843009213693952
 req:zfz p.req ⟨0,0,0,0, .empty⟩=true∨Req.may p.req=true
 ans:p.ans.seq=0∨answerB p.ans=true
 time:p.prom.time=0∨Prom.may p.prom=true
abbrev rdE (bs:List Int) (p e:Int):List RO:=[.d (.sl bs.length (zaa bs)), .d (iD p), .d (iD e)]
def zvM (bs:List Int) (p e:Int):Int×Int×Int:=if e≠0 then(0,p,e)else ze8 bs p
def zkD (bs:List Int) (p e:Int):Int×Int×Int:=if e≠0 then(0,p,e)else zbG bs p
def zxS (bs:List Int) (p e:Int):ByteArray×Int×Int:=if e≠0 then(.empty,p,e)else zci bs p 12
def zn4 (bs:List Int) (p e most:Int):Int×Int×Int:=
 if(zkD bs p e).2.2≠0 then(0,(zkD bs p e).2.1,(zkD bs p e).2.2)else
 if(zkD bs p e).1>most then(0,(zkD bs p e).2.1,4)else zkD bs p e
def zxQ (bs:List Int) (p e:Int):Sess×Int×Int:=
 let c:=zkD bs p e
 let n:=zvM bs c.2.1 c.2.2
 let r:=zvM bs n.2.1 n.2.2
 (⟨c.1,n.1,r.1⟩,r.2)
def zsW {α:Type} (f:Int→Int→α×Int×Int):Nat→Int→Int→List α→List α×Int×Int
 |0,p,e,acc=>(acc,p,e)
 |n+1,p,e,acc=>zsW f n (f p e).2.1 (f p e).2.2 (acc++[(f p e).1])
def zxR (bs:List Int) (p e:Int):Lk×Int×Int:=
 let nm:=zxS bs p e
 let hd:=zkD bs nm.2.1 nm.2.2
 let tk:=zvM bs hd.2.1 hd.2.2
 let m:=zn4 bs tk.2.1 tk.2.2 3
 let l:=zsW (zkD bs) m.1.toNat m.2.1 m.2.2 []
 (⟨nm.1,hd.1,tk.1,l.1⟩,l.2)
def zt6 (bs:List Int):Nat→Int→Int→List Memo→List Memo×Int×Int
 |0,p,e,acc=>(acc,p,e)
 |n+1,p,e,acc=>if e≠0 then(acc,p,e)else zt6 bs n (zeu bs p).2.1 (zeu bs p).2.2 (acc++[(zeu bs p).1])
def zAI (bs:List Int) (p e:Int):St×Int×Int:=
 let t:=zvM bs p e
 let u:=zvM bs t.2.1 t.2.2
 let k:=zvM bs u.2.1 u.2.2
 let n:=zn4 bs k.2.1 k.2.2 5
 let ss:=zsW (zxQ bs) n.1.toNat n.2.1 n.2.2 []
 let n2:=zn4 bs ss.2.1 ss.2.2 4
 let ls:=zsW (zxR bs) n2.1.toNat n2.2.1 n2.2.2 []
 let n3:=zn4 bs ls.2.1 ls.2.2 8
 let ms:=zt6 bs n3.1.toNat n3.2.1 n3.2.2 []
 (⟨t.1,u.1,k.1,ss.1,ls.1,ms.1⟩,ms.2)
abbrev zBu (bs:List Int) (q e:Int) (nx:Nat):Nat×RS:=(0,{next:=nx,l:=[some {e:=0,var:=true,fz:=false,bor:=true,sz:=0,cells:=[.d (.sl bs.length (zaa bs)),di q,di e]},none,none,none]})
def E2 {α:Type} (x:α×Int×Int) (r:Rr α):Prop:=match r with
 | .ok y=>x=(y.1,y.2,0)
 | .error c=>x.2.2=c∧c≠0
theorem zsU (l:List Int) (hl:l.length<2^30):CallOK prog 170 [.f (al l.length (za5 l))] (fun r o=>r=[rb (lineB l)]∧o=[]):=by
 refine zh func170 results170 ntmps170 call170 ?_
 simp only[f170,Option.getD]
 cases h3:decide ((l.length:Int)>3)
 ·have hs:lineB l=zbb (zk3 l) 0 l:=by
   unfold lineB
   rw[show decide ((l.length:Int)≤3)=true by simp at h3⊢;omega,Bool.and_true]
  rw[hs]
  refine zL0 (I h3 @zaW) ?_
  refine zaf (τ:=Nat) (fun i=>⟨(al l.length (za5 l)::dq2 (ai i::zvG [])),[]⟩)
   (fun i=>i≤l.length) (fun i=>zbb (zk3 l) i (l.drop i)) (fun i=>l.length - i) 0
   (Gh.canon [] [] [] zK rfl rfl) (Nat.zero_le _) ?_
  intro i hi0 hF K hK
  rw[List.drop_zero]at hF
  refine zw ?_
  refine zab (fun hlt=> ?_) (fun hge=> ?_)
  ·have hi:i<l.length:=by simpa using hlt
   have hat:=zce hi
   have hw:=zai hi (by omega)
   rw[zau hi]at hF
   have hcl:=zgQ l[i]
   have hlt2:(l.take i).length=i:=by rw[List.length_take];omega
   have htk:(za5 l).take i=za5 (l.take i):=zk7 (by omega)
   have hco:=zwK (l.take i) (by omega) l[i]
   rw[hlt2]at hco
   have hq:zk3 l i l[i]= !(!(isClient l[i])||hasI (l.take i) l[i]):=rfl
   repeat'(first|exact zC|refine zq (I hat (I htk (I @zaW zca))) ?_|refine zx (hcl) ?_|refine zx (hco) ?_|(apply zab<;>intro hb)|(apply I;exact zI)|(apply I<;>intro hg))
   ·rw[hq,hb,if_neg (by simp)]at hF
    rw[←hF]
   ·exact hK _ (i+1) (Gh.canon [] [] [] (zk hw) rfl rfl) hi (by rw[zau hi,hq,hb];rfl) (by omega)
  ·have hi:i=l.length:=by
    have:¬(i:Int)<l.length:=by simpa using hge
    omega
   rw[zb6 hi]at hF
   rw[←hF]
   exact zW0 trivial
 ·have hs:lineB l=false:=by
   unfold lineB
   rw[show decide ((l.length:Int)≤3)=false by simp at h3⊢;omega,Bool.and_false]
  rw[hs]
  exact zW0 (I h3 @zaW)
theorem zqU {l:List Sess} {i:Nat} {n:Int} (h:∀k (hk:k<i) (hl:k<l.length),l[k].num≠n):numbered (l.take i) n=false:=by
 unfold numbered
 rw[List.any_eq_false]
 intro x hx
 obtain⟨k,hk,rfl⟩:=List.getElem_of_mem hx
 rw[List.length_take]at hk
 rw[List.getElem_take]
 have:=h k (by omega) (by omega)
 simpa using this
theorem zn2 {l:List Sess} {i k:Nat} {n:Int} (hk:k<i) (hl:k<l.length) (h:l[k].num=n):numbered (l.take i) n=true:=by
 unfold numbered
 rw[List.any_eq_true]
 exact⟨l[k],List.mem_take_iff_getElem.2 ⟨k,by omega,rfl⟩,by simpa using h⟩
theorem zt4 (p:Bool) (n r:Int):(p&& !(decide (n<1))&& !(decide (n>zcT))&& !(decide (r<0))&& !(decide (r>zcT)))= !(!p|| !(decide (n≥1)&&decide (n≤2305843009213693952))|| !(decide (r≥0)&&decide (r≤2305843009213693952))):=by
 have hH:zcT=2305843009213693952:=rfl
 rw[Bool.eq_iff_iff]
 cases p
 ·simp
 ·simp only[hH,Bool.true_and,Bool.not_true,Bool.false_or,Bool.and_eq_true,Bool.not_eq_true',Bool.or_eq_false_iff,decide_eq_false_iff_not,Bool.not_eq_false',decide_eq_true_eq]
  omega
set_option maxHeartbeats 4000000 in
theorem zsV (l:List Sess) (hl:l.length<2^30):CallOK prog 134 [.f (al l.length (zaV l))] (fun r o=>r=[rb (sessB l)]∧o=[]):=by
 refine zh func134 results134 ntmps134 call134 ?_
 simp only[f134,Option.getD]
 cases h5:decide ((l.length:Int)>5)
 ·have hs:sessB l=zbb (zfK l) 0 l:=by rw[sessB,h5];rfl
  rw[hs]
  refine zL0 (I h5 @zat) ?_
  refine zaf (τ:=Nat) (fun i=>⟨(al l.length (zaV l)::dq2 (ai i::zvE (zdO []))),[(4,⟨2,[]⟩)]⟩)
   (fun i=>i≤l.length) (fun i=>zbb (zfK l) i (l.drop i)) (fun i=>l.length - i) 0
   (Gh.canon [] [4] [] zK rfl rfl) (Nat.zero_le _) ?_
  intro i hi0 hF K hK
  simp only[List.drop_zero]at hF hK⊢
  refine zw ?_
  refine zab (fun hlt=> ?_) (fun hge=> ?_)
  ·have hi:i<l.length:=by simpa using hlt
   have hat:=zbH hi
   have hw:=zai hi (by omega)
   rw[zau hi]at hF
   have hcl:=zgQ l[i].client
   have hh1:=zgP l[i].num 1
   have hh2:=zgP l[i].renewed 0
   cases e0:decide ((i:Int)>0)
   ·have hq:zfK l i l[i]=(!(!(isClient l[i].client)|| !(decide (l[i].num≥1)&&decide (l[i].num≤2305843009213693952))|| !(decide (l[i].renewed≥0)&&decide (l[i].renewed≤2305843009213693952)))&& !(numbered (l.take i) l[i].num)):=by
     unfold zfK zfA
     have h0:decide (i>0)=false:=by simpa using e0
     rw[h0,Bool.false_and,Bool.false_or]
     congr 1
     exact zt4 _ _ _
    have h0:i=0:=by simpa using e0
    have hp:(zaV l).drop ((IntKind.i64.wrap ((i:Int) - 1)).toNat*3)=l[i].enc++zaV (l.drop (i+1)):=by
     rw[←zbH hi,h0];rfl
    repeat'(first|exact zC|refine zq (I hat (I hp (I e0 (I @zat zca)))) ?_|refine zx (hcl) ?_|refine zx (hh1) ?_|refine zx (hh2) ?_|(apply zab<;>intro hb)|(apply I;exact zI)|(apply I<;>intro hg))
    ·rw[hq,hb,Bool.not_true,Bool.false_and,if_neg (by simp)]at hF
     rw[←hF]
    ·have hb1:=hb
     clear hb
     refine zaf (τ:=Nat) (fun k=>⟨(al l.length (zaV l)::dq2 (ai i::ptq 4::ai k::zto (zdO []))),[(4,⟨2,[obq 1 [di l[i].client,di l[i].num,di l[i].renewed],none,none,none]⟩)]⟩)
      (fun k=>k≤i∧∀k' (hk:k'<k) (hkl:k'<l.length),l[k'].num≠l[i].num) (fun _=>()) (fun k=>i - k) 0
      (Gh.canon [4] [] [] zK rfl rfl) ⟨Nat.zero_le _,fun k' hk=>absurd hk (Nat.not_lt_zero _)⟩ ?_
     intro k ⟨k1,k2⟩ _ K2 hK2
     refine zw ?_
     refine zab (fun hlt2=> ?_) (fun hge2=> ?_)
     ·have hk:k<i:=by simpa using hlt2
      have hat2:=zbH (show k<l.length by omega)
      have hw2:IntKind.i64.wrap ((k:Int)+1)=((k+1:Nat):Int):=zai hk (by omega)
      repeat'(first|exact zC|refine zq (I hat2 (I @zat zca)) ?_|(apply zab<;>intro hb)|(apply I;exact zI)|(apply I<;>intro hg))
      ·rw[hq,hb1,zn2 hk (by omega) (by simpa using hb),Bool.not_true,Bool.and_false,if_neg (by simp)]at hF
       rw[←hF]
      ·refine hK2 _ (k+1) (Gh.canon [4] [] [] (zk hw2) rfl rfl) ⟨by omega,fun k' hk' hl'=> ?_⟩ rfl (by omega)
       rcases Nat.lt_or_ge k' k with h|h
       ·exact k2 k' h hl'
       ·have:k'=k:=by omega
        subst this
        simpa using hb
     ·have hki:k=i:=by
       have:¬(k:Int)<i:=by simpa using hge2
       omega
      rw[hki]at k2
      refine zL0 trivial ?_
      exact hK _ (i+1) (Gh.canon [] [] [] (zk hw) rfl rfl) hi (by rw[zau hi,hq,hb1,zqU k2];rfl) (by omega)
   ·have hq:zfK l i l[i]=(!(!(isClient l[i].client)|| !(decide (l[i].num≥1)&&decide (l[i].num≤2305843009213693952))|| !(decide (l[i].renewed≥0)&&decide (l[i].renewed≤2305843009213693952))||decide (l[i].client≤(l[i - 1]'(by omega)).client))&& !(numbered (l.take i) l[i].num)):=by
     unfold zfK zfA zoe
     have h0:decide (i>0)=true:=by simpa using e0
     rw[h0,Bool.true_and,List.getElem?_eq_getElem (by omega),zt4]
     simp only[Bool.not_or,Bool.not_not,Option.map_some,Option.getD_some,ge_iff_le,Bool.and_assoc]
    have h0:0<i:=by simpa using e0
    have hp:=zbH (show i - 1<l.length by omega)
    have hw1:IntKind.i64.wrap ((i:Int) - 1)=((i - 1:Nat):Int):=by rw[wrap64 (by omega) (by omega)];omega
    repeat'(first|exact zC|refine zq (I hat (I hp (I hw1 (I e0 (I @zat zca))))) ?_|refine zx (hcl) ?_|refine zx (hh1) ?_|refine zx (hh2) ?_|(apply zab<;>intro hb)|(apply I;exact zI)|(apply I<;>intro hg))
    ·rw[hq,hb,Bool.not_true,Bool.false_and,if_neg (by simp)]at hF
     rw[←hF]
    ·have hb1:=hb
     clear hb
     refine zaf (τ:=Nat) (fun k=>⟨(al l.length (zaV l)::dq2 (ai i::ptq 4::ai k::zto (zdO []))),[(4,⟨2,[obq 1 [di l[i].client,di l[i].num,di l[i].renewed],none,none,none]⟩)]⟩)
      (fun k=>k≤i∧∀k' (hk:k'<k) (hkl:k'<l.length),l[k'].num≠l[i].num) (fun _=>()) (fun k=>i - k) 0
      (Gh.canon [4] [] [] zK rfl rfl) ⟨Nat.zero_le _,fun k' hk=>absurd hk (Nat.not_lt_zero _)⟩ ?_
     intro k ⟨k1,k2⟩ _ K2 hK2
     refine zw ?_
     refine zab (fun hlt2=> ?_) (fun hge2=> ?_)
     ·have hk:k<i:=by simpa using hlt2
      have hat2:=zbH (show k<l.length by omega)
      have hw2:IntKind.i64.wrap ((k:Int)+1)=((k+1:Nat):Int):=zai hk (by omega)
      repeat'(first|exact zC|refine zq (I hat2 (I @zat zca)) ?_|(apply zab<;>intro hb)|(apply I;exact zI)|(apply I<;>intro hg))
      ·rw[hq,hb1,zn2 hk (by omega) (by simpa using hb),Bool.not_true,Bool.and_false,if_neg (by simp)]at hF
       rw[←hF]
      ·refine hK2 _ (k+1) (Gh.canon [4] [] [] (zk hw2) rfl rfl) ⟨by omega,fun k' hk' hl'=> ?_⟩ rfl (by omega)
       rcases Nat.lt_or_ge k' k with h|h
       ·exact k2 k' h hl'
       ·have:k'=k:=by omega
        subst this
        simpa using hb
     ·have hki:k=i:=by
       have:¬(k:Int)<i:=by simpa using hge2
       omega
      rw[hki]at k2
      refine zL0 trivial ?_
      exact hK _ (i+1) (Gh.canon [] [] [] (zk hw) rfl rfl) hi (by rw[zau hi,hq,hb1,zqU k2];rfl) (by omega)
  ·have hi:i=l.length:=by
    have:¬(i:Int)<l.length:=by simpa using hge
    omega
   rw[zb6 hi]at hF
   rw[←hF]
   exact zW0 trivial
 ·have hs:sessB l=false:=by rw[sessB,h5];rfl
  rw[hs]
  exact zW0 (I h5 @zat)
theorem zqV {l:List Lk} {i:Nat} {n:Int} (h:∀k (hk:k<i) (hl:k<l.length),l[k].token≠n):((l.take i).any fun o=>o.token==n)=false:=by
 rw[List.any_eq_false]
 intro x hx
 obtain⟨k,hk,rfl⟩:=List.getElem_of_mem hx
 rw[List.length_take]at hk
 rw[List.getElem_take]
 have:=h k (by omega) (by omega)
 simpa using this
theorem zn3 {l:List Lk} {i k:Nat} {n:Int} (hk:k<i) (hl:k<l.length) (h:l[k].token=n):((l.take i).any fun o=>o.token==n)=true:=by
 rw[List.any_eq_true]
 exact⟨l[k],List.mem_take_iff_getElem.2 ⟨k,by omega,rfl⟩,by simpa using h⟩
theorem zwT (a b:List UInt8):(!(Go.Op.bytesLess b a))=(Go.Op.bytesLess a b||a==b):=by
 cases h:Go.Op.bytesLess b a
 ·cases h2:Go.Op.bytesLess a b
  ·rw[ztl h2 h];simp
  ·rfl
 ·rw[zrL h]
  cases h3:a==b
  ·rfl
  ·rw[show a=b by simpa using h3,zpt]at h;cases h
theorem zt5 (p L H X:Bool) (h t:Int):(p&& !(decide (h<0))&& !(decide (h≥8))&& !(decide (t<1))&& !(decide (t>zcT))&& !(!L||H||X))= !(!p|| !(isClient h)|| !(decide (t≥1)&&decide (t≤2305843009213693952))|| !L||H||X):=by
 have hH:zcT=2305843009213693952:=rfl
 unfold isClient
 rw[Bool.eq_iff_iff]
 cases p<;>cases L<;>cases H<;>cases X<;>simp[hH]
 omega
set_option maxHeartbeats 4000000 in
theorem zqW (l:List Lk) (hl:l.length<2^30) (hll:∀k∈l,k.line.length<2^30∧k.name.size<2^62):CallOK prog 135 [.f (al l.length (zay l))] (fun r o=>r=[rb (lockB l)]∧o=[]):=by
 refine zh func135 results135 ntmps135 call135 ?_
 simp only[f135,Option.getD]
 cases h5:decide ((l.length:Int)>4)
 ·have hs:lockB l=zbb (zfV l) 0 l:=by
   unfold lockB
   rw[show decide ((l.length:Int)≤4)=true by simp at h5⊢;omega,Bool.and_true]
  rw[hs]
  refine zL0 (I h5 @zan) ?_
  refine zaf (τ:=Nat) (fun i=>⟨(al l.length (zay l)::dq2 (ai i::zrQ (zdO []))),[(4,⟨2,[]⟩)]⟩)
   (fun i=>i≤l.length) (fun i=>zbb (zfV l) i (l.drop i)) (fun i=>l.length - i) 0
   (Gh.canon [] [4] [] zK rfl rfl) (Nat.zero_le _) ?_
  intro i hi0 hF K hK
  simp only[List.drop_zero]at hF hK⊢
  refine zw ?_
  refine zab (fun hlt=> ?_) (fun hge=> ?_)
  ·have hi:i<l.length:=by simpa using hlt
   have hat:=zbo hi
   obtain⟨hk1,hk2⟩:=hll _ (List.getElem_mem hi)
   have hw:=zai hi (by omega)
   rw[zau hi]at hF
   have hnm:=zhA l[i].name hk2
   have hlr:=zsU l[i].line hk1
   have hcl:=zgQ l[i].holder
   have hlc:=zwK l[i].line (by omega) l[i].holder
   have hh1:=zgP l[i].token 1
   cases e0:decide ((i:Int)>0)
   ·have hq:zfV l i l[i]=(!(!(nameP l[i].name)|| !(isClient l[i].holder)|| !(decide (l[i].token≥1)&&decide (l[i].token≤2305843009213693952))|| !(lineB l[i].line)||hasI l[i].line l[i].holder)&& !((l.take i).any fun o=>o.token==l[i].token)):=by
     unfold zfV zrt
     have h0:decide (i>0)=false:=by simpa using e0
     rw[h0,Bool.false_and]
     congr 1
     rw[zt5,Bool.or_false]
    have h0:i=0:=by simpa using e0
    have hp:(zay l).drop ((IntKind.i64.wrap ((i:Int) - 1)).toNat*4)=l[i].enc++zay (l.drop (i+1)):=by
     rw[←zbo hi,h0];rfl
    repeat'(first|exact zC|refine zq (I hat (I hp (I e0 (I @zan zca)))) ?_|refine zx (hnm) ?_|refine zx (hlr) ?_|refine zx (hcl) ?_|refine zx (hlc) ?_|refine zx (hh1) ?_|(apply zab<;>intro hb)|(apply I;exact zI)|(apply I<;>intro hg))
    ·rw[hq,hb,Bool.not_true,Bool.false_and,if_neg (by simp)]at hF
     rw[←hF]
    ·have hb1:=hb
     clear hb
     refine zaf (τ:=Nat) (fun k=>⟨(al l.length (zay l)::dq2 (ai i::ptq 4::ai k::ztq (zdO []))),[(4,⟨2,[obq 1 [.d (sD l[i].name),di l[i].holder,di l[i].token, .d (.sl l[i].line.length (za5 l[i].line))],none,none,none,none]⟩)]⟩)
      (fun k=>k≤i∧∀k' (hk:k'<k) (hkl:k'<l.length),l[k'].token≠l[i].token) (fun _=>()) (fun k=>i - k) 0
      (Gh.canon [4] [] [] zK rfl rfl) ⟨Nat.zero_le _,fun k' hk=>absurd hk (Nat.not_lt_zero _)⟩ ?_
     intro k ⟨k1,k2⟩ _ K2 hK2
     refine zw ?_
     refine zab (fun hlt2=> ?_) (fun hge2=> ?_)
     ·have hk:k<i:=by simpa using hlt2
      have hat2:=zbo (show k<l.length by omega)
      have hw2:IntKind.i64.wrap ((k:Int)+1)=((k+1:Nat):Int):=zai hk (by omega)
      repeat'(first|exact zC|refine zq (I hat2 (I @zan zca)) ?_|(apply zab<;>intro hb)|(apply I;exact zI)|(apply I<;>intro hg))
      ·rw[hq,hb1,zn3 hk (by omega) (by simpa using hb),Bool.not_true,Bool.and_false,if_neg (by simp)]at hF
       rw[←hF]
      ·refine hK2 _ (k+1) (Gh.canon [4] [] [] (zk hw2) rfl rfl) ⟨by omega,fun k' hk' hl'=> ?_⟩ rfl (by omega)
       rcases Nat.lt_or_ge k' k with h|h
       ·exact k2 k' h hl'
       ·have:k'=k:=by omega
        subst this
        simpa using hb
     ·have hki:k=i:=by
       have:¬(k:Int)<i:=by simpa using hge2
       omega
      rw[hki]at k2
      refine zL0 trivial ?_
      exact hK _ (i+1) (Gh.canon [] [] [] (zk hw) rfl rfl) hi (by rw[zau hi,hq,hb1,zqV k2];rfl) (by omega)
   ·have hq:zfV l i l[i]=(!(!(nameP l[i].name)|| !(isClient l[i].holder)|| !(decide (l[i].token≥1)&&decide (l[i].token≤2305843009213693952))|| !(lineB l[i].line)||hasI l[i].line l[i].holder||(Go.Op.bytesLess l[i].name.toList (l[i - 1]'(by omega)).name.toList||l[i].name.toList==(l[i - 1]'(by omega)).name.toList))&& !((l.take i).any fun o=>o.token==l[i].token)):=by
     unfold zfV zrt zof
     have h0:decide (i>0)=true:=by simpa using e0
     rw[h0,Bool.true_and,List.getElem?_eq_getElem (by omega)]
     congr 1
     rw[zt5,←zwT]
     rfl
    have h0:0<i:=by simpa using e0
    have hp:=zbo (show i - 1<l.length by omega)
    have hw1:IntKind.i64.wrap ((i:Int) - 1)=((i - 1:Nat):Int):=by rw[wrap64 (by omega) (by omega)];omega
    repeat'(first|exact zC|refine zq (I hat (I hp (I hw1 (I e0 (I @zan zca))))) ?_|refine zx (hnm) ?_|refine zx (hlr) ?_|refine zx (hcl) ?_|refine zx (hlc) ?_|refine zx (hh1) ?_|(apply zab<;>intro hb)|(apply I;exact zI)|(apply I<;>intro hg))
    ·rw[hq,hb,Bool.not_true,Bool.false_and,if_neg (by simp)]at hF
     rw[←hF]
    ·have hb1:=hb
     clear hb
     refine zaf (τ:=Nat) (fun k=>⟨(al l.length (zay l)::dq2 (ai i::ptq 4::ai k::ztq (zdO []))),[(4,⟨2,[obq 1 [.d (sD l[i].name),di l[i].holder,di l[i].token, .d (.sl l[i].line.length (za5 l[i].line))],none,none,none,none]⟩)]⟩)
      (fun k=>k≤i∧∀k' (hk:k'<k) (hkl:k'<l.length),l[k'].token≠l[i].token) (fun _=>()) (fun k=>i - k) 0
      (Gh.canon [4] [] [] zK rfl rfl) ⟨Nat.zero_le _,fun k' hk=>absurd hk (Nat.not_lt_zero _)⟩ ?_
     intro k ⟨k1,k2⟩ _ K2 hK2
     refine zw ?_
     refine zab (fun hlt2=> ?_) (fun hge2=> ?_)
     ·have hk:k<i:=by simpa using hlt2
      have hat2:=zbo (show k<l.length by omega)
      have hw2:IntKind.i64.wrap ((k:Int)+1)=((k+1:Nat):Int):=zai hk (by omega)
      repeat'(first|exact zC|refine zq (I hat2 (I @zan zca)) ?_|(apply zab<;>intro hb)|(apply I;exact zI)|(apply I<;>intro hg))
      ·rw[hq,hb1,zn3 hk (by omega) (by simpa using hb),Bool.not_true,Bool.and_false,if_neg (by simp)]at hF
       rw[←hF]
      ·refine hK2 _ (k+1) (Gh.canon [4] [] [] (zk hw2) rfl rfl) ⟨by omega,fun k' hk' hl'=> ?_⟩ rfl (by omega)
       rcases Nat.lt_or_ge k' k with h|h
       ·exact k2 k' h hl'
       ·have:k'=k:=by omega
        subst this
        simpa using hb
     ·have hki:k=i:=by
       have:¬(k:Int)<i:=by simpa using hge2
       omega
      rw[hki]at k2
      refine zL0 trivial ?_
      exact hK _ (i+1) (Gh.canon [] [] [] (zk hw) rfl rfl) hi (by rw[zau hi,hq,hb1,zqV k2];rfl) (by omega)
  ·have hi:i=l.length:=by
    have:¬(i:Int)<l.length:=by simpa using hge
    omega
   rw[zb6 hi]at hF
   rw[←hF]
   exact zW0 trivial
 ·have hs:lockB l=false:=by
   unfold lockB
   rw[show decide ((l.length:Int)≤4)=false by simp at h5⊢;omega,Bool.and_false]
  rw[hs]
  exact zW0 (I h5 @zan)
set_option maxHeartbeats 4000000 in
theorem zqT (l:List Memo) (hl:l.length<2^30) (hll:∀m∈l,zcl m.reply):CallOK prog 136 [.f (al l.length (zaM l))] (fun r o=>r=[rb (memoB l)]∧o=[]):=by
 refine zh func136 results136 ntmps136 call136 ?_
 simp only[f136,Option.getD]
 refine zL0 @zaw ?_
 refine zaf (τ:=Nat) (fun i=>⟨(al l.length (zaM l)::dq2 (ai i::dq2 (zdO []))),[]⟩)
  (fun i=>i≤l.length) (fun i=>zbb (zfW l) i (l.drop i)) (fun i=>l.length - i) 0
  (Gh.canon [] [] [] zK rfl rfl) (Nat.zero_le _) ?_
 intro i hi0 hF K hK
 simp only[List.drop_zero]at hF hK⊢
 have hF:zbb (zfW l) i (l.drop i)=memoB l:=hF
 refine zw ?_
 refine zab (fun hlt=> ?_) (fun hge=> ?_)
 ·have hi:i<l.length:=by simpa using hlt
  have hat:=zcf hi
  have hw:=zai hi (by omega)
  rw[zau hi]at hF
  have han:=zen l[i] (hll _ (List.getElem_mem hi))
  cases e0:decide ((i:Int)>0)
  ·have hq:zfW l i l[i]= !(!(answerB l[i])):=by
    unfold zfW
    have h0:decide (i>0)=false:=by simpa using e0
    rw[h0,Bool.false_and,Bool.or_false]
   have h0:i=0:=by simpa using e0
   have hp:(zaM l).drop ((IntKind.i64.wrap ((i:Int) - 1)).toNat*6)=l[i].enc++zaM (l.drop (i+1)):=by
    rw[←zcf hi,h0];rfl
   repeat'(first|exact zC|refine zq (I hat (I hp (I e0 (I @zaw zca)))) ?_|refine zx (han) ?_|(apply zab<;>intro hb)|(apply I;exact zI)|(apply I<;>intro hg))
   ·rw[hq,hb,if_neg (by simp)]at hF
    rw[←hF]
   ·exact hK _ (i+1) (Gh.canon [] [] [] (zk hw) rfl rfl) hi (by rw[zau hi,hq,hb];rfl) (by omega)
  ·have hq:zfW l i l[i]= !(!(answerB l[i])||decide (l[i].client≤(l[i - 1]'(by omega)).client)):=by
    unfold zfW zoh
    have h0:decide (i>0)=true:=by simpa using e0
    rw[h0,Bool.true_and,List.getElem?_eq_getElem (by omega)]
    rfl
   have h0:0<i:=by simpa using e0
   have hp:=zcf (show i - 1<l.length by omega)
   have hw1:IntKind.i64.wrap ((i:Int) - 1)=((i - 1:Nat):Int):=by rw[wrap64 (by omega) (by omega)];omega
   repeat'(first|exact zC|refine zq (I hat (I hp (I hw1 (I e0 (I @zaw zca))))) ?_|refine zx (han) ?_|(apply zab<;>intro hb)|(apply I;exact zI)|(apply I<;>intro hg))
   ·rw[hq,hb,if_neg (by simp)]at hF
    rw[←hF]
   ·exact hK _ (i+1) (Gh.canon [] [] [] (zk hw) rfl rfl) hi (by rw[zau hi,hq,hb];rfl) (by omega)
 ·have hi:i=l.length:=by
   have:¬(i:Int)<l.length:=by simpa using hge
   omega
  rw[zb6 hi]at hF
  rw[←hF]
  exact zW0 trivial
def zfJ (s:St) (k:Lk):Bool:=(zbL s.sess k.holder).isSome&&decide (k.token≤s.token)&&k.line.all fun c=>(zbL s.sess c).isSome
theorem zoZ (s:St):((s.locks.all fun k=>decide (k.token≤s.token))&&zeE s)=s.locks.all (zfJ s):=by
 unfold zeE
 generalize s.locks=l
 induction l with
 |nil=>rfl
 |cons k l ih=>
  simp only[List.all_cons]at ih⊢
  rw[←ih]
  unfold zfJ
  generalize (l.all fun k=>decide (k.token≤s.token))=a
  generalize (l.all fun k=>(zbL s.sess k.holder).isSome&&k.line.all fun c=>(zbL s.sess c).isSome)=b
  generalize (k.line.all fun c=>(zbL s.sess c).isSome)=c
  generalize (zbL s.sess k.holder).isSome=d
  generalize decide (k.token≤s.token)=e
  cases a<;>cases b<;>cases c<;>cases d<;>cases e<;>rfl
set_option maxHeartbeats 4000000 in
theorem zl7 (s:St) (h:Small s):CallOK prog 88 [.f (.agg s.lent)] (fun r o=>r=[rb (zbV s)]∧o=[]):=by
 refine zh func88 results88 ntmps88 call88 ?_
 simp only[f88,Option.getD]
 have w1:CallOK prog 133 [.f (ai s.time), .f (ai 0)] (fun r o=>r=[rb (within s.time)]∧o=[]):=zgP s.time 0
 have w2:CallOK prog 133 [.f (ai s.num), .f (ai 0)] (fun r o=>r=[rb (within s.num)]∧o=[]):=zgP s.num 0
 have w3:CallOK prog 133 [.f (ai s.token), .f (ai 0)] (fun r o=>r=[rb (within s.token)]∧o=[]):=zgP s.token 0
 have hsr:=zsV s.sess h.sess
 have hlr:=zqW s.locks h.locks h.line
 have hmr:=zqT s.memos h.memos h.held
 have hns:=h.sess
 have hnl:=h.locks
 cases hA:(!within s.time|| !within s.num|| !within s.token|| !sessB s.sess|| !lockB s.locks|| !memoB s.memos)
 ·have hrb:zbV s=((s.sess.all fun x=>decide (x.num≤s.num))&&s.locks.all (zfJ s)):=by
   rw[←zoZ]
   unfold zbV
   simp at hA
   rw[hA.1.1.1.1.1,hA.1.1.1.1.2,hA.1.1.1.2,hA.1.1.2,hA.1.2,hA.2]
   simp only[Bool.true_and,Bool.and_assoc]
  refine zL hA (I (w1) (I (w2) (I (w3) (I (hsr) (I (hlr) (hmr)))))) ?_
  refine zaf (τ:=Nat) (fun i=>⟨(dd::ptq 1::dd::ai i::zuo (zdO (zdO []))),[(1,⟨2,[obq 1 [di s.time,di s.num,di s.token, .lent s.sess.length (zaV s.sess), .lent s.locks.length (zay s.locks), .lent s.memos.length (zaM s.memos)],none,none,none,none,none,none]⟩)]⟩)
   (fun i=>i≤s.sess.length) (fun i=>(s.sess.drop i).all fun x=>decide (x.num≤s.num)) (fun i=>s.sess.length - i) 0
   (Gh.canon [1] [] [] zK rfl rfl) (Nat.zero_le _) ?_
  intro i hi0 hF K hK
  rw[List.drop_zero]at hF
  refine zw ?_
  refine zab (fun hlt=> ?_) (fun hge=> ?_)
  ·have hi:i<s.sess.length:=by simpa using hlt
   have hat:=zbH hi
   have hw:=zai hi (by omega)
   rw[List.drop_eq_getElem_cons hi,List.all_cons]at hF
   repeat'(first|exact zC|refine zq (I hat (I @zat zca)) ?_|(apply zab<;>intro hb)|(apply I;exact zI)|(apply I<;>intro hg))
   ·have e:decide (s.sess[i].num≤s.num)=false:=by simp at hb⊢;omega
    rw[e,Bool.false_and]at hF
    rw[hrb,←hF]
    rfl
   ·have e:decide (s.sess[i].num≤s.num)=true:=by simp at hb⊢;omega
    exact hK _ (i+1) (Gh.canon [1] [] [] (zk hw) rfl rfl) hi (by rw[List.drop_eq_getElem_cons hi,List.all_cons,e,Bool.true_and]) (by omega)
  ·have hi:i=s.sess.length:=by
    have:¬(i:Int)<s.sess.length:=by simpa using hge
    omega
   rw[hi,List.drop_length,List.all_nil]at hF
   rw[←hF,Bool.true_and]at hrb
   rw[hrb]
   refine zL0 trivial ?_
   refine zaf (τ:=Nat) (fun i=>⟨(dd::ptq 1::dq2 (ai i::zvG (zdO (zdO [])))),[(1,⟨2,[obq 1 [di s.time,di s.num,di s.token, .lent s.sess.length (zaV s.sess), .lent s.locks.length (zay s.locks), .lent s.memos.length (zaM s.memos)],none,none,none,none,none,none]⟩),(5,⟨2,[]⟩),(6,⟨2,[]⟩),(9,⟨2,[]⟩)]⟩)
    (fun i=>i≤s.locks.length) (fun i=>(s.locks.drop i).all (zfJ s)) (fun i=>s.locks.length - i) 0
    (Gh.canon [1] [5,6,9] [] zK rfl rfl) (Nat.zero_le _) ?_
   clear hF hK
   intro i hi0 hF K hK
   rw[List.drop_zero]at hF
   refine zw ?_
   refine zab (fun hlt2=> ?_) (fun hge2=> ?_)
   ·have hi:i<s.locks.length:=by simpa using hlt2
    have hat:=zbo hi
    have hw:=zai hi (by omega)
    have hlo:=(h.line _ (List.getElem_mem hi)).1
    rw[List.drop_eq_getElem_cons hi,List.all_cons]at hF
    have hfi:=znZ s.sess (by omega) s.locks[i].holder
    cases ha:(zbL s.sess s.locks[i].holder).isSome
    ·have e:zfJ s s.locks[i]=false:=by unfold zfJ;rw[ha];rfl
     rw[e,Bool.false_and]at hF
     rw[ha]at hfi
     refine zL (I hat (I @zan zca)) (hfi) ?_
     rw[←hF]
    ·rw[ha]at hfi
     cases hb0:decide (s.locks[i].token>s.token)
     ·have e:zfJ s s.locks[i]=s.locks[i].line.all fun c=>(zbL s.sess c).isSome:=by
       unfold zfJ
       rw[ha,show decide (s.locks[i].token≤s.token)=true by simp at hb0⊢;omega];rfl
      rw[e]at hF
      refine zL (I hat (I hb0 (I @zan zca))) (hfi) ?_
      refine zaf (τ:=Nat) (fun j=>⟨(dd::ptq 1::dq2 (ai i::ptq 5::dq2 (ai j::zpa (zdO (zdO []))))),[(1,⟨2,[obq 1 [di s.time,di s.num,di s.token, .lent s.sess.length (zaV s.sess), .lent s.locks.length (zay s.locks), .lent s.memos.length (zaM s.memos)],none,none,none,none,none,none]⟩),(5,⟨2,[obq 1 [.d (sD s.locks[i].name),di s.locks[i].holder,di s.locks[i].token, .d (.sl s.locks[i].line.length (za5 s.locks[i].line))],none,none,none,none]⟩),(6,⟨2,[]⟩),(9,⟨2,[]⟩)]⟩)
       (fun j=>j≤s.locks[i].line.length) (fun j=>(s.locks[i].line.drop j).all fun c=>(zbL s.sess c).isSome) (fun j=>s.locks[i].line.length - j) 0
       (Gh.canon [1,5] [] [] zK rfl rfl) (Nat.zero_le _) ?_
      intro j hj0 hF2 K2 hK2
      rw[List.drop_zero]at hF2
      refine zw ?_
      refine zab (fun hlt3=> ?_) (fun hge3=> ?_)
      ·have hj:j<s.locks[i].line.length:=by simpa using hlt3
       have haj:=zce hj
       have hwj:=zai hj (by omega)
       have hfj:=znZ s.sess (by omega) s.locks[i].line[j]
       rw[List.drop_eq_getElem_cons hj,List.all_cons]at hF2
       cases hb:(zbL s.sess s.locks[i].line[j]).isSome
       ·rw[hb]at hfj hF2
        rw[←hF2]at hF
        refine zL (I haj (I @zaW zca)) (hfj) ?_
        rw[←hF]
        rfl
       ·rw[hb]at hfj hF2
        refine zL (I haj (I @zaW zca)) (hfj) ?_
        exact hK2 _ (j+1) (Gh.canon [1,5] [] [] (zk hwj) rfl rfl) hj (by rw[List.drop_eq_getElem_cons hj,List.all_cons,hb,Bool.true_and]) (by omega)
      ·have hj:j=s.locks[i].line.length:=by
        have:¬(j:Int)<s.locks[i].line.length:=by simpa using hge3
        omega
       rw[hj,List.drop_length,List.all_nil]at hF2
       refine zL0 trivial ?_
       exact hK _ (i+1) (Gh.canon [1] [] [] (zk hw) rfl rfl) hi (by rw[List.drop_eq_getElem_cons hi,List.all_cons,e,←hF2,Bool.true_and]) (by omega)
     ·have e:zfJ s s.locks[i]=false:=by
       unfold zfJ
       rw[ha,show decide (s.locks[i].token≤s.token)=false by simp at hb0⊢;omega];rfl
      rw[e,Bool.false_and]at hF
      refine zL (I hat (I hb0 (I @zan zca))) (hfi) ?_
      rw[←hF]
   ·have hi:i=s.locks.length:=by
     have:¬(i:Int)<s.locks.length:=by simpa using hge2
     omega
    rw[hi,List.drop_length,List.all_nil]at hF
    rw[←hF]
    exact zW0 trivial
 ·have hrb:zbV s=false:=by
   unfold zbV
   simp only[Bool.or_eq_true,Bool.not_eq_true']at hA
   rcases hA with((((h|h)|h)|h)|h)|h<;>rw[h]<;>simp
  rw[hrb]
  exact zW hA (I (w1) (I (w2) (I (w3) (I (hsr) (I (hlr) (hmr))))))
def zAH (s:St):Bool:=zbV s&&decide (s.num≤2305843009213692952)&&decide (s.token≤2305843009213692952)
def zvg (k:Lk):Bool:=decide ((k.name.size:Int)>300)||decide ((k.line.length:Int)>20)
def zvh (m:Memo):Bool:=decide ((m.reply.held.length:Int)>20)
def zhk (s:St):Bool:=if(decide ((s.sess.length:Int)>20)||decide ((s.locks.length:Int)>20)||decide ((s.memos.length:Int)>20))=true then true else if s.locks.any zvg=true then true else s.memos.any zvh
set_option maxHeartbeats 4000000 in
theorem zsS (s:St):CallOK prog 19 [.f (.agg s.lent)] (fun r o=>r=[rb (zhk s)]∧o=[]):=by
 refine zh func19 results19 ntmps19 call19 ?_
 simp only[f19,Option.getD]
 cases hA:(decide ((s.sess.length:Int)>20)||decide ((s.locks.length:Int)>20)||decide ((s.memos.length:Int)>20))
 ·have hg:zhk s=if s.locks.any zvg=true then true else s.memos.any zvh:=by unfold zhk;rw[if_neg (by rw[hA];simp)]
  rw[hg]
  have hA':=hA
  simp only[Bool.or_eq_false_iff,decide_eq_false_iff_not]at hA'
  refine zL0 hA ?_
  refine zaf (τ:=Nat) (fun i=>⟨(dd::ptq 1::dd::ai i::zrw (zdO [])),[(1,⟨2,[obq 1 [di s.time,di s.num,di s.token, .lent s.sess.length (zaV s.sess), .lent s.locks.length (zay s.locks), .lent s.memos.length (zaM s.memos)],none,none,none,none,none,none]⟩)]⟩)
   (fun i=>i≤s.locks.length) (fun i=>if(s.locks.drop i).any zvg=true then true else s.memos.any zvh) (fun i=>s.locks.length - i) 0
   (Gh.canon [1] [] [] zK rfl rfl) (Nat.zero_le _) ?_
  intro i hi0 hF K hK
  rw[List.drop_zero]at hF
  refine zw ?_
  refine zab (fun hlt=> ?_) (fun hge=> ?_)
  ·have hi:i<s.locks.length:=by simpa using hlt
   have hat:=zbo hi
   have hw:=zai hi (by omega)
   rw[List.drop_eq_getElem_cons hi,List.any_cons]at hF
   repeat'(first|exact zC|refine zq (I hat (I @zan zca)) ?_|(apply zab<;>intro hb)|(apply I;exact zI)|(apply I<;>intro hg))
   ·rw[show zvg s.locks[i]=true from hb,Bool.true_or,if_pos rfl]at hF
    rw[←hF]
   ·exact hK _ (i+1) (Gh.canon [1] [] [] (zk hw) rfl rfl) hi (by rw[List.drop_eq_getElem_cons hi,List.any_cons,show zvg s.locks[i]=false from hb,Bool.false_or]) (by omega)
  ·have hi:i=s.locks.length:=by
    have:¬(i:Int)<s.locks.length:=by simpa using hge
    omega
   rw[hi,List.drop_length,List.any_nil,if_neg (by simp)]at hF
   rw[←hF]
   refine zL0 trivial ?_
   clear hF hK
   refine zaf (τ:=Nat) (fun i=>⟨(dd::ptq 1::dq2 (ai i::zto (zdO []))),[(1,⟨2,[obq 1 [di s.time,di s.num,di s.token, .lent s.sess.length (zaV s.sess), .lent s.locks.length (zay s.locks), .lent s.memos.length (zaM s.memos)],none,none,none,none,none,none]⟩)]⟩)
    (fun i=>i≤s.memos.length) (fun i=>(s.memos.drop i).any zvh) (fun i=>s.memos.length - i) 0
    (Gh.canon [1] [] [] zK rfl rfl) (Nat.zero_le _) ?_
   intro i hi0 hF K hK
   rw[List.drop_zero]at hF
   refine zw ?_
   refine zab (fun hlt2=> ?_) (fun hge2=> ?_)
   ·have hi:i<s.memos.length:=by simpa using hlt2
    have hat:=zcf hi
    have hw:=zai hi (by omega)
    rw[List.drop_eq_getElem_cons hi,List.any_cons]at hF
    repeat'(first|exact zC|refine zq (I hat (I @zaw zca)) ?_|(apply zab<;>intro hb)|(apply I;exact zI)|(apply I<;>intro hg))
    ·rw[show zvh s.memos[i]=true from hb,Bool.true_or]at hF
     rw[←hF]
    ·exact hK _ (i+1) (Gh.canon [1] [] [] (zk hw) rfl rfl) hi (by rw[List.drop_eq_getElem_cons hi,List.any_cons,show zvh s.memos[i]=false from hb,Bool.false_or]) (by omega)
   ·have hi:i=s.memos.length:=by
     have:¬(i:Int)<s.memos.length:=by simpa using hge2
     omega
    rw[hi,List.drop_length,List.any_nil]at hF
    rw[←hF]
    exact zW0 trivial
 ·have hg:zhk s=true:=by unfold zhk;rw[if_pos hA]
  rw[hg]
  exact zW0 hA
theorem zg0 (n:Int):(decide (n≥0)&&decide (n≤2305843009213693952))=within n:=by
 rw[zc6]
 by_cases h1:n<0<;>by_cases h2:n>2305843009213693952<;>simp[h1,h2]<;>omega
theorem zoY (v l:Int):CallOK prog 86 [.f (.agg [di v,di l])] (fun r o=>r=[rb (within v&&within l)]∧o=[]):=by
 refine zh func86 results86 ntmps86 call86 ?_
 simp only[f86,Option.getD]
 rw[←zg0 v,←zg0 l]
 cases h1:decide (v≥0)<;>cases h2:decide (v≤2305843009213693952)<;>cases h3:decide (l≥0)<;>cases h4:decide (l≤2305843009213693952)
 all_goals
  exact zW0 (I h1 (I h2 (I h3 h4)))
theorem ziD (s:Sn) (h:Small s.st):CallOK prog 47 [.f (.agg s.lent)] (fun r o=>r=[rb (zaZ s)]∧o=[]):=by
 refine zh func47 results47 ntmps47 call47 ?_
 simp only[f47,Option.getD]
 have hm:=zoY s.view s.slot
 have hr:=zl7 s.st h
 rw[show zaZ s=(decide (s.done≥0)&&decide (s.done≤2305843009213693952)&&(within s.view&&within s.slot)&&zbV s.st) from by
  unfold zaZ;rw[zg0,Bool.and_assoc,Bool.and_assoc]]
 cases h1:decide (s.done≥0)
 ·exact zW0 h1
 cases h2:decide (s.done≤2305843009213693952)
 ·exact zW0 (I h1 h2)
 cases h3:(within s.view&&within s.slot)
 ·rw[h3]at hm
  exact zW (I h1 h2) (hm)
 ·rw[h3]at hm
  exact zW (I h1 h2) (I (hm) (hr))
def shV (v:Int) (j:Nat):Int:=v.fdiv (2^(8*(8 - j)))
abbrev zwS (v:Int) (j:Nat):List D:=(List.range 8).map fun m=>uD (if j≤m then zhj v m else 0)
theorem zsR (v:Int) (k:Nat) (hk:k<8):(zwS v (k+1)).set k (uD (zhj v k))=zwS v k:=by
 apply List.ext_getElem
 ·simp
 ·intro m h1 h2
  simp only[List.length_set,List.length_map,List.length_range]at h1
  rw[List.getElem_set]
  simp only[List.getElem_map,List.getElem_range]
  split
  ·rename_i e;subst e;rw[if_pos (Nat.le_refl _)]
  ·rename_i e
   by_cases h:k+1≤m
   ·rw[if_pos h,if_pos (by omega)]
   ·rw[if_neg h,if_neg (by omega)]
theorem zaF (v:Int) (h:0≤v∧v<4611686018427387904):CallOK prog 30 [.f (ai v)] (fun r o=>r=[.one (.own 1 8 (zaa (zaK v)) false)]∧o=[]):=by
 refine zdx zco mixed (T:=Ty) (n:=18) func30 (c:=f30.body.getD .skip) rfl results30 ntmps30 call30 ?_
 simp only[f30,Option.getD]
 have hv8:shV v 8=v:=by unfold shV;simp
 repeat'(first|(with_reducible first|refine zae _ _ ?_|refine zaX ?_|refine zaY ?_)|rw[zaP]|simp only[zY,Int.reduceEq,Int.reduceBEq,Int.reduceBNe,Nat.reduceSub,Nat.reduceEqDiff,Nat.reduceAdd,Nat.reduceMul,Nat.reduceLeDiff,Nat.reduceLT,Nat.reduceBEq,reduceCtorEq]|refine zaG ?_|refine zab (fun hb=> ?_) (fun hb=> ?_)|(refine And.intro ?_ ?_;exact zI)|refine And.intro (fun hg=> ?_) (fun hg=> ?_)|exact zC|fail)
 refine zaf (τ:=Nat) (fun j=>⟨[ai (shV v j),dd,dd, .one (.own ⟨3,1,1⟩ 0 8),ai ((j:Int) - 1),dd,dd,dd,dd,dd,dd,dd,dd,dd,dd,dd,dd,dd],[(5,⟨2,[]⟩),(3,{next:=2,l:=[none,some {e:=1,var:=false,fz:=false,sz:=1,cells:=(zwS v j).map C.d}]})]⟩)
  (fun j=>j≤8) (fun _=>()) (fun j=>j) 8
  (Gh.canon [3] [] [] (by simp only[hv8,ddE,zbX,zdu,zbY,zcw,zcx,zcy,List.set_cons_zero,List.set_cons_succ,and_true,true_and,Int.natCast_zero,Int.cast_ofNat_Int,D.v.injEq,Value.int.injEq];try(repeat'(first|rfl|omega|with_reducible apply And.intro))) rfl rfl) (Nat.le_refl _) ?_
 intro j hj0 hF K hK
 repeat(first|with_reducible refine zae _ _ ?_|with_reducible refine And.imp_right (zae _ _) ?_|with_reducible refine And.imp_right (And.imp_right (zae _ _)) ?_|with_reducible refine And.imp_right (And.imp_right (And.imp_right (zae _ _))) ?_|rw[zaP]|simp only[zB,Nat.reduceSub,Nat.reduceEqDiff,Nat.reduceAdd,Nat.reduceMul,Nat.reduceLeDiff,Nat.reduceLT,Nat.reduceBEq,reduceCtorEq])
 refine zab (fun hlt=> ?_) (fun hge=> ?_)
 ·obtain⟨k,rfl⟩:∃k,j=k+1:=⟨j - 1,by simp at hlt;omega⟩
  have hk:((((k+1:Nat):Int)) - 1)=(k:Int):=by omega
  have hge0:decide ((k:Int)≥0)=true:=by simp
  have w1:IntKind.i64.wrap ((k:Int) - 1)=(k:Int) - 1:=wrap64 (by omega) (by omega)
  have hb0:0≤shV v (k+1)∧shV v (k+1)≤v:=by
   unfold shV
   rw[Int.fdiv_eq_ediv_of_nonneg _ (Int.pow_nonneg (by decide))]
   exact⟨Int.ediv_nonneg h.1 (Int.pow_nonneg (by decide)),Int.ediv_le_self _ h.1⟩
  have w2:IntKind.u8.wrap (shV v (k+1))=zhj v k:=by unfold zhj shV;rw[show 8 - (k+1)=7 - k from by omega]
  have w3:(shV v (k+1)).fdiv (2^8)=shV v k:=by
   have p0:∀n:Nat,(0:Int)≤2^n:=fun n=>Int.pow_nonneg (by decide)
   unfold shV
   rw[Int.fdiv_eq_ediv_of_nonneg v (p0 (8*(8 - (k+1)))),Int.fdiv_eq_ediv_of_nonneg _ (p0 8),Int.fdiv_eq_ediv_of_nonneg v (p0 (8*(8 - k))),Int.ediv_ediv_of_nonneg (p0 _),←Int.pow_add,show 8*(8 - (k+1))+8=8*(8 - k) from by omega]
  have w4:IntKind.i64.wrap (shV v k)=shV v k:=by
   have:0≤shV v k∧shV v k≤v:=by
    unfold shV
    rw[Int.fdiv_eq_ediv_of_nonneg _ (Int.pow_nonneg (by decide))]
    exact⟨Int.ediv_nonneg h.1 (Int.pow_nonneg (by decide)),Int.ediv_le_self _ h.1⟩
   exact wrap64 (by omega) (by omega)
  have hset:((zwS v (k+1)).map C.d).set k (C.d (uD (zhj v k)))=(zwS v k).map C.d:=by
   rw[←zsR v k (by omega),List.map_set]
  have hle:(k+1≤8)=True:=eq_true hj0
  have h8:(if(8:Int)<0 then none else some (Value.int .i64 ((shV v (k+1)).fdiv (2^min (Int.toNat 8) IntKind.i64.bits))))=some (Value.int .i64 (shV v k)):=by
   rw[if_neg (by decide),show min (Int.toNat 8) IntKind.i64.bits=8 from rfl,w3]
  repeat'(first|(with_reducible first|refine zae _ _ ?_|refine zaX ?_|refine zaY ?_)|rw[zaP]|simp only[hk,w1,w2,h8,hset,List.length_range,hle,Int.toNat_natCast,zY,Int.reduceEq,Int.reduceBEq,Int.reduceBNe,Nat.reduceSub,Nat.reduceEqDiff,Nat.reduceAdd,Nat.reduceMul,Nat.reduceLeDiff,Nat.reduceLT,Nat.reduceBEq,reduceCtorEq]|refine zaG ?_|refine zab (fun hb=> ?_) (fun hb=> ?_)|(refine And.intro ?_ ?_;exact zI)|refine And.intro (fun hg=> ?_) (fun hg=> ?_)|exact zC|fail)
  exact hK _ k (Gh.canon [3] [] [] zK rfl rfl) (by omega) rfl (by omega)
 ·have hj:j=0:=by simp at hge;omega
  subst hj
  repeat'(first|(with_reducible first|refine zae _ _ ?_|refine zaX ?_|refine zaY ?_)|rw[zaP]|simp only[zY,Int.reduceEq,Int.reduceBEq,Int.reduceBNe,Nat.reduceSub,Nat.reduceEqDiff,Nat.reduceAdd,Nat.reduceMul,Nat.reduceLeDiff,Nat.reduceLT,Nat.reduceBEq,reduceCtorEq]|refine zaG ?_|refine zab (fun hb=> ?_) (fun hb=> ?_)|(refine And.intro ?_ ?_;exact zI)|refine And.intro (fun hg=> ?_) (fun hg=> ?_)|exact zC|fail)
  rfl
theorem zm4 {r:Reply} (h:zb2 r=true):zcl r:=by
 obtain⟨f1,f2,f3,f4,f5⟩:=zcF h
 exact⟨by omega,fun g hg=>by have:=(zcO h g hg).1;omega⟩
theorem zAF {a b:D}:toDs (sub 0 2 1 [C.d a,C.d b])=some [a,b]:=rfl
theorem zAG {a:D} {n:Int}:toDs (sub 0 9 1 (C.d a::List.map C.d (zaa (zaK n))))=some (a::zaa (zaK n)):=rfl
set_option maxHeartbeats 1000000 in
theorem zl6 (r:Reply) (h:zb2 r=true):CallOK prog 71 [.f (.agg r.lent)] (fun x o=>x=[.one (.own 1 (zcb r).length (zaa (zcb r)) false),ri 0]∧o=[]):=by
 obtain⟨f1,f2,f3,f4,f5⟩:=zcF h
 have hgr:=zcO h
 refine zdx zco mixed (T:=Ty) (n:=62) func71 (c:=f71.body.getD .skip) rfl results71 ntmps71 call71 ?_
 simp only[f71,Option.getD]
 have hmy:=zhc r (zm4 h)
 rw[h]at hmy
 have hpn:=zaF r.session (by omega)
 have w1:IntKind.u8.wrap r.code=r.code:=zbf (by omega) (by omega)
 have w2:IntKind.u8.wrap r.ahead=r.ahead:=zbf (by omega) (by omega)
 have w3:IntKind.u8.wrap (r.held.length:Int)=r.held.length:=zbf (by omega) (by omega)
 have t1:(zaa (zaK r.session)).take 8=zaa (zaK r.session):=List.take_of_length_le (by rw[zcj];decide)
 repeat'(first|(with_reducible first|refine zae _ _ ?_|refine zaX ?_|refine zaY ?_)|rw[zaP]|simp only[zAF,zAG,t1,w1,w2,w3,List.length_map,zaz,zY,Int.reduceEq,Int.reduceBEq,Int.reduceBNe,Nat.reduceSub,Nat.reduceEqDiff,Nat.reduceAdd,Nat.reduceMul,Nat.reduceLeDiff,Nat.reduceLT,Nat.reduceBEq,reduceCtorEq]|((first|((try refine zaB ?_);apply zaC)|(apply zaE;intro _));(solve|exact(hmy)|exact(hpn)|(refine CallOK.le (hmy) ?_;exact zM)|(refine CallOK.le (hpn) ?_;exact zM)|fail);try case hn=>rfl)|refine zaG ?_|refine zab (fun hb=> ?_) (fun hb=> ?_)|(refine And.intro ?_ ?_;exact zI)|refine And.intro (fun hg=> ?_) (fun hg=> ?_)|exact zC|fail)
 refine zaf (τ:=Nat) (fun i=>⟨[dd, .one (.ptr ⟨1,0,1⟩ 0),dd,dd, .one (.own ⟨4,1,1⟩ 0 (zeg r i).length),ai i,dd,dd,dd,dd,dd,dd,dd,dd,dd,dd,dd,dd,dd,dd,dd,dd,dd,dd,dd,dd,dd,dd,dd,dd,dd,dd,dd,dd,dd,dd,dd,dd,dd,dd,dd,dd,dd,dd,dd,dd,dd,dd,dd,dd,dd,dd,dd,dd,dd,dd,dd,dd,dd,dd,dd,dd],[(1,{next:=2,l:=[some {e:=1,var:=true,fz:=false,sz:=0,cells:=[di r.code,di r.session,di r.ahead, .lent r.held.length (zaO r.held)]},none,none,none,none]}),(12,⟨2,[]⟩),(15,⟨2,[]⟩),(4,{next:=2,l:=[none,some {e:=1,var:=false,fz:=false,sz:=1,cells:=(zaa (zeg r i)).map C.d}]}),(25,⟨2,[]⟩),(43,⟨2,[]⟩),(44,⟨2,[]⟩),(51,⟨2,[]⟩),(59,⟨2,[]⟩),(60,⟨2,[]⟩)]⟩)
  (fun i=>i≤r.held.length) (fun _=>()) (fun i=>r.held.length - i) 0
  (Gh.canon [1,4] [43,44,51,59,60] [] (by simp only[zgs,ze6,ddE,zbX,zdu,zbY,zcw,zcx,zcy,List.set_cons_zero,List.set_cons_succ,and_true,true_and,Int.natCast_zero,Int.cast_ofNat_Int,D.v.injEq,Value.int.injEq];try(repeat'(first|rfl|omega|with_reducible apply And.intro))) rfl (by rw[zgs];rfl)) (Nat.zero_le _) ?_
 intro i hi0 hF K hK
 repeat(first|with_reducible refine zae _ _ ?_|with_reducible refine And.imp_right (zae _ _) ?_|with_reducible refine And.imp_right (And.imp_right (zae _ _)) ?_|with_reducible refine And.imp_right (And.imp_right (And.imp_right (zae _ _))) ?_|rw[zaP]|simp only[zB,Nat.reduceSub,Nat.reduceEqDiff,Nat.reduceAdd,Nat.reduceMul,Nat.reduceLeDiff,Nat.reduceLT,Nat.reduceBEq,reduceCtorEq])
 refine zab (fun hlt=> ?_) (fun hge=> ?_)
 ·have hi:i<r.held.length:=by simpa using hlt
  have hat:=zb3 hi
  have hw:=zai hi (by omega)
  have hg:=hgr _ (List.getElem_mem hi)
  have hpm:=zaF r.held[i].token hg.2
  have hlb:(zeg r i).length≤11+4*21:=by
   rw[zeg,List.length_append,ze6]
   have:=zet (l:=r.held.take i) (k:=12) fun g hx=>(hgr g (List.mem_of_mem_take hx)).1
   have:(r.held.take i).length≤4:=by rw[List.length_take];omega
   omega
  have w4:IntKind.u8.wrap (r.held[i].name.size:Int)=r.held[i].name.size:=zbf (by omega) (by omega)
  have k3:(zaa (zeg r i)).take (zeg r i).length=zaa (zeg r i):=List.take_of_length_le (by rw[List.length_map];exact Nat.le_refl _)
  have k2:(zaa (zaK r.held[i].token)).take 8=zaa (zaK r.held[i].token):=List.take_of_length_le (by rw[zcj];decide)
  have hle:((zeg r i).length+1≤2^47)=True:=eq_true (by omega)
  have hle2:((zeg r i).length+1+r.held[i].name.size≤2^47)=True:=eq_true (by omega)
  have hle3:((zeg r i).length+1+r.held[i].name.size+8≤2^47)=True:=eq_true (by omega)
  have hsl:(zeg r (i+1)).length=(zeg r i).length+1+r.held[i].name.size+8:=by rw[zgr hi,List.length_append,List.length_append,zcp,zaz];omega
  have k4:(zaa (zeg r i)++[D.v (Value.int .u8 (r.held[i].name.size:Int))]).take ((zeg r i).length+1)=zaa (zeg r i)++[D.v (Value.int .u8 (r.held[i].name.size:Int))]:=List.take_of_length_le (by rw[List.length_append,List.length_map];exact Nat.le_refl _)
  have k5:(zaa (zeg r i)++[D.v (Value.int .u8 (r.held[i].name.size:Int))]++zi3 r.held[i].name).take ((zeg r i).length+1+r.held[i].name.size)=zaa (zeg r i)++[D.v (Value.int .u8 (r.held[i].name.size:Int))]++zi3 r.held[i].name:=List.take_of_length_le (by rw[List.length_append,List.length_append,List.length_map,List.length_map,zdn];exact Nat.le_refl _)
  repeat'(first|(with_reducible first|refine zae _ _ ?_|refine zaX ?_|refine zaY ?_)|rw[zaP]|simp only[hat,w4,k4,k5,List.cons_append,List.nil_append,zam,hle,hle2,hle3,k2,k3,zdn,List.length_map,zaz,zY,Int.reduceEq,Int.reduceBEq,Int.reduceBNe,Nat.reduceSub,Nat.reduceEqDiff,Nat.reduceAdd,Nat.reduceMul,Nat.reduceLeDiff,Nat.reduceLT,Nat.reduceBEq,reduceCtorEq]|((first|((try refine zaB ?_);apply zaC)|(apply zaE;intro _));(solve|exact(hpm)|(refine CallOK.le (hpm) ?_;exact zM)|fail);try case hn=>rfl)|refine zaG ?_|refine zab (fun hb=> ?_) (fun hb=> ?_)|(refine And.intro ?_ ?_;exact zI)|refine And.intro (fun hg=> ?_) (fun hg=> ?_)|exact zC|fail)
  exact hK _ (i+1) (Gh.canon [1,4] [] [] (by simp only[hw,hsl,ddE,zbX,zdu,zbY,zcw,zcx,zcy,List.set_cons_zero,List.set_cons_succ,and_true,true_and,Int.natCast_zero,Int.cast_ofNat_Int,D.v.injEq,Value.int.injEq];try(repeat'(first|rfl|omega|with_reducible apply And.intro))) rfl (by rw[zgr hi];simp only[roq,zaa,List.map_append,zes,List.map_cons,List.map_map,List.append_assoc,List.cons_append,List.nil_append];rfl)) hi rfl (by omega)
 ·have hi:i=r.held.length:=by
   have:¬(i:Int)<r.held.length:=by simpa using hge
   omega
  subst hi
  repeat'(first|(with_reducible first|refine zae _ _ ?_|refine zaX ?_|refine zaY ?_)|rw[zaP]|simp only[zY,Int.reduceEq,Int.reduceBEq,Int.reduceBNe,Nat.reduceSub,Nat.reduceEqDiff,Nat.reduceAdd,Nat.reduceMul,Nat.reduceLeDiff,Nat.reduceLT,Nat.reduceBEq,reduceCtorEq]|refine zaG ?_|refine zab (fun hb=> ?_) (fun hb=> ?_)|(refine And.intro ?_ ?_;exact zI)|refine And.intro (fun hg=> ?_) (fun hg=> ?_)|exact zC|fail)
  rw[zn0]
theorem zgx (m:Memo) (h:answerB m=true):CallOK prog 29 [.f (.agg m.lent)] (fun x o=>x=[.one (.own 1 (za9 m).length (zaa (za9 m)) false),ri 0]∧o=[]):=by
 refine zdx zco mixed (T:=Ty) (n:=25) func29 (c:=f29.body.getD .skip) rfl results29 ntmps29 call29 ?_
 simp only[f29,Option.getD]
 obtain⟨f1,f2,f3⟩:=zcP h
 have hmy:=zen m (ziw h)
 rw[h]at hmy
 have hpr:=zl6 m.reply f3
 have hpn:=zaF m.seq (by omega)
 have hrl:=zgV f3
 have w1:IntKind.u8.wrap m.client=m.client:=zbf (by omega) (by omega)
 have t2:(zaa (zcb m.reply)).take (zcb m.reply).length=zaa (zcb m.reply):=List.take_of_length_le (by rw[List.length_map];exact Nat.le_refl _)
 have hle:(9+(zcb m.reply).length≤2^47)=True:=eq_true (by omega)
 have t1:(zaa (zaK m.seq)).take 8=zaa (zaK m.seq):=List.take_of_length_le (by rw[zcj];decide)
 repeat'(first|(with_reducible first|refine zae _ _ ?_|refine zaX ?_|refine zaY ?_)|rw[zaP]|simp only[zAF,zAG,w1,t1,t2,hle,List.length_map,zaz,zY,Int.reduceEq,Int.reduceBEq,Int.reduceBNe,Nat.reduceSub,Nat.reduceEqDiff,Nat.reduceAdd,Nat.reduceMul,Nat.reduceLeDiff,Nat.reduceLT,Nat.reduceBEq,reduceCtorEq]|((first|((try refine zaB ?_);apply zaC)|(apply zaE;intro _));(solve|exact(hmy)|exact(hpr)|exact(hpn)|(refine CallOK.le (hmy) ?_;exact zM)|(refine CallOK.le (hpr) ?_;exact zM)|(refine CallOK.le (hpn) ?_;exact zM)|fail);try case hn=>rfl)|refine zaG ?_|refine zab (fun hb=> ?_) (fun hb=> ?_)|(refine And.intro ?_ ?_;exact zI)|refine And.intro (fun hg=> ?_) (fun hg=> ?_)|exact zC|fail)
 rw[show(za9 m).length=9+(zcb m.reply).length from by simp[za9,zaz];omega]
 simp[za9,zaa]
end Go.Proofs.YtliimajkpggbhaaGreat
